-- by xprint.py, a program of this session, over the kit's print
import Derived.Test.YtfbfalhdgmjdpaaGreatDoorXITux0
import Derived.Test.YtfbfalhdgmjdpaaGreatDoorXITux1
import Derived.Test.YtfbfalhdgmjdpaaGreatDoorXITux8
import Derived.Test.YtfbfalhdgmjdpaaGreatDoorSq
namespace Go.Proofs.YtfbfalhdgmjdpaaGreatDoor.XInverseTurns
open Go.RowKit Go.Proofs.YtfbfalhdgmjdpaaGreatDoor.Sq Go.Proofs.YtfbfalhdgmjdpaaGreatDoorW.PrintWords Go.Proofs.YtfbfalhdgmjdpaaGreatDoorW.PrintLast Go.Proofs.YtfbfalhdgmjdpaaGreatDoorW.PrintMore
attribute [local go_sem] max2_int min2_int max_two min_two max_three min_three max_four min_four   -- for this text's walks alone
set_option linter.unusedVariables false
set_option linter.unusedSimpArgs false

/-! ### dom_Dom_Has: function 24 -/
def dom_Dom_Has.f (c : Int) (d : List Int) (e : Int) (g : Int) (l : Int) (a : Int) : Option (Bool) := (dom_in.f a).bind fun m => (if m = true then ((dom_place.f a).bind fun n => ((dom_Dom_word.f c d e g l n).bind fun o => ((dom_place.f a).bind fun b => (if 0 ≤ (wrap64 (a - b)) then (some ((Go.bits .and .u64 (shr .u64 o (wrap64 (a - b))) 1) == 1)) else (none))))) else (some false))
def dom_Dom_Has.T1 : Bool × List (List Nat × List Nat) := (true, [([], []), ([0], [0]), ([1, 1], [1]), ([2], [2]), ([2], [2]), ([4, 2, 2], [2, 4]), ([3, 5, 5, 2], [2, 3, 5]), ([2], [2]), ([2], [2]), ([8, 6, 2], [2, 8]), ([7, 9, 2], [2, 7, 9]), ([6, 10, 2], [2, 6, 10]), ([11, 2], [2, 11]), ([12, 2], [2, 12]), ([2, 13], [2, 13]), ([14, 9, 0, 1, 2, 3, 4, 5, 6, 7, 8, 9, 10, 11, 12, 13, 14], [14])])
def dom_Dom_Has.B1 : List Nat := [0, 1, 3, 7, 7, 23, 63, 7, 7, 383, 1023, 2047, 4095, 8191, 16383, 32767]
theorem dom_Dom_Has.tab1 : rtab .any (opsOf Tryz.f24 1) = dom_Dom_Has.T1 := by kernel_rfl
theorem dom_Dom_Has.bits1 : waitsOk dom_Dom_Has.T1.2 dom_Dom_Has.B1 = true := by kernel_rfl
set_option maxHeartbeats 8000000 in
set_option maxRecDepth 100000 in
theorem dom_Dom_Has.calls (l : Int) (s : Option Addr) (c0_1 : Nat) (d : List Int) (m : Int) (o : Int) (p : Int) (u : Int) (r : Bool) (w : World) (B : Kd.C (Kd.int .u64) w s d.length d) (E : d.length ≤ c0_1) (h : dom_Dom_Has.f l d m o p u = some r) :
  Calls Tryz.prog 24 #[.agg #[.int .i64 l, .slice s d.length c0_1, .int .i64 m, .int .i64 o, .int .i64 p], .int .i64 u] w fun e w' => e = .returned (.bool r) ∧ Below w.heap.size w w' := by
 have hu58 := Tryz.underlying58
 have F := a_ B
 have G := a_ E
 clear B E
 have HB := a_ (Below.refl w.heap.size w)
 unfold dom_Dom_Has.f at h
 have H := h
 clear h
 replace H := bo_ H
 obtain ⟨M, I, H⟩ := H
 try dsimp only at H
 by_cases c4 : M = true
 rotate_left
 ·
  replace c4 := bf_.mpr c4
  subst c4
  have H1 : (some false) = some r := by rw [ig_ (show ¬ (false = true) by decide)] at H; exact H
  clear H
  have H := H1
  clear H1
  obtain rfl := si_ H
  go_enter Tryz.func24, Tryz.ntmps24
  try go_wp2_with (first | ((with_reducible refine gate_dst (N := 2) rfl ?_); refine bxe_ (N := 2) (cs := #[.int .i64 l, .slice s d.length c0_1, .int .i64 m, .int .i64 o, .int .i64 p]) (t := 58) ?_; intro c hg w14 hbox hb; have x := a_ (by rw [hg]; exact (bz_ bel_) : w.heap.size ≤ c); have J := x; replace HB := hq_ hb; clear hb hbox hg))
  replace HB := a_ (below_drew1 HB.out)
  refine start_ (n := 16) (S := fun w' => True) (ds := []) #[false, false, false, false, false, false, false, false, false, false, false, false, false, false, false, false] kr_ rfl rfl trivial (fun hHeld => ?_); refine with_tabW dom_Dom_Has.tab1 dom_Dom_Has.bits1 (fun HT_ HW_ => ?_)
  generalize w14.drew = w15 at HB hHeld ⊢
  refine pn_ 0 5 ao_ ?_
  refine onn_ 1 6 #[true, true, false, false, false, false, false, false, false, false, false, false, false, false, false, false] rfl rfl on_ (by decide) (fun K hK => ?_)
  refine goes_ Tryz.func51 kr_ rfl #[.int .i64 u] (by rfl) rfl rfl ar_ ?_
  with_reducible refine (dom_in.calls u false _ I.out).mono ?_
  rintro e w' ⟨rfl, ⟨nd, rfl⟩⟩
  refine ⟨_, rfl, ?_⟩
  refine hK.out _ _ trivial (fun hHeld => ?_)
  clear hK K
  refine nor_ (N := some 6) ?_
  refine pn_ 2 7 ao_ ?_
  refine und_ (i := 3) (N := some 8) ao_ ?_
  refine und_ (i := 4) (N := some 9) ao_ ?_
  refine und_ (i := 5) (N := some 10) ao_ ?_
  refine und_ (i := 6) (N := some 11) ao_ ?_
  refine und_ (i := 7) (N := some 12) ao_ ?_
  refine und_ (i := 8) (N := some 13) ao_ ?_
  refine und_ (i := 9) (N := some 14) ao_ ?_
  refine und_ (i := 10) (N := some 15) ao_ ?_
  refine und_ (i := 11) (N := some 16) ao_ ?_
  refine und_ (i := 12) (N := some 17) ao_ ?_
  refine und_ (i := 13) (N := some 18) ao_ ?_
  refine pn_ 14 19 ao_ ?_
  refine pn_ 15 4 ao_ ?_
  refine done_ dn_ ?_
  try go_wp2
  go_ret
  exact ⟨er_, bel_⟩
 subst c4
 rw [ip_ rfl] at H
 replace H := bo_ H
 obtain ⟨y, O, H⟩ := H
 try dsimp only at H
 replace H := bo_ H
 obtain ⟨v, P, H⟩ := H
 try dsimp only at H
 replace H := bo_ H
 obtain ⟨z, Q, H⟩ := H
 try dsimp only at H
 obtain ⟨q, g⟩ : ∃ j_ : Int, (wrap64 (u - z)) = j_ := ⟨_, rfl⟩
 replace H : (if 0 ≤ (q) then (some ((Go.bits .and .u64 (shr .u64 v (q)) 1) == 1)) else (none)) = some r := by first | (rw [g] at H; exact H) | (simp only [g] at H ⊢; exact H)
 (try rw [g] at I)
 (try rw [g] at O)
 (try rw [g] at P)
 (try rw [g] at Q)
 have hji8w : (IntKind.i64.wrap (u - z)) = q := (i64_w _).trans g
 by_cases c9 : 0 ≤ (q)
 rotate_left
 ·
  rw [ig_ c9] at H
  exact ab_ H
 rw [ip_ c9] at H
 have c9b0 := et_ c9
 have c9b1 : decide (0 ≤ (q)) = true := dt_ c9
 clear c9
 obtain ⟨A, b⟩ : ∃ j_ : Int, (shr .u64 v (q)) = j_ := ⟨_, rfl⟩
 replace H : (some ((Go.bits .and .u64 (A) 1) == 1)) = some r := by first | (rw [b] at H; exact H) | (simp only [b] at H ⊢; exact H)
 (try rw [b] at I)
 (try rw [b] at O)
 (try rw [b] at P)
 (try rw [b] at Q)
 have U : (v / 2 ^ min (q).toNat 64) = A := b
 have hji10z : (q) ≤ 64 → (v / 2 ^ (q).toNat) = A := shr_small b
 obtain rfl := si_ H
 go_enter Tryz.func24, Tryz.ntmps24
 try go_wp2_with (first | ((with_reducible refine gate_dst (N := 2) rfl ?_); refine bxe_ (N := 2) (cs := #[.int .i64 l, .slice s d.length c0_1, .int .i64 m, .int .i64 o, .int .i64 p]) (t := 58) ?_; intro c hg w11 hbox hb; have a := a_ (hbox); have x := a_ (by rw [hg]; exact (bz_ bel_) : w.heap.size ≤ c); have J := x; replace HB := hq_ hb; clear hb hbox hg))
 replace a := a_ (blk_drew a.out)
 replace HB := a_ (below_drew1 HB.out)
 refine start_ (n := 16) (S := fun w' => w'.cell? ⟨c, 0, none⟩ = some (.int .i64 l) ∧ w'.cell? ⟨c, 1, none⟩ = some (.slice s d.length c0_1) ∧ w'.cell? ⟨c, 2, none⟩ = some (.int .i64 m) ∧ w'.cell? ⟨c, 3, none⟩ = some (.int .i64 o) ∧ w'.cell? ⟨c, 4, none⟩ = some (.int .i64 p)) (ds := []) #[false, false, false, false, false, false, false, false, false, false, false, false, false, false, false, false] kr_ rfl rfl (ca5_ a.out) (fun hHeld => ?_); refine with_tabW dom_Dom_Has.tab1 dom_Dom_Has.bits1 (fun HT_ HW_ => ?_)
 generalize w11.drew = w12 at a HB hHeld ⊢
 refine pn_ 0 5 ao_ ?_
 refine onn_ 1 6 #[true, true, false, false, false, false, false, false, false, false, false, false, false, false, false, false] rfl rfl on_ (by decide) (fun K hK => ?_)
 refine goes_ Tryz.func51 kr_ rfl #[.int .i64 u] (by rfl) rfl rfl ar_ ?_
 with_reducible refine (dom_in.calls u true _ I.out).mono ?_
 rintro e w' ⟨rfl, ⟨nd, rfl⟩⟩
 refine ⟨_, rfl, ?_⟩
 refine hK.out _ _ (ca5_ a.out) (fun hHeld => ?_)
 clear hK K
 refine nor_ (N := some 6) ?_
 refine pn_ 2 7 ao_ ?_
 refine pn_ 4 9 ao_ ?_
 refine pn_ 7 12 ao_ ?_
 refine pn_ 8 13 ao_ ?_
 refine tn_ 3 8 tw_ hHeld ?_
 refine onn_ 5 10 #[true, true, true, true, true, true, false, true, true, false, false, false, false, false, false, false] rfl rfl on_ (by decide) (fun K hK => ?_)
 refine goes_ Tryz.func53 kr_ rfl #[.int .i64 u] (by rfl) rfl rfl ar_ ?_
 with_reducible refine (dom_place.calls u y _ O.out).mono ?_
 rintro e w' ⟨rfl, ⟨nd, rfl⟩⟩
 refine ⟨_, rfl, ?_⟩
 refine hK.out _ _ (ca5_ a.out) (fun hHeld => ?_)
 clear hK K
 refine nor_ (N := some 10) ?_
 refine onn_ 6 11 #[true, true, true, true, true, true, true, true, true, false, false, false, false, false, false, false] rfl rfl on_ (by decide) (fun K hK => ?_)
 refine goes_ Tryz.func52 kr_ rfl #[.agg #[.int .i64 l, .slice s d.length c0_1, .int .i64 m, .int .i64 o, .int .i64 p], .int .i64 y] (by rfl) rfl rfl ar_ ?_
 with_reducible refine (dom_Dom_word.calls l _ _ d m o p y v _ ?_ ?_ P.out).mono ?_
 focus repeat (first | exact (cb_ F.out bel_) | (with_reducible refine Kd.C_alloc ?_ _) | (with_reducible refine Kd.C_drewN ?_ _) | (with_reducible refine Kd.C_drew ?_))
 exact G.out
 rintro e w13 ⟨rfl, hb⟩
 refine ⟨_, rfl, ?_⟩
 replace a := a_ (bq_ a.out hb)
 replace HB := hq_ hb
 clear hb
 refine hK.out _ _ (ca5_ a.out) (fun hHeld => ?_)
 clear hK K
 refine nor_ (N := some 11) ?_
 refine onn_ 9 14 #[true, true, true, true, true, true, true, true, true, true, false, false, false, false, false, false] rfl rfl on_ (by decide) (fun K hK => ?_)
 refine goes_ Tryz.func53 kr_ rfl #[.int .i64 u] (by rfl) rfl rfl ar_ ?_
 with_reducible refine (dom_place.calls u z _ Q.out).mono ?_
 rintro e w' ⟨rfl, ⟨nd, rfl⟩⟩
 refine ⟨_, rfl, ?_⟩
 refine hK.out _ _ (ca5_ a.out) (fun hHeld => ?_)
 clear hK K
 refine nor_ (N := some 14) ?_
 refine pn_ 10 15 ao_ ?_
 refine pn_ 11 16 ao_ ?_
 refine pn_ 12 17 ao_ ?_
 refine pn_ 13 18 ao_ ?_
 refine pn_ 14 19 ao_ ?_
 refine pn_ 15 4 ao_ ?_
 refine done_ dn_ ?_
 try go_wp2
 go_ret
 exact ⟨by first | rfl | (simp [errW_none, errW_some] <;> rfl) | (simp only [← g, ← b]; first | rfl | (simp [errW_none, errW_some] <;> rfl)) | (simp [*, errW_none, errW_some] <;> rfl), bel_⟩

/-! ### dom_Of_1: function 61 -/
def dom_Of_1.f (b : Int) : Option (Bool) := (dom_in.f b).bind fun a => (some (!a))
set_option maxHeartbeats 8000000 in
set_option maxRecDepth 100000 in
theorem dom_Of_1.calls (a : Int) (r : Bool) (w : World) (h : dom_Of_1.f a = some r) :
  Calls Tryz.prog 61 #[.int .i64 a] w fun e w' => e = .returned (.bool r) ∧ Drawn0 w w' := by
 unfold dom_Of_1.f at h
 have H := h
 clear h
 replace H := bo_ H
 obtain ⟨b, c, H⟩ := H
 try dsimp only at H
 obtain rfl := si_ H
 go_enter Tryz.func61, Tryz.ntmps61
 go_wp2_with (first | ((with_reducible refine gate_callee (f := 51) rfl ?_); refine goesL_ (some 4) rfl rfl Tryz.func51 kr_ rfl #[.int .i64 a] rfl ar_ ?_; (with_reducible refine (dom_in.calls a b _ c.out).mono ?_); rintro e w' ⟨rfl, ⟨nd, rfl⟩⟩; refine ⟨_, rfl, ?_⟩))
 go_ret
 exact ⟨by first | rfl | (simp; done) | (simp [*]; done), by repeat (first | exact d0_ _ | apply Drawn0.step)⟩

/-! ### slices_Max_int: function 62 -/
def slices_Max_int.f (a : List Int) : Option Int := if a = [] then none else some (a.foldl mx (rd a 0))
theorem slices_Max_int.calls (c : Option Addr) (c0 : Nat) (a : List Int) (r : Int) (w : World) (b : Kd.C (Kd.int .i64) w c a.length a) (g : a.length ≤ c0) (h : slices_Max_int.f a = some r) :
  Calls Tryz.prog 62 #[.slice c a.length c0] w fun e w' => e = .returned (.int .i64 r) ∧ Drawn0 w w' := by
 unfold slices_Max_int.f at h
 by_cases hn : a = []
 · rw [if_pos hn] at h; cases h
 rw [if_neg hn] at h
 have hn0 : 0 < a.length := by cases a with | nil => exact absurd rfl hn | cons => simp
 have hbig : a.length ≤ 9223372036854775807 := b.2.1
 have HE := Aside0.mk (Option.some.inj h)
 have HR := Aside0.mk b
 have l : decide (a.length < 1) = false := decide_eq_false (by omega)
 have n : decide ((a.length : Int) < 1) = false := decide_eq_false (by omega)
 obtain ⟨ad, rfl, hcell0⟩ := Kd.at_int HR.out 0 (by omega) (by omega)
 clear h b hn
 have d : w.cell? (ad.add 0) = some (.int .i64 (rd a 0)) := hcell0
 have o : w.cell? ad = some (.int .i64 (rd a 0)) := (show ad.add 0 = ad by cases ad; simp [Addr.add]) ▸ d
 clear hcell0
 go_enter Tryz.func62, Tryz.ntmps62
 go_wp2
 go_loopg [3, 4] a.length (fun gg s4 s5 wr => ∃ kk : Nat, kk ≤ a.length ∧ 1 ≤ kk ∧ a.length - kk ≤ gg ∧ s5 = .int .i64 kk ∧ s4 = .int .i64 ((a.take kk).foldl mx (rd a 0)) ∧ Aside0 (Drawn0 w wr))
 case atStart => exact ⟨1, by omega, by omega, by omega, rfl, by rw [show (1 : Nat) = 0 + 1 from rfl, fold_step hn0]; show Value.int .i64 (rd a 0) = .int .i64 (mx (rd a 0) (rd a 0)); rw [mx_self], ⟨Drawn0.refl _⟩⟩
 obtain ⟨kk, hkk, h1, hg, rfl, rfl, BW⟩ := hrel
 obtain ⟨⟨m, rfl⟩⟩ := BW
 by_cases hlt : kk < a.length
 rotate_left
 ·
  have : kk = a.length := by omega
  subst this
  have HS := Aside0.mk (show (a.take a.length).foldl mx (rd a 0) = r by rw [List.take_length]; exact HE.out)
  generalize (a.take a.length).foldl mx (rd a 0) = y at *
  go_wp2
  go_ret
  exact ⟨by rw [HS.out]; rfl, ⟨_, rfl⟩⟩
 have hltz : (kk : Int) < (a.length : Int) := by omega
 obtain ⟨ad', had, hcell⟩ := Kd.at_int HR.out (kk : Int) (by omega) hltz
 obtain rfl := Option.some.inj had
 rw [Int.toNat_natCast] at hcell
 have hcell' : (w.drewN m).cell? (ad.add kk) = some (.int .i64 (rd a kk)) := by rw [World.cell?_drewN]; exact hcell
 have HS := Aside0.mk (fold_step (op := mx) (z := rd a 0) hlt)
 clear hcell had
 generalize (a.take kk).foldl mx (rd a 0) = y at *
 go_wp2
 all_goals
  go_roundg (a.length - (kk + 1))
  case measure => omega
  case rel =>
   exact ⟨kk + 1, by omega, by omega, by omega, by go_num, by rw [HS.out]; unfold mx; first | rw [if_pos (by omega)] | rw [if_neg (by omega)], ⟨⟨_, rfl⟩⟩⟩

/-! ### slices_Min_int: function 63 -/
def slices_Min_int.f (a : List Int) : Option Int := if a = [] then none else some (a.foldl mn (rd a 0))
theorem slices_Min_int.calls (c : Option Addr) (c0 : Nat) (a : List Int) (r : Int) (w : World) (b : Kd.C (Kd.int .i64) w c a.length a) (g : a.length ≤ c0) (h : slices_Min_int.f a = some r) :
  Calls Tryz.prog 63 #[.slice c a.length c0] w fun e w' => e = .returned (.int .i64 r) ∧ Drawn0 w w' := by
 unfold slices_Min_int.f at h
 by_cases hn : a = []
 · rw [if_pos hn] at h; cases h
 rw [if_neg hn] at h
 have hn0 : 0 < a.length := by cases a with | nil => exact absurd rfl hn | cons => simp
 have hbig : a.length ≤ 9223372036854775807 := b.2.1
 have HE := Aside0.mk (Option.some.inj h)
 have HR := Aside0.mk b
 have l : decide (a.length < 1) = false := decide_eq_false (by omega)
 have n : decide ((a.length : Int) < 1) = false := decide_eq_false (by omega)
 obtain ⟨ad, rfl, hcell0⟩ := Kd.at_int HR.out 0 (by omega) (by omega)
 clear h b hn
 have d : w.cell? (ad.add 0) = some (.int .i64 (rd a 0)) := hcell0
 have o : w.cell? ad = some (.int .i64 (rd a 0)) := (show ad.add 0 = ad by cases ad; simp [Addr.add]) ▸ d
 clear hcell0
 go_enter Tryz.func63, Tryz.ntmps63
 go_wp2
 go_loopg [3, 4] a.length (fun gg s4 s5 wr => ∃ kk : Nat, kk ≤ a.length ∧ 1 ≤ kk ∧ a.length - kk ≤ gg ∧ s5 = .int .i64 kk ∧ s4 = .int .i64 ((a.take kk).foldl mn (rd a 0)) ∧ Aside0 (Drawn0 w wr))
 case atStart => exact ⟨1, by omega, by omega, by omega, rfl, by rw [show (1 : Nat) = 0 + 1 from rfl, fold_step hn0]; show Value.int .i64 (rd a 0) = .int .i64 (mn (rd a 0) (rd a 0)); rw [mn_self], ⟨Drawn0.refl _⟩⟩
 obtain ⟨kk, hkk, h1, hg, rfl, rfl, BW⟩ := hrel
 obtain ⟨⟨m, rfl⟩⟩ := BW
 by_cases hlt : kk < a.length
 rotate_left
 ·
  have : kk = a.length := by omega
  subst this
  have HS := Aside0.mk (show (a.take a.length).foldl mn (rd a 0) = r by rw [List.take_length]; exact HE.out)
  generalize (a.take a.length).foldl mn (rd a 0) = y at *
  go_wp2
  go_ret
  exact ⟨by rw [HS.out]; rfl, ⟨_, rfl⟩⟩
 have hltz : (kk : Int) < (a.length : Int) := by omega
 obtain ⟨ad', had, hcell⟩ := Kd.at_int HR.out (kk : Int) (by omega) hltz
 obtain rfl := Option.some.inj had
 rw [Int.toNat_natCast] at hcell
 have hcell' : (w.drewN m).cell? (ad.add kk) = some (.int .i64 (rd a kk)) := by rw [World.cell?_drewN]; exact hcell
 have HS := Aside0.mk (fold_step (op := mn) (z := rd a 0) hlt)
 clear hcell had
 generalize (a.take kk).foldl mn (rd a 0) = y at *
 go_wp2
 all_goals
  go_roundg (a.length - (kk + 1))
  case measure => omega
  case rel =>
   exact ⟨kk + 1, by omega, by omega, by omega, by go_num, by rw [HS.out]; unfold mn; first | rw [if_pos (by omega)] | rw [if_neg (by omega)], ⟨⟨_, rfl⟩⟩⟩

/-! ### dom_room: function 64 -/
def dom_room.f (d : Int) (e : Int) : Option (Int × List Int × Int × Int × Int) := (dom_place.f d).bind fun c => ((dom_place.f e).bind fun a => ((dom_place.f d).bind fun b => (if 0 ≤ (wrap64 ((wrap64 (Int.tdiv (wrap64 (a - b)) 64)) + 1)) then (if (wrap64 ((wrap64 (Int.tdiv (wrap64 (a - b)) 64)) + 1) : Int).toNat ≤ 35184372088832 then (some (c, (List.replicate (wrap64 ((wrap64 (Int.tdiv (wrap64 (a - b)) 64)) + 1) : Int).toNat 0), 0, 0, 0)) else (none)) else (none))))
set_option maxHeartbeats 8000000 in
set_option maxRecDepth 100000 in
theorem dom_room.calls (v : Int) (x : Int) (y : Int) (z : List Int) (A : Int) (B : Int) (C : Int) (w : World) (h : dom_room.f v x = some (y, z, A, B, C)) :
  Calls Tryz.prog 64 #[.int .i64 v, .int .i64 x] w fun e w' => ∃ F : Value, e = .returned (.agg #[.int .i64 y, F, .int .i64 A, .int .i64 B, .int .i64 C]) ∧ Kd.R (Kd.int .u64) 83 w' w.heap.size (fun _ => True) F z ∧ Below w.heap.size w w' := by
 have hu58 := Tryz.underlying58
 have HB := a_ (Below.refl w.heap.size w)
 unfold dom_room.f at h
 have H := h
 clear h
 replace H := bo_ H
 obtain ⟨b, I, H⟩ := H
 try dsimp only at H
 replace H := bo_ H
 obtain ⟨q, J, H⟩ := H
 try dsimp only at H
 replace H := bo_ H
 obtain ⟨r, K, H⟩ := H
 try dsimp only at H
 obtain ⟨c, d⟩ : ∃ j_ : Int, (wrap64 ((wrap64 (Int.tdiv (wrap64 (q - r)) 64)) + 1)) = j_ := ⟨_, rfl⟩
 replace H : (if 0 ≤ (c) then (if (c : Int).toNat ≤ 35184372088832 then (some (b, (List.replicate (c : Int).toNat 0), 0, 0, 0)) else (none)) else (none)) = some (y, z, A, B, C) := by first | (rw [d] at H; exact H) | (simp only [d] at H ⊢; exact H)
 (try rw [d] at I)
 (try rw [d] at J)
 (try rw [d] at K)
 have hji6w : (IntKind.i64.wrap ((wrap64 (Int.tdiv (wrap64 (q - r)) 64)) + 1)) = c := (i64_w _).trans d
 by_cases c7 : 0 ≤ (c)
 rotate_left
 ·
  rw [ig_ c7] at H
  exact ab_ H
 rw [ip_ c7] at H
 have c7b0 := et_ c7
 have c7b1 : decide (0 ≤ (c)) = true := dt_ c7
 clear c7
 by_cases c8 : (c : Int).toNat ≤ 35184372088832
 rotate_left
 ·
  rw [ig_ c8] at H
  exact ab_ H
 rw [ip_ c8] at H
 have c8b0 := et_ c8
 have c8b1 : decide ((c : Int).toNat ≤ 35184372088832) = true := dt_ c8
 clear c8
 obtain ⟨m, g⟩ : ∃ y_ : List Int, y_ = (List.replicate (c : Int).toNat 0) := ⟨_, rfl⟩
 replace H : (some (b, m, 0, 0, 0)) = some (y, z, A, B, C) := h2_ H g
 have s := a_ g
 clear g
 simp only [Option.some.injEq, Prod.mk.injEq] at H
 obtain ⟨rfl, rfl, rfl, rfl, rfl⟩ := H
 go_enter Tryz.func64, Tryz.ntmps64
 go_wp2_with (first | ((with_reducible refine gate_dst (N := 4) rfl ?_); refine bxe_ (N := 4) (cs := #[.int .i64 0, .slice none 0 0, .int .i64 0, .int .i64 0, .int .i64 0]) (t := 58) ?_; intro l hg w9 hbox hb; have a := a_ (hbox); have E := a_ (by rw [hg]; exact (bz_ bel_) : w.heap.size ≤ l); have M := E; replace HB := hq_ hb; clear hb hbox hg) | ((with_reducible refine gate_callee (f := 53) rfl ?_); refine goesL_ (some 6) rfl rfl Tryz.func53 kr_ rfl #[.int .i64 v] rfl ar_ ?_; (with_reducible refine (dom_place.calls v b _ I.out).mono ?_); rintro e w' ⟨rfl, ⟨nd, rfl⟩⟩; refine ⟨_, rfl, ?_⟩; (try (rw [drewN_self w9]; generalize hq_ : World.drewN w9 _ = w9; replace a : Aside0 (w9.heap[l]? = some (.cells #[.int .i64 0, .slice none 0 0, .int .i64 0, .int .i64 0, .int .i64 0] 58 (0, 0))) := ⟨by rw [← hq_]; exact (bk_ a.out)⟩; replace HB : Aside0 (Below w.heap.size w w9) := ⟨by rw [← hq_]; exact bel_⟩; clear hq_)); (try (obtain ⟨_, _, _, _, _, _, _, _, _, _⟩ := cel5_ a.out))) | ((with_reducible refine gate_callee (f := 53) rfl ?_); refine goesL_ (some 8) rfl rfl Tryz.func53 kr_ rfl #[.int .i64 x] rfl ar_ ?_; (with_reducible refine (dom_place.calls x q _ J.out).mono ?_); rintro e w' ⟨rfl, ⟨nd, rfl⟩⟩; refine ⟨_, rfl, ?_⟩; (try (rw [drewN_self w9]; generalize hq_ : World.drewN w9 _ = w9; replace a : Aside0 (w9.heap[l]? = some (.cells #[.int .i64 0, .slice none 0 0, .int .i64 0, .int .i64 0, .int .i64 0] 58 (0, 0))) := ⟨by rw [← hq_]; exact (bk_ a.out)⟩; replace HB : Aside0 (Below w.heap.size w w9) := ⟨by rw [← hq_]; exact bel_⟩; clear hq_)); (try (obtain ⟨_, _, _, _, _, _, _, _, _, _⟩ := cel5_ a.out))) | ((with_reducible refine gate_callee (f := 53) rfl ?_); refine goesL_ (some 10) rfl rfl Tryz.func53 kr_ rfl #[.int .i64 v] rfl ar_ ?_; (with_reducible refine (dom_place.calls v r _ K.out).mono ?_); rintro e w' ⟨rfl, ⟨nd, rfl⟩⟩; refine ⟨_, rfl, ?_⟩; (try (rw [drewN_self w9]; generalize hq_ : World.drewN w9 _ = w9; replace a : Aside0 (w9.heap[l]? = some (.cells #[.int .i64 0, .slice none 0 0, .int .i64 0, .int .i64 0, .int .i64 0] 58 (0, 0))) := ⟨by rw [← hq_]; exact (bk_ a.out)⟩; replace HB : Aside0 (Below w.heap.size w w9) := ⟨by rw [← hq_]; exact bel_⟩; clear hq_)); (try (obtain ⟨_, _, _, _, _, _, _, _, _, _⟩ := cel5_ a.out))) | ((with_reducible refine gate_dst (N := 14) rfl ?_); refine Kd.R_make (Kd.int .u64) _ 83 rfl (N := 14) rfl 56 _ _ rfl c rfl rfl Tryz.underlying56 (.int .u64 0) 8 info83 rfl (by decide) (by omega) 0 (ok := fun _ => True) (okp := fun _ => True) rfl (fun _ hk => hk) trivial (dq_) (Nat.le_trans (Nat.mul_le_mul_right _ (dq_ : c.toNat ≤ 35184372088832)) (by omega)) (Below.refl _ _) (lr_ _) ?_; intro O w13 n hb hg_ hnew_; clear hg_ hnew_; (first | rw [← s.out] at n | (simp only [Int.reduceToNat] at n; rw [← s.out] at n)); have u := a_ (Kd.R_lower n (bz_ bel_)); replace a := a_ (bq_ a.out hb); replace HB := hq_ hb; clear hb n; obtain ⟨o, p, G⟩ := Kd.R_slice u.out; subst G; obtain ⟨_, _, _, _, _, _, _, _, _, _⟩ := cel5_ a.out))
 refine bodyPost_ret (results_cell_row rfl _ _ l 58 #[.int .i64 b, .slice o m.length p, .int .i64 0, .int .i64 0, .int .i64 0] (0, 0) _ rfl (by refine bk_ ?_; refine bu_ (cs := #[.int .i64 b, .slice o m.length p, .int .i64 0, .int .i64 0, .int .i64 0]) ?_ 4 _ rfl; refine bk_ ?_; refine bu_ (cs := #[.int .i64 b, .slice o m.length p, .int .i64 0, .int .i64 0, .int .i64 0]) ?_ 3 _ rfl; refine bk_ ?_; refine bu_ (cs := #[.int .i64 b, .slice o m.length p, .int .i64 0, .int .i64 0, .int .i64 0]) ?_ 2 _ rfl; refine bk_ ?_; refine bu_ (cs := #[.int .i64 b, .slice none 0 0, .int .i64 0, .int .i64 0, .int .i64 0]) ?_ 1 _ rfl; refine bk_ ?_; refine bu_ (cs := #[.int .i64 0, .slice none 0 0, .int .i64 0, .int .i64 0, .int .i64 0]) ?_ 0 _ rfl; refine bk_ ?_; exact a.out) Tryz.underlying58 rfl kr_) rfl ?_
 exact ⟨_, by first | rfl | (simp [errW_none, errW_some] <;> rfl) | (simp only [← d]; first | rfl | (simp [errW_none, errW_some] <;> rfl)) | (simp [*, errW_none, errW_some] <;> rfl), by refine vR_ ?_; exact rm_ (fR_ (fR_ (fR_ (fR_ (fR_ (rt_ u.out a.out (by decide))))))) (fun _ hk => trivial), bel_⟩

/-! ### bits_LeadingZeros64: function 85 -/
def bits_LeadingZeros64.f (a : Int) : Option Int := if 0 ≤ a ∧ a < 18446744073709551616 then some (64 - (Lib.bitLen a.toNat : Int)) else none
theorem bits_LeadingZeros64.calls (a : Int) (r : Int) (w : World) (h : bits_LeadingZeros64.f a = some r) :
  Calls Tryz.prog 85 #[.int .u64 a] w fun e w' => e = .returned (.int .i64 r) ∧ Below w.heap.size w w' := by
 unfold bits_LeadingZeros64.f at h
 by_cases hb : 0 ≤ a ∧ a < 18446744073709551616
 rotate_left
 · rw [if_neg hb] at h; cases h
 rw [if_pos hb] at h
 obtain rfl := Option.some.inj h
 exact (Tryz.bits_LeadingZeros64 a w hb.1 (by omega)).mono (fun e w' ⟨he, hw⟩ => ⟨he, by subst hw; exact Below.refl _ _⟩)

/-! ### bits_OnesCount64: function 86 -/
def bits_OnesCount64.f (a : Int) : Option (Int) := some (Go.bits .and .i64 (wrap64 (IntKind.u64.wrap ((IntKind.u64.wrap ((IntKind.u64.wrap ((Go.bits .and .u64 (IntKind.u64.wrap (((IntKind.u64.wrap ((Go.bits .and .u64 ((IntKind.u64.wrap ((Go.bits .and .u64 (a / 2) 6148914691236517205) + (Go.bits .and .u64 a 6148914691236517205))) / 4) 3689348814741910323) + (Go.bits .and .u64 (IntKind.u64.wrap ((Go.bits .and .u64 (a / 2) 6148914691236517205) + (Go.bits .and .u64 a 6148914691236517205))) 3689348814741910323))) / 16) + (IntKind.u64.wrap ((Go.bits .and .u64 ((IntKind.u64.wrap ((Go.bits .and .u64 (a / 2) 6148914691236517205) + (Go.bits .and .u64 a 6148914691236517205))) / 4) 3689348814741910323) + (Go.bits .and .u64 (IntKind.u64.wrap ((Go.bits .and .u64 (a / 2) 6148914691236517205) + (Go.bits .and .u64 a 6148914691236517205))) 3689348814741910323))))) 1085102592571150095) + ((Go.bits .and .u64 (IntKind.u64.wrap (((IntKind.u64.wrap ((Go.bits .and .u64 ((IntKind.u64.wrap ((Go.bits .and .u64 (a / 2) 6148914691236517205) + (Go.bits .and .u64 a 6148914691236517205))) / 4) 3689348814741910323) + (Go.bits .and .u64 (IntKind.u64.wrap ((Go.bits .and .u64 (a / 2) 6148914691236517205) + (Go.bits .and .u64 a 6148914691236517205))) 3689348814741910323))) / 16) + (IntKind.u64.wrap ((Go.bits .and .u64 ((IntKind.u64.wrap ((Go.bits .and .u64 (a / 2) 6148914691236517205) + (Go.bits .and .u64 a 6148914691236517205))) / 4) 3689348814741910323) + (Go.bits .and .u64 (IntKind.u64.wrap ((Go.bits .and .u64 (a / 2) 6148914691236517205) + (Go.bits .and .u64 a 6148914691236517205))) 3689348814741910323))))) 1085102592571150095) / 256))) + ((IntKind.u64.wrap ((Go.bits .and .u64 (IntKind.u64.wrap (((IntKind.u64.wrap ((Go.bits .and .u64 ((IntKind.u64.wrap ((Go.bits .and .u64 (a / 2) 6148914691236517205) + (Go.bits .and .u64 a 6148914691236517205))) / 4) 3689348814741910323) + (Go.bits .and .u64 (IntKind.u64.wrap ((Go.bits .and .u64 (a / 2) 6148914691236517205) + (Go.bits .and .u64 a 6148914691236517205))) 3689348814741910323))) / 16) + (IntKind.u64.wrap ((Go.bits .and .u64 ((IntKind.u64.wrap ((Go.bits .and .u64 (a / 2) 6148914691236517205) + (Go.bits .and .u64 a 6148914691236517205))) / 4) 3689348814741910323) + (Go.bits .and .u64 (IntKind.u64.wrap ((Go.bits .and .u64 (a / 2) 6148914691236517205) + (Go.bits .and .u64 a 6148914691236517205))) 3689348814741910323))))) 1085102592571150095) + ((Go.bits .and .u64 (IntKind.u64.wrap (((IntKind.u64.wrap ((Go.bits .and .u64 ((IntKind.u64.wrap ((Go.bits .and .u64 (a / 2) 6148914691236517205) + (Go.bits .and .u64 a 6148914691236517205))) / 4) 3689348814741910323) + (Go.bits .and .u64 (IntKind.u64.wrap ((Go.bits .and .u64 (a / 2) 6148914691236517205) + (Go.bits .and .u64 a 6148914691236517205))) 3689348814741910323))) / 16) + (IntKind.u64.wrap ((Go.bits .and .u64 ((IntKind.u64.wrap ((Go.bits .and .u64 (a / 2) 6148914691236517205) + (Go.bits .and .u64 a 6148914691236517205))) / 4) 3689348814741910323) + (Go.bits .and .u64 (IntKind.u64.wrap ((Go.bits .and .u64 (a / 2) 6148914691236517205) + (Go.bits .and .u64 a 6148914691236517205))) 3689348814741910323))))) 1085102592571150095) / 256))) / 65536))) + ((IntKind.u64.wrap ((IntKind.u64.wrap ((Go.bits .and .u64 (IntKind.u64.wrap (((IntKind.u64.wrap ((Go.bits .and .u64 ((IntKind.u64.wrap ((Go.bits .and .u64 (a / 2) 6148914691236517205) + (Go.bits .and .u64 a 6148914691236517205))) / 4) 3689348814741910323) + (Go.bits .and .u64 (IntKind.u64.wrap ((Go.bits .and .u64 (a / 2) 6148914691236517205) + (Go.bits .and .u64 a 6148914691236517205))) 3689348814741910323))) / 16) + (IntKind.u64.wrap ((Go.bits .and .u64 ((IntKind.u64.wrap ((Go.bits .and .u64 (a / 2) 6148914691236517205) + (Go.bits .and .u64 a 6148914691236517205))) / 4) 3689348814741910323) + (Go.bits .and .u64 (IntKind.u64.wrap ((Go.bits .and .u64 (a / 2) 6148914691236517205) + (Go.bits .and .u64 a 6148914691236517205))) 3689348814741910323))))) 1085102592571150095) + ((Go.bits .and .u64 (IntKind.u64.wrap (((IntKind.u64.wrap ((Go.bits .and .u64 ((IntKind.u64.wrap ((Go.bits .and .u64 (a / 2) 6148914691236517205) + (Go.bits .and .u64 a 6148914691236517205))) / 4) 3689348814741910323) + (Go.bits .and .u64 (IntKind.u64.wrap ((Go.bits .and .u64 (a / 2) 6148914691236517205) + (Go.bits .and .u64 a 6148914691236517205))) 3689348814741910323))) / 16) + (IntKind.u64.wrap ((Go.bits .and .u64 ((IntKind.u64.wrap ((Go.bits .and .u64 (a / 2) 6148914691236517205) + (Go.bits .and .u64 a 6148914691236517205))) / 4) 3689348814741910323) + (Go.bits .and .u64 (IntKind.u64.wrap ((Go.bits .and .u64 (a / 2) 6148914691236517205) + (Go.bits .and .u64 a 6148914691236517205))) 3689348814741910323))))) 1085102592571150095) / 256))) + ((IntKind.u64.wrap ((Go.bits .and .u64 (IntKind.u64.wrap (((IntKind.u64.wrap ((Go.bits .and .u64 ((IntKind.u64.wrap ((Go.bits .and .u64 (a / 2) 6148914691236517205) + (Go.bits .and .u64 a 6148914691236517205))) / 4) 3689348814741910323) + (Go.bits .and .u64 (IntKind.u64.wrap ((Go.bits .and .u64 (a / 2) 6148914691236517205) + (Go.bits .and .u64 a 6148914691236517205))) 3689348814741910323))) / 16) + (IntKind.u64.wrap ((Go.bits .and .u64 ((IntKind.u64.wrap ((Go.bits .and .u64 (a / 2) 6148914691236517205) + (Go.bits .and .u64 a 6148914691236517205))) / 4) 3689348814741910323) + (Go.bits .and .u64 (IntKind.u64.wrap ((Go.bits .and .u64 (a / 2) 6148914691236517205) + (Go.bits .and .u64 a 6148914691236517205))) 3689348814741910323))))) 1085102592571150095) + ((Go.bits .and .u64 (IntKind.u64.wrap (((IntKind.u64.wrap ((Go.bits .and .u64 ((IntKind.u64.wrap ((Go.bits .and .u64 (a / 2) 6148914691236517205) + (Go.bits .and .u64 a 6148914691236517205))) / 4) 3689348814741910323) + (Go.bits .and .u64 (IntKind.u64.wrap ((Go.bits .and .u64 (a / 2) 6148914691236517205) + (Go.bits .and .u64 a 6148914691236517205))) 3689348814741910323))) / 16) + (IntKind.u64.wrap ((Go.bits .and .u64 ((IntKind.u64.wrap ((Go.bits .and .u64 (a / 2) 6148914691236517205) + (Go.bits .and .u64 a 6148914691236517205))) / 4) 3689348814741910323) + (Go.bits .and .u64 (IntKind.u64.wrap ((Go.bits .and .u64 (a / 2) 6148914691236517205) + (Go.bits .and .u64 a 6148914691236517205))) 3689348814741910323))))) 1085102592571150095) / 256))) / 65536))) / 4294967296)))) 127)
set_option maxHeartbeats 8000000 in
set_option maxRecDepth 100000 in
theorem bits_OnesCount64.calls (a : Int) (r : Int) (w : World) (h : bits_OnesCount64.f a = some r) :
  Calls Tryz.prog 86 #[.int .u64 a] w fun e w' => e = .returned (.int .i64 r) ∧ Drawn0 w w' := by
 unfold bits_OnesCount64.f at h
 have H := h
 clear h
 obtain rfl := si_ H
 go_enter Tryz.func86, Tryz.ntmps86
 go_wp2
 go_ret
 exact ⟨by first | rfl | (simp; done) | (simp [*]; done), by repeat (first | exact d0_ _ | apply Drawn0.step)⟩

end Go.Proofs.YtfbfalhdgmjdpaaGreatDoor.XInverseTurns
