-- by xprint.py, a program of this session, over the kit's print
import Derived.Test.YtbhhbgoamomacaaGreatDoorXMRex0
import Derived.Test.YtbhhbgoamomacaaGreatDoorXMRex1
import Derived.Test.YtbhhbgoamomacaaGreatDoorXMRex9
import Derived.Test.YtbhhbgoamomacaaGreatDoorSq
namespace Go.Proofs.YtbhhbgoamomacaaGreatDoor.XMulRefuses
open Go.RowKit Go.Proofs.YtbhhbgoamomacaaGreatDoor.Sq Go.Proofs.YtbhhbgoamomacaaGreatDoorW.PrintWords Go.Proofs.YtbhhbgoamomacaaGreatDoorW.PrintLast Go.Proofs.YtbhhbgoamomacaaGreatDoorW.PrintMore
attribute [local go_sem] max2_int min2_int max_two min_two max_three min_three max_four min_four   -- for this text's walks alone
set_option linter.unusedVariables false
set_option linter.unusedSimpArgs false

/-! ### prop_Fits: function 27 -/
def prop_Fits.f (k : Nat) (a : Int) (b : List Int) (c : List Int) (d : List Int) (e : List Int) (g : List Int) (l : Int) (m : List (List Int)) (p : List (S61)) (q : Int) (r : Int) : Option (Bool) := (dom_Dom_61_at_prop_Fits_1.f k p).bind fun n => (if a ≥ q then (if a ≤ r then ((model_Right.f k a b c d e g l m 256).bind fun o => (if o = 0 then (if (p.length : Int) = (wrap64 ((b.length : Int) + (c.length : Int))) then (some (!n)) else (some false)) else (some false))) else (some false)) else (some false))
theorem prop_Fits.mono : ∀ b c d e g l m n o p a k, LeO (prop_Fits.f k b c d e g l m n o p a) (prop_Fits.f (k + 1) b c d e g l m n o p a) := by
 intro b c d e g l m n o p a k
 unfold prop_Fits.f
 have m0 := @dom_Dom_61_at_prop_Fits_1.mono
 have m1 := @model_Right.mono
 exact leo_
set_option maxHeartbeats 8000000 in
set_option maxRecDepth 100000 in
theorem prop_Fits.calls (k : Nat) (d : Int) (v : Option Addr) (c0_1 : Nat) (b : List Int) (x : Option Addr) (c0_2 : Nat) (c : List Int) (y : Option Addr) (c0_3 : Nat) (g : List Int) (z : Option Addr) (c0_4 : Nat) (l : List Int) (A : Option Addr) (c0_5 : Nat) (m : List Int) (q : Int) (B : Option Addr) (c0_7 : Nat) (n : List (List Int)) (A1 : Option Addr) (c1 : Nat) (s : List (S61)) (a2 : Int) (a3 : Int) (r : Bool) (w : World) (ab : Kd.C (Kd.int .i64) w v b.length b) (ac : b.length ≤ c0_1) (ad : Kd.C (Kd.int .i64) w x c.length c) (ae : c.length ≤ c0_2) (af : Kd.C (Kd.int .i64) w y g.length g) (ag : g.length ≤ c0_3) (ah : Kd.C (Kd.int .i64) w z l.length l) (ai : l.length ≤ c0_4) (aj : Kd.C (Kd.int .i64) w A m.length m) (ak : m.length ≤ c0_5) (al : Kd.C (Kd.slice 3 (Kd.int .i64)) w B n.length n) (am : n.length ≤ c0_7) (aq : Kd.C k61 w A1 s.length s) (ar : s.length ≤ c1) (h : prop_Fits.f k d b c g l m q n s a2 a3 = some r) :
  Calls Tryz.prog 27 #[.agg #[.int .i64 d, .slice v b.length c0_1, .slice x c.length c0_2, .slice y g.length c0_3, .slice z l.length c0_4, .slice A m.length c0_5, .int .i64 q, .slice B n.length c0_7], .slice A1 s.length c1, .int .i64 a2, .int .i64 a3] w fun e w' => e = .returned (.bool r) ∧ Below w.heap.size w w' := by
 have hu32 := Tryz.underlying32
 have G := a_ ab
 have I := a_ ac
 clear ab ac
 have J := a_ ad
 have K := a_ ae
 clear ad ae
 have M := a_ af
 have O := a_ ag
 clear af ag
 have P := a_ ah
 have Q := a_ ai
 clear ah ai
 have U := a_ aj
 have V := a_ ak
 clear aj ak
 have W := a_ al
 have X := a_ am
 clear al am
 have Y := a_ aq
 have Z := a_ ar
 clear aq ar
 have HB := a_ (Below.refl w.heap.size w)
 unfold prop_Fits.f at h
 have H := h
 clear h
 replace H := bo_ H
 obtain ⟨F, A5, H⟩ := H
 try dsimp only at H
 by_cases c6 : d ≥ a2
 rotate_left
 ·
  rw [ig_ c6] at H
  have c6b0 : decide (a2 ≤ d) = false := df_ c6
  clear c6
  obtain rfl := si_ H
  go_enter Tryz.func27, Tryz.ntmps27
  go_wp2_with (first | ((with_reducible refine gate_dst (N := 4) rfl ?_); (try (refine gate_guard (by rfl) ?_; dsimp only)); refine bxe_ (N := 4) (cs := #[.int .i64 d, .slice v b.length c0_1, .slice x c.length c0_2, .slice y g.length c0_3, .slice z l.length c0_4, .slice A m.length c0_5, .int .i64 q, .slice B n.length c0_7]) (t := 32) ?_; intro o hg w28 hbox hb; have a := a_ (hbox); have p := a_ (by rw [hg]; exact (bz_ bel_) : w.heap.size ≤ o); have E := p; replace HB := hq_ hb; clear hb hbox hg) | ((with_reducible refine gate_callee (f := 61) rfl ?_); refine goesL_ (some 11) rfl rfl Tryz.func61 kr_ rfl #[.slice A1 s.length c1, .func (.func 62) #[] #[]] rfl ar_ ?_; (with_reducible refine (dom_Dom_61_at_prop_Fits_1.calls k _ _ s F _ ?_ ?_ A5.out).mono ?_); exact ca_ ((cb_ Y.out HB.out)); exact Z.out; rintro e w29 ⟨rfl, hb⟩; refine ⟨_, rfl, ?_⟩; replace a := a_ (bq_ a.out hb); replace HB := hq_ hb; clear hb; obtain ⟨_, _, _, _, _, _, _, _, _, _, _, _, _, _, _, _⟩ := cel8_ a.out))
  go_ret
  exact ⟨er_, bel_⟩
 rw [ip_ c6] at H
 have c6b0 : decide (a2 ≤ d) = true := dt_ c6
 clear c6
 by_cases c7 : d ≤ a3
 rotate_left
 ·
  rw [ig_ c7] at H
  have c7b0 : decide (d ≤ a3) = false := df_ c7
  clear c7
  obtain rfl := si_ H
  go_enter Tryz.func27, Tryz.ntmps27
  go_wp2_with (first | ((with_reducible refine gate_dst (N := 4) rfl ?_); (try (refine gate_guard (by rfl) ?_; dsimp only)); refine bxe_ (N := 4) (cs := #[.int .i64 d, .slice v b.length c0_1, .slice x c.length c0_2, .slice y g.length c0_3, .slice z l.length c0_4, .slice A m.length c0_5, .int .i64 q, .slice B n.length c0_7]) (t := 32) ?_; intro o hg w25 hbox hb; have a := a_ (hbox); have p := a_ (by rw [hg]; exact (bz_ bel_) : w.heap.size ≤ o); have E := p; replace HB := hq_ hb; clear hb hbox hg) | ((with_reducible refine gate_callee (f := 61) rfl ?_); refine goesL_ (some 11) rfl rfl Tryz.func61 kr_ rfl #[.slice A1 s.length c1, .func (.func 62) #[] #[]] rfl ar_ ?_; (with_reducible refine (dom_Dom_61_at_prop_Fits_1.calls k _ _ s F _ ?_ ?_ A5.out).mono ?_); exact ca_ ((cb_ Y.out HB.out)); exact Z.out; rintro e w26 ⟨rfl, hb⟩; refine ⟨_, rfl, ?_⟩; replace a := a_ (bq_ a.out hb); replace HB := hq_ hb; clear hb; obtain ⟨_, _, _, _, _, _, _, _, _, _, _, _, _, _, _, _⟩ := cel8_ a.out))
  go_ret
  exact ⟨er_, bel_⟩
 rw [ip_ c7] at H
 have c7b0 : decide (d ≤ a3) = true := dt_ c7
 clear c7
 replace H := bo_ H
 obtain ⟨u, A8, H⟩ := H
 try dsimp only at H
 by_cases c9 : u = 0
 rotate_left
 ·
  rw [ig_ c9] at H
  have c9b0 : (u == 0) = false := be_.mpr c9
  have c9b1 : (u != 0) = true := ni_.mpr c9
  obtain rfl := si_ H
  go_enter Tryz.func27, Tryz.ntmps27
  go_wp2_with (first | ((with_reducible refine gate_dst (N := 4) rfl ?_); (try (refine gate_guard (by rfl) ?_; dsimp only)); refine bxe_ (N := 4) (cs := #[.int .i64 d, .slice v b.length c0_1, .slice x c.length c0_2, .slice y g.length c0_3, .slice z l.length c0_4, .slice A m.length c0_5, .int .i64 q, .slice B n.length c0_7]) (t := 32) ?_; intro o hg w21 hbox hb; have a := a_ (hbox); have p := a_ (by rw [hg]; exact (bz_ bel_) : w.heap.size ≤ o); have E := p; replace HB := hq_ hb; clear hb hbox hg) | ((with_reducible refine gate_callee (f := 61) rfl ?_); refine goesL_ (some 11) rfl rfl Tryz.func61 kr_ rfl #[.slice A1 s.length c1, .func (.func 62) #[] #[]] rfl ar_ ?_; (with_reducible refine (dom_Dom_61_at_prop_Fits_1.calls k _ _ s F _ ?_ ?_ A5.out).mono ?_); exact ca_ ((cb_ Y.out HB.out)); exact Z.out; rintro e w22 ⟨rfl, hb⟩; refine ⟨_, rfl, ?_⟩; replace a := a_ (bq_ a.out hb); replace HB := hq_ hb; clear hb; obtain ⟨_, _, _, _, _, _, _, _, _, _, _, _, _, _, _, _⟩ := cel8_ a.out) | (go_at_call 63; (with_reducible refine (model_Right.calls k d _ _ b _ _ c _ _ g _ _ l _ _ m q _ _ n 256 u _ ?_ ?_ ?_ ?_ ?_ ?_ ?_ ?_ ?_ ?_ ?_ ?_ A8.out).mono ?_); exact ca_ ((cb_ G.out HB.out)); exact I.out; exact ca_ ((cb_ J.out HB.out)); exact K.out; exact ca_ ((cb_ M.out HB.out)); exact O.out; exact ca_ ((cb_ P.out HB.out)); exact Q.out; exact ca_ ((cb_ U.out HB.out)); exact V.out; exact ca_ ((cb_ W.out HB.out)); exact X.out; rintro e w24 ⟨rfl, hb⟩; replace HB := hq_ hb; clear hb))
  go_ret
  exact ⟨er_, bel_⟩
 rw [ip_ c9] at H
 have c9b0 : (u == 0) = true := beq_iff_eq.mpr c9
 have c9b1 : (u != 0) = false := bn_.mpr c9
 clear c9
 by_cases c10 : (s.length : Int) = (wrap64 ((b.length : Int) + (c.length : Int)))
 rotate_left
 ·
  rw [ig_ c10] at H
  have c10b0 : ((s.length : Int) == (wrap64 ((b.length : Int) + (c.length : Int)))) = false := be_.mpr c10
  have c10b1 : ((s.length : Int) != (wrap64 ((b.length : Int) + (c.length : Int)))) = true := ni_.mpr c10
  obtain rfl := si_ H
  go_enter Tryz.func27, Tryz.ntmps27
  go_wp2_with (first | ((with_reducible refine gate_dst (N := 4) rfl ?_); (try (refine gate_guard (by rfl) ?_; dsimp only)); refine bxe_ (N := 4) (cs := #[.int .i64 d, .slice v b.length c0_1, .slice x c.length c0_2, .slice y g.length c0_3, .slice z l.length c0_4, .slice A m.length c0_5, .int .i64 q, .slice B n.length c0_7]) (t := 32) ?_; intro o hg w16 hbox hb; have a := a_ (hbox); have p := a_ (by rw [hg]; exact (bz_ bel_) : w.heap.size ≤ o); have E := p; replace HB := hq_ hb; clear hb hbox hg) | ((with_reducible refine gate_callee (f := 61) rfl ?_); refine goesL_ (some 11) rfl rfl Tryz.func61 kr_ rfl #[.slice A1 s.length c1, .func (.func 62) #[] #[]] rfl ar_ ?_; (with_reducible refine (dom_Dom_61_at_prop_Fits_1.calls k _ _ s F _ ?_ ?_ A5.out).mono ?_); exact ca_ ((cb_ Y.out HB.out)); exact Z.out; rintro e w17 ⟨rfl, hb⟩; refine ⟨_, rfl, ?_⟩; replace a := a_ (bq_ a.out hb); replace HB := hq_ hb; clear hb; obtain ⟨_, _, _, _, _, _, _, _, _, _, _, _, _, _, _, _⟩ := cel8_ a.out) | (go_at_call 63; (with_reducible refine (model_Right.calls k d _ _ b _ _ c _ _ g _ _ l _ _ m q _ _ n 256 u _ ?_ ?_ ?_ ?_ ?_ ?_ ?_ ?_ ?_ ?_ ?_ ?_ A8.out).mono ?_); exact ca_ ((cb_ G.out HB.out)); exact I.out; exact ca_ ((cb_ J.out HB.out)); exact K.out; exact ca_ ((cb_ M.out HB.out)); exact O.out; exact ca_ ((cb_ P.out HB.out)); exact Q.out; exact ca_ ((cb_ U.out HB.out)); exact V.out; exact ca_ ((cb_ W.out HB.out)); exact X.out; rintro e w19 ⟨rfl, hb⟩; replace a := a_ (bq_ a.out hb); replace HB := hq_ hb; clear hb; obtain ⟨_, _, _, _, _, _, _, _, _, _, _, _, _, _, _, _⟩ := cel8_ a.out))
  go_ret
  exact ⟨er_, bel_⟩
 rw [ip_ c10] at H
 have c10b0 : ((s.length : Int) == (wrap64 ((b.length : Int) + (c.length : Int)))) = true := beq_iff_eq.mpr c10
 have c10b1 : ((s.length : Int) != (wrap64 ((b.length : Int) + (c.length : Int)))) = false := bn_.mpr c10
 clear c10
 obtain rfl := si_ H
 go_enter Tryz.func27, Tryz.ntmps27
 go_wp2_with (first | ((with_reducible refine gate_dst (N := 4) rfl ?_); (try (refine gate_guard (by rfl) ?_; dsimp only)); refine bxe_ (N := 4) (cs := #[.int .i64 d, .slice v b.length c0_1, .slice x c.length c0_2, .slice y g.length c0_3, .slice z l.length c0_4, .slice A m.length c0_5, .int .i64 q, .slice B n.length c0_7]) (t := 32) ?_; intro o hg w11 hbox hb; have a := a_ (hbox); have p := a_ (by rw [hg]; exact (bz_ bel_) : w.heap.size ≤ o); have E := p; replace HB := hq_ hb; clear hb hbox hg) | ((with_reducible refine gate_callee (f := 61) rfl ?_); refine goesL_ (some 11) rfl rfl Tryz.func61 kr_ rfl #[.slice A1 s.length c1, .func (.func 62) #[] #[]] rfl ar_ ?_; (with_reducible refine (dom_Dom_61_at_prop_Fits_1.calls k _ _ s F _ ?_ ?_ A5.out).mono ?_); exact ca_ ((cb_ Y.out HB.out)); exact Z.out; rintro e w12 ⟨rfl, hb⟩; refine ⟨_, rfl, ?_⟩; replace a := a_ (bq_ a.out hb); replace HB := hq_ hb; clear hb; obtain ⟨_, _, _, _, _, _, _, _, _, _, _, _, _, _, _, _⟩ := cel8_ a.out) | (go_at_call 63; (with_reducible refine (model_Right.calls k d _ _ b _ _ c _ _ g _ _ l _ _ m q _ _ n 256 u _ ?_ ?_ ?_ ?_ ?_ ?_ ?_ ?_ ?_ ?_ ?_ ?_ A8.out).mono ?_); exact ca_ ((cb_ G.out HB.out)); exact I.out; exact ca_ ((cb_ J.out HB.out)); exact K.out; exact ca_ ((cb_ M.out HB.out)); exact O.out; exact ca_ ((cb_ P.out HB.out)); exact Q.out; exact ca_ ((cb_ U.out HB.out)); exact V.out; exact ca_ ((cb_ W.out HB.out)); exact X.out; rintro e w14 ⟨rfl, hb⟩; replace a := a_ (bq_ a.out hb); replace HB := hq_ hb; clear hb; obtain ⟨_, _, _, _, _, _, _, _, _, _, _, _, _, _, _, _⟩ := cel8_ a.out))
 go_ret
 exact ⟨er_, bel_⟩

/-! ### slices_Max_int: function 72 -/
def slices_Max_int.f (a : List Int) : Option Int := if a = [] then none else some (a.foldl mx (rd a 0))
theorem slices_Max_int.calls (c : Option Addr) (c0 : Nat) (a : List Int) (r : Int) (w : World) (b : Kd.C (Kd.int .i64) w c a.length a) (g : a.length ≤ c0) (h : slices_Max_int.f a = some r) :
  Calls Tryz.prog 72 #[.slice c a.length c0] w fun e w' => e = .returned (.int .i64 r) ∧ Drawn0 w w' := by
 unfold slices_Max_int.f at h
 by_cases hn : a = []
 · rw [if_pos hn] at h; cases h
 rw [if_neg hn] at h
 have hn0 : 0 < a.length := by cases a with | nil => exact absurd rfl hn | cons => simp
 have hbig : a.length ≤ 9223372036854775807 := b.2.1
 have HE := Aside0.mk (Option.some.inj h)
 have HR := Aside0.mk b
 have l : decide (a.length < 1) = false := decide_eq_false (by omega)
 have n : decide ((a.length : Int) < 1) = false := decide_eq_false (by omega)
 obtain ⟨ad, rfl, hcell0⟩ := Kd.at_int HR.out 0 (by omega) (by omega)
 clear h b hn
 have d : w.cell? (ad.add 0) = some (.int .i64 (rd a 0)) := hcell0
 have o : w.cell? ad = some (.int .i64 (rd a 0)) := (show ad.add 0 = ad by cases ad; simp [Addr.add]) ▸ d
 clear hcell0
 go_enter Tryz.func72, Tryz.ntmps72
 go_wp2
 go_loopg [3, 4] a.length (fun gg s4 s5 wr => ∃ kk : Nat, kk ≤ a.length ∧ 1 ≤ kk ∧ a.length - kk ≤ gg ∧ s5 = .int .i64 kk ∧ s4 = .int .i64 ((a.take kk).foldl mx (rd a 0)) ∧ Aside0 (Drawn0 w wr))
 case atStart => exact ⟨1, by omega, by omega, by omega, rfl, by rw [show (1 : Nat) = 0 + 1 from rfl, fold_step hn0]; show Value.int .i64 (rd a 0) = .int .i64 (mx (rd a 0) (rd a 0)); rw [mx_self], ⟨Drawn0.refl _⟩⟩
 obtain ⟨kk, hkk, h1, hg, rfl, rfl, BW⟩ := hrel
 obtain ⟨⟨m, rfl⟩⟩ := BW
 by_cases hlt : kk < a.length
 rotate_left
 ·
  have : kk = a.length := by omega
  subst this
  have HS := Aside0.mk (show (a.take a.length).foldl mx (rd a 0) = r by rw [List.take_length]; exact HE.out)
  generalize (a.take a.length).foldl mx (rd a 0) = y at *
  go_wp2
  go_ret
  exact ⟨by rw [HS.out]; rfl, ⟨_, rfl⟩⟩
 have hltz : (kk : Int) < (a.length : Int) := by omega
 obtain ⟨ad', had, hcell⟩ := Kd.at_int HR.out (kk : Int) (by omega) hltz
 obtain rfl := Option.some.inj had
 rw [Int.toNat_natCast] at hcell
 have hcell' : (w.drewN m).cell? (ad.add kk) = some (.int .i64 (rd a kk)) := by rw [World.cell?_drewN]; exact hcell
 have HS := Aside0.mk (fold_step (op := mx) (z := rd a 0) hlt)
 clear hcell had
 generalize (a.take kk).foldl mx (rd a 0) = y at *
 go_wp2
 all_goals
  go_roundg (a.length - (kk + 1))
  case measure => omega
  case rel =>
   exact ⟨kk + 1, by omega, by omega, by omega, by go_num, by rw [HS.out]; unfold mx; first | rw [if_pos (by omega)] | rw [if_neg (by omega)], ⟨⟨_, rfl⟩⟩⟩

/-! ### slices_Min_int: function 73 -/
def slices_Min_int.f (a : List Int) : Option Int := if a = [] then none else some (a.foldl mn (rd a 0))
theorem slices_Min_int.calls (c : Option Addr) (c0 : Nat) (a : List Int) (r : Int) (w : World) (b : Kd.C (Kd.int .i64) w c a.length a) (g : a.length ≤ c0) (h : slices_Min_int.f a = some r) :
  Calls Tryz.prog 73 #[.slice c a.length c0] w fun e w' => e = .returned (.int .i64 r) ∧ Drawn0 w w' := by
 unfold slices_Min_int.f at h
 by_cases hn : a = []
 · rw [if_pos hn] at h; cases h
 rw [if_neg hn] at h
 have hn0 : 0 < a.length := by cases a with | nil => exact absurd rfl hn | cons => simp
 have hbig : a.length ≤ 9223372036854775807 := b.2.1
 have HE := Aside0.mk (Option.some.inj h)
 have HR := Aside0.mk b
 have l : decide (a.length < 1) = false := decide_eq_false (by omega)
 have n : decide ((a.length : Int) < 1) = false := decide_eq_false (by omega)
 obtain ⟨ad, rfl, hcell0⟩ := Kd.at_int HR.out 0 (by omega) (by omega)
 clear h b hn
 have d : w.cell? (ad.add 0) = some (.int .i64 (rd a 0)) := hcell0
 have o : w.cell? ad = some (.int .i64 (rd a 0)) := (show ad.add 0 = ad by cases ad; simp [Addr.add]) ▸ d
 clear hcell0
 go_enter Tryz.func73, Tryz.ntmps73
 go_wp2
 go_loopg [3, 4] a.length (fun gg s4 s5 wr => ∃ kk : Nat, kk ≤ a.length ∧ 1 ≤ kk ∧ a.length - kk ≤ gg ∧ s5 = .int .i64 kk ∧ s4 = .int .i64 ((a.take kk).foldl mn (rd a 0)) ∧ Aside0 (Drawn0 w wr))
 case atStart => exact ⟨1, by omega, by omega, by omega, rfl, by rw [show (1 : Nat) = 0 + 1 from rfl, fold_step hn0]; show Value.int .i64 (rd a 0) = .int .i64 (mn (rd a 0) (rd a 0)); rw [mn_self], ⟨Drawn0.refl _⟩⟩
 obtain ⟨kk, hkk, h1, hg, rfl, rfl, BW⟩ := hrel
 obtain ⟨⟨m, rfl⟩⟩ := BW
 by_cases hlt : kk < a.length
 rotate_left
 ·
  have : kk = a.length := by omega
  subst this
  have HS := Aside0.mk (show (a.take a.length).foldl mn (rd a 0) = r by rw [List.take_length]; exact HE.out)
  generalize (a.take a.length).foldl mn (rd a 0) = y at *
  go_wp2
  go_ret
  exact ⟨by rw [HS.out]; rfl, ⟨_, rfl⟩⟩
 have hltz : (kk : Int) < (a.length : Int) := by omega
 obtain ⟨ad', had, hcell⟩ := Kd.at_int HR.out (kk : Int) (by omega) hltz
 obtain rfl := Option.some.inj had
 rw [Int.toNat_natCast] at hcell
 have hcell' : (w.drewN m).cell? (ad.add kk) = some (.int .i64 (rd a kk)) := by rw [World.cell?_drewN]; exact hcell
 have HS := Aside0.mk (fold_step (op := mn) (z := rd a 0) hlt)
 clear hcell had
 generalize (a.take kk).foldl mn (rd a 0) = y at *
 go_wp2
 all_goals
  go_roundg (a.length - (kk + 1))
  case measure => omega
  case rel =>
   exact ⟨kk + 1, by omega, by omega, by omega, by go_num, by rw [HS.out]; unfold mn; first | rw [if_pos (by omega)] | rw [if_neg (by omega)], ⟨⟨_, rfl⟩⟩⟩

/-! ### bits_TrailingZeros64: function 55 -/
def tabL : List Int := [0, 1, 56, 2, 57, 49, 28, 3, 61, 58, 42, 50, 38, 29, 17, 4, 62, 47, 59, 36, 45, 43, 51, 22, 53, 39, 33, 30, 24, 18, 12, 5, 63, 55, 48, 27, 60, 41, 37, 16, 46, 35, 44, 21, 52, 32, 23, 11, 54, 26, 40, 15, 34, 20, 31, 10, 25, 14, 19, 9, 13, 8, 7, 6]
def bits_TrailingZeros64.f (a : Int) : Option Int := if 0 ≤ a ∧ a < 18446744073709551616 then some (Lib.ctz 64 a.toNat : Nat) else none
theorem tz64_key (x a : Nat) (hx : x < 18446744073709551616) (hx0 : x ≠ 0) (hlow : x &&& (18446744073709551616 - x) = a) :
  IntKind.u64.wrap (Go.bits .and .u64 (x : Int) (IntKind.u64.wrap (-(x : Int))) * 285870213051353865) / 288230376151711744 = ((a * 285870213051353865 % 18446744073709551616 / 288230376151711744 : Nat) : Int) := by
 have e1 : IntKind.u64.wrap (-(x : Int)) = ((18446744073709551616 - x : Nat) : Int) := by rw [IntKind.wrap_u64]; omega
 rw [e1, bits_and_u64_nat x _ hx (by omega), hlow, IntKind.wrap_u64]
 omega
set_option maxHeartbeats 1000000 in
theorem tz64_core (x k idx : Nat) (w : World) (hx0 : ((x : Int) == 0) = false)
  (key : IntKind.u64.wrap (Go.bits .and .u64 (x : Int) (IntKind.u64.wrap (-(x : Int))) * 285870213051353865) / 288230376151711744 = (idx : Int))
  (hi : idx < 64) (hk : k < 64) (hcell : w.cell? ⟨0, idx, none⟩ = some (.int .u8 k)) :
  Calls Tryz.prog 55 #[.int .u64 x] w fun e w' => e = .returned (.int .i64 k) ∧ w = w' := by
 go_enter Tryz.func55, Tryz.ntmps55
 go_wp2_with (simp only [key])
 go_ret
 exact ⟨rfl, rfl⟩
theorem tz64_zero (w : World) : Calls Tryz.prog 55 #[.int .u64 0] w fun e w' => e = .returned (.int .i64 64) ∧ w = w' := by
 go_enter Tryz.func55, Tryz.ntmps55
 go_wp2
 go_ret
 exact ⟨rfl, rfl⟩
theorem tabL_at (i : Nat) (h : i < 64) : tabL.getD i 0 = ((Lib.deBruijn64tab.getD i 0 : Nat) : Int) := by
 revert i; decide +kernel
theorem bits_TrailingZeros64.calls (b : Int) (r : Int) (w : World) (hrtab : Kd.C (Kd.int .u8) w (some ⟨0, 0, none⟩) tabL.length tabL) (h : bits_TrailingZeros64.f b = some r) :
  Calls Tryz.prog 55 #[.int .u64 b] w fun e w' => e = .returned (.int .i64 r) ∧ Drawn0 w w' := by
 unfold bits_TrailingZeros64.f at h
 by_cases hb : 0 ≤ b ∧ b < 18446744073709551616
 rotate_left
 ·
  rw [if_neg hb] at h
  cases h
 rw [if_pos hb] at h
 obtain rfl := Option.some.inj h
 obtain ⟨x, rfl⟩ := Int.eq_ofNat_of_zero_le hb.1
 rw [Int.toNat_natCast]
 by_cases a : x = 0
 ·
  subst a
  exact (tz64_zero w).mono (fun e w' ⟨he, hw⟩ => ⟨he, by subst hw; exact Drawn0.refl _⟩)
 have hx : x < 18446744073709551616 := by omega
 obtain ⟨hlow, hk⟩ := Lib.lowest_bit 64 x a hx
 obtain ⟨hi, htab⟩ := Lib.deBruijn64_at _ hk
 obtain ⟨ad, had, hcell⟩ := Kd.at_int hrtab ((2 ^ Lib.ctz 64 x * 285870213051353865 % 18446744073709551616 / 288230376151711744 : Nat) : Int) (by omega) (by show _ < ((64 : Nat) : Int); omega)
 obtain rfl := Option.some.inj had
 rw [Int.toNat_natCast] at hcell
 have c : rd tabL ((2 ^ Lib.ctz 64 x * 285870213051353865 % 18446744073709551616 / 288230376151711744 : Nat) : Int) = ((Lib.ctz 64 x : Nat) : Int) := by
  unfold rd
  rw [Int.toNat_natCast, tabL_at _ hi, htab]
 rw [c, add_plain] at hcell
 exact (tz64_core x _ _ w (by simp; omega) (tz64_key x _ hx a hlow) hi hk hcell).mono (fun e w' ⟨he, hw⟩ => ⟨he, by subst hw; exact Drawn0.refl _⟩)

/-! ### bits_LeadingZeros64: function 102 -/
def bits_LeadingZeros64.f (a : Int) : Option Int := if 0 ≤ a ∧ a < 18446744073709551616 then some (64 - (Lib.bitLen a.toNat : Int)) else none
theorem bits_LeadingZeros64.calls (a : Int) (r : Int) (w : World) (h : bits_LeadingZeros64.f a = some r) :
  Calls Tryz.prog 102 #[.int .u64 a] w fun e w' => e = .returned (.int .i64 r) ∧ Below w.heap.size w w' := by
 unfold bits_LeadingZeros64.f at h
 by_cases hb : 0 ≤ a ∧ a < 18446744073709551616
 rotate_left
 · rw [if_neg hb] at h; cases h
 rw [if_pos hb] at h
 obtain rfl := Option.some.inj h
 exact (Tryz.bits_LeadingZeros64 a w hb.1 (by omega)).mono (fun e w' ⟨he, hw⟩ => ⟨he, by subst hw; exact Below.refl _ _⟩)

/-! ### bits_OnesCount64: function 103 -/
def bits_OnesCount64.f (a : Int) : Option (Int) := some (Go.bits .and .i64 (wrap64 (IntKind.u64.wrap ((IntKind.u64.wrap ((IntKind.u64.wrap ((Go.bits .and .u64 (IntKind.u64.wrap (((IntKind.u64.wrap ((Go.bits .and .u64 ((IntKind.u64.wrap ((Go.bits .and .u64 (a / 2) 6148914691236517205) + (Go.bits .and .u64 a 6148914691236517205))) / 4) 3689348814741910323) + (Go.bits .and .u64 (IntKind.u64.wrap ((Go.bits .and .u64 (a / 2) 6148914691236517205) + (Go.bits .and .u64 a 6148914691236517205))) 3689348814741910323))) / 16) + (IntKind.u64.wrap ((Go.bits .and .u64 ((IntKind.u64.wrap ((Go.bits .and .u64 (a / 2) 6148914691236517205) + (Go.bits .and .u64 a 6148914691236517205))) / 4) 3689348814741910323) + (Go.bits .and .u64 (IntKind.u64.wrap ((Go.bits .and .u64 (a / 2) 6148914691236517205) + (Go.bits .and .u64 a 6148914691236517205))) 3689348814741910323))))) 1085102592571150095) + ((Go.bits .and .u64 (IntKind.u64.wrap (((IntKind.u64.wrap ((Go.bits .and .u64 ((IntKind.u64.wrap ((Go.bits .and .u64 (a / 2) 6148914691236517205) + (Go.bits .and .u64 a 6148914691236517205))) / 4) 3689348814741910323) + (Go.bits .and .u64 (IntKind.u64.wrap ((Go.bits .and .u64 (a / 2) 6148914691236517205) + (Go.bits .and .u64 a 6148914691236517205))) 3689348814741910323))) / 16) + (IntKind.u64.wrap ((Go.bits .and .u64 ((IntKind.u64.wrap ((Go.bits .and .u64 (a / 2) 6148914691236517205) + (Go.bits .and .u64 a 6148914691236517205))) / 4) 3689348814741910323) + (Go.bits .and .u64 (IntKind.u64.wrap ((Go.bits .and .u64 (a / 2) 6148914691236517205) + (Go.bits .and .u64 a 6148914691236517205))) 3689348814741910323))))) 1085102592571150095) / 256))) + ((IntKind.u64.wrap ((Go.bits .and .u64 (IntKind.u64.wrap (((IntKind.u64.wrap ((Go.bits .and .u64 ((IntKind.u64.wrap ((Go.bits .and .u64 (a / 2) 6148914691236517205) + (Go.bits .and .u64 a 6148914691236517205))) / 4) 3689348814741910323) + (Go.bits .and .u64 (IntKind.u64.wrap ((Go.bits .and .u64 (a / 2) 6148914691236517205) + (Go.bits .and .u64 a 6148914691236517205))) 3689348814741910323))) / 16) + (IntKind.u64.wrap ((Go.bits .and .u64 ((IntKind.u64.wrap ((Go.bits .and .u64 (a / 2) 6148914691236517205) + (Go.bits .and .u64 a 6148914691236517205))) / 4) 3689348814741910323) + (Go.bits .and .u64 (IntKind.u64.wrap ((Go.bits .and .u64 (a / 2) 6148914691236517205) + (Go.bits .and .u64 a 6148914691236517205))) 3689348814741910323))))) 1085102592571150095) + ((Go.bits .and .u64 (IntKind.u64.wrap (((IntKind.u64.wrap ((Go.bits .and .u64 ((IntKind.u64.wrap ((Go.bits .and .u64 (a / 2) 6148914691236517205) + (Go.bits .and .u64 a 6148914691236517205))) / 4) 3689348814741910323) + (Go.bits .and .u64 (IntKind.u64.wrap ((Go.bits .and .u64 (a / 2) 6148914691236517205) + (Go.bits .and .u64 a 6148914691236517205))) 3689348814741910323))) / 16) + (IntKind.u64.wrap ((Go.bits .and .u64 ((IntKind.u64.wrap ((Go.bits .and .u64 (a / 2) 6148914691236517205) + (Go.bits .and .u64 a 6148914691236517205))) / 4) 3689348814741910323) + (Go.bits .and .u64 (IntKind.u64.wrap ((Go.bits .and .u64 (a / 2) 6148914691236517205) + (Go.bits .and .u64 a 6148914691236517205))) 3689348814741910323))))) 1085102592571150095) / 256))) / 65536))) + ((IntKind.u64.wrap ((IntKind.u64.wrap ((Go.bits .and .u64 (IntKind.u64.wrap (((IntKind.u64.wrap ((Go.bits .and .u64 ((IntKind.u64.wrap ((Go.bits .and .u64 (a / 2) 6148914691236517205) + (Go.bits .and .u64 a 6148914691236517205))) / 4) 3689348814741910323) + (Go.bits .and .u64 (IntKind.u64.wrap ((Go.bits .and .u64 (a / 2) 6148914691236517205) + (Go.bits .and .u64 a 6148914691236517205))) 3689348814741910323))) / 16) + (IntKind.u64.wrap ((Go.bits .and .u64 ((IntKind.u64.wrap ((Go.bits .and .u64 (a / 2) 6148914691236517205) + (Go.bits .and .u64 a 6148914691236517205))) / 4) 3689348814741910323) + (Go.bits .and .u64 (IntKind.u64.wrap ((Go.bits .and .u64 (a / 2) 6148914691236517205) + (Go.bits .and .u64 a 6148914691236517205))) 3689348814741910323))))) 1085102592571150095) + ((Go.bits .and .u64 (IntKind.u64.wrap (((IntKind.u64.wrap ((Go.bits .and .u64 ((IntKind.u64.wrap ((Go.bits .and .u64 (a / 2) 6148914691236517205) + (Go.bits .and .u64 a 6148914691236517205))) / 4) 3689348814741910323) + (Go.bits .and .u64 (IntKind.u64.wrap ((Go.bits .and .u64 (a / 2) 6148914691236517205) + (Go.bits .and .u64 a 6148914691236517205))) 3689348814741910323))) / 16) + (IntKind.u64.wrap ((Go.bits .and .u64 ((IntKind.u64.wrap ((Go.bits .and .u64 (a / 2) 6148914691236517205) + (Go.bits .and .u64 a 6148914691236517205))) / 4) 3689348814741910323) + (Go.bits .and .u64 (IntKind.u64.wrap ((Go.bits .and .u64 (a / 2) 6148914691236517205) + (Go.bits .and .u64 a 6148914691236517205))) 3689348814741910323))))) 1085102592571150095) / 256))) + ((IntKind.u64.wrap ((Go.bits .and .u64 (IntKind.u64.wrap (((IntKind.u64.wrap ((Go.bits .and .u64 ((IntKind.u64.wrap ((Go.bits .and .u64 (a / 2) 6148914691236517205) + (Go.bits .and .u64 a 6148914691236517205))) / 4) 3689348814741910323) + (Go.bits .and .u64 (IntKind.u64.wrap ((Go.bits .and .u64 (a / 2) 6148914691236517205) + (Go.bits .and .u64 a 6148914691236517205))) 3689348814741910323))) / 16) + (IntKind.u64.wrap ((Go.bits .and .u64 ((IntKind.u64.wrap ((Go.bits .and .u64 (a / 2) 6148914691236517205) + (Go.bits .and .u64 a 6148914691236517205))) / 4) 3689348814741910323) + (Go.bits .and .u64 (IntKind.u64.wrap ((Go.bits .and .u64 (a / 2) 6148914691236517205) + (Go.bits .and .u64 a 6148914691236517205))) 3689348814741910323))))) 1085102592571150095) + ((Go.bits .and .u64 (IntKind.u64.wrap (((IntKind.u64.wrap ((Go.bits .and .u64 ((IntKind.u64.wrap ((Go.bits .and .u64 (a / 2) 6148914691236517205) + (Go.bits .and .u64 a 6148914691236517205))) / 4) 3689348814741910323) + (Go.bits .and .u64 (IntKind.u64.wrap ((Go.bits .and .u64 (a / 2) 6148914691236517205) + (Go.bits .and .u64 a 6148914691236517205))) 3689348814741910323))) / 16) + (IntKind.u64.wrap ((Go.bits .and .u64 ((IntKind.u64.wrap ((Go.bits .and .u64 (a / 2) 6148914691236517205) + (Go.bits .and .u64 a 6148914691236517205))) / 4) 3689348814741910323) + (Go.bits .and .u64 (IntKind.u64.wrap ((Go.bits .and .u64 (a / 2) 6148914691236517205) + (Go.bits .and .u64 a 6148914691236517205))) 3689348814741910323))))) 1085102592571150095) / 256))) / 65536))) / 4294967296)))) 127)
set_option maxHeartbeats 8000000 in
set_option maxRecDepth 100000 in
theorem bits_OnesCount64.calls (a : Int) (r : Int) (w : World) (h : bits_OnesCount64.f a = some r) :
  Calls Tryz.prog 103 #[.int .u64 a] w fun e w' => e = .returned (.int .i64 r) ∧ Drawn0 w w' := by
 unfold bits_OnesCount64.f at h
 have H := h
 clear h
 obtain rfl := si_ H
 go_enter Tryz.func103, Tryz.ntmps103
 go_wp2
 go_ret
 exact ⟨by first | rfl | (simp; done) | (simp [*]; done), by repeat (first | exact d0_ _ | apply Drawn0.step)⟩

end Go.Proofs.YtbhhbgoamomacaaGreatDoor.XMulRefuses
