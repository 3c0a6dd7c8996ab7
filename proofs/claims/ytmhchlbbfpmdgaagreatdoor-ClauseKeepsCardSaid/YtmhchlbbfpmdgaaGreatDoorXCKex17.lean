-- by xprint.py, a program of this session, over the kit's print
import Derived.Test.YtmhchlbbfpmdgaaGreatDoorXCKex0
import Derived.Test.YtmhchlbbfpmdgaaGreatDoorXCKex1
import Derived.Test.YtmhchlbbfpmdgaaGreatDoorXCKex7
import Derived.Test.YtmhchlbbfpmdgaaGreatDoorSq
namespace Go.Proofs.YtmhchlbbfpmdgaaGreatDoor.XClauseKeeps
open Go.RowKit Go.Proofs.YtmhchlbbfpmdgaaGreatDoor.Sq Go.Proofs.YtmhchlbbfpmdgaaGreatDoorW.PrintWords Go.Proofs.YtmhchlbbfpmdgaaGreatDoorW.PrintLast Go.Proofs.YtmhchlbbfpmdgaaGreatDoorW.PrintMore
attribute [local go_sem] max2_int min2_int max_two min_two max_three min_three max_four min_four   -- for this text's walks alone
set_option linter.unusedVariables false
set_option linter.unusedSimpArgs false

/-! ### dom_Of_1: function 61 -/
def dom_Of_1.f (a0 : Int) : Option (Bool) := (dom_in.f a0).bind fun t337 => (some (!t337))
set_option maxHeartbeats 8000000 in
set_option maxRecDepth 100000 in
theorem dom_Of_1.calls (a0 : Int) (r : Bool) (w : World) (h : dom_Of_1.f a0 = some r) :
  Calls Tryz.prog 61 #[.int .i64 a0] w fun e w' => e = .returned (.bool r) ∧ Drawn0 w w' := by
 have H : ((dom_in.f a0).bind fun t337 => (some (!t337))) = some r := h
 clear h
 replace H := Option.bind_eq_some_iff.mp H
 obtain ⟨t337, A20, H⟩ := H
 try dsimp only at H
 have A2 := Aside0.mk A20
 clear A20
 obtain rfl := Option.some.inj H
 go_enter Tryz.func61, Tryz.ntmps61
 go_wp2_with (first | ((with_reducible refine gate_callee (f := 50) rfl ?_); refine goesL_ (some 4) rfl rfl Tryz.func50 (by kernel_rfl) rfl #[.int .i64 a0] rfl ar_ ?_; (with_reducible refine (dom_in.calls a0 t337 _ A2.out).mono ?_); rintro e w' ⟨rfl, ⟨nd, rfl⟩⟩; refine ⟨_, rfl, ?_⟩))
 go_ret
 exact ⟨by first | rfl | (simp; done) | (simp [*]; done), by repeat (first | exact Drawn0.refl _ | apply Drawn0.step)⟩

/-! ### slices_Max_int: function 62 -/
def slices_Max_int.f (l0 : List Int) : Option Int := if l0 = [] then none else some (l0.foldl mx (rd l0 0))
theorem slices_Max_int.calls (A0 : Option Addr) (c0 : Nat) (l0 : List Int) (r : Int) (w : World) (hr0 : Kd.C (Kd.int .i64) w A0 l0.length l0) (hc0 : l0.length ≤ c0) (h : slices_Max_int.f l0 = some r) :
  Calls Tryz.prog 62 #[.slice A0 l0.length c0] w fun e w' => e = .returned (.int .i64 r) ∧ Drawn0 w w' := by
 unfold slices_Max_int.f at h
 by_cases hn : l0 = []
 ·
  rw [if_pos hn] at h; cases h
 rw [if_neg hn] at h
 have hn0 : 0 < l0.length := by cases l0 with | nil => exact absurd rfl hn | cons => simp
 have hbig : l0.length ≤ 9223372036854775807 := hr0.2.1
 have HE := Aside0.mk (Option.some.inj h)
 have HR := Aside0.mk hr0
 have hl1 : decide (l0.length < 1) = false := decide_eq_false (by omega)
 have hl2 : decide ((l0.length : Int) < 1) = false := decide_eq_false (by omega)
 obtain ⟨ad, rfl, hcell0⟩ := Kd.at_int HR.out 0 (by omega) (by omega)
 clear h hr0 hn
 have hc1 : w.cell? (ad.add 0) = some (.int .i64 (rd l0 0)) := hcell0
 have hc2 : w.cell? ad = some (.int .i64 (rd l0 0)) := (show ad.add 0 = ad by cases ad; simp [Addr.add]) ▸ hc1
 clear hcell0
 go_enter Tryz.func62, Tryz.ntmps62
 go_wp2
 go_loopg [3, 4] l0.length (fun gg s4 s5 wr => ∃ kk : Nat, kk ≤ l0.length ∧ 1 ≤ kk ∧ l0.length - kk ≤ gg ∧ s5 = .int .i64 kk ∧ s4 = .int .i64 ((l0.take kk).foldl mx (rd l0 0)) ∧ Aside0 (Drawn0 w wr))
 case atStart => exact ⟨1, by omega, by omega, by omega, rfl, by rw [show (1 : Nat) = 0 + 1 from rfl, fold_step hn0]; show Value.int .i64 (rd l0 0) = .int .i64 (mx (rd l0 0) (rd l0 0)); rw [mx_self], ⟨Drawn0.refl _⟩⟩
 case round =>
  obtain ⟨kk, hkk, h1, hg, rfl, rfl, BW⟩ := hrel
  obtain ⟨⟨m, rfl⟩⟩ := BW
  by_cases hlt : kk < l0.length
  ·
   have hltz : (kk : Int) < (l0.length : Int) := by omega
   obtain ⟨ad', had, hcell⟩ := Kd.at_int HR.out (kk : Int) (by omega) hltz
   obtain rfl := Option.some.inj had
   rw [Int.toNat_natCast] at hcell
   have hcell' : (w.drewN m).cell? (ad.add kk) = some (.int .i64 (rd l0 kk)) := by rw [World.cell?_drewN]; exact hcell
   have HS := Aside0.mk (fold_step (op := mx) (z := rd l0 0) hlt)
   clear hcell had
   generalize (l0.take kk).foldl mx (rd l0 0) = y at *
   go_wp2
   all_goals
    go_roundg (l0.length - (kk + 1))
    case measure => omega
    case rel =>
     exact ⟨kk + 1, by omega, by omega, by omega, by go_num, by rw [HS.out]; unfold mx; first | rw [if_pos (by omega)] | rw [if_neg (by omega)], ⟨⟨_, rfl⟩⟩⟩
  ·
   have : kk = l0.length := by omega
   subst this
   have HS := Aside0.mk (show (l0.take l0.length).foldl mx (rd l0 0) = r by rw [List.take_length]; exact HE.out)
   generalize (l0.take l0.length).foldl mx (rd l0 0) = y at *
   go_wp2
   go_ret
   exact ⟨by rw [HS.out]; rfl, ⟨_, rfl⟩⟩

/-! ### slices_Min_int: function 63 -/
def slices_Min_int.f (l0 : List Int) : Option Int := if l0 = [] then none else some (l0.foldl mn (rd l0 0))
theorem slices_Min_int.calls (A0 : Option Addr) (c0 : Nat) (l0 : List Int) (r : Int) (w : World) (hr0 : Kd.C (Kd.int .i64) w A0 l0.length l0) (hc0 : l0.length ≤ c0) (h : slices_Min_int.f l0 = some r) :
  Calls Tryz.prog 63 #[.slice A0 l0.length c0] w fun e w' => e = .returned (.int .i64 r) ∧ Drawn0 w w' := by
 unfold slices_Min_int.f at h
 by_cases hn : l0 = []
 ·
  rw [if_pos hn] at h; cases h
 rw [if_neg hn] at h
 have hn0 : 0 < l0.length := by cases l0 with | nil => exact absurd rfl hn | cons => simp
 have hbig : l0.length ≤ 9223372036854775807 := hr0.2.1
 have HE := Aside0.mk (Option.some.inj h)
 have HR := Aside0.mk hr0
 have hl1 : decide (l0.length < 1) = false := decide_eq_false (by omega)
 have hl2 : decide ((l0.length : Int) < 1) = false := decide_eq_false (by omega)
 obtain ⟨ad, rfl, hcell0⟩ := Kd.at_int HR.out 0 (by omega) (by omega)
 clear h hr0 hn
 have hc1 : w.cell? (ad.add 0) = some (.int .i64 (rd l0 0)) := hcell0
 have hc2 : w.cell? ad = some (.int .i64 (rd l0 0)) := (show ad.add 0 = ad by cases ad; simp [Addr.add]) ▸ hc1
 clear hcell0
 go_enter Tryz.func63, Tryz.ntmps63
 go_wp2
 go_loopg [3, 4] l0.length (fun gg s4 s5 wr => ∃ kk : Nat, kk ≤ l0.length ∧ 1 ≤ kk ∧ l0.length - kk ≤ gg ∧ s5 = .int .i64 kk ∧ s4 = .int .i64 ((l0.take kk).foldl mn (rd l0 0)) ∧ Aside0 (Drawn0 w wr))
 case atStart => exact ⟨1, by omega, by omega, by omega, rfl, by rw [show (1 : Nat) = 0 + 1 from rfl, fold_step hn0]; show Value.int .i64 (rd l0 0) = .int .i64 (mn (rd l0 0) (rd l0 0)); rw [mn_self], ⟨Drawn0.refl _⟩⟩
 case round =>
  obtain ⟨kk, hkk, h1, hg, rfl, rfl, BW⟩ := hrel
  obtain ⟨⟨m, rfl⟩⟩ := BW
  by_cases hlt : kk < l0.length
  ·
   have hltz : (kk : Int) < (l0.length : Int) := by omega
   obtain ⟨ad', had, hcell⟩ := Kd.at_int HR.out (kk : Int) (by omega) hltz
   obtain rfl := Option.some.inj had
   rw [Int.toNat_natCast] at hcell
   have hcell' : (w.drewN m).cell? (ad.add kk) = some (.int .i64 (rd l0 kk)) := by rw [World.cell?_drewN]; exact hcell
   have HS := Aside0.mk (fold_step (op := mn) (z := rd l0 0) hlt)
   clear hcell had
   generalize (l0.take kk).foldl mn (rd l0 0) = y at *
   go_wp2
   all_goals
    go_roundg (l0.length - (kk + 1))
    case measure => omega
    case rel =>
     exact ⟨kk + 1, by omega, by omega, by omega, by go_num, by rw [HS.out]; unfold mn; first | rw [if_pos (by omega)] | rw [if_neg (by omega)], ⟨⟨_, rfl⟩⟩⟩
  ·
   have : kk = l0.length := by omega
   subst this
   have HS := Aside0.mk (show (l0.take l0.length).foldl mn (rd l0 0) = r by rw [List.take_length]; exact HE.out)
   generalize (l0.take l0.length).foldl mn (rd l0 0) = y at *
   go_wp2
   go_ret
   exact ⟨by rw [HS.out]; rfl, ⟨_, rfl⟩⟩

/-! ### dom_room: function 64 -/
def dom_room.f (a0 : Int) (a1 : Int) : Option (Int × List Int × Int × Int × Int) := (dom_place.f a0).bind fun t339 => ((dom_place.f a1).bind fun t340 => ((dom_place.f a0).bind fun t341 => (if 0 ≤ (wrap64 ((wrap64 (Int.tdiv (wrap64 (t340 - t341)) 64)) + 1)) then (if (wrap64 ((wrap64 (Int.tdiv (wrap64 (t340 - t341)) 64)) + 1) : Int).toNat ≤ 35184372088832 then (some (t339, (List.replicate (wrap64 ((wrap64 (Int.tdiv (wrap64 (t340 - t341)) 64)) + 1) : Int).toNat 0), 0, 0, 0)) else (none)) else (none))))
set_option maxHeartbeats 8000000 in
set_option maxRecDepth 100000 in
theorem dom_room.calls (a0 : Int) (a1 : Int) (r1 : Int) (r2 : List Int) (r3 : Int) (r4 : Int) (r5 : Int) (w : World) (h : dom_room.f a0 a1 = some (r1, r2, r3, r4, r5)) :
  Calls Tryz.prog 64 #[.int .i64 a0, .int .i64 a1] w fun e w' => ∃ v1_ : Value, e = .returned (.agg #[.int .i64 r1, v1_, .int .i64 r3, .int .i64 r4, .int .i64 r5]) ∧ Kd.R (Kd.int .u64) 80 w' w.heap.size (fun _ => True) v1_ r2 ∧ Below w.heap.size w w' := by
 have hu58 := Tryz.underlying58
 have HB := Aside0.mk (Below.refl w.heap.size w)
 have H : ((dom_place.f a0).bind fun t339 => ((dom_place.f a1).bind fun t340 => ((dom_place.f a0).bind fun t341 => (if 0 ≤ (wrap64 ((wrap64 (Int.tdiv (wrap64 (t340 - t341)) 64)) + 1)) then (if (wrap64 ((wrap64 (Int.tdiv (wrap64 (t340 - t341)) 64)) + 1) : Int).toNat ≤ 35184372088832 then (some (t339, (List.replicate (wrap64 ((wrap64 (Int.tdiv (wrap64 (t340 - t341)) 64)) + 1) : Int).toNat 0), 0, 0, 0)) else (none)) else (none))))) = some (r1, r2, r3, r4, r5) := h
 clear h
 replace H := Option.bind_eq_some_iff.mp H
 obtain ⟨t339, A30, H⟩ := H
 replace H : ((dom_place.f a1).bind fun t340 => ((dom_place.f a0).bind fun t341 => (if 0 ≤ (wrap64 ((wrap64 (Int.tdiv (wrap64 (t340 - t341)) 64)) + 1)) then (if (wrap64 ((wrap64 (Int.tdiv (wrap64 (t340 - t341)) 64)) + 1) : Int).toNat ≤ 35184372088832 then (some (t339, (List.replicate (wrap64 ((wrap64 (Int.tdiv (wrap64 (t340 - t341)) 64)) + 1) : Int).toNat 0), 0, 0, 0)) else (none)) else (none)))) = some (r1, r2, r3, r4, r5) := H
 have A3 := Aside0.mk A30
 clear A30
 replace H := Option.bind_eq_some_iff.mp H
 obtain ⟨t340, A40, H⟩ := H
 replace H : ((dom_place.f a0).bind fun t341 => (if 0 ≤ (wrap64 ((wrap64 (Int.tdiv (wrap64 (t340 - t341)) 64)) + 1)) then (if (wrap64 ((wrap64 (Int.tdiv (wrap64 (t340 - t341)) 64)) + 1) : Int).toNat ≤ 35184372088832 then (some (t339, (List.replicate (wrap64 ((wrap64 (Int.tdiv (wrap64 (t340 - t341)) 64)) + 1) : Int).toNat 0), 0, 0, 0)) else (none)) else (none))) = some (r1, r2, r3, r4, r5) := H
 have A4 := Aside0.mk A40
 clear A40
 replace H := Option.bind_eq_some_iff.mp H
 obtain ⟨t341, A50, H⟩ := H
 replace H : (if 0 ≤ (wrap64 ((wrap64 (Int.tdiv (wrap64 (t340 - t341)) 64)) + 1)) then (if (wrap64 ((wrap64 (Int.tdiv (wrap64 (t340 - t341)) 64)) + 1) : Int).toNat ≤ 35184372088832 then (some (t339, (List.replicate (wrap64 ((wrap64 (Int.tdiv (wrap64 (t340 - t341)) 64)) + 1) : Int).toNat 0), 0, 0, 0)) else (none)) else (none)) = some (r1, r2, r3, r4, r5) := H
 have A5 := Aside0.mk A50
 clear A50
 obtain ⟨ji6, hji6⟩ : ∃ j_ : Int, (wrap64 ((wrap64 (Int.tdiv (wrap64 (t340 - t341)) 64)) + 1)) = j_ := ⟨_, rfl⟩
 replace H : (if 0 ≤ (ji6) then (if (ji6 : Int).toNat ≤ 35184372088832 then (some (t339, (List.replicate (ji6 : Int).toNat 0), 0, 0, 0)) else (none)) else (none)) = some (r1, r2, r3, r4, r5) := by first | (rw [hji6] at H; exact H) | (simp only [hji6] at H ⊢; exact H)
 (try rw [hji6] at A3)
 (try rw [hji6] at A4)
 (try rw [hji6] at A5)
 have hji6w : (IntKind.i64.wrap ((wrap64 (Int.tdiv (wrap64 (t340 - t341)) 64)) + 1)) = ji6 := (i64_w _).trans hji6
 by_cases c7 : 0 ≤ (ji6)
 ·
  rw [if_pos c7] at H
  have c7b0 := eq_true c7
  have c7b1 : decide (0 ≤ (ji6)) = true := decide_eq_true c7
  clear c7
  by_cases c8 : (ji6 : Int).toNat ≤ 35184372088832
  ·
   rw [if_pos c8] at H
   have c8b0 := eq_true c8
   have c8b1 : decide ((ji6 : Int).toNat ≤ 35184372088832) = true := decide_eq_true c8
   clear c8
   obtain ⟨y342, hy342⟩ : ∃ y_ : List Int, y_ = (List.replicate (ji6 : Int).toNat 0) := ⟨_, rfl⟩
   replace H : (some (t339, y342, 0, 0, 0)) = some (r1, r2, r3, r4, r5) := by first | (rw [hy342]; with_reducible exact H) | (have H2_ := (Option.bind_some _ _).symm.trans H; rw [hy342]; with_reducible exact H2_) | (have H2_ := (Option.bind_some _ _).symm.trans H; with_reducible exact H2_) | with_reducible exact H | (rw [hy342]; exact H) | exact H
   have Ny342 := Aside0.mk hy342
   clear hy342
   simp only [Option.some.injEq, Prod.mk.injEq] at H
   obtain ⟨rfl, rfl, rfl, rfl, rfl⟩ := H
   go_enter Tryz.func64, Tryz.ntmps64
   go_wp2_with (first | ((with_reducible refine gate_dst (N := 4) rfl ?_); refine bxe_ (N := 4) (cs := #[.int .i64 0, .slice none 0 0, .int .i64 0, .int .i64 0, .int .i64 0]) (t := 58) ?_; intro gb338 hg w9 hbox hb; have BK338 := Aside0.mk (hbox); have GW338 := Aside0.mk (by rw [hg]; exact (below_size bel_) : w.heap.size ≤ gb338); have GE338 := GW338; replace HB := Aside0.mk (below_step bel_ hb); clear hb hbox hg) | ((with_reducible refine gate_callee (f := 52) rfl ?_); refine goesL_ (some 6) rfl rfl Tryz.func52 (by kernel_rfl) rfl #[.int .i64 a0] rfl ar_ ?_; (with_reducible refine (dom_place.calls a0 t339 _ A3.out).mono ?_); rintro e w' ⟨rfl, ⟨nd, rfl⟩⟩; refine ⟨_, rfl, ?_⟩; (try (rw [drewN_self w9]; generalize hq_ : World.drewN w9 _ = w9; replace BK338 : Aside0 (w9.heap[gb338]? = some (.cells #[.int .i64 0, .slice none 0 0, .int .i64 0, .int .i64 0, .int .i64 0] 58 (0, 0))) := ⟨by rw [← hq_]; exact (bk_ BK338.out)⟩; replace HB : Aside0 (Below w.heap.size w w9) := ⟨by rw [← hq_]; exact bel_⟩; clear hq_)); (try (obtain ⟨_, _, _, _, _, _, _, _, _, _⟩ := cel5_ BK338.out))) | ((with_reducible refine gate_callee (f := 52) rfl ?_); refine goesL_ (some 8) rfl rfl Tryz.func52 (by kernel_rfl) rfl #[.int .i64 a1] rfl ar_ ?_; (with_reducible refine (dom_place.calls a1 t340 _ A4.out).mono ?_); rintro e w' ⟨rfl, ⟨nd, rfl⟩⟩; refine ⟨_, rfl, ?_⟩; (try (rw [drewN_self w9]; generalize hq_ : World.drewN w9 _ = w9; replace BK338 : Aside0 (w9.heap[gb338]? = some (.cells #[.int .i64 0, .slice none 0 0, .int .i64 0, .int .i64 0, .int .i64 0] 58 (0, 0))) := ⟨by rw [← hq_]; exact (bk_ BK338.out)⟩; replace HB : Aside0 (Below w.heap.size w w9) := ⟨by rw [← hq_]; exact bel_⟩; clear hq_)); (try (obtain ⟨_, _, _, _, _, _, _, _, _, _⟩ := cel5_ BK338.out))) | ((with_reducible refine gate_callee (f := 52) rfl ?_); refine goesL_ (some 10) rfl rfl Tryz.func52 (by kernel_rfl) rfl #[.int .i64 a0] rfl ar_ ?_; (with_reducible refine (dom_place.calls a0 t341 _ A5.out).mono ?_); rintro e w' ⟨rfl, ⟨nd, rfl⟩⟩; refine ⟨_, rfl, ?_⟩; (try (rw [drewN_self w9]; generalize hq_ : World.drewN w9 _ = w9; replace BK338 : Aside0 (w9.heap[gb338]? = some (.cells #[.int .i64 0, .slice none 0 0, .int .i64 0, .int .i64 0, .int .i64 0] 58 (0, 0))) := ⟨by rw [← hq_]; exact (bk_ BK338.out)⟩; replace HB : Aside0 (Below w.heap.size w w9) := ⟨by rw [← hq_]; exact bel_⟩; clear hq_)); (try (obtain ⟨_, _, _, _, _, _, _, _, _, _⟩ := cel5_ BK338.out))) | ((with_reducible refine gate_dst (N := 14) rfl ?_); refine Kd.R_make (Kd.int .u64) _ 80 rfl (N := 14) rfl 56 _ _ rfl ji6 rfl rfl Tryz.underlying56 (.int .u64 0) 8 info80 rfl (by decide) (by omega) 0 (ok := fun _ => True) (okp := fun _ => True) rfl (fun _ hk => hk) trivial (dq_) (Nat.le_trans (Nat.mul_le_mul_right _ (dq_ : ji6.toNat ≤ 35184372088832)) (by omega)) (Below.refl _ _) (Nat.le_refl _) ?_; intro v343 w13 ho14 hb hg_ hnew_; clear hg_ hnew_; (first | rw [← Ny342.out] at ho14 | (simp only [Int.reduceToNat] at ho14; rw [← Ny342.out] at ho14)); have HO344 := Aside0.mk (Kd.R_lower ho14 (below_size bel_)); replace BK338 := Aside0.mk (blk_below (bk_ BK338.out) hb); replace HB := Aside0.mk (below_step bel_ hb); clear hb ho14; obtain ⟨Ao15, co15, eo15⟩ := Kd.R_slice HO344.out; subst eo15; obtain ⟨_, _, _, _, _, _, _, _, _, _⟩ := cel5_ BK338.out))
   refine bodyPost_ret (results_cell_row rfl _ _ gb338 58 #[.int .i64 t339, .slice Ao15 y342.length co15, .int .i64 0, .int .i64 0, .int .i64 0] (0, 0) _ rfl (by refine bk_ ?_; refine blk_put (cs := #[.int .i64 t339, .slice Ao15 y342.length co15, .int .i64 0, .int .i64 0, .int .i64 0]) ?_ 4 _ rfl; refine bk_ ?_; refine blk_put (cs := #[.int .i64 t339, .slice Ao15 y342.length co15, .int .i64 0, .int .i64 0, .int .i64 0]) ?_ 3 _ rfl; refine bk_ ?_; refine blk_put (cs := #[.int .i64 t339, .slice Ao15 y342.length co15, .int .i64 0, .int .i64 0, .int .i64 0]) ?_ 2 _ rfl; refine bk_ ?_; refine blk_put (cs := #[.int .i64 t339, .slice none 0 0, .int .i64 0, .int .i64 0, .int .i64 0]) ?_ 1 _ rfl; refine bk_ ?_; refine blk_put (cs := #[.int .i64 0, .slice none 0 0, .int .i64 0, .int .i64 0, .int .i64 0]) ?_ 0 _ rfl; refine bk_ ?_; exact BK338.out) Tryz.underlying58 rfl (by kernel_rfl)) rfl ?_
   exact ⟨_, by first | rfl | (simp [errW_none, errW_some] <;> rfl) | (simp only [← hji6]; first | rfl | (simp [errW_none, errW_some] <;> rfl)) | (simp [*, errW_none, errW_some] <;> rfl), by refine vR_ ?_; exact Kd.R_mono (Kd.R_far (Kd.R_far (Kd.R_far (Kd.R_far (Kd.R_far (Kd.R_types HO344.out BK338.out (by decide)) (fun _ hk => hk.2) _) (fun _ hk => hk.2) _) (fun _ hk => hk.2) _) (fun _ hk => hk.2) _) (fun _ hk => hk.2) _) (fun _ hk => trivial), bel_⟩
  ·
   rw [if_neg c8] at H
   exact absurd H (by simp)
 ·
  rw [if_neg c7] at H
  exact absurd H (by simp)

/-! ### slices_IndexFunc_int_int_83_at_dom_Of_1: function 83 -/
def slices_IndexFunc_int_int_83_at_dom_Of_1.l0 : Nat → List Int → Int → Int → Option (Int)
 | 0, _, _, _ => none
 | k + 1, x0, x7, x8 => if x8 < x7 then (if 0 ≤ x8 then (if x8 < (x0.length : Int) then ((dom_Of_1.f (rd x0 x8)).bind fun t346 => (if t346 = true then (some x8) else (slices_IndexFunc_int_int_83_at_dom_Of_1.l0 k x0 x7 (wrap64 (x8 + 1))))) else (none)) else (none)) else (some (-1))
def slices_IndexFunc_int_int_83_at_dom_Of_1.f (k : Nat) (l0 : List Int)  : Option (Int) := slices_IndexFunc_int_int_83_at_dom_Of_1.l0 k l0 (l0.length : Int) 0
theorem slices_IndexFunc_int_int_83_at_dom_Of_1.mono_l : ∀ k, (∀ y0 y1 y2, LeO (slices_IndexFunc_int_int_83_at_dom_Of_1.l0 k y0 y1 y2) (slices_IndexFunc_int_int_83_at_dom_Of_1.l0 (k + 1) y0 y1 y2))
 | 0 => fun _ _ _ r h => by simp [slices_IndexFunc_int_int_83_at_dom_Of_1.l0] at h
 | k + 1 => by
  have ih0 := slices_IndexFunc_int_int_83_at_dom_Of_1.mono_l k
  ·
   intro y0 y1 y2
   unfold slices_IndexFunc_int_int_83_at_dom_Of_1.l0
   exact leo_
theorem slices_IndexFunc_int_int_83_at_dom_Of_1.mono : ∀ a0 k, LeO (slices_IndexFunc_int_int_83_at_dom_Of_1.f k a0) (slices_IndexFunc_int_int_83_at_dom_Of_1.f (k + 1) a0) := by
 intro a0 k
 have ih0 := slices_IndexFunc_int_int_83_at_dom_Of_1.mono_l k
 unfold slices_IndexFunc_int_int_83_at_dom_Of_1.f
 exact leo_
set_option maxHeartbeats 8000000 in
set_option maxRecDepth 100000 in
theorem slices_IndexFunc_int_int_83_at_dom_Of_1.calls (k : Nat) (A0 : Option Addr) (c0 : Nat) (l0 : List Int)  (r : Int) (w : World) (hr0 : Kd.C (Kd.int .i64) w A0 l0.length l0) (hc0 : l0.length ≤ c0) (h : slices_IndexFunc_int_int_83_at_dom_Of_1.f k l0 = some r) :
  Calls Tryz.prog 83 #[.slice A0 l0.length c0, .func (.func 61) #[] #[]] w fun e w' => e = .returned (.int .i64 r) ∧ Drawn0 w w' := by
 have HR0 := Aside0.mk hr0
 have HC0 := Aside0.mk hc0
 clear hr0 hc0
 have H : (slices_IndexFunc_int_int_83_at_dom_Of_1.l0 k l0 (l0.length : Int) 0) = some r := h
 clear h
 have H' := Aside0.mk H
 clear H
 go_enter Tryz.func83, Tryz.ntmps83
 go_wp2
 go_loopg [8] k (fun kq v8 w' => ∃ (x8_1 : Int), v8 = .int .i64 x8_1 ∧ Aside0 (slices_IndexFunc_int_int_83_at_dom_Of_1.l0 kq l0 (l0.length : Int) x8_1 = some r) ∧ Aside0 (kq ≤ k) ∧ Drawn0 w w')
 case atStart => exact ⟨(0), eq_, H', ⟨Nat.le_refl _⟩, by repeat (first | exact Drawn0.refl _ | apply Drawn0.step)⟩
 case round =>
  clear H'
  try clear p2
  obtain ⟨x8_1, rfl, HA, HK1, ⟨m1, rfl⟩⟩ := hrel
  cases gk with
  | zero => exact absurd HA.out (by simp [slices_IndexFunc_int_int_83_at_dom_Of_1.l0])
  | succ k1 =>
   have H := HA.out
   clear HA
   simp only [slices_IndexFunc_int_int_83_at_dom_Of_1.l0] at H
   by_cases c3 : x8_1 < (l0.length : Int)
   ·
    rw [if_pos c3] at H
    have c3b0 : decide (x8_1 < (l0.length : Int)) = true := decide_eq_true c3
    clear c3
    by_cases c4 : 0 ≤ x8_1
    ·
     rw [if_pos c4] at H
     have c4b0 : decide (0 ≤ x8_1) = true := decide_eq_true c4
     clear c4
     by_cases c5 : x8_1 < (l0.length : Int)
     ·
      rw [if_pos c5] at H
      have c5b0 : decide (x8_1 < (l0.length : Int)) = true := decide_eq_true c5
      clear c5
      replace H := Option.bind_eq_some_iff.mp H
      obtain ⟨t346, A60, H⟩ := H
      try dsimp only at H
      have A6 := Aside0.mk A60
      clear A60
      by_cases c7 : t346 = true
      ·
       subst c7
       have H1 : (some x8_1) = some r := by rw [if_pos rfl] at H; exact H
       clear H
       have H := H1
       clear H1
       obtain rfl := Option.some.inj H
       have p345 : 0 ≤ (x8_1 : Int) := dq_
       have q345 : x8_1 < (l0.length : Int) := dq_
       obtain ⟨ad345, e345, hx345_0⟩ := Kd.at_int HR0.out x8_1 p345 q345
       cases e345
       replace p345 := eq_true p345
       replace q345 := eq_true q345
       go_wp2_with (first | (go_at_call 61; (with_reducible refine (dom_Of_1.calls (rd l0 x8_1) true _ A6.out).mono ?_); rintro e w' ⟨rfl, ⟨nd, rfl⟩⟩))
       go_ret
       exact ⟨by first | rfl | (simp; done) | (simp [*]; done), by repeat (first | exact Drawn0.refl _ | apply Drawn0.step)⟩
      ·
       replace c7 := Bool.eq_false_iff.mpr c7
       subst c7
       have H1 : (slices_IndexFunc_int_int_83_at_dom_Of_1.l0 k1 l0 (l0.length : Int) (wrap64 (x8_1 + 1))) = some r := by rw [if_neg (show ¬ (false = true) by decide)] at H; exact H
       clear H
       have H := H1
       clear H1
       have H' := Aside0.mk H
       clear H
       have p345 : 0 ≤ (x8_1 : Int) := dq_
       have q345 : x8_1 < (l0.length : Int) := dq_
       obtain ⟨ad345, e345, hx345_0⟩ := Kd.at_int HR0.out x8_1 p345 q345
       cases e345
       replace p345 := eq_true p345
       replace q345 := eq_true q345
       go_wp2_with (first | (go_at_call 61; (with_reducible refine (dom_Of_1.calls (rd l0 x8_1) false _ A6.out).mono ?_); rintro e w' ⟨rfl, ⟨nd, rfl⟩⟩))
       go_roundg k1
       case measure => have := HK1.out; omega
       case rel => exact ⟨(wrap64 (x8_1 + 1)), eq_, H', ⟨by have := HK1.out; omega⟩, by repeat (first | exact Drawn0.refl _ | apply Drawn0.step)⟩
     ·
      rw [if_neg c5] at H
      exact absurd H (by simp)
    ·
     rw [if_neg c4] at H
     exact absurd H (by simp)
   ·
    rw [if_neg c3] at H
    have c3b0 : decide (x8_1 < (l0.length : Int)) = false := decide_eq_false c3
    clear c3
    obtain rfl := Option.some.inj H
    go_wp2
    go_ret
    exact ⟨by first | rfl | (simp; done) | (simp [*]; done), by repeat (first | exact Drawn0.refl _ | apply Drawn0.step)⟩

/-! ### slices_ContainsFunc_int_int_60_at_dom_Of_1: function 60 -/
def slices_ContainsFunc_int_int_60_at_dom_Of_1.f (k : Nat) (l0 : List Int)  : Option (Bool) := (slices_IndexFunc_int_int_83_at_dom_Of_1.f k l0).bind fun t347 => (some (decide (t347 ≥ 0)))
theorem slices_ContainsFunc_int_int_60_at_dom_Of_1.mono : ∀ a0 k, LeO (slices_ContainsFunc_int_int_60_at_dom_Of_1.f k a0) (slices_ContainsFunc_int_int_60_at_dom_Of_1.f (k + 1) a0) := by
 intro a0 k
 unfold slices_ContainsFunc_int_int_60_at_dom_Of_1.f
 have m0 := @slices_IndexFunc_int_int_83_at_dom_Of_1.mono
 exact leo_
set_option maxHeartbeats 8000000 in
set_option maxRecDepth 100000 in
theorem slices_ContainsFunc_int_int_60_at_dom_Of_1.calls (k : Nat) (A0 : Option Addr) (c0 : Nat) (l0 : List Int)  (r : Bool) (w : World) (hr0 : Kd.C (Kd.int .i64) w A0 l0.length l0) (hc0 : l0.length ≤ c0) (h : slices_ContainsFunc_int_int_60_at_dom_Of_1.f k l0 = some r) :
  Calls Tryz.prog 60 #[.slice A0 l0.length c0, .func (.func 61) #[] #[]] w fun e w' => e = .returned (.bool r) ∧ Drawn0 w w' := by
 have HR0 := Aside0.mk hr0
 have HC0 := Aside0.mk hc0
 clear hr0 hc0
 have H : ((slices_IndexFunc_int_int_83_at_dom_Of_1.f k l0).bind fun t347 => (some (decide (t347 ≥ 0)))) = some r := h
 clear h
 replace H := Option.bind_eq_some_iff.mp H
 obtain ⟨t347, A30, H⟩ := H
 try dsimp only at H
 have A3 := Aside0.mk A30
 clear A30
 obtain rfl := Option.some.inj H
 go_enter Tryz.func60, Tryz.ntmps60
 go_wp2_with (first | ((with_reducible refine gate_callee (f := 83) rfl ?_); refine goesL_ (some 7) rfl rfl Tryz.func83 (by kernel_rfl) rfl #[.slice A0 l0.length c0, .func (.func 61) #[] #[]] rfl ar_ ?_; (with_reducible refine (slices_IndexFunc_int_int_83_at_dom_Of_1.calls k _ _ l0 t347 _ ?_ ?_ A3.out).mono ?_); exact ca_ (HR0.out); exact HC0.out; rintro e w' ⟨rfl, ⟨nd, rfl⟩⟩; refine ⟨_, rfl, ?_⟩))
 go_ret
 exact ⟨by first | rfl | (simp; done) | (simp [*]; done), by repeat (first | exact Drawn0.refl _ | apply Drawn0.step)⟩

end Go.Proofs.YtmhchlbbfpmdgaaGreatDoor.XClauseKeeps
