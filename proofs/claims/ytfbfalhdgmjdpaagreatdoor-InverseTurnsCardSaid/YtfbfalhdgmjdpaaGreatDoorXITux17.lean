-- by xprint.py, a program of this session, over the kit's print
import Derived.Test.YtfbfalhdgmjdpaaGreatDoorXITux0
import Derived.Test.YtfbfalhdgmjdpaaGreatDoorXITux5
import Derived.Test.YtfbfalhdgmjdpaaGreatDoorXITux8
import Derived.Test.YtfbfalhdgmjdpaaGreatDoorXITux9
import Derived.Test.YtfbfalhdgmjdpaaGreatDoorXITux13
import Derived.Test.YtfbfalhdgmjdpaaGreatDoorXITux14
import Derived.Test.YtfbfalhdgmjdpaaGreatDoorXITux15
import Derived.Test.YtfbfalhdgmjdpaaGreatDoorXITux16
import Derived.Test.YtfbfalhdgmjdpaaGreatDoorSq
namespace Go.Proofs.YtfbfalhdgmjdpaaGreatDoor.XInverseTurns
open Go.RowKit Go.Proofs.YtfbfalhdgmjdpaaGreatDoor.Sq Go.Proofs.YtfbfalhdgmjdpaaGreatDoorW.PrintWords Go.Proofs.YtfbfalhdgmjdpaaGreatDoorW.PrintLast Go.Proofs.YtfbfalhdgmjdpaaGreatDoorW.PrintMore
attribute [local go_sem] max2_int min2_int max_two min_two max_three min_three max_four min_four   -- for this text's walks alone
set_option linter.unusedVariables false
set_option linter.unusedSimpArgs false

/-! ### jigsawlaw22_InverseTurns: function 7 -/
mutual
def jigsawlaw22_InverseTurns.j0 : Nat → Int → List (S58) → Bool → List (S58) → Bool → Option (Bool)
 | 0, _, _, _, _, _ => none
 | k + 1, a, c, d, e, b => if b = true then (none) else (jigsawlaw22_InverseTurns.l0 k a c d e a 0)
def jigsawlaw22_InverseTurns.l0 : Nat → Int → List (S58) → Bool → List (S58) → Int → Int → Option (Bool)
 | 0, _, _, _, _, _, _ => none
 | k + 1, b, c, m, d, e, a => if a < e then (if m = true then (if 0 ≤ a then (if a < (c.length : Int) then (if 0 ≤ (wrap64 (b + a)) then (if (wrap64 (b + a)) < (d.length : Int) then ((dom_Dom_Equal.f k ((rd_T58 c a).f0) ((rd_T58 c a).f1) ((rd_T58 c a).f2) ((rd_T58 c a).f3) ((rd_T58 c a).f4) ((rd_T58 d (wrap64 (b + a))).f0) ((rd_T58 d (wrap64 (b + a))).f1) ((rd_T58 d (wrap64 (b + a))).f2) ((rd_T58 d (wrap64 (b + a))).f3) ((rd_T58 d (wrap64 (b + a))).f4)).bind fun g => (if g = true then (if (wrap64 (b + a)) < (c.length : Int) then (if a < (d.length : Int) then ((dom_Dom_Equal.f k ((rd_T58 c (wrap64 (b + a))).f0) ((rd_T58 c (wrap64 (b + a))).f1) ((rd_T58 c (wrap64 (b + a))).f2) ((rd_T58 c (wrap64 (b + a))).f3) ((rd_T58 c (wrap64 (b + a))).f4) ((rd_T58 d a).f0) ((rd_T58 d a).f1) ((rd_T58 d a).f2) ((rd_T58 d a).f3) ((rd_T58 d a).f4)).bind fun l => (if l = true then (jigsawlaw22_InverseTurns.l1 k b c m d a e a b 0) else (none))) else (none)) else (none)) else (none))) else (none)) else (none)) else (none)) else (none)) else (some true)) else (some true)
def jigsawlaw22_InverseTurns.l1 : Nat → Int → List (S58) → Bool → List (S58) → Int → Int → Int → Int → Int → Option (Bool)
 | 0, _, _, _, _, _, _, _, _, _ => none
 | k + 1, d, b, o, p, c, g, l, e, a => if a < e then (if 0 ≤ c then (if c < (b.length : Int) then ((dom_Dom_Has.f ((rd_T58 b c).f0) ((rd_T58 b c).f1) ((rd_T58 b c).f2) ((rd_T58 b c).f3) ((rd_T58 b c).f4) (wrap64 (a + 1))).bind fun m => (if 0 ≤ (wrap64 (d + a)) then (if (wrap64 (d + a)) < (b.length : Int) then ((dom_Dom_Has.f ((rd_T58 b (wrap64 (d + a))).f0) ((rd_T58 b (wrap64 (d + a))).f1) ((rd_T58 b (wrap64 (d + a))).f2) ((rd_T58 b (wrap64 (d + a))).f3) ((rd_T58 b (wrap64 (d + a))).f4) (wrap64 (c + 1))).bind fun n => (if (m != n) = true then (none) else (jigsawlaw22_InverseTurns.l1 k d b o p c g l e (wrap64 (a + 1))))) else (none)) else (none))) else (none)) else (none)) else (jigsawlaw22_InverseTurns.l0 k d b o p g (wrap64 (l + 1)))
end
def jigsawlaw22_InverseTurns.f (k : Nat) (g : Int) (l : List Int) (m : List Int) (n : List Int) (o : Int) (p : Int) (q : List (List Int)) : Option (Bool) := (jigsawref10_Make.f k g l m n o p q 23 5).bind fun a => ((jigsawlaw22_doms.f k a.2.2.2.2.2.2.2.2).bind fun r => ((inverse_Filter.f k a.1 a.2.1 a.2.2.1 a.2.2.2.1 a.2.2.2.2.1 a.2.2.2.2.2.1 a.2.2.2.2.2.2.1 a.2.2.2.2.2.2.2.1 r).bind fun b => (if 0 ≤ (a.2.1.length : Int) then (if (a.2.1.length : Int) ≤ (a.2.2.2.2.2.2.2.2.length : Int) then ((slices_CloneRows.f (a.2.2.2.2.2.2.2.2.drop ((a.2.1.length : Int) : Int).toNat)).bind fun d => ((some (a.2.2.2.2.2.2.2.2.take ((a.2.1.length : Int) : Int).toNat : List (List Int))).bind fun e => (if d.length + e.length < 5864062014805 then ((jigsawlaw22_doms.f k (d ++ e)).bind fun s => ((inverse_Filter.f k 23 a.2.2.1 a.2.1 ([] : List Int) ([] : List Int) ([] : List Int) 0 ([] : List (List Int)) s).bind fun c => ((jigsawlaw22_wakes.f k).bind fun t => (if t = true then (if (b.2 != c.2) = true then (none) else (if b.2 = true then (if (b.1.length : Int) = (wrap64 (2 * (a.2.1.length : Int))) then (jigsawlaw22_InverseTurns.j0 k (a.2.1.length : Int) b.1 b.2 c.1 ((c.1.length : Int) != (wrap64 (2 * (a.2.1.length : Int))))) else (none)) else (jigsawlaw22_InverseTurns.j0 k (a.2.1.length : Int) b.1 b.2 c.1 false))) else (none))))) else (none)))) else (none)) else (none))))
theorem jigsawlaw22_InverseTurns.mono_l : ∀ k, (∀ a b c d e, LeO (jigsawlaw22_InverseTurns.j0 k a b c d e) (jigsawlaw22_InverseTurns.j0 (k + 1) a b c d e)) ∧ (∀ a b c d e f, LeO (jigsawlaw22_InverseTurns.l0 k a b c d e f) (jigsawlaw22_InverseTurns.l0 (k + 1) a b c d e f)) ∧ (∀ a b c d e f g l m, LeO (jigsawlaw22_InverseTurns.l1 k a b c d e f g l m) (jigsawlaw22_InverseTurns.l1 (k + 1) a b c d e f g l m))
 | 0 => by refine ⟨?_, ?_, ?_⟩ <;> (intros; exact LeO.none _)
 | k + 1 => by
  obtain ⟨ih0, ih1, ih2⟩ := jigsawlaw22_InverseTurns.mono_l k
  have m0 := @dom_Dom_Equal.mono
  have m1 := @inverse_Filter.mono
  have m2 := @jigsawlaw22_doms.mono
  have m3 := @jigsawlaw22_wakes.mono
  have m4 := @jigsawref10_Make.mono
  refine ⟨?_, ?_, ?_⟩ <;> intros
  all_goals first | unfold jigsawlaw22_InverseTurns.j0 | unfold jigsawlaw22_InverseTurns.l0 | unfold jigsawlaw22_InverseTurns.l1
  all_goals exact leo_
theorem jigsawlaw22_InverseTurns.mono : ∀ a b c d e g l k, LeO (jigsawlaw22_InverseTurns.f k a b c d e g l) (jigsawlaw22_InverseTurns.f (k + 1) a b c d e g l) := by
 intro a b c d e g l k
 obtain ⟨ih0, ih1, ih2⟩ := jigsawlaw22_InverseTurns.mono_l k
 unfold jigsawlaw22_InverseTurns.f
 have m0 := @dom_Dom_Equal.mono
 have m1 := @inverse_Filter.mono
 have m2 := @jigsawlaw22_doms.mono
 have m3 := @jigsawlaw22_wakes.mono
 have m4 := @jigsawref10_Make.mono
 exact leo_
def jigsawlaw22_InverseTurns.T4 : Bool × List (List Nat × List Nat) := (true, [([], []), ([], []), ([1], [1]), ([0, 2, 2], [0, 2]), ([3], [3]), ([4], [4]), ([4], [4]), ([5, 3, 0, 1, 2, 3, 4, 5], [5]), ([6, 7, 0, 1, 2, 3, 4, 5, 6, 7], [6])])
def jigsawlaw22_InverseTurns.B4 : List Nat := [0, 0, 2, 7, 15, 31, 31, 63, 255]
theorem jigsawlaw22_InverseTurns.tab4 : rtab .any (opsOf Tryz.f7 4) = jigsawlaw22_InverseTurns.T4 := by kernel_rfl
theorem jigsawlaw22_InverseTurns.bits4 : waitsOk jigsawlaw22_InverseTurns.T4.2 jigsawlaw22_InverseTurns.B4 = true := by kernel_rfl
def jigsawlaw22_InverseTurns.T5 : Bool × List (List Nat × List Nat) := (true, [([], []), ([], []), ([], []), ([1, 2], [1, 2]), ([3], [3]), ([], []), ([], []), ([5, 6], [5, 6]), ([4, 7, 4], [4, 7]), ([8, 8], [8]), ([0, 9, 9], [0, 9]), ([10], [10]), ([11], [11]), ([11], [11]), ([12, 10, 0, 1, 2, 3, 4, 5, 6, 7, 8, 9, 10, 11, 12], [12]), ([13, 14, 0, 1, 2, 3, 4, 5, 6, 7, 8, 9, 10, 11, 12, 13, 14], [13])])
def jigsawlaw22_InverseTurns.B5 : List Nat := [0, 0, 0, 6, 14, 0, 0, 96, 254, 510, 1023, 2047, 4095, 4095, 8191, 32767]
theorem jigsawlaw22_InverseTurns.tab5 : rtab .any (opsOf Tryz.f7 5) = jigsawlaw22_InverseTurns.T5 := by kernel_rfl
theorem jigsawlaw22_InverseTurns.bits5 : waitsOk jigsawlaw22_InverseTurns.T5.2 jigsawlaw22_InverseTurns.B5 = true := by kernel_rfl
def jigsawlaw22_InverseTurns.T12 : Bool × List (List Nat × List Nat) := (true, [([], []), ([], []), ([0, 1], [0, 1]), ([2], [2]), ([], []), ([], []), ([], []), ([5, 6], [5, 6]), ([4, 7], [4, 7]), ([8], [8]), ([3, 9], [3, 9]), ([10], [10]), ([11, 10], [11]), ([12], [12]), ([12], [12]), ([12], [12]), ([14, 15, 12], [12, 14, 15]), ([13, 16, 12], [12, 13, 16]), ([17, 12], [12, 17]), ([12], [12]), ([12], [12]), ([19, 20, 12], [12, 19, 20]), ([21, 12], [12, 21]), ([18, 22, 12, 12], [12, 18, 22]), ([23, 12], [12, 23]), ([12, 24], [12, 24])])
def jigsawlaw22_InverseTurns.B12 : List Nat := [0, 0, 3, 7, 0, 0, 0, 96, 240, 496, 1023, 2047, 4095, 8191, 8191, 8191, 57343, 131071, 262143, 8191, 8191, 1581055, 3678207, 8388607, 16777215, 33554431]
theorem jigsawlaw22_InverseTurns.tab12 : rtab .any (opsOf Tryz.f7 12) = jigsawlaw22_InverseTurns.T12 := by kernel_rfl
theorem jigsawlaw22_InverseTurns.bits12 : waitsOk jigsawlaw22_InverseTurns.T12.2 jigsawlaw22_InverseTurns.B12 = true := by kernel_rfl
def jigsawlaw22_InverseTurns.T17 : Bool × List (List Nat × List Nat) := (true, [([], []), ([], []), ([0, 1], [0, 1]), ([2], [2]), ([], []), ([4], [4]), ([3, 5], [3, 5]), ([], []), ([], []), ([], []), ([8, 9], [8, 9]), ([7, 10], [7, 10]), ([11], [11]), ([], []), ([13], [13]), ([12, 14, 6], [12, 14]), ([6, 15], [6, 15])])
def jigsawlaw22_InverseTurns.B17 : List Nat := [0, 0, 3, 7, 0, 16, 63, 0, 0, 0, 768, 1920, 3968, 0, 8192, 32767, 65535]
theorem jigsawlaw22_InverseTurns.tab17 : rtab .any (opsOf Tryz.f7 17) = jigsawlaw22_InverseTurns.T17 := by kernel_rfl
theorem jigsawlaw22_InverseTurns.bits17 : waitsOk jigsawlaw22_InverseTurns.T17.2 jigsawlaw22_InverseTurns.B17 = true := by kernel_rfl
set_option maxHeartbeats 8000000 in
set_option maxRecDepth 100000 in
theorem jigsawlaw22_InverseTurns.calls (k : Nat) (aT : Int) (aY : Option Addr) (c0_1 : Nat) (aK : List Int) (aZ : Option Addr) (c0_2 : Nat) (aM : List Int) (a0 : Option Addr) (c0_3 : Nat) (aN : List Int) (aU : Int) (aV : Int) (a1 : Option Addr) (c0_6 : Nat) (aP : List (List Int)) (r : Bool) (w : World) (dn : Kd.C (Kd.int .u8) w aY aK.length aK) (dp : aK.length ≤ c0_1) (dq : Kd.C (Kd.int .u8) w aZ aM.length aM) (dr : aM.length ≤ c0_2) (dt : Kd.C (Kd.int .i8) w a0 aN.length aN) (du : aN.length ≤ c0_3) (dv : Kd.C (Kd.slice 3 (Kd.int .i64)) w a1 aP.length aP) (dw : aP.length ≤ c0_6) (hrtab : Kd.C (Kd.int .u8) w (some ⟨0, 0, none⟩) tabL.length tabL) (h : jigsawlaw22_InverseTurns.f k aT aK aM aN aU aV aP = some r) :
  Calls Tryz.prog 7 #[.agg #[.int .u8 aT, .slice aY aK.length c0_1, .slice aZ aM.length c0_2, .slice a0 aN.length c0_3, .int .i16 aU, .int .u8 aV, .slice a1 aP.length c0_6]] w fun e w' => e = .returned (.bool r) ∧ Below w.heap.size w w' := by
 have hu29 := Tryz.underlying29
 have hu32 := Tryz.underlying32
 have hu58 := Tryz.underlying58
 have dY := a_ dn
 have dZ := a_ dp
 clear dn dp
 have d0 := a_ dq
 have d1 := a_ dr
 clear dq dr
 have d2 := a_ dt
 have d3 := a_ du
 clear dt du
 have d4 := a_ dv
 have d5 := a_ dw
 clear dv dw
 have HRtab := a_ hrtab
 clear hrtab
 have HB := a_ (Below.refl w.heap.size w)
 unfold jigsawlaw22_InverseTurns.f at h
 have H := h
 clear h
 replace H := bs_.mp H
 obtain ⟨⟨au, b, l, E, G, I, aQ, am, av⟩, ee, H⟩ := H
 try dsimp only at H
 have A2 := a_ ee
 clear ee
 replace H := bo_ H
 obtain ⟨aW, A3, H⟩ := H
 try dsimp only at H
 replace H := bs_.mp H
 obtain ⟨⟨p, az⟩, ef, H⟩ := H
 try dsimp only at H
 have A4 := a_ ef
 clear ef
 by_cases c5 : 0 ≤ (b.length : Int)
 rotate_left
 ·
  rw [ig_ c5] at H
  exact ab_ H
 rw [ip_ c5] at H
 have c5b0 := et_ c5
 have c5b1 : decide (0 ≤ (b.length : Int)) = true := dt_ c5
 clear c5
 by_cases c6 : (b.length : Int) ≤ (av.length : Int)
 rotate_left
 ·
  rw [ig_ c6] at H
  exact ab_ H
 rw [ip_ c6] at H
 have c6b0 := et_ c6
 have c6b1 : decide ((b.length : Int) ≤ (av.length : Int)) = true := dt_ c6
 clear c6
 obtain ⟨a6, bz⟩ : ∃ y_ : List (List Int), y_ = (av.drop ((b.length : Int) : Int).toNat) := ⟨_, rfl⟩
 replace H : ((slices_CloneRows.f a6).bind fun a7 => ((some (av.take ((b.length : Int) : Int).toNat : List (List Int))).bind fun a2 => (if a7.length + a2.length < 5864062014805 then ((jigsawlaw22_doms.f k (a7 ++ a2)).bind fun a8 => ((inverse_Filter.f k 23 l b ([] : List Int) ([] : List Int) ([] : List Int) 0 ([] : List (List Int)) a8).bind fun aH => ((jigsawlaw22_wakes.f k).bind fun bl => (if bl = true then (if (az != aH.2) = true then (none) else (if az = true then (if (p.length : Int) = (wrap64 (2 * (b.length : Int))) then (jigsawlaw22_InverseTurns.j0 k (b.length : Int) p az aH.1 ((aH.1.length : Int) != (wrap64 (2 * (b.length : Int))))) else (none)) else (jigsawlaw22_InverseTurns.j0 k (b.length : Int) p az aH.1 false))) else (none))))) else (none)))) = some r := h2_ H bz
 have dx := a_ bz
 clear bz
 replace H := bo_ H
 obtain ⟨a7, A7, H⟩ := H
 try dsimp only at H
 have c8b0 := et_ (dq_ : 0 ≤ (b.length : Int))
 have c9b0 := et_ (dq_ : (b.length : Int) ≤ (av.length : Int))
 obtain ⟨a2, bA⟩ : ∃ y_ : List (List Int), y_ = (av.take ((b.length : Int) : Int).toNat) := ⟨_, rfl⟩
 replace H : (if a7.length + a2.length < 5864062014805 then ((jigsawlaw22_doms.f k (a7 ++ a2)).bind fun a8 => ((inverse_Filter.f k 23 l b ([] : List Int) ([] : List Int) ([] : List Int) 0 ([] : List (List Int)) a8).bind fun aH => ((jigsawlaw22_wakes.f k).bind fun bl => (if bl = true then (if (az != aH.2) = true then (none) else (if az = true then (if (p.length : Int) = (wrap64 (2 * (b.length : Int))) then (jigsawlaw22_InverseTurns.j0 k (b.length : Int) p az aH.1 ((aH.1.length : Int) != (wrap64 (2 * (b.length : Int))))) else (none)) else (jigsawlaw22_InverseTurns.j0 k (b.length : Int) p az aH.1 false))) else (none))))) else (none)) = some r := h2_ H bA
 have dy := a_ bA
 clear bA
 by_cases c10 : a7.length + a2.length < 5864062014805
 rotate_left
 ·
  rw [ig_ c10] at H
  exact ab_ H
 rw [ip_ c10] at H
 have LMc10 := a_ c10
 clear c10
 obtain ⟨bF, bB⟩ : ∃ y_ : List (List Int), y_ = (a7 ++ a2) := ⟨_, rfl⟩
 replace H : ((jigsawlaw22_doms.f k bF).bind fun a8 => ((inverse_Filter.f k 23 l b ([] : List Int) ([] : List Int) ([] : List Int) 0 ([] : List (List Int)) a8).bind fun aH => ((jigsawlaw22_wakes.f k).bind fun bl => (if bl = true then (if (az != aH.2) = true then (none) else (if az = true then (if (p.length : Int) = (wrap64 (2 * (b.length : Int))) then (jigsawlaw22_InverseTurns.j0 k (b.length : Int) p az aH.1 ((aH.1.length : Int) != (wrap64 (2 * (b.length : Int))))) else (none)) else (jigsawlaw22_InverseTurns.j0 k (b.length : Int) p az aH.1 false))) else (none))))) = some r := h2_ H bB
 have d6 := a_ bB
 clear bB
 replace H := bo_ H
 obtain ⟨a8, eU, H⟩ := H
 try dsimp only at H
 replace H := bs_.mp H
 obtain ⟨⟨W, b6⟩, dL, H⟩ := H
 try dsimp only at H
 have eV := a_ dL
 clear dL
 have dd := a_ H
 clear H
 go_enter Tryz.func7, Tryz.ntmps7
 try go_wp2_with (first | ((with_reducible refine gate_dst (N := 1) rfl ?_); (try (refine gate_guard (by rfl) ?_; dsimp only)); refine bxe_ (N := 1) (cs := #[.int .u8 aT, .slice aY aK.length c0_1, .slice aZ aM.length c0_2, .slice a0 aN.length c0_3, .int .i16 aU, .int .u8 aV, .slice a1 aP.length c0_6]) (t := 29) ?_; intro aa hg w14 hbox hb; have y := a_ (hbox); have d7 := a_ (by rw [hg]; exact (bz_ bel_) : w.heap.size ≤ aa); have e3 := d7; replace HB := hq_ hb; clear hb hbox hg; have eG : w14.cell? ⟨aa, 0, none⟩ = some (.int .u8 aT) := (blk_cell y.out 0).trans rfl; have eH : w14.cell? ⟨aa, 1, none⟩ = some (.slice aY aK.length c0_1) := (blk_cell y.out 1).trans rfl; have eI : w14.cell? ⟨aa, 2, none⟩ = some (.slice aZ aM.length c0_2) := (blk_cell y.out 2).trans rfl; have eJ : w14.cell? ⟨aa, 3, none⟩ = some (.slice a0 aN.length c0_3) := (blk_cell y.out 3).trans rfl; have eK : w14.cell? ⟨aa, 4, none⟩ = some (.int .i16 aU) := (blk_cell y.out 4).trans rfl; have eL : w14.cell? ⟨aa, 5, none⟩ = some (.int .u8 aV) := (blk_cell y.out 5).trans rfl; have eM : w14.cell? ⟨aa, 6, none⟩ = some (.slice a1 aP.length c0_6) := (blk_cell y.out 6).trans rfl; have eN := blk_frozen y.out 0; have eO := blk_frozen y.out 1; have eP := blk_frozen y.out 2; have eQ := blk_frozen y.out 3; have eR := blk_frozen y.out 4; have eS := blk_frozen y.out 5; have eT := blk_frozen y.out 6) | ((with_reducible refine gate_callee (f := 8) rfl ?_); refine goesL_ (some 15) rfl rfl Tryz.func8 kr_ rfl #[.agg #[.int .u8 aT, .slice aY aK.length c0_1, .slice aZ aM.length c0_2, .slice a0 aN.length c0_3, .int .i16 aU, .int .u8 aV, .slice a1 aP.length c0_6], .int .i64 23, .int .i64 5] rfl ar_ ?_; (with_reducible refine (jigsawref10_Make.calls k aT _ _ aK _ _ aM _ _ aN aU aV _ _ aP 23 5 au b l E G I aQ am av _ ?_ ?_ ?_ ?_ ?_ ?_ ?_ ?_ A2.out).mono ?_); exact ca_ ((cb_ dY.out HB.out)); exact dZ.out; exact ca_ ((cb_ d0.out HB.out)); exact d1.out; exact ca_ ((cb_ d2.out HB.out)); exact d3.out; exact ca_ ((cb_ d4.out HB.out)); exact d5.out; rintro e w16 ⟨dM, dN, dO, dP, dQ, eo, de, rfl, ay, eg, eh, ei, ej, ek, el, hb⟩; refine ⟨_, rfl, ?_⟩; have ac := a_ (Kd.R_lower ay (bz_ bel_)); have ad := a_ (Kd.R_lower eg (bz_ bel_)); have af := a_ (Kd.R_lower eh (bz_ bel_)); have ag := a_ (Kd.R_lower ei (bz_ bel_)); have ah := a_ (Kd.R_lower ej (bz_ bel_)); have ai := a_ (Kd.N_lower (nm_ (ok' := fun a => some a ≠ dM.ownBlock ∧ some a ≠ dN.ownBlock ∧ some a ≠ dO.ownBlock ∧ some a ≠ dP.ownBlock ∧ some a ≠ dQ.ownBlock ∧ some a ≠ de.ownBlock ∧ a ≠ aa) (Kd.S_N (Kd.S_bound ek)) (fun a hk_ => ⟨hk_.1.1, hk_.1.2.1, hk_.1.2.2.1, hk_.1.2.2.2.1, hk_.1.2.2.2.2.1, hk_.1.2.2.2.2.2, (Kd.freshB (bk_ y.out) a hk_.2.1)⟩)) (bz_ bel_)); have al := a_ (Kd.N_lower (nm_ (ok' := fun a => some a ≠ dM.ownBlock ∧ some a ≠ dN.ownBlock ∧ some a ≠ dO.ownBlock ∧ some a ≠ dP.ownBlock ∧ some a ≠ dQ.ownBlock ∧ some a ≠ eo.ownBlock ∧ a ≠ aa) (Kd.S_N (Kd.S_bound el)) (fun a hk_ => ⟨hk_.1.1, hk_.1.2.1, hk_.1.2.2.1, hk_.1.2.2.2.1, hk_.1.2.2.2.2.1, hk_.1.2.2.2.2.2, (Kd.freshB (bk_ y.out) a hk_.2.1)⟩)) (bz_ bel_)); replace y := a_ (bq_ y.out hb); replace HB := hq_ hb; clear hb ay eg eh ei ej ek el) | ((with_reducible refine gate_dst (N := 3) rfl ?_); (try (refine gate_guard (by rfl) ?_; dsimp only)); refine bxe_ (N := 3) (cs := #[.int .i64 0, .slice none 0 0, .slice none 0 0, .slice none 0 0, .slice none 0 0, .slice none 0 0, .int .i64 0, .slice none 0 0]) (t := 32) ?_; intro Z hg w17 hbox hb; replace ac := a_ (rb_ (vR_ ac.out) hb); replace ad := a_ (rb_ (vR_ ad.out) hb); replace af := a_ (rb_ (vR_ af.out) hb); replace ag := a_ (rb_ (vR_ ag.out) hb); replace ah := a_ (rb_ (vR_ ah.out) hb); replace ai := a_ (Kd.N_below (Kd.N_elderB (vN_ ai.out) Z (Nat.le_of_eq hg.symm)) hb); replace al := a_ (Kd.N_below (Kd.N_elderB (vN_ al.out) Z (Nat.le_of_eq hg.symm)) hb); have z := a_ (hbox); have d8 := a_ (by rw [hg]; exact (bz_ bel_) : w.heap.size ≤ Z); have e4 := d8; replace HB := hq_ hb; have ab := a_ ((by rw [hg]; exact Nat.ne_of_lt (blk_lt (bk_ y.out)) : aa ≠ Z)); have c8 := a_ ((by rw [hg]; exact Nat.ne_of_gt (blk_lt (bk_ y.out)) : Z ≠ aa)); replace y := a_ (bq_ y.out hb); clear hb hbox hg; have e5 := c8.out; have e6 := ab.out; obtain ⟨_, _, _, _, _, _, _, _, _, _, _, _, _, _, _, _⟩ := cel8_ z.out; obtain ⟨q, s, ep⟩ := Kd.R_slice ac.out; subst ep; obtain ⟨u, v, eq⟩ := Kd.R_slice ad.out; subst eq; obtain ⟨J, M, er⟩ := Kd.R_slice af.out; subst er; obtain ⟨O, Q, es⟩ := Kd.R_slice ag.out; subst es; obtain ⟨X, Y, et⟩ := Kd.R_slice ah.out; subst et; obtain ⟨aq, ar, eu⟩ := Kd.N_slice ai.out; subst eu) | ((with_reducible refine gate_dst (N := 6) rfl ?_); (try (refine gate_guard (by rfl) ?_; dsimp only)); refine bxe_ (N := 6) (cs := #[.int .i64 0, .slice none 0 0, .slice none 0 0, .slice none 0 0, .slice none 0 0, .slice none 0 0, .int .i64 0, .slice none 0 0]) (t := 32) ?_; intro U hg w26 hbox hb; replace ac := a_ (rb_ (by refine vR_ ?_; exact (rm_ (fR_ (fR_ (fR_ (fR_ (fR_ (fR_ (fR_ (fR_ (rt_ ac.out z.out (by decide)))))))))) (fun _ h_ => h_.1))) hb); replace ad := a_ (rb_ (by refine vR_ ?_; exact (rm_ (fR_ (fR_ (fR_ (fR_ (fR_ (fR_ (fR_ (fR_ (rt_ ad.out z.out (by decide)))))))))) (fun _ h_ => h_.1))) hb); replace af := a_ (rb_ (by refine vR_ ?_; exact (rm_ (fR_ (fR_ (fR_ (fR_ (fR_ (fR_ (fR_ (fR_ (rt_ af.out z.out (by decide)))))))))) (fun _ h_ => h_.1))) hb); replace ag := a_ (rb_ (by refine vR_ ?_; exact (rm_ (fR_ (fR_ (fR_ (fR_ (fR_ (fR_ (fR_ (fR_ (rt_ ag.out z.out (by decide)))))))))) (fun _ h_ => h_.1))) hb); replace ah := a_ (rb_ (by refine vR_ ?_; exact (rm_ (fR_ (fR_ (fR_ (fR_ (fR_ (fR_ (fR_ (fR_ (rt_ ah.out z.out (by decide)))))))))) (fun _ h_ => h_.1))) hb); replace ai := a_ (Kd.N_below (Kd.N_elderB (by refine vN_ ?_; exact (nm_ (fN_ (fN_ (fN_ (fN_ (fN_ (fN_ (fN_ (fN_ (nm_ ai.out (fun a hk => (⟨hk, hk.2⟩ : _ ∧ a ≠ Z))))))))))) (fun _ h_ => h_.1))) U (Nat.le_of_eq hg.symm)) hb); replace al := a_ (Kd.N_below (Kd.N_elderB (by refine vN_ ?_; exact (nm_ (fN_ (fN_ (fN_ (fN_ (fN_ (fN_ (fN_ (fN_ (nm_ al.out (fun a hk => (⟨hk, hk.2⟩ : _ ∧ a ≠ Z))))))))))) (fun _ h_ => h_.1))) U (Nat.le_of_eq hg.symm)) hb); have A := a_ (hbox); have d9 := a_ (by rw [hg]; exact (bz_ bel_) : w.heap.size ≤ U); have e7 := d9; replace HB := hq_ hb; have aA := a_ ((by rw [hg]; exact Nat.ne_of_lt (blk_lt (g := aa) (o := .cells #[.int .u8 aT, .slice aY aK.length c0_1, .slice aZ aM.length c0_2, .slice a0 aN.length c0_3, .int .i16 aU, .int .u8 aV, .slice a1 aP.length c0_6] 29 (0, 0)) (by refine bk_ ?_; refine blk_far ?_ ab.out _; refine bk_ ?_; refine blk_far ?_ ab.out _; refine bk_ ?_; refine blk_far ?_ ab.out _; refine bk_ ?_; refine blk_far ?_ ab.out _; refine bk_ ?_; refine blk_far ?_ ab.out _; refine bk_ ?_; refine blk_far ?_ ab.out _; refine bk_ ?_; refine blk_far ?_ ab.out _; refine bk_ ?_; refine blk_far ?_ ab.out _; refine bk_ ?_; exact y.out)) : aa ≠ U)); have c9 := a_ ((by rw [hg]; exact Nat.ne_of_gt (blk_lt (g := aa) (o := .cells #[.int .u8 aT, .slice aY aK.length c0_1, .slice aZ aM.length c0_2, .slice a0 aN.length c0_3, .int .i16 aU, .int .u8 aV, .slice a1 aP.length c0_6] 29 (0, 0)) (by refine bk_ ?_; refine blk_far ?_ ab.out _; refine bk_ ?_; refine blk_far ?_ ab.out _; refine bk_ ?_; refine blk_far ?_ ab.out _; refine bk_ ?_; refine blk_far ?_ ab.out _; refine bk_ ?_; refine blk_far ?_ ab.out _; refine bk_ ?_; refine blk_far ?_ ab.out _; refine bk_ ?_; refine blk_far ?_ ab.out _; refine bk_ ?_; refine blk_far ?_ ab.out _; refine bk_ ?_; exact y.out)) : U ≠ aa)); replace y := a_ (bb_ (g := aa) (o := .cells #[.int .u8 aT, .slice aY aK.length c0_1, .slice aZ aM.length c0_2, .slice a0 aN.length c0_3, .int .i16 aU, .int .u8 aV, .slice a1 aP.length c0_6] 29 (0, 0)) (by refine bk_ ?_; refine blk_far ?_ ab.out _; refine bk_ ?_; refine blk_far ?_ ab.out _; refine bk_ ?_; refine blk_far ?_ ab.out _; refine bk_ ?_; refine blk_far ?_ ab.out _; refine bk_ ?_; refine blk_far ?_ ab.out _; refine bk_ ?_; refine blk_far ?_ ab.out _; refine bk_ ?_; refine blk_far ?_ ab.out _; refine bk_ ?_; refine blk_far ?_ ab.out _; refine bk_ ?_; exact y.out) hb); have aC := a_ ((by rw [hg]; exact Nat.ne_of_lt (blk_lt (g := Z) (o := .cells #[.int .i64 au, .slice q b.length s, .slice u l.length v, .slice J E.length M, .slice O G.length Q, .slice X I.length Y, .int .i64 aQ, .slice aq am.length ar] 32 (0, 0)) (by refine bk_ ?_; refine bu_ (cs := #[.int .i64 au, .slice q b.length s, .slice u l.length v, .slice J E.length M, .slice O G.length Q, .slice X I.length Y, .int .i64 aQ, .slice none 0 0]) ?_ 7 _ rfl; refine bk_ ?_; refine bu_ (cs := #[.int .i64 au, .slice q b.length s, .slice u l.length v, .slice J E.length M, .slice O G.length Q, .slice X I.length Y, .int .i64 0, .slice none 0 0]) ?_ 6 _ rfl; refine bk_ ?_; refine bu_ (cs := #[.int .i64 au, .slice q b.length s, .slice u l.length v, .slice J E.length M, .slice O G.length Q, .slice none 0 0, .int .i64 0, .slice none 0 0]) ?_ 5 _ rfl; refine bk_ ?_; refine bu_ (cs := #[.int .i64 au, .slice q b.length s, .slice u l.length v, .slice J E.length M, .slice none 0 0, .slice none 0 0, .int .i64 0, .slice none 0 0]) ?_ 4 _ rfl; refine bk_ ?_; refine bu_ (cs := #[.int .i64 au, .slice q b.length s, .slice u l.length v, .slice none 0 0, .slice none 0 0, .slice none 0 0, .int .i64 0, .slice none 0 0]) ?_ 3 _ rfl; refine bk_ ?_; refine bu_ (cs := #[.int .i64 au, .slice q b.length s, .slice none 0 0, .slice none 0 0, .slice none 0 0, .slice none 0 0, .int .i64 0, .slice none 0 0]) ?_ 2 _ rfl; refine bk_ ?_; refine bu_ (cs := #[.int .i64 au, .slice none 0 0, .slice none 0 0, .slice none 0 0, .slice none 0 0, .slice none 0 0, .int .i64 0, .slice none 0 0]) ?_ 1 _ rfl; refine bk_ ?_; refine bu_ (cs := #[.int .i64 0, .slice none 0 0, .slice none 0 0, .slice none 0 0, .slice none 0 0, .slice none 0 0, .int .i64 0, .slice none 0 0]) ?_ 0 _ rfl; refine bk_ ?_; exact z.out)) : Z ≠ U)); have da := a_ ((by rw [hg]; exact Nat.ne_of_gt (blk_lt (g := Z) (o := .cells #[.int .i64 au, .slice q b.length s, .slice u l.length v, .slice J E.length M, .slice O G.length Q, .slice X I.length Y, .int .i64 aQ, .slice aq am.length ar] 32 (0, 0)) (by refine bk_ ?_; refine bu_ (cs := #[.int .i64 au, .slice q b.length s, .slice u l.length v, .slice J E.length M, .slice O G.length Q, .slice X I.length Y, .int .i64 aQ, .slice none 0 0]) ?_ 7 _ rfl; refine bk_ ?_; refine bu_ (cs := #[.int .i64 au, .slice q b.length s, .slice u l.length v, .slice J E.length M, .slice O G.length Q, .slice X I.length Y, .int .i64 0, .slice none 0 0]) ?_ 6 _ rfl; refine bk_ ?_; refine bu_ (cs := #[.int .i64 au, .slice q b.length s, .slice u l.length v, .slice J E.length M, .slice O G.length Q, .slice none 0 0, .int .i64 0, .slice none 0 0]) ?_ 5 _ rfl; refine bk_ ?_; refine bu_ (cs := #[.int .i64 au, .slice q b.length s, .slice u l.length v, .slice J E.length M, .slice none 0 0, .slice none 0 0, .int .i64 0, .slice none 0 0]) ?_ 4 _ rfl; refine bk_ ?_; refine bu_ (cs := #[.int .i64 au, .slice q b.length s, .slice u l.length v, .slice none 0 0, .slice none 0 0, .slice none 0 0, .int .i64 0, .slice none 0 0]) ?_ 3 _ rfl; refine bk_ ?_; refine bu_ (cs := #[.int .i64 au, .slice q b.length s, .slice none 0 0, .slice none 0 0, .slice none 0 0, .slice none 0 0, .int .i64 0, .slice none 0 0]) ?_ 2 _ rfl; refine bk_ ?_; refine bu_ (cs := #[.int .i64 au, .slice none 0 0, .slice none 0 0, .slice none 0 0, .slice none 0 0, .slice none 0 0, .int .i64 0, .slice none 0 0]) ?_ 1 _ rfl; refine bk_ ?_; refine bu_ (cs := #[.int .i64 0, .slice none 0 0, .slice none 0 0, .slice none 0 0, .slice none 0 0, .slice none 0 0, .int .i64 0, .slice none 0 0]) ?_ 0 _ rfl; refine bk_ ?_; exact z.out)) : U ≠ Z)); replace z := a_ (bb_ (g := Z) (o := .cells #[.int .i64 au, .slice q b.length s, .slice u l.length v, .slice J E.length M, .slice O G.length Q, .slice X I.length Y, .int .i64 aQ, .slice aq am.length ar] 32 (0, 0)) (by refine bk_ ?_; refine bu_ (cs := #[.int .i64 au, .slice q b.length s, .slice u l.length v, .slice J E.length M, .slice O G.length Q, .slice X I.length Y, .int .i64 aQ, .slice none 0 0]) ?_ 7 _ rfl; refine bk_ ?_; refine bu_ (cs := #[.int .i64 au, .slice q b.length s, .slice u l.length v, .slice J E.length M, .slice O G.length Q, .slice X I.length Y, .int .i64 0, .slice none 0 0]) ?_ 6 _ rfl; refine bk_ ?_; refine bu_ (cs := #[.int .i64 au, .slice q b.length s, .slice u l.length v, .slice J E.length M, .slice O G.length Q, .slice none 0 0, .int .i64 0, .slice none 0 0]) ?_ 5 _ rfl; refine bk_ ?_; refine bu_ (cs := #[.int .i64 au, .slice q b.length s, .slice u l.length v, .slice J E.length M, .slice none 0 0, .slice none 0 0, .int .i64 0, .slice none 0 0]) ?_ 4 _ rfl; refine bk_ ?_; refine bu_ (cs := #[.int .i64 au, .slice q b.length s, .slice u l.length v, .slice none 0 0, .slice none 0 0, .slice none 0 0, .int .i64 0, .slice none 0 0]) ?_ 3 _ rfl; refine bk_ ?_; refine bu_ (cs := #[.int .i64 au, .slice q b.length s, .slice none 0 0, .slice none 0 0, .slice none 0 0, .slice none 0 0, .int .i64 0, .slice none 0 0]) ?_ 2 _ rfl; refine bk_ ?_; refine bu_ (cs := #[.int .i64 au, .slice none 0 0, .slice none 0 0, .slice none 0 0, .slice none 0 0, .slice none 0 0, .int .i64 0, .slice none 0 0]) ?_ 1 _ rfl; refine bk_ ?_; refine bu_ (cs := #[.int .i64 0, .slice none 0 0, .slice none 0 0, .slice none 0 0, .slice none 0 0, .slice none 0 0, .int .i64 0, .slice none 0 0]) ?_ 0 _ rfl; refine bk_ ?_; exact z.out) hb); clear hb hbox hg; have e8 := c9.out; have e9 := aA.out; have fa := da.out; have fb := aC.out; obtain ⟨_, _, _, _, _, _, _, _, _, _, _, _, _, _, _, _⟩ := cel8_ A.out))
 obtain ⟨w30, hq_⟩ : ∃ x, x = ((((((((w26.setCell ⟨U, 0, none⟩ (.int .i64 23)).setCell ⟨U, 1, none⟩ (.slice u l.length v)).setCell ⟨U, 2, none⟩ (.slice q b.length s)).setCell ⟨U, 3, none⟩ (.slice none 0 0)).setCell ⟨U, 4, none⟩ (.slice none 0 0)).setCell ⟨U, 5, none⟩ (.slice none 0 0)).setCell ⟨U, 6, none⟩ (.int .i64 0)).setCell ⟨U, 7, none⟩ (.slice none 0 0)) := ⟨_, rfl⟩
 replace ac : Aside0 (Kd.R (Kd.int .i64) 3 w30 w.heap.size (fun a => some a ≠ (.slice u l.length v : Value).ownBlock ∧ some a ≠ (.slice J E.length M : Value).ownBlock ∧ some a ≠ (.slice O G.length Q : Value).ownBlock ∧ some a ≠ (.slice X I.length Y : Value).ownBlock) (.slice q b.length s) b) := ⟨by subst hq_; refine vR_ ?_; exact rm_ (fR_ (fR_ (fR_ (fR_ (fR_ (fR_ (fR_ (fR_ (rt_ ac.out A.out (by decide)))))))))) (fun _ hk => ⟨hk.1.1, ⟨hk.1.2.1, ⟨hk.1.2.2.1, hk.1.2.2.2⟩⟩⟩)⟩
 replace ad : Aside0 (Kd.R (Kd.int .i64) 3 w30 w.heap.size (fun a => some a ≠ (.slice q b.length s : Value).ownBlock ∧ some a ≠ (.slice J E.length M : Value).ownBlock ∧ some a ≠ (.slice O G.length Q : Value).ownBlock ∧ some a ≠ (.slice X I.length Y : Value).ownBlock) (.slice u l.length v) l) := ⟨by subst hq_; refine vR_ ?_; exact rm_ (fR_ (fR_ (fR_ (fR_ (fR_ (fR_ (fR_ (fR_ (rt_ ad.out A.out (by decide)))))))))) (fun _ hk => ⟨hk.1.1, ⟨hk.1.2.1, ⟨hk.1.2.2.1, hk.1.2.2.2⟩⟩⟩)⟩
 replace af : Aside0 (Kd.R (Kd.int .i64) 3 w30 w.heap.size (fun a => some a ≠ (.slice q b.length s : Value).ownBlock ∧ some a ≠ (.slice u l.length v : Value).ownBlock ∧ some a ≠ (.slice O G.length Q : Value).ownBlock ∧ some a ≠ (.slice X I.length Y : Value).ownBlock) (.slice J E.length M) E) := ⟨by subst hq_; refine vR_ ?_; exact rm_ (fR_ (fR_ (fR_ (fR_ (fR_ (fR_ (fR_ (fR_ (rt_ af.out A.out (by decide)))))))))) (fun _ hk => ⟨hk.1.1, ⟨hk.1.2.1, ⟨hk.1.2.2.1, hk.1.2.2.2⟩⟩⟩)⟩
 replace ag : Aside0 (Kd.R (Kd.int .i64) 3 w30 w.heap.size (fun a => some a ≠ (.slice q b.length s : Value).ownBlock ∧ some a ≠ (.slice u l.length v : Value).ownBlock ∧ some a ≠ (.slice J E.length M : Value).ownBlock ∧ some a ≠ (.slice X I.length Y : Value).ownBlock) (.slice O G.length Q) G) := ⟨by subst hq_; refine vR_ ?_; exact rm_ (fR_ (fR_ (fR_ (fR_ (fR_ (fR_ (fR_ (fR_ (rt_ ag.out A.out (by decide)))))))))) (fun _ hk => ⟨hk.1.1, ⟨hk.1.2.1, ⟨hk.1.2.2.1, hk.1.2.2.2⟩⟩⟩)⟩
 replace ah : Aside0 (Kd.R (Kd.int .i64) 3 w30 w.heap.size (fun a => some a ≠ (.slice q b.length s : Value).ownBlock ∧ some a ≠ (.slice u l.length v : Value).ownBlock ∧ some a ≠ (.slice J E.length M : Value).ownBlock ∧ some a ≠ (.slice O G.length Q : Value).ownBlock) (.slice X I.length Y) I) := ⟨by subst hq_; refine vR_ ?_; exact rm_ (fR_ (fR_ (fR_ (fR_ (fR_ (fR_ (fR_ (fR_ (rt_ ah.out A.out (by decide)))))))))) (fun _ hk => ⟨hk.1.1, ⟨hk.1.2.1, ⟨hk.1.2.2.1, hk.1.2.2.2⟩⟩⟩)⟩
 replace ai : Aside0 (Kd.N (Kd.slice 3 (Kd.int .i64)) 30 w30 w.heap.size (fun a => some a ≠ (.slice q b.length s : Value).ownBlock ∧ some a ≠ (.slice u l.length v : Value).ownBlock ∧ some a ≠ (.slice J E.length M : Value).ownBlock ∧ some a ≠ (.slice O G.length Q : Value).ownBlock ∧ some a ≠ (.slice X I.length Y : Value).ownBlock ∧ some a ≠ de.ownBlock ∧ a ≠ aa ∧ a ≠ Z ∧ a ≠ U) (.slice aq am.length ar) am) := ⟨by subst hq_; refine vN_ ?_; exact nm_ (fN_ (fN_ (fN_ (fN_ (fN_ (fN_ (fN_ (fN_ (nm_ ai.out (fun a hk => (⟨hk, hk.2⟩ : _ ∧ a ≠ U))))))))))) (fun _ hk => ⟨hk.1.1.1.1, ⟨hk.1.1.1.2.1, ⟨hk.1.1.1.2.2.1, ⟨hk.1.1.1.2.2.2.1, ⟨hk.1.1.1.2.2.2.2.1, ⟨hk.1.1.1.2.2.2.2.2.1, ⟨hk.1.1.1.2.2.2.2.2.2, ⟨hk.1.1.2, hk.1.2⟩⟩⟩⟩⟩⟩⟩⟩)⟩
 replace al : Aside0 (Kd.N (Kd.slice 3 (Kd.int .i64)) 30 w30 w.heap.size (fun a => some a ≠ (.slice q b.length s : Value).ownBlock ∧ some a ≠ (.slice u l.length v : Value).ownBlock ∧ some a ≠ (.slice J E.length M : Value).ownBlock ∧ some a ≠ (.slice O G.length Q : Value).ownBlock ∧ some a ≠ (.slice X I.length Y : Value).ownBlock ∧ some a ≠ (.slice aq am.length ar : Value).ownBlock ∧ a ≠ aa ∧ a ≠ Z ∧ a ≠ U) de av) := ⟨by subst hq_; refine vN_ ?_; exact nm_ (fN_ (fN_ (fN_ (fN_ (fN_ (fN_ (fN_ (fN_ (nm_ al.out (fun a hk => (⟨hk, hk.2⟩ : _ ∧ a ≠ U))))))))))) (fun _ hk => ⟨hk.1.1.1.1, ⟨hk.1.1.1.2.1, ⟨hk.1.1.1.2.2.1, ⟨hk.1.1.1.2.2.2.1, ⟨hk.1.1.1.2.2.2.2.1, ⟨hk.1.1.1.2.2.2.2.2.1, ⟨hk.1.1.1.2.2.2.2.2.2, ⟨hk.1.1.2, hk.1.2⟩⟩⟩⟩⟩⟩⟩⟩)⟩
 replace y : Aside0 (w30.heap[aa]? = some (.cells #[.int .u8 aT, .slice aY aK.length c0_1, .slice aZ aM.length c0_2, .slice a0 aN.length c0_3, .int .i16 aU, .int .u8 aV, .slice a1 aP.length c0_6] 29 (0, 0))) := ⟨by subst hq_; refine bk_ ?_; refine blk_far ?_ aA.out _; refine bk_ ?_; refine blk_far ?_ aA.out _; refine bk_ ?_; refine blk_far ?_ aA.out _; refine bk_ ?_; refine blk_far ?_ aA.out _; refine bk_ ?_; refine blk_far ?_ aA.out _; refine bk_ ?_; refine blk_far ?_ aA.out _; refine bk_ ?_; refine blk_far ?_ aA.out _; refine bk_ ?_; refine blk_far ?_ aA.out _; refine bk_ ?_; exact y.out⟩
 replace z : Aside0 (w30.heap[Z]? = some (.cells #[.int .i64 au, .slice q b.length s, .slice u l.length v, .slice J E.length M, .slice O G.length Q, .slice X I.length Y, .int .i64 aQ, .slice aq am.length ar] 32 (0, 0))) := ⟨by subst hq_; refine bk_ ?_; refine blk_far ?_ aC.out _; refine bk_ ?_; refine blk_far ?_ aC.out _; refine bk_ ?_; refine blk_far ?_ aC.out _; refine bk_ ?_; refine blk_far ?_ aC.out _; refine bk_ ?_; refine blk_far ?_ aC.out _; refine bk_ ?_; refine blk_far ?_ aC.out _; refine bk_ ?_; refine blk_far ?_ aC.out _; refine bk_ ?_; refine blk_far ?_ aC.out _; refine bk_ ?_; exact z.out⟩
 replace A : Aside0 (w30.heap[U]? = some (.cells #[.int .i64 23, .slice u l.length v, .slice q b.length s, .slice none 0 0, .slice none 0 0, .slice none 0 0, .int .i64 0, .slice none 0 0] 32 (0, 0))) := ⟨by subst hq_; refine bk_ ?_; refine bu_ (cs := #[.int .i64 23, .slice u l.length v, .slice q b.length s, .slice none 0 0, .slice none 0 0, .slice none 0 0, .int .i64 0, .slice none 0 0]) ?_ 7 _ rfl; refine bk_ ?_; refine bu_ (cs := #[.int .i64 23, .slice u l.length v, .slice q b.length s, .slice none 0 0, .slice none 0 0, .slice none 0 0, .int .i64 0, .slice none 0 0]) ?_ 6 _ rfl; refine bk_ ?_; refine bu_ (cs := #[.int .i64 23, .slice u l.length v, .slice q b.length s, .slice none 0 0, .slice none 0 0, .slice none 0 0, .int .i64 0, .slice none 0 0]) ?_ 5 _ rfl; refine bk_ ?_; refine bu_ (cs := #[.int .i64 23, .slice u l.length v, .slice q b.length s, .slice none 0 0, .slice none 0 0, .slice none 0 0, .int .i64 0, .slice none 0 0]) ?_ 4 _ rfl; refine bk_ ?_; refine bu_ (cs := #[.int .i64 23, .slice u l.length v, .slice q b.length s, .slice none 0 0, .slice none 0 0, .slice none 0 0, .int .i64 0, .slice none 0 0]) ?_ 3 _ rfl; refine bk_ ?_; refine bu_ (cs := #[.int .i64 23, .slice u l.length v, .slice none 0 0, .slice none 0 0, .slice none 0 0, .slice none 0 0, .int .i64 0, .slice none 0 0]) ?_ 2 _ rfl; refine bk_ ?_; refine bu_ (cs := #[.int .i64 23, .slice none 0 0, .slice none 0 0, .slice none 0 0, .slice none 0 0, .slice none 0 0, .int .i64 0, .slice none 0 0]) ?_ 1 _ rfl; refine bk_ ?_; refine bu_ (cs := #[.int .i64 0, .slice none 0 0, .slice none 0 0, .slice none 0 0, .slice none 0 0, .slice none 0 0, .int .i64 0, .slice none 0 0]) ?_ 0 _ rfl; refine bk_ ?_; exact A.out⟩
 replace HB : Aside0 (Below w.heap.size w w30) := ⟨by subst hq_; exact bel_⟩
 rw [← hq_]
 clear hq_
 replace ac := a_ (Kd.R_drew ac.out)
 replace ad := a_ (Kd.R_drew ad.out)
 replace af := a_ (Kd.R_drew af.out)
 replace ag := a_ (Kd.R_drew ag.out)
 replace ah := a_ (Kd.R_drew ah.out)
 replace ai := a_ (Kd.N_drew ai.out)
 replace al := a_ (Kd.N_drew al.out)
 replace y := a_ (blk_drew y.out)
 replace z := a_ (blk_drew z.out)
 replace A := a_ (blk_drew A.out)
 replace HB := a_ (below_drew1 HB.out)
 obtain ⟨aI, aE, dR⟩ := Kd.N_slice al.out
 (first | subst dR | (injection dR with f1_ f2_ f3_; have f4_ := f1_.symm; have f5_ := f3_.symm; clear f1_ f2_ f3_; subst f4_; subst f5_))
 refine start_ (n := 9) (S := fun w' => w'.cell? ⟨Z, 0, none⟩ = some (.int .i64 au) ∧ w'.cell? ⟨Z, 1, none⟩ = some (.slice q b.length s) ∧ w'.cell? ⟨Z, 2, none⟩ = some (.slice u l.length v) ∧ w'.cell? ⟨Z, 3, none⟩ = some (.slice J E.length M) ∧ w'.cell? ⟨Z, 4, none⟩ = some (.slice O G.length Q) ∧ w'.cell? ⟨Z, 5, none⟩ = some (.slice X I.length Y) ∧ w'.cell? ⟨Z, 6, none⟩ = some (.int .i64 aQ) ∧ w'.cell? ⟨Z, 7, none⟩ = some (.slice aq am.length ar)) (ds := []) #[false, false, false, false, false, false, false, false, false] kr_ rfl rfl (ca8_ z.out) (fun hHeld => ?_); refine with_tabW jigsawlaw22_InverseTurns.tab4 jigsawlaw22_InverseTurns.bits4 (fun HT_ HW_ => ?_)
 generalize w30.drew = w31 at ac ad af ag ah ai al y z A HB hHeld ⊢
 refine pn_ 1 28 ao_ ?_
 refine tn_ 0 27 tw_ hHeld ?_
 refine onn_ 2 29 #[true, true, true, false, false, false, false, false, false] rfl rfl on_ (by decide) (fun K hK => ?_)
 refine goes_ Tryz.func11 kr_ rfl #[.slice aI av.length aE] (by rfl) rfl rfl ar_ ?_
 with_reducible refine (jigsawlaw22_doms.calls k _ _ av aW _ ?_ ?_ ?_ A3.out).mono ?_
 exact ca_ ((Kd.N_reads' al.out).2.2)
 exact (Kd.N_reads' al.out).2.1
 exact ca_ ((cb_ HRtab.out HB.out))
 rintro e w33 ⟨fi, rfl, ay, hb⟩
 refine ⟨_, rfl, ?_⟩
 have aD := a_ (Kd.N_lower (nm_ (ok' := fun a => some a ≠ (.slice q b.length s : Value).ownBlock ∧ some a ≠ (.slice u l.length v : Value).ownBlock ∧ some a ≠ (.slice J E.length M : Value).ownBlock ∧ some a ≠ (.slice O G.length Q : Value).ownBlock ∧ some a ≠ (.slice X I.length Y : Value).ownBlock ∧ some a ≠ (.slice aq am.length ar : Value).ownBlock ∧ some a ≠ (.slice aI av.length aE : Value).ownBlock ∧ a ≠ aa ∧ a ≠ Z ∧ a ≠ U) ay (fun a hk_ => ⟨(fr_ (rl_ (vR_ ac.out)) a hk_), (fr_ (rl_ (vR_ ad.out)) a hk_), (fr_ (rl_ (vR_ af.out)) a hk_), (fr_ (rl_ (vR_ ag.out)) a hk_), (fr_ (rl_ (vR_ ah.out)) a hk_), (fr_ (Kd.N_lt (vN_ ai.out)) a hk_), (fr_ (Kd.N_lt (vN_ al.out)) a hk_), (Kd.freshB (bk_ y.out) a hk_), (Kd.freshB (bk_ z.out) a hk_), (Kd.freshB (bk_ A.out) a hk_)⟩)) (bz_ bel_))
 replace ac := a_ (rb_ (vR_ ac.out) hb)
 replace ad := a_ (rb_ (vR_ ad.out) hb)
 replace af := a_ (rb_ (vR_ af.out) hb)
 replace ag := a_ (rb_ (vR_ ag.out) hb)
 replace ah := a_ (rb_ (vR_ ah.out) hb)
 replace ai := a_ (Kd.N_elder' (vN_ ai.out) (Kd.N_base ay) hb)
 replace al := a_ (Kd.N_elder' (vN_ al.out) (Kd.N_base ay) hb)
 replace y := a_ (bq_ y.out hb)
 replace z := a_ (bq_ z.out hb)
 replace A := a_ (bq_ A.out hb)
 replace HB := hq_ hb
 clear hb ay
 obtain ⟨a4, a5, dS⟩ := Kd.N_slice aD.out
 (first | subst dS | (injection dS with f1_ f2_ f3_; have f4_ := f1_.symm; have f5_ := f3_.symm; clear f1_ f2_ f3_; subst f4_; subst f5_))
 refine hK.out _ _ (ca8_ z.out) (fun hHeld => ?_)
 clear hK K
 refine nor_ (N := some 29) ?_
 refine onn_ 3 30 #[true, true, true, true, false, false, false, false, false] rfl rfl on_ (by decide) (fun K hK => ?_)
 refine goes_ Tryz.func10 kr_ rfl #[.agg #[.int .i64 au, .slice q b.length s, .slice u l.length v, .slice J E.length M, .slice O G.length Q, .slice X I.length Y, .int .i64 aQ, .slice aq am.length ar], .slice a4 aW.length a5] (by rfl) rfl rfl ar_ ?_
 with_reducible refine (inverse_Filter.calls k au _ _ b _ _ l _ _ E _ _ G _ _ I aQ _ _ am (fun a => (some a ≠ (.slice q b.length s : Value).ownBlock ∧ (some a ≠ (.slice u l.length v : Value).ownBlock ∧ (some a ≠ (.slice J E.length M : Value).ownBlock ∧ (some a ≠ (.slice O G.length Q : Value).ownBlock ∧ (some a ≠ (.slice X I.length Y : Value).ownBlock ∧ (some a ≠ (.slice aq am.length ar : Value).ownBlock ∧ (some a ≠ (.slice aI av.length aE : Value).ownBlock ∧ (a ≠ aa ∧ (a ≠ Z ∧ a ≠ U)))))))))) _ _ aW p az _ ?_ ?_ ?_ ?_ ?_ ?_ ?_ ?_ ?_ ?_ ?_ ?_ ?_ ?_ A4.out).mono ?_
 exact ca_ ((rr_ ac.out).2.2)
 exact (rr_ ac.out).2.1
 exact ca_ ((rr_ ad.out).2.2)
 exact (rr_ ad.out).2.1
 exact ca_ ((rr_ af.out).2.2)
 exact (rr_ af.out).2.1
 exact ca_ ((rr_ ag.out).2.2)
 exact (rr_ ag.out).2.1
 exact ca_ ((rr_ ah.out).2.2)
 exact (rr_ ah.out).2.1
 exact ca_ ((Kd.N_reads' ai.out).2.2)
 exact (Kd.N_reads' ai.out).2.1
 exact Kd.N_V (aD.out)
 exact ca_ ((cb_ HRtab.out HB.out))
 rintro e w35 ⟨aJ, rfl, ay, hb⟩
 refine ⟨_, rfl, ?_⟩
 replace aD := a_ (Kd.N_elder' (vN_ aD.out) (Kd.N_base ay) hb)
 have aw := a_ (Kd.N_lower (nm_ (ok' := fun a => some a ≠ (.slice q b.length s : Value).ownBlock ∧ some a ≠ (.slice u l.length v : Value).ownBlock ∧ some a ≠ (.slice J E.length M : Value).ownBlock ∧ some a ≠ (.slice O G.length Q : Value).ownBlock ∧ some a ≠ (.slice X I.length Y : Value).ownBlock ∧ some a ≠ (.slice aq am.length ar : Value).ownBlock ∧ some a ≠ (.slice aI av.length aE : Value).ownBlock ∧ a ≠ aa ∧ a ≠ Z ∧ a ≠ U) ay (fun a hk_ => ⟨Or.elim hk_ (fun hs_ => hs_.1) (fun hn_ => (fr_ (rl_ (vR_ ac.out)) a hn_)), Or.elim hk_ (fun hs_ => hs_.2.1) (fun hn_ => (fr_ (rl_ (vR_ ad.out)) a hn_)), Or.elim hk_ (fun hs_ => hs_.2.2.1) (fun hn_ => (fr_ (rl_ (vR_ af.out)) a hn_)), Or.elim hk_ (fun hs_ => hs_.2.2.2.1) (fun hn_ => (fr_ (rl_ (vR_ ag.out)) a hn_)), Or.elim hk_ (fun hs_ => hs_.2.2.2.2.1) (fun hn_ => (fr_ (rl_ (vR_ ah.out)) a hn_)), Or.elim hk_ (fun hs_ => hs_.2.2.2.2.2.1) (fun hn_ => (fr_ (Kd.N_lt (vN_ ai.out)) a hn_)), Or.elim hk_ (fun hs_ => hs_.2.2.2.2.2.2.1) (fun hn_ => (fr_ (Kd.N_lt (vN_ al.out)) a hn_)), Or.elim hk_ (fun hs_ => hs_.2.2.2.2.2.2.2.1) (fun hn_ => (Kd.freshB (bk_ y.out) a hn_)), Or.elim hk_ (fun hs_ => hs_.2.2.2.2.2.2.2.2.1) (fun hn_ => (Kd.freshB (bk_ z.out) a hn_)), Or.elim hk_ (fun hs_ => hs_.2.2.2.2.2.2.2.2.2) (fun hn_ => (Kd.freshB (bk_ A.out) a hn_))⟩)) (bz_ bel_))
 replace ac := a_ (rb_ (vR_ ac.out) hb)
 replace ad := a_ (rb_ (vR_ ad.out) hb)
 replace af := a_ (rb_ (vR_ af.out) hb)
 replace ag := a_ (rb_ (vR_ ag.out) hb)
 replace ah := a_ (rb_ (vR_ ah.out) hb)
 replace ai := a_ (Kd.N_elder' (vN_ ai.out) (Kd.N_base ay) hb)
 replace al := a_ (Kd.N_elder' (vN_ al.out) (Kd.N_base ay) hb)
 replace y := a_ (bq_ y.out hb)
 replace z := a_ (bq_ z.out hb)
 replace A := a_ (bq_ A.out hb)
 replace HB := hq_ hb
 clear hb ay
 refine hK.out _ _ (ca8_ z.out) (fun hHeld => ?_)
 clear hK K
 refine nor_ (N := some 30) ?_
 refine pn_ 4 26 ao_ ?_
 refine pn_ 5 31 ao_ ?_
 refine pn_ 6 32 ao_ ?_
 refine pn_ 7 7 ao_ ?_
 refine pn_ 8 8 ao_ ?_
 refine done_ dn_ ?_
 try go_wp2
 replace ac := a_ (Kd.R_drew ac.out)
 replace ad := a_ (Kd.R_drew ad.out)
 replace af := a_ (Kd.R_drew af.out)
 replace ag := a_ (Kd.R_drew ag.out)
 replace ah := a_ (Kd.R_drew ah.out)
 replace ai := a_ (Kd.N_drew ai.out)
 replace al := a_ (Kd.N_drew al.out)
 replace aD := a_ (Kd.N_drew aD.out)
 replace aw := a_ (Kd.N_drew aw.out)
 replace y := a_ (blk_drew y.out)
 replace z := a_ (blk_drew z.out)
 replace A := a_ (blk_drew A.out)
 replace HB := a_ (below_drew1 HB.out)
 have b7 : ((b.length : Int) : Int) ≤ ((av.length : Int) : Int) := dq_
 obtain ⟨i037, dz, _, hsz37, _⟩ := info_parts info30
 have hroom37 : av.length ≤ aE := (Kd.N_reads' al.out).2.1
 have hC37 : Kd.F (Kd.slice 3 (Kd.int .i64)) _ _ aI av.length av := (Kd.V_at (base := w.heap.size) (Kd.N_V al.out)).2.2
 have df : (0 : Int) ≤ ((b.length : Int) : Int) := dq_
 have hcut37 := cut_from (P := Tryz.prog) 27 30 .i64 Tryz.underlying27 dz 1 hsz37 aI av.length aE (b.length : Int) df b7
 have b8 := Kd.F_cut (m := ((b.length : Int) : Int).toNat) (c := aE) hC37 (by omega) hroom37
 obtain ⟨dT, hA37⟩ : ∃ eW, eW = (if aE = ((b.length : Int) : Int).toNat then aI else (aI : Option Addr).map (·.add (((b.length : Int) : Int).toNat * 1))) := ⟨_, rfl⟩
 obtain ⟨c37, cM⟩ : ∃ c1_, c1_ = aE - ((b.length : Int) : Int).toNat := ⟨_, rfl⟩
 have b9 : a6.length = av.length - ((b.length : Int) : Int).toNat := (by rw [dx.out, List.length_drop] <;> omega)
 rw [show (av).drop ((b.length : Int) : Int).toNat = a6 from dx.out.symm] at b8
 replace b8 : Kd.F (Kd.slice 3 (Kd.int .i64)) _ _ dT a6.length a6 := (by rw [hA37]; exact b8)
 rw [← b9, ← hA37, ← cM] at hcut37
 have dA := a_ (show Kd.V (Kd.slice 3 (Kd.int .i64)) 30 _ w.heap.size _ (.slice dT a6.length c37) a6 from Kd.V_mk (by rw [b9, cM]; exact Nat.sub_le_sub_right hroom37 _) b8)
 have fc := a_ (show a6.length ≤ c37 from by rw [b9, cM]; exact Nat.sub_le_sub_right hroom37 _)
 clear b8 hC37 hroom37 dz hsz37 cM
 have KY37 := a_ b9
 have KA37 := a_ hA37
 clear b9 hA37
 replace b7 := et_ b7
 have ca : ((b.length : Int) : Int) ≤ ((av.length : Int) : Int) := dq_
 obtain ⟨i038, dB, _, hsz38, _⟩ := info_parts info30
 have hroom38 : av.length ≤ aE := (Kd.N_reads' al.out).2.1
 have hC38 : Kd.F (Kd.slice 3 (Kd.int .i64)) _ _ aI av.length av := (Kd.V_at (base := w.heap.size) (Kd.N_V al.out)).2.2
 have hcut38 := cut_to (P := Tryz.prog) 27 30 .i64 Tryz.underlying27 dB aI av.length aE (b.length : Int) (dq_) ca hroom38
 have dg := Kd.F_take (m := ((b.length : Int) : Int).toNat) hC38 (by omega)
 have dh : a2.length = ((b.length : Int) : Int).toNat := (by rw [dy.out, List.length_take]; omega)
 rw [← dy.out] at dg
 rw [← dh] at hcut38
 have b5 := a_ (show Kd.V (Kd.slice 3 (Kd.int .i64)) 30 _ w.heap.size _ (.slice aI a2.length aE) a2 from Kd.V_mk (by omega) dg)
 have fd := a_ (show a2.length ≤ aE from by omega)
 clear dg hC38 hroom38 dB hsz38
 have KY38 := a_ dh
 clear dh
 replace ca := et_ ca
 refine start_ (n := 16) (S := fun w' => w'.cell? ⟨U, 0, none⟩ = some (.int .i64 23) ∧ w'.cell? ⟨U, 1, none⟩ = some (.slice u l.length v) ∧ w'.cell? ⟨U, 2, none⟩ = some (.slice q b.length s) ∧ w'.cell? ⟨U, 3, none⟩ = some (.slice none 0 0) ∧ w'.cell? ⟨U, 4, none⟩ = some (.slice none 0 0) ∧ w'.cell? ⟨U, 5, none⟩ = some (.slice none 0 0) ∧ w'.cell? ⟨U, 6, none⟩ = some (.int .i64 0) ∧ w'.cell? ⟨U, 7, none⟩ = some (.slice none 0 0)) (ds := []) #[false, false, false, false, false, false, false, false, false, false, false, false, false, false, false, false] kr_ rfl rfl (ca8_ A.out) (fun hHeld => ?_); refine with_tabW jigsawlaw22_InverseTurns.tab5 jigsawlaw22_InverseTurns.bits5 (fun HT_ HW_ => ?_)
 generalize w35.drew = w36 at ac ad af ag ah ai al aD aw y z A HB dA b5 hHeld ⊢
 refine pn_ 1 35 ao_ ?_
 refine pn_ 2 36 ao_ ?_
 refine pn_ 3 37 ao_ ?_
 refine pn_ 5 39 ao_ ?_
 refine pn_ 6 40 ao_ ?_
 refine pn_ 7 41 ao_ ?_
 refine tn_ 0 34 tw_ hHeld ?_
 refine onn_ 4 38 #[true, true, true, true, true, true, true, true, false, false, false, false, false, false, false, false] rfl rfl on_ (by decide) (fun K hK => ?_)
 refine goes_ Tryz.func25 kr_ rfl #[.slice dT a6.length c37] (by rfl) rfl rfl ar_ ?_
 with_reducible refine (slices_CloneRows.calls (fun a => (((some a ≠ (.slice q b.length s : Value).ownBlock ∧ (some a ≠ (.slice u l.length v : Value).ownBlock ∧ (some a ≠ (.slice J E.length M : Value).ownBlock ∧ (some a ≠ (.slice O G.length Q : Value).ownBlock ∧ (some a ≠ (.slice X I.length Y : Value).ownBlock ∧ (some a ≠ (.slice aq am.length ar : Value).ownBlock ∧ (a ≠ aa ∧ (a ≠ Z ∧ a ≠ U)))))))) ∧ some a ≠ (.slice a4 aW.length a5 : Value).ownBlock) ∧ some a ≠ aJ.ownBlock)) _ _ a6 a7 _ ?_ A7.out).mono ?_
 exact dA.out
 rintro e w39 ⟨di, rfl, ay, hb⟩
 refine ⟨_, rfl, ?_⟩
 replace al := a_ (Kd.N_elder' (vN_ al.out) (Kd.N_base ay) hb)
 replace b5 := a_ (Kd.V_elder' (vV_ b5.out) (Kd.N_base ay) hb)
 have aX := a_ (Kd.N_lower (nm_ (ok' := fun a => some a ≠ (.slice q b.length s : Value).ownBlock ∧ some a ≠ (.slice u l.length v : Value).ownBlock ∧ some a ≠ (.slice J E.length M : Value).ownBlock ∧ some a ≠ (.slice O G.length Q : Value).ownBlock ∧ some a ≠ (.slice X I.length Y : Value).ownBlock ∧ some a ≠ (.slice aq am.length ar : Value).ownBlock ∧ some a ≠ (.slice a4 aW.length a5 : Value).ownBlock ∧ some a ≠ aJ.ownBlock ∧ a ≠ aa ∧ a ≠ Z ∧ a ≠ U) ay (fun a hk_ => ⟨Or.elim hk_ (fun hs_ => hs_.1.1.1) (fun hn_ => (fr_ (rl_ (vR_ ac.out)) a hn_)), Or.elim hk_ (fun hs_ => hs_.1.1.2.1) (fun hn_ => (fr_ (rl_ (vR_ ad.out)) a hn_)), Or.elim hk_ (fun hs_ => hs_.1.1.2.2.1) (fun hn_ => (fr_ (rl_ (vR_ af.out)) a hn_)), Or.elim hk_ (fun hs_ => hs_.1.1.2.2.2.1) (fun hn_ => (fr_ (rl_ (vR_ ag.out)) a hn_)), Or.elim hk_ (fun hs_ => hs_.1.1.2.2.2.2.1) (fun hn_ => (fr_ (rl_ (vR_ ah.out)) a hn_)), Or.elim hk_ (fun hs_ => hs_.1.1.2.2.2.2.2.1) (fun hn_ => (fr_ (Kd.N_lt (vN_ ai.out)) a hn_)), Or.elim hk_ (fun hs_ => hs_.1.2) (fun hn_ => (fr_ (Kd.N_lt (vN_ aD.out)) a hn_)), Or.elim hk_ (fun hs_ => hs_.2) (fun hn_ => (fr_ (Kd.N_lt (vN_ aw.out)) a hn_)), Or.elim hk_ (fun hs_ => hs_.1.1.2.2.2.2.2.2.1) (fun hn_ => (Kd.freshB (bk_ y.out) a hn_)), Or.elim hk_ (fun hs_ => hs_.1.1.2.2.2.2.2.2.2.1) (fun hn_ => (Kd.freshB (bk_ z.out) a hn_)), Or.elim hk_ (fun hs_ => hs_.1.1.2.2.2.2.2.2.2.2) (fun hn_ => (Kd.freshB (bk_ A.out) a hn_))⟩)) (bz_ bel_))
 replace ac := a_ (rb_ (vR_ ac.out) hb)
 replace ad := a_ (rb_ (vR_ ad.out) hb)
 replace af := a_ (rb_ (vR_ af.out) hb)
 replace ag := a_ (rb_ (vR_ ag.out) hb)
 replace ah := a_ (rb_ (vR_ ah.out) hb)
 replace ai := a_ (Kd.N_elder' (vN_ ai.out) (Kd.N_base ay) hb)
 replace aD := a_ (Kd.N_elder' (vN_ aD.out) (Kd.N_base ay) hb)
 replace aw := a_ (Kd.N_elder' (vN_ aw.out) (Kd.N_base ay) hb)
 replace y := a_ (bq_ y.out hb)
 replace z := a_ (bq_ z.out hb)
 replace A := a_ (bq_ A.out hb)
 replace HB := hq_ hb
 clear hb ay
 refine hK.out _ _ (ca8_ A.out) (fun hHeld => ?_)
 clear hK K
 refine nor_ (N := some 38) ?_
 refine onn_ 8 42 #[true, true, true, true, true, true, true, true, true, false, false, false, false, false, false, false] rfl rfl on_ (by decide) (fun K hK => ?_)
 refine Kd.N_append_rows_step (Kd.slice 3 (Kd.int .i64)) (w0 := w) w.heap.size (by rfl) (.tmp 38) (.tmp 41) 27 30 (.slice none 0 0) 24 rfl Tryz.underlying27 info30 rfl (by decide) (by omega) di a7 a2 _ _ _ (fun a => some a ≠ (.slice q b.length s : Value).ownBlock ∧ some a ≠ (.slice u l.length v : Value).ownBlock ∧ some a ≠ (.slice J E.length M : Value).ownBlock ∧ some a ≠ (.slice O G.length Q : Value).ownBlock ∧ some a ≠ (.slice X I.length Y : Value).ownBlock ∧ some a ≠ (.slice aq am.length ar : Value).ownBlock ∧ some a ≠ (.slice a4 aW.length a5 : Value).ownBlock ∧ some a ≠ aJ.ownBlock ∧ a ≠ aa ∧ a ≠ Z ∧ a ≠ U) (fun a => ((fun a => some a ≠ (.slice q b.length s : Value).ownBlock ∧ some a ≠ (.slice u l.length v : Value).ownBlock ∧ some a ≠ (.slice J E.length M : Value).ownBlock ∧ some a ≠ (.slice O G.length Q : Value).ownBlock ∧ some a ≠ (.slice X I.length Y : Value).ownBlock ∧ some a ≠ (.slice aq am.length ar : Value).ownBlock ∧ some a ≠ (.slice a4 aW.length a5 : Value).ownBlock ∧ some a ≠ aJ.ownBlock ∧ a ≠ aa ∧ a ≠ Z ∧ a ≠ U)) a ∧ some a ≠ di.ownBlock) rfl rfl ?aO ?aR (fun _ hk => hk) ?aF ?aB ?aS ?aL ?_
 (case aR => exact (by skip; exact Kd.V_F (vm_ (ok' := (fun a => ((fun a => some a ≠ (.slice q b.length s : Value).ownBlock ∧ some a ≠ (.slice u l.length v : Value).ownBlock ∧ some a ≠ (.slice J E.length M : Value).ownBlock ∧ some a ≠ (.slice O G.length Q : Value).ownBlock ∧ some a ≠ (.slice X I.length Y : Value).ownBlock ∧ some a ≠ (.slice aq am.length ar : Value).ownBlock ∧ some a ≠ (.slice a4 aW.length a5 : Value).ownBlock ∧ some a ≠ aJ.ownBlock ∧ a ≠ aa ∧ a ≠ Z ∧ a ≠ U)) a ∧ some a ≠ di.ownBlock)) (b5.out) (fun a hk => ⟨⟨hk.1.1.1.1, ⟨hk.1.1.1.2.1, ⟨hk.1.1.1.2.2.1, ⟨hk.1.1.1.2.2.2.1, ⟨hk.1.1.1.2.2.2.2.1, ⟨hk.1.1.1.2.2.2.2.2.1, ⟨hk.1.1.2, ⟨hk.1.2, ⟨hk.1.1.1.2.2.2.2.2.2.1, ⟨hk.1.1.1.2.2.2.2.2.2.2.1, hk.1.1.1.2.2.2.2.2.2.2.2⟩⟩⟩⟩⟩⟩⟩⟩⟩⟩, hk.2⟩))))
 (case aB => exact bel_)
 (case aF => exact (fun a hk => ⟨fr_ (rl_ (vR_ ac.out)) a hk, fr_ (rl_ (vR_ ad.out)) a hk, fr_ (rl_ (vR_ af.out)) a hk, fr_ (rl_ (vR_ ag.out)) a hk, fr_ (rl_ (vR_ ah.out)) a hk, fr_ (Kd.N_lt (vN_ ai.out)) a hk, fr_ (Kd.N_lt (vN_ aD.out)) a hk, fr_ (Kd.N_lt (vN_ aw.out)) a hk, Kd.freshB (bk_ y.out) a hk, Kd.freshB (bk_ z.out) a hk, Kd.freshB (bk_ A.out) a hk⟩))
 (case aO => exact (vN_ aX.out))
 (case aS => exact (bz_ bel_))
 (case aL => have := LMc10.out; omega)
 intro fj w40 ho hb hg hat
 rw [← d6.out] at ho
 replace y := a_ (blk_grown (bk_ y.out) hg (Kd.N_ne aX.out y.out (by decide)))
 replace ac := a_ (Kd.R_over' (vR_ ac.out) (Kd.N_typed (vN_ aX.out)) (by decide) hg)
 replace ad := a_ (Kd.R_over' (vR_ ad.out) (Kd.N_typed (vN_ aX.out)) (by decide) hg)
 replace af := a_ (Kd.R_over' (vR_ af.out) (Kd.N_typed (vN_ aX.out)) (by decide) hg)
 replace ag := a_ (Kd.R_over' (vR_ ag.out) (Kd.N_typed (vN_ aX.out)) (by decide) hg)
 replace ah := a_ (Kd.R_over' (vR_ ah.out) (Kd.N_typed (vN_ aX.out)) (by decide) hg)
 replace ai := a_ (Kd.N_afterv (ok := (fun a => some a ≠ (.slice q b.length s : Value).ownBlock ∧ some a ≠ (.slice u l.length v : Value).ownBlock ∧ some a ≠ (.slice J E.length M : Value).ownBlock ∧ some a ≠ (.slice O G.length Q : Value).ownBlock ∧ some a ≠ (.slice X I.length Y : Value).ownBlock ∧ some a ≠ (.slice aI av.length aE : Value).ownBlock ∧ some a ≠ (.slice a4 aW.length a5 : Value).ownBlock ∧ some a ≠ aJ.ownBlock ∧ a ≠ aa ∧ a ≠ Z ∧ a ≠ U)) (by refine vN_ ?_; exact nm_ ai.out (fun _ hk => ⟨⟨hk.1.1.1.1, ⟨hk.1.1.1.2.1, ⟨hk.1.1.1.2.2.1, ⟨hk.1.1.1.2.2.2.1, ⟨hk.1.1.1.2.2.2.2.1, ⟨hk.1.1.1.2.2.2.2.2.1, ⟨hk.1.1.2, ⟨hk.1.2, ⟨hk.1.1.1.2.2.2.2.2.2.1, ⟨hk.1.1.1.2.2.2.2.2.2.2.1, hk.1.1.1.2.2.2.2.2.2.2.2⟩⟩⟩⟩⟩⟩⟩⟩⟩⟩, hk.2⟩)) hg hat)
 replace al := a_ (Kd.N_afterv (ok := (fun a => some a ≠ (.slice q b.length s : Value).ownBlock ∧ some a ≠ (.slice u l.length v : Value).ownBlock ∧ some a ≠ (.slice J E.length M : Value).ownBlock ∧ some a ≠ (.slice O G.length Q : Value).ownBlock ∧ some a ≠ (.slice X I.length Y : Value).ownBlock ∧ some a ≠ (.slice aq am.length ar : Value).ownBlock ∧ some a ≠ (.slice a4 aW.length a5 : Value).ownBlock ∧ some a ≠ aJ.ownBlock ∧ a ≠ aa ∧ a ≠ Z ∧ a ≠ U)) (by refine vN_ ?_; exact nm_ al.out (fun _ hk => ⟨⟨hk.1.1.1.1, ⟨hk.1.1.1.2.1, ⟨hk.1.1.1.2.2.1, ⟨hk.1.1.1.2.2.2.1, ⟨hk.1.1.1.2.2.2.2.1, ⟨hk.1.1.1.2.2.2.2.2.1, ⟨hk.1.1.2, ⟨hk.1.2, ⟨hk.1.1.1.2.2.2.2.2.2.1, ⟨hk.1.1.1.2.2.2.2.2.2.2.1, hk.1.1.1.2.2.2.2.2.2.2.2⟩⟩⟩⟩⟩⟩⟩⟩⟩⟩, hk.2⟩)) hg hat)
 replace z := a_ (blk_grown (bk_ z.out) hg (Kd.N_ne aX.out z.out (by decide)))
 replace A := a_ (blk_grown (bk_ A.out) hg (Kd.N_ne aX.out A.out (by decide)))
 replace aD := a_ (Kd.N_afterv (ok := (fun a => some a ≠ (.slice q b.length s : Value).ownBlock ∧ some a ≠ (.slice u l.length v : Value).ownBlock ∧ some a ≠ (.slice J E.length M : Value).ownBlock ∧ some a ≠ (.slice O G.length Q : Value).ownBlock ∧ some a ≠ (.slice X I.length Y : Value).ownBlock ∧ some a ≠ (.slice aq am.length ar : Value).ownBlock ∧ some a ≠ (.slice aI av.length aE : Value).ownBlock ∧ some a ≠ aJ.ownBlock ∧ a ≠ aa ∧ a ≠ Z ∧ a ≠ U)) (by refine vN_ ?_; exact nm_ aD.out (fun _ hk => ⟨⟨hk.1.1.1, ⟨hk.1.1.2.1, ⟨hk.1.1.2.2.1, ⟨hk.1.1.2.2.2.1, ⟨hk.1.1.2.2.2.2.1, ⟨hk.1.1.2.2.2.2.2.1, ⟨hk.1.1.2.2.2.2.2.2.1, ⟨hk.1.2, ⟨hk.1.1.2.2.2.2.2.2.2.1, ⟨hk.1.1.2.2.2.2.2.2.2.2.1, hk.1.1.2.2.2.2.2.2.2.2.2⟩⟩⟩⟩⟩⟩⟩⟩⟩⟩, hk.2⟩)) hg hat)
 replace aw := a_ (Kd.N_afterv (ok := (fun a => some a ≠ (.slice q b.length s : Value).ownBlock ∧ some a ≠ (.slice u l.length v : Value).ownBlock ∧ some a ≠ (.slice J E.length M : Value).ownBlock ∧ some a ≠ (.slice O G.length Q : Value).ownBlock ∧ some a ≠ (.slice X I.length Y : Value).ownBlock ∧ some a ≠ (.slice aq am.length ar : Value).ownBlock ∧ some a ≠ (.slice aI av.length aE : Value).ownBlock ∧ a ≠ aa ∧ a ≠ Z ∧ a ≠ U)) (vN_ aw.out) hg hat)
 replace HB := a_ (hb)
 have a9 := a_ (ho)
 clear aX
 clear ho hb hg hat
 obtain ⟨cN, cO, dU⟩ := Kd.N_slice a9.out
 (first | subst dU | (injection dU with f1_ f2_ f3_; have f4_ := f1_.symm; have f5_ := f3_.symm; clear f1_ f2_ f3_; subst f4_; subst f5_))
 refine hK.out _ _ (ca8_ A.out) (fun hHeld => ?_)
 clear hK K
 refine nor_ (N := some 42) ?_
 refine onn_ 9 43 #[true, true, true, true, true, true, true, true, true, true, false, false, false, false, false, false] rfl rfl on_ (by decide) (fun K hK => ?_)
 refine goes_ Tryz.func11 kr_ rfl #[.slice cN bF.length cO] (by rfl) rfl rfl ar_ ?_
 with_reducible refine (jigsawlaw22_doms.calls k _ _ bF a8 _ ?_ ?_ ?_ eU.out).mono ?_
 exact ca_ ((Kd.N_reads' a9.out).2.2)
 exact (Kd.N_reads' a9.out).2.1
 exact ca_ ((cb_ HRtab.out HB.out))
 rintro e w42 ⟨fk, rfl, ay, hb⟩
 refine ⟨_, rfl, ?_⟩
 have dC := a_ (Kd.N_lower (nm_ (ok' := fun a => some a ≠ (.slice q b.length s : Value).ownBlock ∧ some a ≠ (.slice u l.length v : Value).ownBlock ∧ some a ≠ (.slice J E.length M : Value).ownBlock ∧ some a ≠ (.slice O G.length Q : Value).ownBlock ∧ some a ≠ (.slice X I.length Y : Value).ownBlock ∧ some a ≠ (.slice aq am.length ar : Value).ownBlock ∧ some a ≠ (.slice aI av.length aE : Value).ownBlock ∧ some a ≠ (.slice a4 aW.length a5 : Value).ownBlock ∧ some a ≠ aJ.ownBlock ∧ some a ≠ (.slice cN bF.length cO : Value).ownBlock ∧ a ≠ aa ∧ a ≠ Z ∧ a ≠ U) ay (fun a hk_ => ⟨(fr_ (rl_ (vR_ ac.out)) a hk_), (fr_ (rl_ (vR_ ad.out)) a hk_), (fr_ (rl_ (vR_ af.out)) a hk_), (fr_ (rl_ (vR_ ag.out)) a hk_), (fr_ (rl_ (vR_ ah.out)) a hk_), (fr_ (Kd.N_lt (vN_ ai.out)) a hk_), (fr_ (Kd.N_lt (vN_ al.out)) a hk_), (fr_ (Kd.N_lt (vN_ aD.out)) a hk_), (fr_ (Kd.N_lt (vN_ aw.out)) a hk_), (fr_ (Kd.N_lt (vN_ a9.out)) a hk_), (Kd.freshB (bk_ y.out) a hk_), (Kd.freshB (bk_ z.out) a hk_), (Kd.freshB (bk_ A.out) a hk_)⟩)) (bz_ bel_))
 replace ac := a_ (rb_ (vR_ ac.out) hb)
 replace ad := a_ (rb_ (vR_ ad.out) hb)
 replace af := a_ (rb_ (vR_ af.out) hb)
 replace ag := a_ (rb_ (vR_ ag.out) hb)
 replace ah := a_ (rb_ (vR_ ah.out) hb)
 replace ai := a_ (Kd.N_elder' (vN_ ai.out) (Kd.N_base ay) hb)
 replace al := a_ (Kd.N_elder' (vN_ al.out) (Kd.N_base ay) hb)
 replace aD := a_ (Kd.N_elder' (vN_ aD.out) (Kd.N_base ay) hb)
 replace aw := a_ (Kd.N_elder' (vN_ aw.out) (Kd.N_base ay) hb)
 replace a9 := a_ (Kd.N_elder' (vN_ a9.out) (Kd.N_base ay) hb)
 replace y := a_ (bq_ y.out hb)
 replace z := a_ (bq_ z.out hb)
 replace A := a_ (bq_ A.out hb)
 replace HB := hq_ hb
 clear hb ay
 obtain ⟨ev, ew, dV⟩ := Kd.N_slice dC.out
 (first | subst dV | (injection dV with f1_ f2_ f3_; have f4_ := f1_.symm; have f5_ := f3_.symm; clear f1_ f2_ f3_; subst f4_; subst f5_))
 refine hK.out _ _ (ca8_ A.out) (fun hHeld => ?_)
 clear hK K
 refine nor_ (N := some 43) ?_
 refine onn_ 10 44 #[true, true, true, true, true, true, true, true, true, true, true, false, false, false, false, false] rfl rfl on_ (by decide) (fun K hK => ?_)
 refine goes_ Tryz.func10 kr_ rfl #[.agg #[.int .i64 23, .slice u l.length v, .slice q b.length s, .slice none 0 0, .slice none 0 0, .slice none 0 0, .int .i64 0, .slice none 0 0], .slice ev a8.length ew] (by rfl) rfl rfl ar_ ?_
 refine (inverse_Filter.calls k 23 _ _ l _ _ b _ _ ([] : List Int) _ _ ([] : List Int) _ _ ([] : List Int) 0 _ _ ([] : List (List Int)) (fun a => (some a ≠ (.slice q b.length s : Value).ownBlock ∧ (some a ≠ (.slice u l.length v : Value).ownBlock ∧ (some a ≠ (.slice J E.length M : Value).ownBlock ∧ (some a ≠ (.slice O G.length Q : Value).ownBlock ∧ (some a ≠ (.slice X I.length Y : Value).ownBlock ∧ (some a ≠ (.slice aq am.length ar : Value).ownBlock ∧ (some a ≠ (.slice aI av.length aE : Value).ownBlock ∧ (some a ≠ (.slice a4 aW.length a5 : Value).ownBlock ∧ (some a ≠ aJ.ownBlock ∧ (some a ≠ (.slice cN bF.length cO : Value).ownBlock ∧ (a ≠ aa ∧ (a ≠ Z ∧ a ≠ U))))))))))))) _ _ a8 W b6 _ ?side1 ?side2 ?side3 ?side4 ?side5 ?side6 ?side7 ?side8 ?side9 ?side10 ?side11 ?side12 ?side13 ?side14 eV.out).mono ?_
 (case side1 => exact ca_ ((rr_ ad.out).2.2))
 (case side2 => exact (rr_ ad.out).2.1)
 (case side3 => exact ca_ ((rr_ ac.out).2.2))
 (case side4 => exact (rr_ ac.out).2.1)
 (case side5 => exact Kd.C_nil _ _)
 (case side6 => exact lr_ _)
 (case side7 => exact Kd.C_nil _ _)
 (case side8 => exact lr_ _)
 (case side9 => exact Kd.C_nil _ _)
 (case side10 => exact lr_ _)
 (case side11 => exact Kd.C_nil _ _)
 (case side12 => exact lr_ _)
 (case side13 => exact Kd.N_V (dC.out))
 (case side14 => exact ca_ ((cb_ HRtab.out HB.out)))
 rintro e w44 ⟨bG, rfl, ay, hb⟩
 refine ⟨_, rfl, ?_⟩
 have ba := a_ (Kd.N_lower (nm_ (ok' := fun a => some a ≠ (.slice q b.length s : Value).ownBlock ∧ some a ≠ (.slice u l.length v : Value).ownBlock ∧ some a ≠ (.slice J E.length M : Value).ownBlock ∧ some a ≠ (.slice O G.length Q : Value).ownBlock ∧ some a ≠ (.slice X I.length Y : Value).ownBlock ∧ some a ≠ (.slice aq am.length ar : Value).ownBlock ∧ some a ≠ (.slice aI av.length aE : Value).ownBlock ∧ some a ≠ (.slice a4 aW.length a5 : Value).ownBlock ∧ some a ≠ aJ.ownBlock ∧ some a ≠ (.slice cN bF.length cO : Value).ownBlock ∧ a ≠ aa ∧ a ≠ Z ∧ a ≠ U) ay (fun a hk_ => ⟨Or.elim hk_ (fun hs_ => hs_.1) (fun hn_ => (fr_ (rl_ (vR_ ac.out)) a hn_)), Or.elim hk_ (fun hs_ => hs_.2.1) (fun hn_ => (fr_ (rl_ (vR_ ad.out)) a hn_)), Or.elim hk_ (fun hs_ => hs_.2.2.1) (fun hn_ => (fr_ (rl_ (vR_ af.out)) a hn_)), Or.elim hk_ (fun hs_ => hs_.2.2.2.1) (fun hn_ => (fr_ (rl_ (vR_ ag.out)) a hn_)), Or.elim hk_ (fun hs_ => hs_.2.2.2.2.1) (fun hn_ => (fr_ (rl_ (vR_ ah.out)) a hn_)), Or.elim hk_ (fun hs_ => hs_.2.2.2.2.2.1) (fun hn_ => (fr_ (Kd.N_lt (vN_ ai.out)) a hn_)), Or.elim hk_ (fun hs_ => hs_.2.2.2.2.2.2.1) (fun hn_ => (fr_ (Kd.N_lt (vN_ al.out)) a hn_)), Or.elim hk_ (fun hs_ => hs_.2.2.2.2.2.2.2.1) (fun hn_ => (fr_ (Kd.N_lt (vN_ aD.out)) a hn_)), Or.elim hk_ (fun hs_ => hs_.2.2.2.2.2.2.2.2.1) (fun hn_ => (fr_ (Kd.N_lt (vN_ aw.out)) a hn_)), Or.elim hk_ (fun hs_ => hs_.2.2.2.2.2.2.2.2.2.1) (fun hn_ => (fr_ (Kd.N_lt (vN_ a9.out)) a hn_)), Or.elim hk_ (fun hs_ => hs_.2.2.2.2.2.2.2.2.2.2.1) (fun hn_ => (Kd.freshB (bk_ y.out) a hn_)), Or.elim hk_ (fun hs_ => hs_.2.2.2.2.2.2.2.2.2.2.2.1) (fun hn_ => (Kd.freshB (bk_ z.out) a hn_)), Or.elim hk_ (fun hs_ => hs_.2.2.2.2.2.2.2.2.2.2.2.2) (fun hn_ => (Kd.freshB (bk_ A.out) a hn_))⟩)) (bz_ bel_))
 replace ac := a_ (rb_ (vR_ ac.out) hb)
 replace ad := a_ (rb_ (vR_ ad.out) hb)
 replace af := a_ (rb_ (vR_ af.out) hb)
 replace ag := a_ (rb_ (vR_ ag.out) hb)
 replace ah := a_ (rb_ (vR_ ah.out) hb)
 replace ai := a_ (Kd.N_elder' (vN_ ai.out) (Kd.N_base ay) hb)
 replace aw := a_ (Kd.N_elder' (vN_ aw.out) (Kd.N_base ay) hb)
 replace y := a_ (bq_ y.out hb)
 replace z := a_ (bq_ z.out hb)
 replace A := a_ (bq_ A.out hb)
 replace HB := hq_ hb
 clear hb ay
 refine hK.out _ _ (ca8_ A.out) (fun hHeld => ?_)
 clear hK K
 refine nor_ (N := some 44) ?_
 refine pn_ 11 33 ao_ ?_
 refine pn_ 12 45 ao_ ?_
 refine pn_ 13 46 ao_ ?_
 refine pn_ 14 9 ao_ ?_
 refine pn_ 15 10 ao_ ?_
 refine done_ dn_ ?_
 go_upto_region 6 with (fail)
 go_cut [70] (fun eX wc => ∃ (kq : Nat) (bC : Bool), eX = .bool bC ∧ Aside0 (jigsawlaw22_InverseTurns.j0 kq (b.length : Int) p az W bC = some r) ∧ Aside0 (kq ≤ k) ∧ Aside0 (Kd.N k58 58 wc w.heap.size (fun a => some a ≠ bG.ownBlock ∧ some a ≠ ((.slice q b.length s) : Value).ownBlock ∧ some a ≠ ((.slice u l.length v) : Value).ownBlock ∧ some a ≠ ((.slice J E.length M) : Value).ownBlock ∧ some a ≠ ((.slice O G.length Q) : Value).ownBlock ∧ some a ≠ ((.slice X I.length Y) : Value).ownBlock ∧ some a ≠ ((.slice aq am.length ar) : Value).ownBlock ∧ some a ≠ ((.slice u l.length v) : Value).ownBlock ∧ some a ≠ ((.slice q b.length s) : Value).ownBlock ∧ a ≠ aa ∧ a ≠ Z ∧ a ≠ U) aJ p) ∧ Aside0 (Kd.N k58 58 wc w.heap.size (fun a => some a ≠ aJ.ownBlock ∧ some a ≠ ((.slice q b.length s) : Value).ownBlock ∧ some a ≠ ((.slice u l.length v) : Value).ownBlock ∧ some a ≠ ((.slice J E.length M) : Value).ownBlock ∧ some a ≠ ((.slice O G.length Q) : Value).ownBlock ∧ some a ≠ ((.slice X I.length Y) : Value).ownBlock ∧ some a ≠ ((.slice aq am.length ar) : Value).ownBlock ∧ some a ≠ ((.slice u l.length v) : Value).ownBlock ∧ some a ≠ ((.slice q b.length s) : Value).ownBlock ∧ a ≠ aa ∧ a ≠ Z ∧ a ≠ U) bG W) ∧ Aside0 (Kd.R (Kd.int .i64) 3 wc w.heap.size (fun a => some a ≠ ((.slice u l.length v) : Value).ownBlock ∧ some a ≠ ((.slice J E.length M) : Value).ownBlock ∧ some a ≠ ((.slice O G.length Q) : Value).ownBlock ∧ some a ≠ ((.slice X I.length Y) : Value).ownBlock ∧ some a ≠ ((.slice u l.length v) : Value).ownBlock) (.slice q b.length s) b) ∧ Aside0 (Kd.R (Kd.int .i64) 3 wc w.heap.size (fun a => some a ≠ ((.slice q b.length s) : Value).ownBlock ∧ some a ≠ ((.slice J E.length M) : Value).ownBlock ∧ some a ≠ ((.slice O G.length Q) : Value).ownBlock ∧ some a ≠ ((.slice X I.length Y) : Value).ownBlock ∧ some a ≠ ((.slice q b.length s) : Value).ownBlock) (.slice u l.length v) l) ∧ Aside0 (Kd.R (Kd.int .i64) 3 wc w.heap.size (fun a => some a ≠ ((.slice q b.length s) : Value).ownBlock ∧ some a ≠ ((.slice u l.length v) : Value).ownBlock ∧ some a ≠ ((.slice O G.length Q) : Value).ownBlock ∧ some a ≠ ((.slice X I.length Y) : Value).ownBlock ∧ some a ≠ ((.slice u l.length v) : Value).ownBlock ∧ some a ≠ ((.slice q b.length s) : Value).ownBlock) (.slice J E.length M) E) ∧ Aside0 (Kd.R (Kd.int .i64) 3 wc w.heap.size (fun a => some a ≠ ((.slice q b.length s) : Value).ownBlock ∧ some a ≠ ((.slice u l.length v) : Value).ownBlock ∧ some a ≠ ((.slice J E.length M) : Value).ownBlock ∧ some a ≠ ((.slice X I.length Y) : Value).ownBlock ∧ some a ≠ ((.slice u l.length v) : Value).ownBlock ∧ some a ≠ ((.slice q b.length s) : Value).ownBlock) (.slice O G.length Q) G) ∧ Aside0 (Kd.R (Kd.int .i64) 3 wc w.heap.size (fun a => some a ≠ ((.slice q b.length s) : Value).ownBlock ∧ some a ≠ ((.slice u l.length v) : Value).ownBlock ∧ some a ≠ ((.slice J E.length M) : Value).ownBlock ∧ some a ≠ ((.slice O G.length Q) : Value).ownBlock ∧ some a ≠ ((.slice u l.length v) : Value).ownBlock ∧ some a ≠ ((.slice q b.length s) : Value).ownBlock) (.slice X I.length Y) I) ∧ Aside0 (Kd.N (Kd.slice 3 (Kd.int .i64)) 30 wc w.heap.size (fun a => some a ≠ aJ.ownBlock ∧ some a ≠ bG.ownBlock ∧ some a ≠ ((.slice q b.length s) : Value).ownBlock ∧ some a ≠ ((.slice u l.length v) : Value).ownBlock ∧ some a ≠ ((.slice J E.length M) : Value).ownBlock ∧ some a ≠ ((.slice O G.length Q) : Value).ownBlock ∧ some a ≠ ((.slice X I.length Y) : Value).ownBlock ∧ some a ≠ ((.slice u l.length v) : Value).ownBlock ∧ some a ≠ ((.slice q b.length s) : Value).ownBlock ∧ a ≠ aa ∧ a ≠ Z ∧ a ≠ U) (.slice aq am.length ar) am) ∧ Aside0 (Kd.R (Kd.int .i64) 3 wc w.heap.size (fun a => some a ≠ ((.slice q b.length s) : Value).ownBlock ∧ some a ≠ ((.slice J E.length M) : Value).ownBlock ∧ some a ≠ ((.slice O G.length Q) : Value).ownBlock ∧ some a ≠ ((.slice X I.length Y) : Value).ownBlock ∧ some a ≠ ((.slice q b.length s) : Value).ownBlock) (.slice u l.length v) l) ∧ Aside0 (Kd.R (Kd.int .i64) 3 wc w.heap.size (fun a => some a ≠ ((.slice u l.length v) : Value).ownBlock ∧ some a ≠ ((.slice J E.length M) : Value).ownBlock ∧ some a ≠ ((.slice O G.length Q) : Value).ownBlock ∧ some a ≠ ((.slice X I.length Y) : Value).ownBlock ∧ some a ≠ ((.slice u l.length v) : Value).ownBlock) (.slice q b.length s) b) ∧ Aside0 (wc.heap[aa]? = some (.cells #[.int .u8 aT, (.slice aY aK.length c0_1), (.slice aZ aM.length c0_2), (.slice a0 aN.length c0_3), .int .i16 aU, .int .u8 aV, (.slice a1 aP.length c0_6)] 29 (0, 0))) ∧ Aside0 (wc.heap[Z]? = some (.cells #[.int .i64 au, (.slice q b.length s), (.slice u l.length v), (.slice J E.length M), (.slice O G.length Q), (.slice X I.length Y), .int .i64 aQ, (.slice aq am.length ar)] 32 (0, 0))) ∧ Aside0 (wc.heap[U]? = some (.cells #[.int .i64 23, (.slice u l.length v), (.slice q b.length s), (.slice none 0 0), (.slice none 0 0), (.slice none 0 0), .int .i64 0, (.slice none 0 0)] 32 (0, 0))) ∧ Aside0 (Below w.heap.size w wc))
 case first =>
  have H := dd.out
  clear dd
  replace H := bo_ H
  obtain ⟨bl, em, H⟩ := H
  try dsimp only at H
  by_cases c46 : bl = true
  rotate_left
  ·
   replace c46 := bf_.mpr c46
   subst c46
   have H1 : (none) = some r := by rw [ig_ (show ¬ (false = true) by decide)] at H; exact H
   clear H
   have H := H1
   clear H1
   exact ab_ H
  subst c46
  rw [ip_ rfl] at H
  by_cases c47 : (az != b6) = true
  ·
   rw [ip_ c47] at H
   exact ab_ H
  rw [ig_ c47] at H
  have c47b0 : (az != b6) = false := by simpa using c47
  (try (have c47b1 : decide (az = b6) = true := by simpa using c47))
  (try (have c47b2 : (az == b6) = true := by simpa using c47))
  clear c47
  (first | rw [c47b0] | (simp only [i64_w, i32_w]; rw [c47b0]) | skip)
  by_cases c48 : az = true
  rotate_left
  ·
   replace c48 := bf_.mpr c48
   subst c48
   have H1 : (jigsawlaw22_InverseTurns.j0 k (b.length : Int) p false W false) = some r := by rw [ig_ (show ¬ (false = true) by decide)] at H; exact H
   clear H
   have H := H1
   clear H1
   have H' := a_ H
   clear H
   go_wp2_with (first | ((with_reducible refine gate_callee (f := 13) rfl ?_); refine goesL_ (some 47) rfl rfl Tryz.func13 kr_ rfl #[] rfl ar_ ?_; (with_reducible refine (jigsawlaw22_wakes.calls k true _ ?_ em.out).mono ?_); exact ca_ ((cb_ HRtab.out HB.out)); rintro e w53 ⟨rfl, hb⟩; refine ⟨_, rfl, ?_⟩; replace ac := a_ (rb_ (vR_ ac.out) hb); replace ad := a_ (rb_ (vR_ ad.out) hb); replace af := a_ (rb_ (vR_ af.out) hb); replace ag := a_ (rb_ (vR_ ag.out) hb); replace ah := a_ (rb_ (vR_ ah.out) hb); replace ai := a_ (Kd.N_below (vN_ ai.out) hb); replace aw := a_ (Kd.N_below (vN_ aw.out) hb); replace ba := a_ (Kd.N_below (vN_ ba.out) hb); replace y := a_ (bq_ y.out hb); replace z := a_ (bq_ z.out hb); replace A := a_ (bq_ A.out hb); replace HB := hq_ hb; clear hb))
   go_meet
   exact ⟨_, (false), eq_, H', ⟨by first | omega | exact lr_ _⟩, ⟨by refine vN_ ?_; exact nm_ aw.out (fun _ hk => ⟨hk.2, ⟨hk.1.1.1.1, ⟨hk.1.1.1.2.1, ⟨hk.1.1.1.2.2.1, ⟨hk.1.1.1.2.2.2.1, ⟨hk.1.1.1.2.2.2.2.1, ⟨hk.1.1.1.2.2.2.2.2.1, ⟨hk.1.1.1.2.1, ⟨hk.1.1.1.1, ⟨hk.1.1.1.2.2.2.2.2.2.2.1, ⟨hk.1.1.1.2.2.2.2.2.2.2.2.1, hk.1.1.1.2.2.2.2.2.2.2.2.2⟩⟩⟩⟩⟩⟩⟩⟩⟩⟩⟩)⟩, ⟨by refine vN_ ?_; exact nm_ ba.out (fun _ hk => ⟨hk.2.2.2.2.2.2.2.2.1, ⟨hk.1, ⟨hk.2.1, ⟨hk.2.2.1, ⟨hk.2.2.2.1, ⟨hk.2.2.2.2.1, ⟨hk.2.2.2.2.2.1, ⟨hk.2.1, ⟨hk.1, ⟨hk.2.2.2.2.2.2.2.2.2.2.1, ⟨hk.2.2.2.2.2.2.2.2.2.2.2.1, hk.2.2.2.2.2.2.2.2.2.2.2.2⟩⟩⟩⟩⟩⟩⟩⟩⟩⟩⟩)⟩, ⟨by refine vR_ ?_; exact rm_ ac.out (fun _ hk => ⟨hk.1, ⟨hk.2.1, ⟨hk.2.2.1, ⟨hk.2.2.2, hk.1⟩⟩⟩⟩)⟩, ⟨by refine vR_ ?_; exact rm_ ad.out (fun _ hk => ⟨hk.1, ⟨hk.2.1, ⟨hk.2.2.1, ⟨hk.2.2.2, hk.1⟩⟩⟩⟩)⟩, ⟨by refine vR_ ?_; exact rm_ af.out (fun _ hk => ⟨hk.1, ⟨hk.2.1, ⟨hk.2.2.1, ⟨hk.2.2.2, ⟨hk.2.1, hk.1⟩⟩⟩⟩⟩)⟩, ⟨by refine vR_ ?_; exact rm_ ag.out (fun _ hk => ⟨hk.1, ⟨hk.2.1, ⟨hk.2.2.1, ⟨hk.2.2.2, ⟨hk.2.1, hk.1⟩⟩⟩⟩⟩)⟩, ⟨by refine vR_ ?_; exact rm_ ah.out (fun _ hk => ⟨hk.1, ⟨hk.2.1, ⟨hk.2.2.1, ⟨hk.2.2.2, ⟨hk.2.1, hk.1⟩⟩⟩⟩⟩)⟩, ⟨by refine vN_ ?_; exact nm_ ai.out (fun _ hk => ⟨hk.1.1.1.2.2.2.2.2.2.2.1, ⟨hk.2, ⟨hk.1.1.1.1, ⟨hk.1.1.1.2.1, ⟨hk.1.1.1.2.2.1, ⟨hk.1.1.1.2.2.2.1, ⟨hk.1.1.1.2.2.2.2.1, ⟨hk.1.1.1.2.1, ⟨hk.1.1.1.1, ⟨hk.1.1.1.2.2.2.2.2.2.2.2.1, ⟨hk.1.1.1.2.2.2.2.2.2.2.2.2.1, hk.1.1.1.2.2.2.2.2.2.2.2.2.2⟩⟩⟩⟩⟩⟩⟩⟩⟩⟩⟩)⟩, ⟨by refine vR_ ?_; exact rm_ ad.out (fun _ hk => ⟨hk.1, ⟨hk.2.1, ⟨hk.2.2.1, ⟨hk.2.2.2, hk.1⟩⟩⟩⟩)⟩, ⟨by refine vR_ ?_; exact rm_ ac.out (fun _ hk => ⟨hk.1, ⟨hk.2.1, ⟨hk.2.2.1, ⟨hk.2.2.2, hk.1⟩⟩⟩⟩)⟩, ⟨bk_ y.out⟩, ⟨bk_ z.out⟩, ⟨bk_ A.out⟩, ⟨bel_⟩⟩
  subst c48
  rw [ip_ rfl] at H
  by_cases c49 : (p.length : Int) = (wrap64 (2 * (b.length : Int)))
  rotate_left
  ·
   rw [ig_ c49] at H
   exact ab_ H
  rw [ip_ c49] at H
  have c49b0 : ((p.length : Int) == (wrap64 (2 * (b.length : Int)))) = true := beq_iff_eq.mpr c49
  have c49b1 : ((p.length : Int) != (wrap64 (2 * (b.length : Int)))) = false := bn_.mpr c49
  clear c49
  have H' := a_ H
  clear H
  go_wp2_with (first | ((with_reducible refine gate_callee (f := 13) rfl ?_); refine goesL_ (some 47) rfl rfl Tryz.func13 kr_ rfl #[] rfl ar_ ?_; (with_reducible refine (jigsawlaw22_wakes.calls k true _ ?_ em.out).mono ?_); exact ca_ ((cb_ HRtab.out HB.out)); rintro e w50 ⟨rfl, hb⟩; refine ⟨_, rfl, ?_⟩; replace ac := a_ (rb_ (vR_ ac.out) hb); replace ad := a_ (rb_ (vR_ ad.out) hb); replace af := a_ (rb_ (vR_ af.out) hb); replace ag := a_ (rb_ (vR_ ag.out) hb); replace ah := a_ (rb_ (vR_ ah.out) hb); replace ai := a_ (Kd.N_below (vN_ ai.out) hb); replace aw := a_ (Kd.N_below (vN_ aw.out) hb); replace ba := a_ (Kd.N_below (vN_ ba.out) hb); replace y := a_ (bq_ y.out hb); replace z := a_ (bq_ z.out hb); replace A := a_ (bq_ A.out hb); replace HB := hq_ hb; clear hb; obtain ⟨fl, fm, ex⟩ := Kd.N_slice aw.out; subst ex; obtain ⟨fn, fo, ey⟩ := Kd.N_slice ba.out; subst ey))
  go_meet
  exact ⟨_, (((W.length : Int) != (wrap64 (2 * (b.length : Int))))), eq_, H', ⟨by first | omega | exact lr_ _⟩, ⟨by refine vN_ ?_; exact nm_ aw.out (fun _ hk => ⟨hk.2, ⟨hk.1.1.1.1, ⟨hk.1.1.1.2.1, ⟨hk.1.1.1.2.2.1, ⟨hk.1.1.1.2.2.2.1, ⟨hk.1.1.1.2.2.2.2.1, ⟨hk.1.1.1.2.2.2.2.2.1, ⟨hk.1.1.1.2.1, ⟨hk.1.1.1.1, ⟨hk.1.1.1.2.2.2.2.2.2.2.1, ⟨hk.1.1.1.2.2.2.2.2.2.2.2.1, hk.1.1.1.2.2.2.2.2.2.2.2.2⟩⟩⟩⟩⟩⟩⟩⟩⟩⟩⟩)⟩, ⟨by refine vN_ ?_; exact nm_ ba.out (fun _ hk => ⟨hk.2.2.2.2.2.2.2.2.1, ⟨hk.1, ⟨hk.2.1, ⟨hk.2.2.1, ⟨hk.2.2.2.1, ⟨hk.2.2.2.2.1, ⟨hk.2.2.2.2.2.1, ⟨hk.2.1, ⟨hk.1, ⟨hk.2.2.2.2.2.2.2.2.2.2.1, ⟨hk.2.2.2.2.2.2.2.2.2.2.2.1, hk.2.2.2.2.2.2.2.2.2.2.2.2⟩⟩⟩⟩⟩⟩⟩⟩⟩⟩⟩)⟩, ⟨by refine vR_ ?_; exact rm_ ac.out (fun _ hk => ⟨hk.1, ⟨hk.2.1, ⟨hk.2.2.1, ⟨hk.2.2.2, hk.1⟩⟩⟩⟩)⟩, ⟨by refine vR_ ?_; exact rm_ ad.out (fun _ hk => ⟨hk.1, ⟨hk.2.1, ⟨hk.2.2.1, ⟨hk.2.2.2, hk.1⟩⟩⟩⟩)⟩, ⟨by refine vR_ ?_; exact rm_ af.out (fun _ hk => ⟨hk.1, ⟨hk.2.1, ⟨hk.2.2.1, ⟨hk.2.2.2, ⟨hk.2.1, hk.1⟩⟩⟩⟩⟩)⟩, ⟨by refine vR_ ?_; exact rm_ ag.out (fun _ hk => ⟨hk.1, ⟨hk.2.1, ⟨hk.2.2.1, ⟨hk.2.2.2, ⟨hk.2.1, hk.1⟩⟩⟩⟩⟩)⟩, ⟨by refine vR_ ?_; exact rm_ ah.out (fun _ hk => ⟨hk.1, ⟨hk.2.1, ⟨hk.2.2.1, ⟨hk.2.2.2, ⟨hk.2.1, hk.1⟩⟩⟩⟩⟩)⟩, ⟨by refine vN_ ?_; exact nm_ ai.out (fun _ hk => ⟨hk.1.1.1.2.2.2.2.2.2.2.1, ⟨hk.2, ⟨hk.1.1.1.1, ⟨hk.1.1.1.2.1, ⟨hk.1.1.1.2.2.1, ⟨hk.1.1.1.2.2.2.1, ⟨hk.1.1.1.2.2.2.2.1, ⟨hk.1.1.1.2.1, ⟨hk.1.1.1.1, ⟨hk.1.1.1.2.2.2.2.2.2.2.2.1, ⟨hk.1.1.1.2.2.2.2.2.2.2.2.2.1, hk.1.1.1.2.2.2.2.2.2.2.2.2.2⟩⟩⟩⟩⟩⟩⟩⟩⟩⟩⟩)⟩, ⟨by refine vR_ ?_; exact rm_ ad.out (fun _ hk => ⟨hk.1, ⟨hk.2.1, ⟨hk.2.2.1, ⟨hk.2.2.2, hk.1⟩⟩⟩⟩)⟩, ⟨by refine vR_ ?_; exact rm_ ac.out (fun _ hk => ⟨hk.1, ⟨hk.2.1, ⟨hk.2.2.1, ⟨hk.2.2.2, hk.1⟩⟩⟩⟩)⟩, ⟨bk_ y.out⟩, ⟨bk_ z.out⟩, ⟨bk_ A.out⟩, ⟨bel_⟩⟩
 clear dd
 try clear c1
 try clear c2
 try clear p2
 try clear c3
 try clear q3
 try clear c4
 try clear p6
 try clear c10
 try clear c11
 try clear c13
 try clear c25
 try clear c37
 try clear b7
 try clear ca
 try clear c46
 try clear c47
 try clear c47b0
 try clear c47b1
 try clear c47b2
 try clear c48
 try clear c49
 try clear c49b0
 try clear c49b1
 try clear df
 try clear b7
 try clear ca
 obtain ⟨kq, bC, rfl, HA, cP, HO_7, HO_9, HO_556001, HO_556002, HO_556003, HO_556004, HO_556005, HO_556007, HO_557001, HO_557002, y, z, A, HB⟩ := hcut
 cases kq with
 | zero => exact absurd HA.out (by simp [jigsawlaw22_InverseTurns.j0])
 | succ kj12 =>
  have H := HA.out
  clear HA
  simp only [jigsawlaw22_InverseTurns.j0] at H
  by_cases c54 : bC = true
  ·
   subst c54
   rw [ip_ rfl] at H
   exact ab_ H
  replace c54 := bf_.mpr c54
  subst c54
  have H1 : (jigsawlaw22_InverseTurns.l0 kj12 (b.length : Int) p az W (b.length : Int) 0) = some r := by rw [ig_ (show ¬ (false = true) by decide)] at H; exact H
  clear H
  have H := H1
  clear H1
  have H' := a_ H
  clear H
  go_wp2
  go_loopg [72] kj12 (fun kq eZ w' => ∃ (d : Int), eZ = .int .i64 d ∧ Aside0 (jigsawlaw22_InverseTurns.l0 kq (b.length : Int) p az W (b.length : Int) d = some r) ∧ Aside0 (kq ≤ kj12) ∧ Aside0 (Kd.N k58 58 w' w.heap.size (fun a => some a ≠ bG.ownBlock ∧ some a ≠ ((.slice q b.length s) : Value).ownBlock ∧ some a ≠ ((.slice u l.length v) : Value).ownBlock ∧ some a ≠ ((.slice J E.length M) : Value).ownBlock ∧ some a ≠ ((.slice O G.length Q) : Value).ownBlock ∧ some a ≠ ((.slice X I.length Y) : Value).ownBlock ∧ some a ≠ ((.slice aq am.length ar) : Value).ownBlock ∧ some a ≠ ((.slice u l.length v) : Value).ownBlock ∧ some a ≠ ((.slice q b.length s) : Value).ownBlock ∧ a ≠ aa ∧ a ≠ Z ∧ a ≠ U) aJ p) ∧ Aside0 (Kd.N k58 58 w' w.heap.size (fun a => some a ≠ aJ.ownBlock ∧ some a ≠ ((.slice q b.length s) : Value).ownBlock ∧ some a ≠ ((.slice u l.length v) : Value).ownBlock ∧ some a ≠ ((.slice J E.length M) : Value).ownBlock ∧ some a ≠ ((.slice O G.length Q) : Value).ownBlock ∧ some a ≠ ((.slice X I.length Y) : Value).ownBlock ∧ some a ≠ ((.slice aq am.length ar) : Value).ownBlock ∧ some a ≠ ((.slice u l.length v) : Value).ownBlock ∧ some a ≠ ((.slice q b.length s) : Value).ownBlock ∧ a ≠ aa ∧ a ≠ Z ∧ a ≠ U) bG W) ∧ Aside0 (Kd.R (Kd.int .i64) 3 w' w.heap.size (fun a => some a ≠ ((.slice u l.length v) : Value).ownBlock ∧ some a ≠ ((.slice J E.length M) : Value).ownBlock ∧ some a ≠ ((.slice O G.length Q) : Value).ownBlock ∧ some a ≠ ((.slice X I.length Y) : Value).ownBlock ∧ some a ≠ ((.slice u l.length v) : Value).ownBlock) (.slice q b.length s) b) ∧ Aside0 (Kd.R (Kd.int .i64) 3 w' w.heap.size (fun a => some a ≠ ((.slice q b.length s) : Value).ownBlock ∧ some a ≠ ((.slice J E.length M) : Value).ownBlock ∧ some a ≠ ((.slice O G.length Q) : Value).ownBlock ∧ some a ≠ ((.slice X I.length Y) : Value).ownBlock ∧ some a ≠ ((.slice q b.length s) : Value).ownBlock) (.slice u l.length v) l) ∧ Aside0 (Kd.R (Kd.int .i64) 3 w' w.heap.size (fun a => some a ≠ ((.slice q b.length s) : Value).ownBlock ∧ some a ≠ ((.slice u l.length v) : Value).ownBlock ∧ some a ≠ ((.slice O G.length Q) : Value).ownBlock ∧ some a ≠ ((.slice X I.length Y) : Value).ownBlock ∧ some a ≠ ((.slice u l.length v) : Value).ownBlock ∧ some a ≠ ((.slice q b.length s) : Value).ownBlock) (.slice J E.length M) E) ∧ Aside0 (Kd.R (Kd.int .i64) 3 w' w.heap.size (fun a => some a ≠ ((.slice q b.length s) : Value).ownBlock ∧ some a ≠ ((.slice u l.length v) : Value).ownBlock ∧ some a ≠ ((.slice J E.length M) : Value).ownBlock ∧ some a ≠ ((.slice X I.length Y) : Value).ownBlock ∧ some a ≠ ((.slice u l.length v) : Value).ownBlock ∧ some a ≠ ((.slice q b.length s) : Value).ownBlock) (.slice O G.length Q) G) ∧ Aside0 (Kd.R (Kd.int .i64) 3 w' w.heap.size (fun a => some a ≠ ((.slice q b.length s) : Value).ownBlock ∧ some a ≠ ((.slice u l.length v) : Value).ownBlock ∧ some a ≠ ((.slice J E.length M) : Value).ownBlock ∧ some a ≠ ((.slice O G.length Q) : Value).ownBlock ∧ some a ≠ ((.slice u l.length v) : Value).ownBlock ∧ some a ≠ ((.slice q b.length s) : Value).ownBlock) (.slice X I.length Y) I) ∧ Aside0 (Kd.N (Kd.slice 3 (Kd.int .i64)) 30 w' w.heap.size (fun a => some a ≠ aJ.ownBlock ∧ some a ≠ bG.ownBlock ∧ some a ≠ ((.slice q b.length s) : Value).ownBlock ∧ some a ≠ ((.slice u l.length v) : Value).ownBlock ∧ some a ≠ ((.slice J E.length M) : Value).ownBlock ∧ some a ≠ ((.slice O G.length Q) : Value).ownBlock ∧ some a ≠ ((.slice X I.length Y) : Value).ownBlock ∧ some a ≠ ((.slice u l.length v) : Value).ownBlock ∧ some a ≠ ((.slice q b.length s) : Value).ownBlock ∧ a ≠ aa ∧ a ≠ Z ∧ a ≠ U) (.slice aq am.length ar) am) ∧ Aside0 (Kd.R (Kd.int .i64) 3 w' w.heap.size (fun a => some a ≠ ((.slice q b.length s) : Value).ownBlock ∧ some a ≠ ((.slice J E.length M) : Value).ownBlock ∧ some a ≠ ((.slice O G.length Q) : Value).ownBlock ∧ some a ≠ ((.slice X I.length Y) : Value).ownBlock ∧ some a ≠ ((.slice q b.length s) : Value).ownBlock) (.slice u l.length v) l) ∧ Aside0 (Kd.R (Kd.int .i64) 3 w' w.heap.size (fun a => some a ≠ ((.slice u l.length v) : Value).ownBlock ∧ some a ≠ ((.slice J E.length M) : Value).ownBlock ∧ some a ≠ ((.slice O G.length Q) : Value).ownBlock ∧ some a ≠ ((.slice X I.length Y) : Value).ownBlock ∧ some a ≠ ((.slice u l.length v) : Value).ownBlock) (.slice q b.length s) b) ∧ Aside0 (w'.heap[aa]? = some (.cells #[.int .u8 aT, (.slice aY aK.length c0_1), (.slice aZ aM.length c0_2), (.slice a0 aN.length c0_3), .int .i16 aU, .int .u8 aV, (.slice a1 aP.length c0_6)] 29 (0, 0))) ∧ Aside0 (w'.heap[Z]? = some (.cells #[.int .i64 au, (.slice q b.length s), (.slice u l.length v), (.slice J E.length M), (.slice O G.length Q), (.slice X I.length Y), .int .i64 aQ, (.slice aq am.length ar)] 32 (0, 0))) ∧ Aside0 (w'.heap[U]? = some (.cells #[.int .i64 23, (.slice u l.length v), (.slice q b.length s), (.slice none 0 0), (.slice none 0 0), (.slice none 0 0), .int .i64 0, (.slice none 0 0)] 32 (0, 0))) ∧ Aside0 (Below w.heap.size w w'))
  case atStart => exact ⟨(0), eq_, H', ⟨lr_ _⟩, ⟨vN_ HO_7.out⟩, ⟨vN_ HO_9.out⟩, ⟨vR_ HO_556001.out⟩, ⟨vR_ HO_556002.out⟩, ⟨vR_ HO_556003.out⟩, ⟨vR_ HO_556004.out⟩, ⟨vR_ HO_556005.out⟩, ⟨vN_ HO_556007.out⟩, ⟨vR_ HO_557001.out⟩, ⟨vR_ HO_557002.out⟩, ⟨bk_ y.out⟩, ⟨bk_ z.out⟩, ⟨bk_ A.out⟩, ⟨bel_⟩⟩
  clear H'
  try clear c1
  try clear c2
  try clear p2
  try clear c3
  try clear q3
  try clear c4
  try clear c5
  try clear p6
  try clear c10
  try clear c11
  try clear c13
  try clear c25
  try clear c37
  try clear b7
  try clear ca
  try clear c46
  try clear c47
  try clear c47b0
  try clear c47b1
  try clear c47b2
  try clear c48
  try clear c49
  try clear c49b0
  try clear c49b1
  try clear c54
  try clear p2
  try clear p6
  try clear df
  try clear q3
  try clear b7
  try clear ca
  obtain ⟨d, rfl, HA, dD, HO_7, HO_9, HO_556001, HO_556002, HO_556003, HO_556004, HO_556005, HO_556007, HO_557001, HO_557002, y, z, A, HB⟩ := hrel
  cases gk with
  | zero => exact absurd HA.out (by simp [jigsawlaw22_InverseTurns.l0])
  | succ k2 =>
   have H := HA.out
   clear HA
   simp only [jigsawlaw22_InverseTurns.l0] at H
   by_cases c55 : d < (b.length : Int)
   rotate_left
   ·
    rw [ig_ c55] at H
    have c55b0 : decide (d < (b.length : Int)) = false := df_ c55
    clear c55
    obtain rfl := si_ H
    go_wp2
    go_ret
    exact ⟨er_, bel_⟩
   rw [ip_ c55] at H
   have c55b0 : decide (d < (b.length : Int)) = true := dt_ c55
   clear c55
   by_cases c56 : az = true
   rotate_left
   ·
    replace c56 := bf_.mpr c56
    subst c56
    have H1 : (some true) = some r := by rw [ig_ (show ¬ (false = true) by decide)] at H; exact H
    clear H
    have H := H1
    clear H1
    obtain rfl := si_ H
    go_wp2
    go_ret
    exact ⟨er_, bel_⟩
   subst c56
   rw [ip_ rfl] at H
   by_cases c57 : 0 ≤ d
   rotate_left
   ·
    rw [ig_ c57] at H
    exact ab_ H
   rw [ip_ c57] at H
   have c57b0 : decide (0 ≤ d) = true := dt_ c57
   clear c57
   by_cases c58 : d < (p.length : Int)
   rotate_left
   ·
    rw [ig_ c58] at H
    exact ab_ H
   rw [ip_ c58] at H
   have c58b0 : decide (d < (p.length : Int)) = true := dt_ c58
   clear c58
   obtain ⟨B, bD⟩ : ∃ j_ : Int, (wrap64 ((b.length : Int) + d)) = j_ := ⟨_, rfl⟩
   replace H : (if 0 ≤ (B) then (if (B) < (W.length : Int) then ((dom_Dom_Equal.f k2 ((rd_T58 p d).f0) ((rd_T58 p d).f1) ((rd_T58 p d).f2) ((rd_T58 p d).f3) ((rd_T58 p d).f4) ((rd_T58 W (B)).f0) ((rd_T58 W (B)).f1) ((rd_T58 W (B)).f2) ((rd_T58 W (B)).f3) ((rd_T58 W (B)).f4)).bind fun dj => (if dj = true then (if (B) < (p.length : Int) then (if d < (W.length : Int) then ((dom_Dom_Equal.f k2 ((rd_T58 p (B)).f0) ((rd_T58 p (B)).f1) ((rd_T58 p (B)).f2) ((rd_T58 p (B)).f3) ((rd_T58 p (B)).f4) ((rd_T58 W d).f0) ((rd_T58 W d).f1) ((rd_T58 W d).f2) ((rd_T58 W d).f3) ((rd_T58 W d).f4)).bind fun dk => (if dk = true then (jigsawlaw22_InverseTurns.l1 k2 (b.length : Int) p true W d (b.length : Int) d (b.length : Int) 0) else (none))) else (none)) else (none)) else (none))) else (none)) else (none)) = some r := by first | (rw [bD] at H; exact H) | (simp only [bD] at H ⊢; exact H)
   have hji59w : (IntKind.i64.wrap ((b.length : Int) + d)) = B := (i64_w _).trans bD
   by_cases c60 : 0 ≤ (B)
   rotate_left
   ·
    rw [ig_ c60] at H
    exact ab_ H
   rw [ip_ c60] at H
   have c60b0 : decide (0 ≤ (B)) = true := dt_ c60
   clear c60
   by_cases c61 : (B) < (W.length : Int)
   rotate_left
   ·
    rw [ig_ c61] at H
    exact ab_ H
   rw [ip_ c61] at H
   have c61b0 : decide ((B) < (W.length : Int)) = true := dt_ c61
   clear c61
   replace H := bo_ H
   obtain ⟨dj, e0, H⟩ := H
   try dsimp only at H
   by_cases c63 : dj = true
   rotate_left
   ·
    replace c63 := bf_.mpr c63
    subst c63
    have H1 : (none) = some r := by rw [ig_ (show ¬ (false = true) by decide)] at H; exact H
    clear H
    have H := H1
    clear H1
    exact ab_ H
   subst c63
   rw [ip_ rfl] at H
   by_cases c64 : (B) < (p.length : Int)
   rotate_left
   ·
    rw [ig_ c64] at H
    exact ab_ H
   rw [ip_ c64] at H
   have c64b0 : decide ((B) < (p.length : Int)) = true := dt_ c64
   clear c64
   by_cases c65 : d < (W.length : Int)
   rotate_left
   ·
    rw [ig_ c65] at H
    exact ab_ H
   rw [ip_ c65] at H
   have c65b0 : decide (d < (W.length : Int)) = true := dt_ c65
   clear c65
   replace H := bo_ H
   obtain ⟨dk, e1, H⟩ := H
   try dsimp only at H
   by_cases c67 : dk = true
   rotate_left
   ·
    replace c67 := bf_.mpr c67
    subst c67
    have H1 : (none) = some r := by rw [ig_ (show ¬ (false = true) by decide)] at H; exact H
    clear H
    have H := H1
    clear H1
    exact ab_ H
   subst c67
   rw [ip_ rfl] at H
   have H' := a_ H
   clear H
   try go_wp2
   replace HO_7 := a_ (Kd.N_drew HO_7.out)
   replace HO_9 := a_ (Kd.N_drew HO_9.out)
   replace HO_556001 := a_ (Kd.R_drew HO_556001.out)
   replace HO_556002 := a_ (Kd.R_drew HO_556002.out)
   replace HO_556003 := a_ (Kd.R_drew HO_556003.out)
   replace HO_556004 := a_ (Kd.R_drew HO_556004.out)
   replace HO_556005 := a_ (Kd.R_drew HO_556005.out)
   replace HO_556007 := a_ (Kd.N_drew HO_556007.out)
   replace HO_557001 := a_ (Kd.R_drew HO_557001.out)
   replace HO_557002 := a_ (Kd.R_drew HO_557002.out)
   replace y := a_ (blk_drew y.out)
   replace z := a_ (blk_drew z.out)
   replace A := a_ (blk_drew A.out)
   replace HB := a_ (below_drew1 HB.out)
   obtain ⟨fp, dl, dW⟩ := Kd.N_slice HO_7.out
   (first | subst dW | (injection dW with f1_ f2_ f3_; have f4_ := f1_.symm; have f5_ := f3_.symm; clear f1_ f2_ f3_; subst f4_; subst f5_))
   have p588 : 0 ≤ (d : Int) := dq_
   have cb : d < (p.length : Int) := dq_
   obtain ⟨ae, cc, c588_1, ez, bH, bb, bI, bJ, bK, cj, ck⟩ := at_T58 (Kd.N_reads' HO_7.out).2.2 d p588 cb
   cases ez
   obtain ⟨ce588, hce588, hMe588, hcc588⟩ := Kd.N_get HO_7.out z58 d p588 (by first | exact cb | exact dq_ | (have e_ := (Kd.N_reads' HO_7.out).1; omega))
   obtain ⟨ua588_1, uc588_1, rfl, bL, bM⟩ := k58_openF hMe588
   have bc := hcc588 1 _ rfl
   rw [add_field _ _ 1 (by omega)] at bc
   replace bc := si_ (bc.symm.trans bb)
   injection bc with hva_ hvn_ hvc_
   rw [hva_] at bM
   rw [hvc_] at bL
   have HL588_1 := a_ (show Kd.V (Kd.int .u64) 83 _ w.heap.size _ _ ((rd_T58 p d).f1) from Kd.V_mk bL bM)
   clear hva_ hvn_ hvc_ bM bL
   clear hcc588 hce588
   have aj := a_ ck
   have dF := a_ cj
   clear ck cj
   replace p588 := et_ p588
   replace cb := et_ cb
   obtain ⟨fq, dm, dX⟩ := Kd.N_slice HO_9.out
   (first | subst dX | (injection dX with f1_ f2_ f3_; have f4_ := f1_.symm; have f5_ := f3_.symm; clear f1_ f2_ f3_; subst f4_; subst f5_))
   have p589 : 0 ≤ ((B) : Int) := dq_
   have cd : (B) < (W.length : Int) := dq_
   obtain ⟨ax, ce, c589_1, eA, bN, bd, bO, bP, bQ, cl, cm⟩ := at_T58 (Kd.N_reads' HO_9.out).2.2 (B) p589 cd
   cases eA
   obtain ⟨ce589, hce589, hMe589, hcc589⟩ := Kd.N_get HO_9.out z58 (B) p589 (by first | exact cd | exact dq_ | (have e_ := (Kd.N_reads' HO_9.out).1; omega))
   obtain ⟨ua589_1, uc589_1, rfl, bR, bS⟩ := k58_openF hMe589
   have be := hcc589 1 _ rfl
   rw [add_field _ _ 1 (by omega)] at be
   replace be := si_ (be.symm.trans bd)
   injection be with hva_ hvn_ hvc_
   rw [hva_] at bS
   rw [hvc_] at bR
   have HL589_1 := a_ (show Kd.V (Kd.int .u64) 83 _ w.heap.size _ _ ((rd_T58 W (B)).f1) from Kd.V_mk bR bS)
   clear hva_ hvn_ hvc_ bS bR
   clear hcc589 hce589
   have ak := a_ cm
   have dG := a_ cl
   clear cm cl
   replace p589 := et_ p589
   replace cd := et_ cd
   have p591 : 0 ≤ ((B) : Int) := dq_
   have cf : (B) < (p.length : Int) := dq_
   obtain ⟨ea, cg, c591_1, eB, bT, bf, bU, bV, bW, cn, co⟩ := at_T58 (Kd.N_reads' HO_7.out).2.2 (B) p591 cf
   obtain rfl : ae = ea := (by injection eB)
   obtain ⟨ce591, hce591, hMe591, hcc591⟩ := Kd.N_get HO_7.out z58 (B) p591 (by first | exact cf | exact dq_ | (have e_ := (Kd.N_reads' HO_7.out).1; omega))
   obtain ⟨ua591_1, uc591_1, rfl, cp, cq⟩ := k58_openF hMe591
   have bg := hcc591 1 _ rfl
   rw [add_field _ _ 1 (by omega)] at bg
   replace bg := si_ (bg.symm.trans bf)
   injection bg with hva_ hvn_ hvc_
   rw [hva_] at cq
   rw [hvc_] at cp
   clear hva_ hvn_ hvc_ cq cp
   clear hcc591 hce591
   have ao := a_ co
   have dH := a_ cn
   clear co cn
   replace p591 := et_ p591
   replace cf := et_ cf
   have p592 : 0 ≤ (d : Int) := dq_
   have ch : d < (W.length : Int) := dq_
   obtain ⟨eb, ci, c592_1, eC, bX, bh, bY, bZ, b0, cr, ct⟩ := at_T58 (Kd.N_reads' HO_9.out).2.2 d p592 ch
   obtain rfl : ax = eb := (by injection eC)
   obtain ⟨ce592, hce592, hMe592, hcc592⟩ := Kd.N_get HO_9.out z58 d p592 (by first | exact ch | exact dq_ | (have e_ := (Kd.N_reads' HO_9.out).1; omega))
   obtain ⟨ua592_1, uc592_1, rfl, cu, cv⟩ := k58_openF hMe592
   have bi := hcc592 1 _ rfl
   rw [add_field _ _ 1 (by omega)] at bi
   replace bi := si_ (bi.symm.trans bh)
   injection bi with hva_ hvn_ hvc_
   rw [hva_] at cv
   rw [hvc_] at cu
   clear hva_ hvn_ hvc_ cv cu
   clear hcc592 hce592
   have ap := a_ ct
   have dI := a_ cr
   clear ct cr
   replace p592 := et_ p592
   replace ch := et_ ch
   refine start_ (n := 26) (S := fun w' => w'.cell? (ae.add ((d).toNat * 5)) = some (.int .i64 ((rd_T58 p d).f0)) ∧ w'.cell? ⟨(ae.add ((d).toNat * 5)).block, (ae.add ((d).toNat * 5)).off + 1, none⟩ = some (.slice cc ((rd_T58 p d).f1).length c588_1) ∧ w'.cell? ⟨(ae.add ((d).toNat * 5)).block, (ae.add ((d).toNat * 5)).off + 2, none⟩ = some (.int .i64 ((rd_T58 p d).f2)) ∧ w'.cell? ⟨(ae.add ((d).toNat * 5)).block, (ae.add ((d).toNat * 5)).off + 3, none⟩ = some (.int .i64 ((rd_T58 p d).f3)) ∧ w'.cell? ⟨(ae.add ((d).toNat * 5)).block, (ae.add ((d).toNat * 5)).off + 4, none⟩ = some (.int .i64 ((rd_T58 p d).f4)) ∧ w'.cell? (ax.add (((B)).toNat * 5)) = some (.int .i64 ((rd_T58 W (B)).f0)) ∧ w'.cell? ⟨(ax.add (((B)).toNat * 5)).block, (ax.add (((B)).toNat * 5)).off + 1, none⟩ = some (.slice ce ((rd_T58 W (B)).f1).length c589_1) ∧ w'.cell? ⟨(ax.add (((B)).toNat * 5)).block, (ax.add (((B)).toNat * 5)).off + 2, none⟩ = some (.int .i64 ((rd_T58 W (B)).f2)) ∧ w'.cell? ⟨(ax.add (((B)).toNat * 5)).block, (ax.add (((B)).toNat * 5)).off + 3, none⟩ = some (.int .i64 ((rd_T58 W (B)).f3)) ∧ w'.cell? ⟨(ax.add (((B)).toNat * 5)).block, (ax.add (((B)).toNat * 5)).off + 4, none⟩ = some (.int .i64 ((rd_T58 W (B)).f4)) ∧ w'.cell? (ae.add (((B)).toNat * 5)) = some (.int .i64 ((rd_T58 p (B)).f0)) ∧ w'.cell? ⟨(ae.add (((B)).toNat * 5)).block, (ae.add (((B)).toNat * 5)).off + 1, none⟩ = some (.slice cg ((rd_T58 p (B)).f1).length c591_1) ∧ w'.cell? ⟨(ae.add (((B)).toNat * 5)).block, (ae.add (((B)).toNat * 5)).off + 2, none⟩ = some (.int .i64 ((rd_T58 p (B)).f2)) ∧ w'.cell? ⟨(ae.add (((B)).toNat * 5)).block, (ae.add (((B)).toNat * 5)).off + 3, none⟩ = some (.int .i64 ((rd_T58 p (B)).f3)) ∧ w'.cell? ⟨(ae.add (((B)).toNat * 5)).block, (ae.add (((B)).toNat * 5)).off + 4, none⟩ = some (.int .i64 ((rd_T58 p (B)).f4)) ∧ w'.cell? (ax.add ((d).toNat * 5)) = some (.int .i64 ((rd_T58 W d).f0)) ∧ w'.cell? ⟨(ax.add ((d).toNat * 5)).block, (ax.add ((d).toNat * 5)).off + 1, none⟩ = some (.slice ci ((rd_T58 W d).f1).length c592_1) ∧ w'.cell? ⟨(ax.add ((d).toNat * 5)).block, (ax.add ((d).toNat * 5)).off + 2, none⟩ = some (.int .i64 ((rd_T58 W d).f2)) ∧ w'.cell? ⟨(ax.add ((d).toNat * 5)).block, (ax.add ((d).toNat * 5)).off + 3, none⟩ = some (.int .i64 ((rd_T58 W d).f3)) ∧ w'.cell? ⟨(ax.add ((d).toNat * 5)).block, (ax.add ((d).toNat * 5)).off + 4, none⟩ = some (.int .i64 ((rd_T58 W d).f4))) (ds := []) #[false, false, false, false, false, false, false, false, false, false, false, false, false, false, false, false, false, false, false, false, false, false, false, false, false, false] kr_ rfl rfl ⟨bH, bb, bI, bJ, bK, bN, bd, bO, bP, bQ, bT, bf, bU, bV, bW, bX, bh, bY, bZ, b0⟩ (fun hHeld => ?_); refine with_tabW jigsawlaw22_InverseTurns.tab12 jigsawlaw22_InverseTurns.bits12 (fun HT_ HW_ => ?_)
   generalize wr.drew = w68 at HO_7 HO_9 HO_556001 HO_556002 HO_556003 HO_556004 HO_556005 HO_556007 HO_557001 HO_557002 y z A HB HL588_1 HL589_1 aj ak ao ap bH bb bI bJ bK bN bd bO bP bQ bT bf bU bV bW bX bh bY bZ b0 hHeld ⊢
   refine pn_ 0 77 ao_ ?_
   refine pn_ 1 78 ao_ ?_
   refine pn_ 2 79 ao_ ?_
   refine pn_ 4 81 ao_ ?_
   refine pn_ 5 82 ao_ ?_
   refine pn_ 6 83 ao_ ?_
   refine pn_ 7 84 ao_ ?_
   refine pn_ 8 85 ao_ ?_
   refine tn_ 3 80 tw_ hHeld ?_
   refine tn_ 9 86 tw_ hHeld ?_
   refine onn_ 10 87 #[true, true, true, true, true, true, true, true, true, true, true, false, false, false, false, false, false, false, false, false, false, false, false, false, false, false] rfl rfl on_ (by decide) (fun K hK => ?_)
   refine goes_ Tryz.func26 kr_ rfl #[.agg #[.int .i64 ((rd_T58 p d).f0), .slice cc ((rd_T58 p d).f1).length c588_1, .int .i64 ((rd_T58 p d).f2), .int .i64 ((rd_T58 p d).f3), .int .i64 ((rd_T58 p d).f4)], .agg #[.int .i64 ((rd_T58 W (B)).f0), .slice ce ((rd_T58 W (B)).f1).length c589_1, .int .i64 ((rd_T58 W (B)).f2), .int .i64 ((rd_T58 W (B)).f3), .int .i64 ((rd_T58 W (B)).f4)]] (by rfl) rfl rfl (by (try simp only [List.map_toArray, List.map_cons, List.map_nil]); first | done | (simp only [bD]; rfl) | rfl | (simp only [List.length_drop, List.length_take]; rfl)) ?_
   with_reducible refine (dom_Dom_Equal.calls k2 ((rd_T58 p d).f0) _ _ ((rd_T58 p d).f1) ((rd_T58 p d).f2) ((rd_T58 p d).f3) ((rd_T58 p d).f4) ((rd_T58 W (B)).f0) _ _ ((rd_T58 W (B)).f1) ((rd_T58 W (B)).f2) ((rd_T58 W (B)).f3) ((rd_T58 W (B)).f4) true _ ?_ ?_ ?_ ?_ ?_ e0.out).mono ?_
   focus repeat (first | exact (by repeat (first | (with_reducible exact aj.out) | (with_reducible refine Kd.C_alloc ?_ _) | (with_reducible refine Kd.C_drewN ?_ _) | (with_reducible refine Kd.C_drew ?_) | exact aj.out)) | (with_reducible refine Kd.C_alloc ?_ _) | (with_reducible refine Kd.C_drewN ?_ _) | (with_reducible refine Kd.C_drew ?_))
   exact dF.out
   focus repeat (first | exact (by repeat (first | (with_reducible exact ak.out) | (with_reducible refine Kd.C_alloc ?_ _) | (with_reducible refine Kd.C_drewN ?_ _) | (with_reducible refine Kd.C_drew ?_) | exact ak.out)) | (with_reducible refine Kd.C_alloc ?_ _) | (with_reducible refine Kd.C_drewN ?_ _) | (with_reducible refine Kd.C_drew ?_))
   exact dG.out
   exact ca_ ((cb_ HRtab.out HB.out))
   rintro e w71 ⟨rfl, hb⟩
   have bm := (hb.cell (wl_ _ _ (hHeld.1))).trans (hHeld.1)
   have bn := (hb.cell (wl_ _ _ (hHeld.2.1))).trans (hHeld.2.1)
   have bo := (hb.cell (wl_ _ _ (hHeld.2.2.1))).trans (hHeld.2.2.1)
   have bp := (hb.cell (wl_ _ _ (hHeld.2.2.2.1))).trans (hHeld.2.2.2.1)
   have bq := (hb.cell (wl_ _ _ (hHeld.2.2.2.2.1))).trans (hHeld.2.2.2.2.1)
   have br := (hb.cell (wl_ _ _ (hHeld.2.2.2.2.2.1))).trans (hHeld.2.2.2.2.2.1)
   have bs := (hb.cell (wl_ _ _ (hHeld.2.2.2.2.2.2.1))).trans (hHeld.2.2.2.2.2.2.1)
   have bu := (hb.cell (wl_ _ _ (hHeld.2.2.2.2.2.2.2.1))).trans (hHeld.2.2.2.2.2.2.2.1)
   have bv := (hb.cell (wl_ _ _ (hHeld.2.2.2.2.2.2.2.2.1))).trans (hHeld.2.2.2.2.2.2.2.2.1)
   have bw := (hb.cell (wl_ _ _ (hHeld.2.2.2.2.2.2.2.2.2.1))).trans (hHeld.2.2.2.2.2.2.2.2.2.1)
   have cQ := (hb.cell (wl_ _ _ (hHeld.2.2.2.2.2.2.2.2.2.2.1))).trans (hHeld.2.2.2.2.2.2.2.2.2.2.1)
   have cR := (hb.cell (wl_ _ _ (hHeld.2.2.2.2.2.2.2.2.2.2.2.1))).trans (hHeld.2.2.2.2.2.2.2.2.2.2.2.1)
   have cS := (hb.cell (wl_ _ _ (hHeld.2.2.2.2.2.2.2.2.2.2.2.2.1))).trans (hHeld.2.2.2.2.2.2.2.2.2.2.2.2.1)
   have cT := (hb.cell (wl_ _ _ (hHeld.2.2.2.2.2.2.2.2.2.2.2.2.2.1))).trans (hHeld.2.2.2.2.2.2.2.2.2.2.2.2.2.1)
   have cU := (hb.cell (wl_ _ _ (hHeld.2.2.2.2.2.2.2.2.2.2.2.2.2.2.1))).trans (hHeld.2.2.2.2.2.2.2.2.2.2.2.2.2.2.1)
   have cV := (hb.cell (wl_ _ _ (hHeld.2.2.2.2.2.2.2.2.2.2.2.2.2.2.2.1))).trans (hHeld.2.2.2.2.2.2.2.2.2.2.2.2.2.2.2.1)
   have cW := (hb.cell (wl_ _ _ (hHeld.2.2.2.2.2.2.2.2.2.2.2.2.2.2.2.2.1))).trans (hHeld.2.2.2.2.2.2.2.2.2.2.2.2.2.2.2.2.1)
   have cX := (hb.cell (wl_ _ _ (hHeld.2.2.2.2.2.2.2.2.2.2.2.2.2.2.2.2.2.1))).trans (hHeld.2.2.2.2.2.2.2.2.2.2.2.2.2.2.2.2.2.1)
   have cY := (hb.cell (wl_ _ _ (hHeld.2.2.2.2.2.2.2.2.2.2.2.2.2.2.2.2.2.2.1))).trans (hHeld.2.2.2.2.2.2.2.2.2.2.2.2.2.2.2.2.2.2.1)
   have cZ := (hb.cell (wl_ _ _ (hHeld.2.2.2.2.2.2.2.2.2.2.2.2.2.2.2.2.2.2.2))).trans (hHeld.2.2.2.2.2.2.2.2.2.2.2.2.2.2.2.2.2.2.2)
   refine ⟨_, rfl, ?_⟩
   have n0_ := a_ (Kd.N_below (vN_ HO_7.out) hb)
   have n1_ := a_ (Kd.N_below (vN_ HO_9.out) hb)
   have n2_ := a_ (rb_ (vR_ HO_556001.out) hb)
   have n3_ := a_ (rb_ (vR_ HO_556002.out) hb)
   have n4_ := a_ (rb_ (vR_ HO_556003.out) hb)
   have n5_ := a_ (rb_ (vR_ HO_556004.out) hb)
   have n6_ := a_ (rb_ (vR_ HO_556005.out) hb)
   have n7_ := a_ (Kd.N_below (vN_ HO_556007.out) hb)
   have n8_ := a_ (rb_ (vR_ HO_557001.out) hb)
   have n9_ := a_ (rb_ (vR_ HO_557002.out) hb)
   have n10_ := a_ (vb_ (vV_ HL588_1.out) hb)
   have n11_ := a_ (vb_ (vV_ HL589_1.out) hb)
   have n12_ := a_ (bq_ y.out hb)
   have n13_ := a_ (bq_ z.out hb)
   have n14_ := a_ (bq_ A.out hb)
   have n15_ := a_ (cb_ (by repeat (first | (with_reducible exact aj.out) | (with_reducible refine Kd.C_alloc ?_ _) | (with_reducible refine Kd.C_drewN ?_ _) | (with_reducible refine Kd.C_drew ?_) | exact aj.out)) hb)
   have n16_ := a_ (cb_ (by repeat (first | (with_reducible exact ak.out) | (with_reducible refine Kd.C_alloc ?_ _) | (with_reducible refine Kd.C_drewN ?_ _) | (with_reducible refine Kd.C_drew ?_) | exact ak.out)) hb)
   have n17_ := a_ (bp_ bel_ hb)
   clear HO_7
   clear HO_9
   clear HO_556001
   clear HO_556002
   clear HO_556003
   clear HO_556004
   clear HO_556005
   clear HO_556007
   clear HO_557001
   clear HO_557002
   clear HL588_1
   clear HL589_1
   clear y
   clear z
   clear A
   clear aj
   clear ak
   replace ao := a_ (cb_ ao.out hb)
   replace ap := a_ (cb_ ap.out hb)
   clear HB
   have HO_7 := n0_
   have HO_9 := n1_
   have HO_556001 := n2_
   have HO_556002 := n3_
   have HO_556003 := n4_
   have HO_556004 := n5_
   have HO_556005 := n6_
   have HO_556007 := n7_
   have HO_557001 := n8_
   have HO_557002 := n9_
   have y := n12_
   have z := n13_
   have A := n14_
   have aj := n15_
   have ak := n16_
   have HB := n17_
   clear n0_ n1_ n2_ n3_ n4_ n5_ n6_ n7_ n8_ n9_ n10_ n11_ n12_ n13_ n14_ n15_ n16_ n17_
   (try clear hb)
   (try clear hb2)
   (try clear hk)
   (try clear hi)
   refine hK.out _ _ ⟨bm, bn, bo, bp, bq, br, bs, bu, bv, bw, cQ, cR, cS, cT, cU, cV, cW, cX, cY, cZ⟩ (fun hHeld => ?_)
   clear hK K
   refine nor_ (N := some 87) ?_
   refine pn_ 11 88 ao_ ?_
   refine pn_ 12 89 ao_ ?_
   refine pn_ 13 90 ao_ ?_
   refine pn_ 14 91 ao_ ?_
   refine pn_ 15 92 ao_ ?_
   refine pn_ 16 93 ao_ ?_
   refine pn_ 17 94 ao_ ?_
   refine pn_ 19 96 ao_ ?_
   refine pn_ 20 97 ao_ ?_
   refine pn_ 21 98 ao_ ?_
   refine tn_ 18 95 tw_ hHeld ?_
   refine tn_ 22 99 tw_ hHeld ?_
   refine onn_ 23 100 #[true, true, true, true, true, true, true, true, true, true, true, true, true, true, true, true, true, true, true, true, true, true, true, true, false, false] rfl rfl on_ (by decide) (fun K hK => ?_)
   refine goes_ Tryz.func26 kr_ rfl #[.agg #[.int .i64 ((rd_T58 p (B)).f0), .slice cg ((rd_T58 p (B)).f1).length c591_1, .int .i64 ((rd_T58 p (B)).f2), .int .i64 ((rd_T58 p (B)).f3), .int .i64 ((rd_T58 p (B)).f4)], .agg #[.int .i64 ((rd_T58 W d).f0), .slice ci ((rd_T58 W d).f1).length c592_1, .int .i64 ((rd_T58 W d).f2), .int .i64 ((rd_T58 W d).f3), .int .i64 ((rd_T58 W d).f4)]] (by rfl) rfl rfl (by (try simp only [List.map_toArray, List.map_cons, List.map_nil]); first | done | (simp only [bD]; rfl) | rfl | (simp only [List.length_drop, List.length_take]; rfl)) ?_
   with_reducible refine (dom_Dom_Equal.calls k2 ((rd_T58 p (B)).f0) _ _ ((rd_T58 p (B)).f1) ((rd_T58 p (B)).f2) ((rd_T58 p (B)).f3) ((rd_T58 p (B)).f4) ((rd_T58 W d).f0) _ _ ((rd_T58 W d).f1) ((rd_T58 W d).f2) ((rd_T58 W d).f3) ((rd_T58 W d).f4) true _ ?_ ?_ ?_ ?_ ?_ e1.out).mono ?_
   focus repeat (first | exact (by repeat (first | (with_reducible exact ao.out) | (with_reducible refine Kd.C_alloc ?_ _) | (with_reducible refine Kd.C_drewN ?_ _) | (with_reducible refine Kd.C_drew ?_) | exact ao.out)) | (with_reducible refine Kd.C_alloc ?_ _) | (with_reducible refine Kd.C_drewN ?_ _) | (with_reducible refine Kd.C_drew ?_))
   exact dH.out
   focus repeat (first | exact (by repeat (first | (with_reducible exact ap.out) | (with_reducible refine Kd.C_alloc ?_ _) | (with_reducible refine Kd.C_drewN ?_ _) | (with_reducible refine Kd.C_drew ?_) | exact ap.out)) | (with_reducible refine Kd.C_alloc ?_ _) | (with_reducible refine Kd.C_drewN ?_ _) | (with_reducible refine Kd.C_drew ?_))
   exact dI.out
   exact ca_ ((cb_ HRtab.out HB.out))
   rintro e w72 ⟨rfl, hb⟩
   have bm := (hb.cell (wl_ _ _ (hHeld.1))).trans (hHeld.1)
   have bn := (hb.cell (wl_ _ _ (hHeld.2.1))).trans (hHeld.2.1)
   have bo := (hb.cell (wl_ _ _ (hHeld.2.2.1))).trans (hHeld.2.2.1)
   have bp := (hb.cell (wl_ _ _ (hHeld.2.2.2.1))).trans (hHeld.2.2.2.1)
   have bq := (hb.cell (wl_ _ _ (hHeld.2.2.2.2.1))).trans (hHeld.2.2.2.2.1)
   have br := (hb.cell (wl_ _ _ (hHeld.2.2.2.2.2.1))).trans (hHeld.2.2.2.2.2.1)
   have bs := (hb.cell (wl_ _ _ (hHeld.2.2.2.2.2.2.1))).trans (hHeld.2.2.2.2.2.2.1)
   have bu := (hb.cell (wl_ _ _ (hHeld.2.2.2.2.2.2.2.1))).trans (hHeld.2.2.2.2.2.2.2.1)
   have bv := (hb.cell (wl_ _ _ (hHeld.2.2.2.2.2.2.2.2.1))).trans (hHeld.2.2.2.2.2.2.2.2.1)
   have bw := (hb.cell (wl_ _ _ (hHeld.2.2.2.2.2.2.2.2.2.1))).trans (hHeld.2.2.2.2.2.2.2.2.2.1)
   have cQ := (hb.cell (wl_ _ _ (hHeld.2.2.2.2.2.2.2.2.2.2.1))).trans (hHeld.2.2.2.2.2.2.2.2.2.2.1)
   have cR := (hb.cell (wl_ _ _ (hHeld.2.2.2.2.2.2.2.2.2.2.2.1))).trans (hHeld.2.2.2.2.2.2.2.2.2.2.2.1)
   have cS := (hb.cell (wl_ _ _ (hHeld.2.2.2.2.2.2.2.2.2.2.2.2.1))).trans (hHeld.2.2.2.2.2.2.2.2.2.2.2.2.1)
   have cT := (hb.cell (wl_ _ _ (hHeld.2.2.2.2.2.2.2.2.2.2.2.2.2.1))).trans (hHeld.2.2.2.2.2.2.2.2.2.2.2.2.2.1)
   have cU := (hb.cell (wl_ _ _ (hHeld.2.2.2.2.2.2.2.2.2.2.2.2.2.2.1))).trans (hHeld.2.2.2.2.2.2.2.2.2.2.2.2.2.2.1)
   have cV := (hb.cell (wl_ _ _ (hHeld.2.2.2.2.2.2.2.2.2.2.2.2.2.2.2.1))).trans (hHeld.2.2.2.2.2.2.2.2.2.2.2.2.2.2.2.1)
   have cW := (hb.cell (wl_ _ _ (hHeld.2.2.2.2.2.2.2.2.2.2.2.2.2.2.2.2.1))).trans (hHeld.2.2.2.2.2.2.2.2.2.2.2.2.2.2.2.2.1)
   have cX := (hb.cell (wl_ _ _ (hHeld.2.2.2.2.2.2.2.2.2.2.2.2.2.2.2.2.2.1))).trans (hHeld.2.2.2.2.2.2.2.2.2.2.2.2.2.2.2.2.2.1)
   have cY := (hb.cell (wl_ _ _ (hHeld.2.2.2.2.2.2.2.2.2.2.2.2.2.2.2.2.2.2.1))).trans (hHeld.2.2.2.2.2.2.2.2.2.2.2.2.2.2.2.2.2.2.1)
   have cZ := (hb.cell (wl_ _ _ (hHeld.2.2.2.2.2.2.2.2.2.2.2.2.2.2.2.2.2.2.2))).trans (hHeld.2.2.2.2.2.2.2.2.2.2.2.2.2.2.2.2.2.2.2)
   refine ⟨_, rfl, ?_⟩
   replace HO_7 := a_ (Kd.N_below (vN_ HO_7.out) hb)
   replace HO_9 := a_ (Kd.N_below (vN_ HO_9.out) hb)
   replace HO_556001 := a_ (rb_ (vR_ HO_556001.out) hb)
   replace HO_556002 := a_ (rb_ (vR_ HO_556002.out) hb)
   replace HO_556003 := a_ (rb_ (vR_ HO_556003.out) hb)
   replace HO_556004 := a_ (rb_ (vR_ HO_556004.out) hb)
   replace HO_556005 := a_ (rb_ (vR_ HO_556005.out) hb)
   replace HO_556007 := a_ (Kd.N_below (vN_ HO_556007.out) hb)
   replace HO_557001 := a_ (rb_ (vR_ HO_557001.out) hb)
   replace HO_557002 := a_ (rb_ (vR_ HO_557002.out) hb)
   replace y := a_ (bq_ y.out hb)
   replace z := a_ (bq_ z.out hb)
   replace A := a_ (bq_ A.out hb)
   replace aj := a_ (cb_ (by repeat (first | (with_reducible exact aj.out) | (with_reducible refine Kd.C_alloc ?_ _) | (with_reducible refine Kd.C_drewN ?_ _) | (with_reducible refine Kd.C_drew ?_) | exact aj.out)) hb)
   replace ak := a_ (cb_ (by repeat (first | (with_reducible exact ak.out) | (with_reducible refine Kd.C_alloc ?_ _) | (with_reducible refine Kd.C_drewN ?_ _) | (with_reducible refine Kd.C_drew ?_) | exact ak.out)) hb)
   replace ao := a_ (cb_ (by repeat (first | (with_reducible exact ao.out) | (with_reducible refine Kd.C_alloc ?_ _) | (with_reducible refine Kd.C_drewN ?_ _) | (with_reducible refine Kd.C_drew ?_) | exact ao.out)) hb)
   replace ap := a_ (cb_ (by repeat (first | (with_reducible exact ap.out) | (with_reducible refine Kd.C_alloc ?_ _) | (with_reducible refine Kd.C_drewN ?_ _) | (with_reducible refine Kd.C_drew ?_) | exact ap.out)) hb)
   replace HB := hq_ hb
   clear hb
   refine hK.out _ _ ⟨bm, bn, bo, bp, bq, br, bs, bu, bv, bw, cQ, cR, cS, cT, cU, cV, cW, cX, cY, cZ⟩ (fun hHeld => ?_)
   clear hK K
   refine nor_ (N := some 100) ?_
   refine pn_ 24 101 ao_ ?_
   refine pn_ 25 102 ao_ ?_
   refine done_ dn_ ?_
   try go_wp2
   go_loopg [104] k2 (fun kq eD w' => ∃ (aG : Int), eD = .int .i64 aG ∧ Aside0 (jigsawlaw22_InverseTurns.l1 kq (b.length : Int) p true W d (b.length : Int) d (b.length : Int) aG = some r) ∧ Aside0 (kq ≤ k2) ∧ Aside0 (Kd.N k58 58 w' w.heap.size (fun a => some a ≠ ((.slice (some ax) W.length dm) : Value).ownBlock ∧ some a ≠ ((.slice q b.length s) : Value).ownBlock ∧ some a ≠ ((.slice u l.length v) : Value).ownBlock ∧ some a ≠ ((.slice J E.length M) : Value).ownBlock ∧ some a ≠ ((.slice O G.length Q) : Value).ownBlock ∧ some a ≠ ((.slice X I.length Y) : Value).ownBlock ∧ some a ≠ ((.slice aq am.length ar) : Value).ownBlock ∧ some a ≠ ((.slice u l.length v) : Value).ownBlock ∧ some a ≠ ((.slice q b.length s) : Value).ownBlock ∧ a ≠ aa ∧ a ≠ Z ∧ a ≠ U) (.slice (some ae) p.length dl) p) ∧ Aside0 (Kd.N k58 58 w' w.heap.size (fun a => some a ≠ ((.slice (some ae) p.length dl) : Value).ownBlock ∧ some a ≠ ((.slice q b.length s) : Value).ownBlock ∧ some a ≠ ((.slice u l.length v) : Value).ownBlock ∧ some a ≠ ((.slice J E.length M) : Value).ownBlock ∧ some a ≠ ((.slice O G.length Q) : Value).ownBlock ∧ some a ≠ ((.slice X I.length Y) : Value).ownBlock ∧ some a ≠ ((.slice aq am.length ar) : Value).ownBlock ∧ some a ≠ ((.slice u l.length v) : Value).ownBlock ∧ some a ≠ ((.slice q b.length s) : Value).ownBlock ∧ a ≠ aa ∧ a ≠ Z ∧ a ≠ U) (.slice (some ax) W.length dm) W) ∧ Aside0 (Kd.R (Kd.int .i64) 3 w' w.heap.size (fun a => some a ≠ ((.slice u l.length v) : Value).ownBlock ∧ some a ≠ ((.slice J E.length M) : Value).ownBlock ∧ some a ≠ ((.slice O G.length Q) : Value).ownBlock ∧ some a ≠ ((.slice X I.length Y) : Value).ownBlock ∧ some a ≠ ((.slice u l.length v) : Value).ownBlock) (.slice q b.length s) b) ∧ Aside0 (Kd.R (Kd.int .i64) 3 w' w.heap.size (fun a => some a ≠ ((.slice q b.length s) : Value).ownBlock ∧ some a ≠ ((.slice J E.length M) : Value).ownBlock ∧ some a ≠ ((.slice O G.length Q) : Value).ownBlock ∧ some a ≠ ((.slice X I.length Y) : Value).ownBlock ∧ some a ≠ ((.slice q b.length s) : Value).ownBlock) (.slice u l.length v) l) ∧ Aside0 (Kd.R (Kd.int .i64) 3 w' w.heap.size (fun a => some a ≠ ((.slice q b.length s) : Value).ownBlock ∧ some a ≠ ((.slice u l.length v) : Value).ownBlock ∧ some a ≠ ((.slice O G.length Q) : Value).ownBlock ∧ some a ≠ ((.slice X I.length Y) : Value).ownBlock ∧ some a ≠ ((.slice u l.length v) : Value).ownBlock ∧ some a ≠ ((.slice q b.length s) : Value).ownBlock) (.slice J E.length M) E) ∧ Aside0 (Kd.R (Kd.int .i64) 3 w' w.heap.size (fun a => some a ≠ ((.slice q b.length s) : Value).ownBlock ∧ some a ≠ ((.slice u l.length v) : Value).ownBlock ∧ some a ≠ ((.slice J E.length M) : Value).ownBlock ∧ some a ≠ ((.slice X I.length Y) : Value).ownBlock ∧ some a ≠ ((.slice u l.length v) : Value).ownBlock ∧ some a ≠ ((.slice q b.length s) : Value).ownBlock) (.slice O G.length Q) G) ∧ Aside0 (Kd.R (Kd.int .i64) 3 w' w.heap.size (fun a => some a ≠ ((.slice q b.length s) : Value).ownBlock ∧ some a ≠ ((.slice u l.length v) : Value).ownBlock ∧ some a ≠ ((.slice J E.length M) : Value).ownBlock ∧ some a ≠ ((.slice O G.length Q) : Value).ownBlock ∧ some a ≠ ((.slice u l.length v) : Value).ownBlock ∧ some a ≠ ((.slice q b.length s) : Value).ownBlock) (.slice X I.length Y) I) ∧ Aside0 (Kd.N (Kd.slice 3 (Kd.int .i64)) 30 w' w.heap.size (fun a => some a ≠ ((.slice (some ae) p.length dl) : Value).ownBlock ∧ some a ≠ ((.slice (some ax) W.length dm) : Value).ownBlock ∧ some a ≠ ((.slice q b.length s) : Value).ownBlock ∧ some a ≠ ((.slice u l.length v) : Value).ownBlock ∧ some a ≠ ((.slice J E.length M) : Value).ownBlock ∧ some a ≠ ((.slice O G.length Q) : Value).ownBlock ∧ some a ≠ ((.slice X I.length Y) : Value).ownBlock ∧ some a ≠ ((.slice u l.length v) : Value).ownBlock ∧ some a ≠ ((.slice q b.length s) : Value).ownBlock ∧ a ≠ aa ∧ a ≠ Z ∧ a ≠ U) (.slice aq am.length ar) am) ∧ Aside0 (Kd.R (Kd.int .i64) 3 w' w.heap.size (fun a => some a ≠ ((.slice q b.length s) : Value).ownBlock ∧ some a ≠ ((.slice J E.length M) : Value).ownBlock ∧ some a ≠ ((.slice O G.length Q) : Value).ownBlock ∧ some a ≠ ((.slice X I.length Y) : Value).ownBlock ∧ some a ≠ ((.slice q b.length s) : Value).ownBlock) (.slice u l.length v) l) ∧ Aside0 (Kd.R (Kd.int .i64) 3 w' w.heap.size (fun a => some a ≠ ((.slice u l.length v) : Value).ownBlock ∧ some a ≠ ((.slice J E.length M) : Value).ownBlock ∧ some a ≠ ((.slice O G.length Q) : Value).ownBlock ∧ some a ≠ ((.slice X I.length Y) : Value).ownBlock ∧ some a ≠ ((.slice u l.length v) : Value).ownBlock) (.slice q b.length s) b) ∧ Aside0 (w'.heap[aa]? = some (.cells #[.int .u8 aT, (.slice aY aK.length c0_1), (.slice aZ aM.length c0_2), (.slice a0 aN.length c0_3), .int .i16 aU, .int .u8 aV, (.slice a1 aP.length c0_6)] 29 (0, 0))) ∧ Aside0 (w'.heap[Z]? = some (.cells #[.int .i64 au, (.slice q b.length s), (.slice u l.length v), (.slice J E.length M), (.slice O G.length Q), (.slice X I.length Y), .int .i64 aQ, (.slice aq am.length ar)] 32 (0, 0))) ∧ Aside0 (w'.heap[U]? = some (.cells #[.int .i64 23, (.slice u l.length v), (.slice q b.length s), (.slice none 0 0), (.slice none 0 0), (.slice none 0 0), .int .i64 0, (.slice none 0 0)] 32 (0, 0))) ∧ Aside0 (Kd.C (Kd.int .u64) w' cc ((rd_T58 p d).f1).length ((rd_T58 p d).f1)) ∧ Aside0 (Kd.C (Kd.int .u64) w' ce ((rd_T58 W (B)).f1).length ((rd_T58 W (B)).f1)) ∧ Aside0 (Kd.C (Kd.int .u64) w' cg ((rd_T58 p (B)).f1).length ((rd_T58 p (B)).f1)) ∧ Aside0 (Kd.C (Kd.int .u64) w' ci ((rd_T58 W d).f1).length ((rd_T58 W d).f1)) ∧ Aside0 (Below w.heap.size w w'))
   case atStart => exact ⟨(0), eq_, H', ⟨lr_ _⟩, ⟨vN_ HO_7.out⟩, ⟨vN_ HO_9.out⟩, ⟨vR_ HO_556001.out⟩, ⟨vR_ HO_556002.out⟩, ⟨vR_ HO_556003.out⟩, ⟨vR_ HO_556004.out⟩, ⟨vR_ HO_556005.out⟩, ⟨vN_ HO_556007.out⟩, ⟨vR_ HO_557001.out⟩, ⟨vR_ HO_557002.out⟩, ⟨bk_ y.out⟩, ⟨bk_ z.out⟩, ⟨bk_ A.out⟩, ⟨by repeat (first | (with_reducible exact aj.out) | (with_reducible refine Kd.C_alloc ?_ _) | (with_reducible refine Kd.C_drewN ?_ _) | (with_reducible refine Kd.C_drew ?_) | exact aj.out)⟩, ⟨by repeat (first | (with_reducible exact ak.out) | (with_reducible refine Kd.C_alloc ?_ _) | (with_reducible refine Kd.C_drewN ?_ _) | (with_reducible refine Kd.C_drew ?_) | exact ak.out)⟩, ⟨by repeat (first | (with_reducible exact ao.out) | (with_reducible refine Kd.C_alloc ?_ _) | (with_reducible refine Kd.C_drewN ?_ _) | (with_reducible refine Kd.C_drew ?_) | exact ao.out)⟩, ⟨by repeat (first | (with_reducible exact ap.out) | (with_reducible refine Kd.C_alloc ?_ _) | (with_reducible refine Kd.C_drewN ?_ _) | (with_reducible refine Kd.C_drew ?_) | exact ap.out)⟩, ⟨bel_⟩⟩
   clear H'
   try clear c2
   try clear p2
   try clear c5
   try clear p5
   try clear q5
   try clear ft
   try clear c6
   try clear p6
   try clear c26
   try clear c55
   try clear c55b0
   try clear c56
   try clear c57
   try clear c57b0
   try clear c58
   try clear c58b0
   try clear p58
   try clear fu
   try clear fr
   try clear c59
   try clear p59
   try clear fv
   try clear fs
   try clear c60
   try clear c60b0
   try clear c61
   try clear c61b0
   try clear c63
   try clear c64
   try clear c64b0
   try clear p64
   try clear c65
   try clear c65b0
   try clear c67
   try clear bH
   try clear bb
   try clear bI
   try clear bJ
   try clear bK
   try clear bN
   try clear bd
   try clear bO
   try clear bP
   try clear bQ
   try clear bT
   try clear bf
   try clear bU
   try clear bV
   try clear bW
   try clear bX
   try clear bh
   try clear bY
   try clear bZ
   try clear b0
   try clear p588
   try clear p589
   try clear p591
   try clear p592
   try clear cb
   try clear cd
   try clear cf
   try clear ch
   obtain ⟨aG, rfl, HA, dE, HO_7, HO_9, HO_556001, HO_556002, HO_556003, HO_556004, HO_556005, HO_556007, HO_557001, HO_557002, y, z, A, aj, ak, ao, ap, HB⟩ := hrel
   cases gk with
   | zero => exact absurd HA.out (by simp [jigsawlaw22_InverseTurns.l1])
   | succ k3 =>
    have H := HA.out
    clear HA
    simp only [jigsawlaw22_InverseTurns.l1] at H
    by_cases c73 : aG < (b.length : Int)
    rotate_left
    ·
     rw [ig_ c73] at H
     have c73b0 : decide (aG < (b.length : Int)) = false := df_ c73
     clear c73
     have H' := a_ H
     clear H
     go_wp2
     go_roundg k3
     case measure => have := cP.out; have := dD.out; have := dE.out; omega
     exact ⟨(wrap64 (d + 1)), eq_, H', ⟨by have := cP.out; have := dD.out; have := dE.out; omega⟩, ⟨vN_ HO_7.out⟩, ⟨vN_ HO_9.out⟩, ⟨vR_ HO_556001.out⟩, ⟨vR_ HO_556002.out⟩, ⟨vR_ HO_556003.out⟩, ⟨vR_ HO_556004.out⟩, ⟨vR_ HO_556005.out⟩, ⟨vN_ HO_556007.out⟩, ⟨vR_ HO_557001.out⟩, ⟨vR_ HO_557002.out⟩, ⟨bk_ y.out⟩, ⟨bk_ z.out⟩, ⟨bk_ A.out⟩, ⟨bel_⟩⟩
    rw [ip_ c73] at H
    have c73b0 : decide (aG < (b.length : Int)) = true := dt_ c73
    clear c73
    by_cases c74 : 0 ≤ d
    rotate_left
    ·
     rw [ig_ c74] at H
     exact ab_ H
    rw [ip_ c74] at H
    have c74b0 : decide (0 ≤ d) = true := dt_ c74
    clear c74
    by_cases c75 : d < (p.length : Int)
    rotate_left
    ·
     rw [ig_ c75] at H
     exact ab_ H
    rw [ip_ c75] at H
    have c75b0 : decide (d < (p.length : Int)) = true := dt_ c75
    clear c75
    replace H := bo_ H
    obtain ⟨b1, en, H⟩ := H
    try dsimp only at H
    obtain ⟨an, bE⟩ : ∃ j_ : Int, (wrap64 ((b.length : Int) + aG)) = j_ := ⟨_, rfl⟩
    replace H : (if 0 ≤ (an) then (if (an) < (p.length : Int) then ((dom_Dom_Has.f ((rd_T58 p (an)).f0) ((rd_T58 p (an)).f1) ((rd_T58 p (an)).f2) ((rd_T58 p (an)).f3) ((rd_T58 p (an)).f4) (wrap64 (d + 1))).bind fun bx => (if (b1 != bx) = true then (none) else (jigsawlaw22_InverseTurns.l1 k3 (b.length : Int) p true W d (b.length : Int) d (b.length : Int) (wrap64 (aG + 1))))) else (none)) else (none)) = some r := by first | (rw [bE] at H; exact H) | (simp only [bE] at H ⊢; exact H)
    (try rw [bE] at en)
    have hji77w : (IntKind.i64.wrap ((b.length : Int) + aG)) = an := (i64_w _).trans bE
    by_cases c78 : 0 ≤ (an)
    rotate_left
    ·
     rw [ig_ c78] at H
     exact ab_ H
    rw [ip_ c78] at H
    have c78b0 : decide (0 ≤ (an)) = true := dt_ c78
    clear c78
    by_cases c79 : (an) < (p.length : Int)
    rotate_left
    ·
     rw [ig_ c79] at H
     exact ab_ H
    rw [ip_ c79] at H
    have c79b0 : decide ((an) < (p.length : Int)) = true := dt_ c79
    clear c79
    replace H := bo_ H
    obtain ⟨bx, e2, H⟩ := H
    try dsimp only at H
    by_cases c81 : (b1 != bx) = true
    ·
     rw [ip_ c81] at H
     exact ab_ H
    rw [ig_ c81] at H
    have c81b0 : (b1 != bx) = false := by simpa using c81
    (try (have c81b1 : decide (b1 = bx) = true := by simpa using c81))
    (try (have c81b2 : (b1 == bx) = true := by simpa using c81))
    clear c81
    have H' := a_ H
    clear H
    try go_wp2
    replace HO_7 := a_ (Kd.N_drew HO_7.out)
    replace HO_9 := a_ (Kd.N_drew HO_9.out)
    replace HO_556001 := a_ (Kd.R_drew HO_556001.out)
    replace HO_556002 := a_ (Kd.R_drew HO_556002.out)
    replace HO_556003 := a_ (Kd.R_drew HO_556003.out)
    replace HO_556004 := a_ (Kd.R_drew HO_556004.out)
    replace HO_556005 := a_ (Kd.R_drew HO_556005.out)
    replace HO_556007 := a_ (Kd.N_drew HO_556007.out)
    replace HO_557001 := a_ (Kd.R_drew HO_557001.out)
    replace HO_557002 := a_ (Kd.R_drew HO_557002.out)
    replace y := a_ (blk_drew y.out)
    replace z := a_ (blk_drew z.out)
    replace A := a_ (blk_drew A.out)
    replace aj := a_ (Kd.C_drew aj.out)
    replace ak := a_ (Kd.C_drew ak.out)
    replace ao := a_ (Kd.C_drew ao.out)
    replace ap := a_ (Kd.C_drew ap.out)
    replace HB := a_ (below_drew1 HB.out)
    have p594 : 0 ≤ (d : Int) := dq_
    have c0 : d < (p.length : Int) := dq_
    obtain ⟨ec, db, c594_1, eE, cw, b2, cx, cy, cz, cA, cB⟩ := at_T58 (Kd.N_reads' HO_7.out).2.2 d p594 c0
    obtain rfl : ae = ec := (by injection eE)
    obtain ⟨ce594, hce594, hMe594, hcc594⟩ := Kd.N_get HO_7.out z58 d p594 (by first | exact c0 | exact dq_ | (have e_ := (Kd.N_reads' HO_7.out).1; omega))
    obtain ⟨ua594_1, uc594_1, rfl, cC, cD⟩ := k58_openF hMe594
    have bj := hcc594 1 _ rfl
    rw [add_field _ _ 1 (by omega)] at bj
    replace bj := si_ (bj.symm.trans b2)
    injection bj with hva_ hvn_ hvc_
    rw [hva_] at cD
    rw [hvc_] at cC
    clear hva_ hvn_ hvc_ cD cC
    clear hcc594 hce594
    have b3 := a_ cB
    have dJ := a_ cA
    clear cB cA
    replace p594 := et_ p594
    replace c0 := et_ c0
    have p596 : 0 ≤ ((an) : Int) := dq_
    have c7 : (an) < (p.length : Int) := dq_
    obtain ⟨ed, dc, c596_1, eF, cE, b4, cF, cG, cH, cI, cJ⟩ := at_T58 (Kd.N_reads' HO_7.out).2.2 (an) p596 c7
    obtain rfl : ae = ed := (by injection eF)
    obtain ⟨ce596, hce596, hMe596, hcc596⟩ := Kd.N_get HO_7.out z58 (an) p596 (by first | exact c7 | exact dq_ | (have e_ := (Kd.N_reads' HO_7.out).1; omega))
    obtain ⟨ua596_1, uc596_1, rfl, cK, cL⟩ := k58_openF hMe596
    have bk := hcc596 1 _ rfl
    rw [add_field _ _ 1 (by omega)] at bk
    replace bk := si_ (bk.symm.trans b4)
    injection bk with hva_ hvn_ hvc_
    rw [hva_] at cL
    rw [hvc_] at cK
    clear hva_ hvn_ hvc_ cL cK
    clear hcc596 hce596
    have a3 := a_ cJ
    have dK := a_ cI
    clear cJ cI
    replace p596 := et_ p596
    replace c7 := et_ c7
    refine start_ (n := 17) (S := fun w' => w'.cell? (ae.add ((d).toNat * 5)) = some (.int .i64 ((rd_T58 p d).f0)) ∧ w'.cell? ⟨(ae.add ((d).toNat * 5)).block, (ae.add ((d).toNat * 5)).off + 1, none⟩ = some (.slice db ((rd_T58 p d).f1).length c594_1) ∧ w'.cell? ⟨(ae.add ((d).toNat * 5)).block, (ae.add ((d).toNat * 5)).off + 2, none⟩ = some (.int .i64 ((rd_T58 p d).f2)) ∧ w'.cell? ⟨(ae.add ((d).toNat * 5)).block, (ae.add ((d).toNat * 5)).off + 3, none⟩ = some (.int .i64 ((rd_T58 p d).f3)) ∧ w'.cell? ⟨(ae.add ((d).toNat * 5)).block, (ae.add ((d).toNat * 5)).off + 4, none⟩ = some (.int .i64 ((rd_T58 p d).f4)) ∧ w'.cell? (ae.add (((an)).toNat * 5)) = some (.int .i64 ((rd_T58 p (an)).f0)) ∧ w'.cell? ⟨(ae.add (((an)).toNat * 5)).block, (ae.add (((an)).toNat * 5)).off + 1, none⟩ = some (.slice dc ((rd_T58 p (an)).f1).length c596_1) ∧ w'.cell? ⟨(ae.add (((an)).toNat * 5)).block, (ae.add (((an)).toNat * 5)).off + 2, none⟩ = some (.int .i64 ((rd_T58 p (an)).f2)) ∧ w'.cell? ⟨(ae.add (((an)).toNat * 5)).block, (ae.add (((an)).toNat * 5)).off + 3, none⟩ = some (.int .i64 ((rd_T58 p (an)).f3)) ∧ w'.cell? ⟨(ae.add (((an)).toNat * 5)).block, (ae.add (((an)).toNat * 5)).off + 4, none⟩ = some (.int .i64 ((rd_T58 p (an)).f4))) (ds := []) #[false, false, false, false, false, false, false, false, false, false, false, false, false, false, false, false, false] kr_ rfl rfl ⟨cw, b2, cx, cy, cz, cE, b4, cF, cG, cH⟩ (fun hHeld => ?_); refine with_tabW jigsawlaw22_InverseTurns.tab17 jigsawlaw22_InverseTurns.bits17 (fun HT_ HW_ => ?_)
    generalize wr.drew = w82 at HO_7 HO_9 HO_556001 HO_556002 HO_556003 HO_556004 HO_556005 HO_556007 HO_557001 HO_557002 y z A aj ak ao ap HB b3 a3 cw b2 cx cy cz cE b4 cF cG cH hHeld ⊢
    refine pn_ 0 107 ao_ ?_
    refine pn_ 1 108 ao_ ?_
    refine pn_ 2 109 ao_ ?_
    refine pn_ 4 111 ao_ ?_
    refine pn_ 5 112 ao_ ?_
    refine pn_ 7 114 ao_ ?_
    refine pn_ 8 115 ao_ ?_
    refine pn_ 9 116 ao_ ?_
    refine pn_ 10 117 ao_ ?_
    refine pn_ 11 118 ao_ ?_
    refine pn_ 13 120 ao_ ?_
    refine pn_ 14 121 ao_ ?_
    refine tn_ 3 110 tw_ hHeld ?_
    refine tn_ 12 119 tw_ hHeld ?_
    refine onn_ 6 113 #[true, true, true, true, true, true, true, true, true, true, true, true, true, true, true, false, false] rfl rfl on_ (by decide) (fun K hK => ?_)
    refine goes_ Tryz.func24 kr_ rfl #[.agg #[.int .i64 ((rd_T58 p d).f0), .slice db ((rd_T58 p d).f1).length c594_1, .int .i64 ((rd_T58 p d).f2), .int .i64 ((rd_T58 p d).f3), .int .i64 ((rd_T58 p d).f4)], .int .i64 (wrap64 (aG + 1))] (by rfl) rfl rfl ar_ ?_
    with_reducible refine (dom_Dom_Has.calls ((rd_T58 p d).f0) _ _ ((rd_T58 p d).f1) ((rd_T58 p d).f2) ((rd_T58 p d).f3) ((rd_T58 p d).f4) (wrap64 (aG + 1)) b1 _ ?_ ?_ en.out).mono ?_
    focus repeat (first | exact (by repeat (first | (with_reducible exact b3.out) | (with_reducible refine Kd.C_alloc ?_ _) | (with_reducible refine Kd.C_drewN ?_ _) | (with_reducible refine Kd.C_drew ?_) | exact b3.out)) | (with_reducible refine Kd.C_alloc ?_ _) | (with_reducible refine Kd.C_drewN ?_ _) | (with_reducible refine Kd.C_drew ?_))
    exact dJ.out
    rintro e w83 ⟨rfl, hb⟩
    have bm := (hb.cell (wl_ _ _ (hHeld.1))).trans (hHeld.1)
    have bn := (hb.cell (wl_ _ _ (hHeld.2.1))).trans (hHeld.2.1)
    have bo := (hb.cell (wl_ _ _ (hHeld.2.2.1))).trans (hHeld.2.2.1)
    have bp := (hb.cell (wl_ _ _ (hHeld.2.2.2.1))).trans (hHeld.2.2.2.1)
    have bq := (hb.cell (wl_ _ _ (hHeld.2.2.2.2.1))).trans (hHeld.2.2.2.2.1)
    have br := (hb.cell (wl_ _ _ (hHeld.2.2.2.2.2.1))).trans (hHeld.2.2.2.2.2.1)
    have bs := (hb.cell (wl_ _ _ (hHeld.2.2.2.2.2.2.1))).trans (hHeld.2.2.2.2.2.2.1)
    have bu := (hb.cell (wl_ _ _ (hHeld.2.2.2.2.2.2.2.1))).trans (hHeld.2.2.2.2.2.2.2.1)
    have bv := (hb.cell (wl_ _ _ (hHeld.2.2.2.2.2.2.2.2.1))).trans (hHeld.2.2.2.2.2.2.2.2.1)
    have bw := (hb.cell (wl_ _ _ (hHeld.2.2.2.2.2.2.2.2.2))).trans (hHeld.2.2.2.2.2.2.2.2.2)
    refine ⟨_, rfl, ?_⟩
    replace HO_7 := a_ (Kd.N_below (vN_ HO_7.out) hb)
    replace HO_9 := a_ (Kd.N_below (vN_ HO_9.out) hb)
    replace HO_556001 := a_ (rb_ (vR_ HO_556001.out) hb)
    replace HO_556002 := a_ (rb_ (vR_ HO_556002.out) hb)
    replace HO_556003 := a_ (rb_ (vR_ HO_556003.out) hb)
    replace HO_556004 := a_ (rb_ (vR_ HO_556004.out) hb)
    replace HO_556005 := a_ (rb_ (vR_ HO_556005.out) hb)
    replace HO_556007 := a_ (Kd.N_below (vN_ HO_556007.out) hb)
    replace HO_557001 := a_ (rb_ (vR_ HO_557001.out) hb)
    replace HO_557002 := a_ (rb_ (vR_ HO_557002.out) hb)
    replace y := a_ (bq_ y.out hb)
    replace z := a_ (bq_ z.out hb)
    replace A := a_ (bq_ A.out hb)
    replace aj := a_ (cb_ (by repeat (first | (with_reducible exact aj.out) | (with_reducible refine Kd.C_alloc ?_ _) | (with_reducible refine Kd.C_drewN ?_ _) | (with_reducible refine Kd.C_drew ?_) | exact aj.out)) hb)
    replace ak := a_ (cb_ (by repeat (first | (with_reducible exact ak.out) | (with_reducible refine Kd.C_alloc ?_ _) | (with_reducible refine Kd.C_drewN ?_ _) | (with_reducible refine Kd.C_drew ?_) | exact ak.out)) hb)
    replace ao := a_ (cb_ (by repeat (first | (with_reducible exact ao.out) | (with_reducible refine Kd.C_alloc ?_ _) | (with_reducible refine Kd.C_drewN ?_ _) | (with_reducible refine Kd.C_drew ?_) | exact ao.out)) hb)
    replace ap := a_ (cb_ (by repeat (first | (with_reducible exact ap.out) | (with_reducible refine Kd.C_alloc ?_ _) | (with_reducible refine Kd.C_drewN ?_ _) | (with_reducible refine Kd.C_drew ?_) | exact ap.out)) hb)
    replace a3 := a_ (cb_ (by repeat (first | (with_reducible exact a3.out) | (with_reducible refine Kd.C_alloc ?_ _) | (with_reducible refine Kd.C_drewN ?_ _) | (with_reducible refine Kd.C_drew ?_) | exact a3.out)) hb)
    replace HB := hq_ hb
    clear hb
    refine hK.out _ _ ⟨bm, bn, bo, bp, bq, br, bs, bu, bv, bw⟩ (fun hHeld => ?_)
    clear hK K
    refine nor_ (N := some 113) ?_
    refine onn_ 15 122 #[true, true, true, true, true, true, true, true, true, true, true, true, true, true, true, true, false] rfl rfl on_ (by decide) (fun K hK => ?_)
    refine goes_ Tryz.func24 kr_ rfl #[.agg #[.int .i64 ((rd_T58 p (an)).f0), .slice dc ((rd_T58 p (an)).f1).length c596_1, .int .i64 ((rd_T58 p (an)).f2), .int .i64 ((rd_T58 p (an)).f3), .int .i64 ((rd_T58 p (an)).f4)], .int .i64 (wrap64 (d + 1))] (by rfl) rfl rfl (by (try simp only [List.map_toArray, List.map_cons, List.map_nil]); first | done | (simp only [bE]; rfl) | rfl | (simp only [List.length_drop, List.length_take]; rfl)) ?_
    with_reducible refine (dom_Dom_Has.calls ((rd_T58 p (an)).f0) _ _ ((rd_T58 p (an)).f1) ((rd_T58 p (an)).f2) ((rd_T58 p (an)).f3) ((rd_T58 p (an)).f4) (wrap64 (d + 1)) bx _ ?_ ?_ e2.out).mono ?_
    focus repeat (first | exact (by repeat (first | (with_reducible exact a3.out) | (with_reducible refine Kd.C_alloc ?_ _) | (with_reducible refine Kd.C_drewN ?_ _) | (with_reducible refine Kd.C_drew ?_) | exact a3.out)) | (with_reducible refine Kd.C_alloc ?_ _) | (with_reducible refine Kd.C_drewN ?_ _) | (with_reducible refine Kd.C_drew ?_))
    exact dK.out
    rintro e w84 ⟨rfl, hb⟩
    have bm := (hb.cell (wl_ _ _ (hHeld.1))).trans (hHeld.1)
    have bn := (hb.cell (wl_ _ _ (hHeld.2.1))).trans (hHeld.2.1)
    have bo := (hb.cell (wl_ _ _ (hHeld.2.2.1))).trans (hHeld.2.2.1)
    have bp := (hb.cell (wl_ _ _ (hHeld.2.2.2.1))).trans (hHeld.2.2.2.1)
    have bq := (hb.cell (wl_ _ _ (hHeld.2.2.2.2.1))).trans (hHeld.2.2.2.2.1)
    have br := (hb.cell (wl_ _ _ (hHeld.2.2.2.2.2.1))).trans (hHeld.2.2.2.2.2.1)
    have bs := (hb.cell (wl_ _ _ (hHeld.2.2.2.2.2.2.1))).trans (hHeld.2.2.2.2.2.2.1)
    have bu := (hb.cell (wl_ _ _ (hHeld.2.2.2.2.2.2.2.1))).trans (hHeld.2.2.2.2.2.2.2.1)
    have bv := (hb.cell (wl_ _ _ (hHeld.2.2.2.2.2.2.2.2.1))).trans (hHeld.2.2.2.2.2.2.2.2.1)
    have bw := (hb.cell (wl_ _ _ (hHeld.2.2.2.2.2.2.2.2.2))).trans (hHeld.2.2.2.2.2.2.2.2.2)
    refine ⟨_, rfl, ?_⟩
    replace HO_7 := a_ (Kd.N_below (vN_ HO_7.out) hb)
    replace HO_9 := a_ (Kd.N_below (vN_ HO_9.out) hb)
    replace HO_556001 := a_ (rb_ (vR_ HO_556001.out) hb)
    replace HO_556002 := a_ (rb_ (vR_ HO_556002.out) hb)
    replace HO_556003 := a_ (rb_ (vR_ HO_556003.out) hb)
    replace HO_556004 := a_ (rb_ (vR_ HO_556004.out) hb)
    replace HO_556005 := a_ (rb_ (vR_ HO_556005.out) hb)
    replace HO_556007 := a_ (Kd.N_below (vN_ HO_556007.out) hb)
    replace HO_557001 := a_ (rb_ (vR_ HO_557001.out) hb)
    replace HO_557002 := a_ (rb_ (vR_ HO_557002.out) hb)
    replace y := a_ (bq_ y.out hb)
    replace z := a_ (bq_ z.out hb)
    replace A := a_ (bq_ A.out hb)
    replace aj := a_ (cb_ (by repeat (first | (with_reducible exact aj.out) | (with_reducible refine Kd.C_alloc ?_ _) | (with_reducible refine Kd.C_drewN ?_ _) | (with_reducible refine Kd.C_drew ?_) | exact aj.out)) hb)
    replace ak := a_ (cb_ (by repeat (first | (with_reducible exact ak.out) | (with_reducible refine Kd.C_alloc ?_ _) | (with_reducible refine Kd.C_drewN ?_ _) | (with_reducible refine Kd.C_drew ?_) | exact ak.out)) hb)
    replace ao := a_ (cb_ (by repeat (first | (with_reducible exact ao.out) | (with_reducible refine Kd.C_alloc ?_ _) | (with_reducible refine Kd.C_drewN ?_ _) | (with_reducible refine Kd.C_drew ?_) | exact ao.out)) hb)
    replace ap := a_ (cb_ (by repeat (first | (with_reducible exact ap.out) | (with_reducible refine Kd.C_alloc ?_ _) | (with_reducible refine Kd.C_drewN ?_ _) | (with_reducible refine Kd.C_drew ?_) | exact ap.out)) hb)
    replace HB := hq_ hb
    clear hb
    refine hK.out _ _ ⟨bm, bn, bo, bp, bq, br, bs, bu, bv, bw⟩ (fun hHeld => ?_)
    clear hK K
    refine nor_ (N := some 122) ?_
    refine pn_ 16 123 ao_ ?_
    refine done_ dn_ ?_
    try go_wp2
    go_roundg k3
    case measure => have := cP.out; have := dD.out; have := dE.out; omega
    exact ⟨(wrap64 (aG + 1)), eq_, H', ⟨by have := cP.out; have := dD.out; have := dE.out; omega⟩, ⟨vN_ HO_7.out⟩, ⟨vN_ HO_9.out⟩, ⟨vR_ HO_556001.out⟩, ⟨vR_ HO_556002.out⟩, ⟨vR_ HO_556003.out⟩, ⟨vR_ HO_556004.out⟩, ⟨vR_ HO_556005.out⟩, ⟨vN_ HO_556007.out⟩, ⟨vR_ HO_557001.out⟩, ⟨vR_ HO_557002.out⟩, ⟨bk_ y.out⟩, ⟨bk_ z.out⟩, ⟨bk_ A.out⟩, ⟨by repeat (first | (with_reducible exact aj.out) | (with_reducible refine Kd.C_alloc ?_ _) | (with_reducible refine Kd.C_drewN ?_ _) | (with_reducible refine Kd.C_drew ?_) | exact aj.out)⟩, ⟨by repeat (first | (with_reducible exact ak.out) | (with_reducible refine Kd.C_alloc ?_ _) | (with_reducible refine Kd.C_drewN ?_ _) | (with_reducible refine Kd.C_drew ?_) | exact ak.out)⟩, ⟨by repeat (first | (with_reducible exact ao.out) | (with_reducible refine Kd.C_alloc ?_ _) | (with_reducible refine Kd.C_drewN ?_ _) | (with_reducible refine Kd.C_drew ?_) | exact ao.out)⟩, ⟨by repeat (first | (with_reducible exact ap.out) | (with_reducible refine Kd.C_alloc ?_ _) | (with_reducible refine Kd.C_drewN ?_ _) | (with_reducible refine Kd.C_drew ?_) | exact ap.out)⟩, ⟨bel_⟩⟩

end Go.Proofs.YtfbfalhdgmjdpaaGreatDoor.XInverseTurns
