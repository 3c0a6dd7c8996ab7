-- by xprint.py, a program of this session, over the kit's print
import Derived.Test.YtfbfalhdgmjdpaaGreatDoorXIRex0
import Derived.Test.YtfbfalhdgmjdpaaGreatDoorXIRex6
import Derived.Test.YtfbfalhdgmjdpaaGreatDoorXIRex10
import Derived.Test.YtfbfalhdgmjdpaaGreatDoorXIRex15
import Derived.Test.YtfbfalhdgmjdpaaGreatDoorXIRex16
import Derived.Test.YtfbfalhdgmjdpaaGreatDoorXIRex17
import Derived.Test.YtfbfalhdgmjdpaaGreatDoorXIRex18
import Derived.Test.YtfbfalhdgmjdpaaGreatDoorXIRex22
import Derived.Test.YtfbfalhdgmjdpaaGreatDoorSq
namespace Go.Proofs.YtfbfalhdgmjdpaaGreatDoor.XInverseRefuses
open Go.RowKit Go.Proofs.YtfbfalhdgmjdpaaGreatDoor.Sq Go.Proofs.YtfbfalhdgmjdpaaGreatDoorW.PrintWords Go.Proofs.YtfbfalhdgmjdpaaGreatDoorW.PrintLast Go.Proofs.YtfbfalhdgmjdpaaGreatDoorW.PrintMore
attribute [local go_sem] max2_int min2_int max_two min_two max_three min_three max_four min_four   -- for this text's walks alone
set_option linter.unusedVariables false
set_option linter.unusedSimpArgs false

/-! ### jigsawlaw22_InverseRefuses: function 4 -/
mutual
def jigsawlaw22_InverseRefuses.j0 : Nat → List (List Int) → List (S58) → Bool → Bool → Option (Bool)
 | 0, _, _, _, _ => none
 | k + 1, g, a, b, e => if e = true then ((jigsawlaw22_wakes.f k).bind fun c => (if c = true then (if b = true then (some ((a.length : Int) == (g.length : Int))) else (some true)) else (none))) else ((jigsawlaw22_wakes.f k).bind fun d => (if d = true then (if b = true then (none) else (some ((a.length : Int) == 0))) else (none)))
def jigsawlaw22_InverseRefuses.j1 : Nat → List (List Int) → List (S58) → Bool → Bool → Option (Bool)
 | 0, _, _, _, _ => none
 | k + 1, g, a, b, e => if e = true then ((jigsawlaw22_wakes.f k).bind fun c => (if c = true then (if b = true then (some ((a.length : Int) == (g.length : Int))) else (some true)) else (none))) else ((jigsawlaw22_wakes.f k).bind fun d => (if d = true then (if b = true then (none) else (some ((a.length : Int) == 0))) else (none)))
def jigsawlaw22_InverseRefuses.j2 : Nat → List (List Int) → List (S58) → Bool → Bool → Option (Bool)
 | 0, _, _, _, _ => none
 | k + 1, g, a, b, e => if e = true then ((jigsawlaw22_wakes.f k).bind fun c => (if c = true then (if b = true then (some ((a.length : Int) == (g.length : Int))) else (some true)) else (none))) else ((jigsawlaw22_wakes.f k).bind fun d => (if d = true then (if b = true then (none) else (some ((a.length : Int) == 0))) else (none)))
def jigsawlaw22_InverseRefuses.j3 : Nat → List (List Int) → List (S58) → Bool → Bool → Option (Bool)
 | 0, _, _, _, _ => none
 | k + 1, g, a, b, e => if e = true then ((jigsawlaw22_wakes.f k).bind fun c => (if c = true then (if b = true then (some ((a.length : Int) == (g.length : Int))) else (some true)) else (none))) else ((jigsawlaw22_wakes.f k).bind fun d => (if d = true then (if b = true then (none) else (some ((a.length : Int) == 0))) else (none)))
def jigsawlaw22_InverseRefuses.j4 : Nat → List (List Int) → List (S58) → Bool → Bool → Option (Bool)
 | 0, _, _, _, _ => none
 | k + 1, g, a, b, e => if e = true then ((jigsawlaw22_wakes.f k).bind fun c => (if c = true then (if b = true then (some ((a.length : Int) == (g.length : Int))) else (some true)) else (none))) else ((jigsawlaw22_wakes.f k).bind fun d => (if d = true then (if b = true then (none) else (some ((a.length : Int) == 0))) else (none)))
end
def jigsawlaw22_InverseRefuses.f (k : Nat) (x : Int) (y : List Int) (z : List Int) (A : List Int) (B : Int) (C : Int) (E : List (List Int)) (o : Int) (F : List Int) (G : List Int) (I : List Int) (J : List Int) (K : List Int) (p : Int) (Z : List (List Int)) (q : Int) : Option (Bool) := (jigsawref10_Make.f k x y z A B C E (wrap64 (1 + (Int.tmod (wrap64 (q / 8)) 23))) 6).bind fun a => (if (Int.tmod q 5) = 0 then (if 0 ≤ (wrap64 ((a.2.2.2.2.2.2.2.2.length : Int) - 1)) then (if (wrap64 ((a.2.2.2.2.2.2.2.2.length : Int) - 1)) ≤ (a.2.2.2.2.2.2.2.2.length : Int) then ((some (a.2.2.2.2.2.2.2.2.take ((wrap64 ((a.2.2.2.2.2.2.2.2.length : Int) - 1)) : Int).toNat : List (List Int))).bind fun b => ((jigsawlaw22_doms.f k b).bind fun M => ((inverse_Filter.f k a.1 a.2.1 a.2.2.1 a.2.2.2.1 a.2.2.2.2.1 a.2.2.2.2.2.1 a.2.2.2.2.2.2.1 a.2.2.2.2.2.2.2.1 M).bind fun e => ((jigsawref10_Fits.f k a.1 a.2.1 a.2.2.1 a.2.2.2.1 a.2.2.2.2.1 a.2.2.2.2.2.1 a.2.2.2.2.2.2.1 a.2.2.2.2.2.2.2.1 b 23 23).bind fun N => (jigsawlaw22_InverseRefuses.j0 k b e.1 e.2 N))))) else (none)) else (none)) else (if (Int.tmod q 5) = 1 then (if 0 < (a.2.2.2.2.2.2.2.2.length : Int) then ((some (a.2.2.2.2.2.2.2.2.set (0 : Int).toNat ([] : List Int) : List (List Int))).bind fun c => ((jigsawlaw22_doms.f k c).bind fun O => ((inverse_Filter.f k a.1 a.2.1 a.2.2.1 a.2.2.2.1 a.2.2.2.2.1 a.2.2.2.2.2.1 a.2.2.2.2.2.2.1 a.2.2.2.2.2.2.2.1 O).bind fun g => ((jigsawref10_Fits.f k a.1 a.2.1 a.2.2.1 a.2.2.2.1 a.2.2.2.2.1 a.2.2.2.2.2.1 a.2.2.2.2.2.2.1 a.2.2.2.2.2.2.2.1 c 23 23).bind fun P => (jigsawlaw22_InverseRefuses.j1 k c g.1 g.2 P))))) else (none)) else (if (Int.tmod q 5) = 2 then (if a.2.2.2.2.2.2.2.2.length < 5864062014805 then ((some (a.2.2.2.2.2.2.2.2 ++ [(([1] : List Int))] : List (List Int))).bind fun d => ((jigsawlaw22_doms.f k d).bind fun Q => ((inverse_Filter.f k a.1 a.2.1 a.2.2.1 a.2.2.2.1 a.2.2.2.2.1 a.2.2.2.2.2.1 a.2.2.2.2.2.2.1 a.2.2.2.2.2.2.2.1 Q).bind fun l => ((jigsawref10_Fits.f k a.1 a.2.1 a.2.2.1 a.2.2.2.1 a.2.2.2.2.1 a.2.2.2.2.2.1 a.2.2.2.2.2.2.1 a.2.2.2.2.2.2.2.1 d 23 23).bind fun U => (jigsawlaw22_InverseRefuses.j2 k d l.1 l.2 U))))) else (none)) else (if (Int.tmod q 5) = 3 then ((jigsawlaw22_InverseRefuses_1.f F).bind fun r => ((jigsawlaw22_InverseRefuses_1.f G).bind fun s => ((jigsawlaw22_InverseRefuses_1.f I).bind fun t => ((jigsawlaw22_InverseRefuses_1.f J).bind fun u => ((jigsawlaw22_InverseRefuses_1.f K).bind fun v => ((jigsawlaw22_doms.f k a.2.2.2.2.2.2.2.2).bind fun V => ((inverse_Filter.f k o r s t u v p ([] : List (List Int)) V).bind fun m => ((jigsawref10_Fits.f k o r s t u v p ([] : List (List Int)) a.2.2.2.2.2.2.2.2 23 23).bind fun W => (jigsawlaw22_InverseRefuses.j3 k a.2.2.2.2.2.2.2.2 m.1 m.2 W))))))))) else ((jigsawlaw22_doms.f k a.2.2.2.2.2.2.2.2).bind fun X => ((inverse_Filter.f k a.1 a.2.1 a.2.2.1 a.2.2.2.1 a.2.2.2.2.1 a.2.2.2.2.2.1 a.2.2.2.2.2.2.1 a.2.2.2.2.2.2.2.1 X).bind fun n => ((jigsawref10_Fits.f k a.1 a.2.1 a.2.2.1 a.2.2.2.1 a.2.2.2.2.1 a.2.2.2.2.2.1 a.2.2.2.2.2.2.1 a.2.2.2.2.2.2.2.1 a.2.2.2.2.2.2.2.2 23 23).bind fun Y => (jigsawlaw22_InverseRefuses.j4 k a.2.2.2.2.2.2.2.2 n.1 n.2 Y))))))))
theorem jigsawlaw22_InverseRefuses.mono_l : ∀ k, (∀ a b c d, LeO (jigsawlaw22_InverseRefuses.j0 k a b c d) (jigsawlaw22_InverseRefuses.j0 (k + 1) a b c d)) ∧ (∀ a b c d, LeO (jigsawlaw22_InverseRefuses.j1 k a b c d) (jigsawlaw22_InverseRefuses.j1 (k + 1) a b c d)) ∧ (∀ a b c d, LeO (jigsawlaw22_InverseRefuses.j2 k a b c d) (jigsawlaw22_InverseRefuses.j2 (k + 1) a b c d)) ∧ (∀ a b c d, LeO (jigsawlaw22_InverseRefuses.j3 k a b c d) (jigsawlaw22_InverseRefuses.j3 (k + 1) a b c d)) ∧ (∀ a b c d, LeO (jigsawlaw22_InverseRefuses.j4 k a b c d) (jigsawlaw22_InverseRefuses.j4 (k + 1) a b c d))
 | 0 => by refine ⟨?_, ?_, ?_, ?_, ?_⟩ <;> (intros; exact LeO.none _)
 | k + 1 => by
  obtain ⟨ih0, ih1, ih2, ih3, ih4⟩ := jigsawlaw22_InverseRefuses.mono_l k
  have m0 := @inverse_Filter.mono
  have m1 := @jigsawlaw22_doms.mono
  have m2 := @jigsawlaw22_wakes.mono
  have m3 := @jigsawref10_Fits.mono
  have m4 := @jigsawref10_Make.mono
  refine ⟨?_, ?_, ?_, ?_, ?_⟩ <;> intros
  all_goals first | unfold jigsawlaw22_InverseRefuses.j0 | unfold jigsawlaw22_InverseRefuses.j1 | unfold jigsawlaw22_InverseRefuses.j2 | unfold jigsawlaw22_InverseRefuses.j3 | unfold jigsawlaw22_InverseRefuses.j4
  all_goals exact leo_
theorem jigsawlaw22_InverseRefuses.mono : ∀ l m n o p q r s t u a b c d e g k, LeO (jigsawlaw22_InverseRefuses.f k l m n o p q r s t u a b c d e g) (jigsawlaw22_InverseRefuses.f (k + 1) l m n o p q r s t u a b c d e g) := by
 intro l m n o p q r s t u a b c d e g k
 obtain ⟨ih0, ih1, ih2, ih3, ih4⟩ := jigsawlaw22_InverseRefuses.mono_l k
 unfold jigsawlaw22_InverseRefuses.f
 have m0 := @inverse_Filter.mono
 have m1 := @jigsawlaw22_doms.mono
 have m2 := @jigsawlaw22_wakes.mono
 have m3 := @jigsawref10_Fits.mono
 have m4 := @jigsawref10_Make.mono
 exact leo_
def jigsawlaw22_InverseRefuses.T11 : Bool × List (List Nat × List Nat) := (true, [([], []), ([0], [0]), ([], []), ([], []), ([3], [3]), ([2, 4], [2, 4]), ([], []), ([], []), ([7], [7]), ([6, 8, 5], [6, 8]), ([], []), ([], []), ([11], [11]), ([10, 12, 9], [10, 12]), ([], []), ([], []), ([15], [15]), ([14, 16, 13], [14, 16]), ([], []), ([], []), ([19], [19]), ([18, 20, 17], [18, 20]), ([], []), ([22], [22]), ([1, 5, 9, 13, 17, 21, 23], [1, 5, 9, 13, 17, 21, 23]), ([24, 21, 0, 1, 2, 3, 4, 5, 6, 7, 8, 9, 10, 11, 12, 13, 14, 15, 16, 17, 18, 19, 20, 21, 22, 23, 24], [24])])
def jigsawlaw22_InverseRefuses.B11 : List Nat := [0, 1, 0, 0, 8, 28, 0, 0, 128, 508, 0, 0, 2048, 8188, 0, 0, 32768, 131068, 0, 0, 524288, 2097148, 0, 4194304, 16777215, 33554431]
theorem jigsawlaw22_InverseRefuses.tab11 : rtab .any (opsOf Tryz.f4 11) = jigsawlaw22_InverseRefuses.T11 := by kernel_rfl
theorem jigsawlaw22_InverseRefuses.bits11 : waitsOk jigsawlaw22_InverseRefuses.T11.2 jigsawlaw22_InverseRefuses.B11 = true := by kernel_rfl
def jigsawlaw22_InverseRefuses.T12 : Bool × List (List Nat × List Nat) := (true, [([], []), ([], []), ([1], [1]), ([0, 2, 2], [0, 2]), ([3], [3]), ([4], [4]), ([4], [4]), ([5, 3, 0, 1, 2, 3, 4, 5], [5]), ([6, 7, 0, 1, 2, 3, 4, 5, 6, 7], [6])])
def jigsawlaw22_InverseRefuses.B12 : List Nat := [0, 0, 2, 7, 15, 31, 31, 63, 255]
theorem jigsawlaw22_InverseRefuses.tab12 : rtab .any (opsOf Tryz.f4 12) = jigsawlaw22_InverseRefuses.T12 := by kernel_rfl
theorem jigsawlaw22_InverseRefuses.bits12 : waitsOk jigsawlaw22_InverseRefuses.T12.2 jigsawlaw22_InverseRefuses.B12 = true := by kernel_rfl
set_option maxHeartbeats 8000000 in
set_option maxRecDepth 100000 in
theorem jigsawlaw22_InverseRefuses.calls (k : Nat) (aK : Int) (bj : Option Addr) (c0_1 : Nat) (av : List Int) (bk : Option Addr) (c0_2 : Nat) (aw : List Int) (bl : Option Addr) (c0_3 : Nat) (ax : List Int) (aM : Int) (aN : Int) (bm : Option Addr) (c0_6 : Nat) (ay : List (List Int)) (aE : Int) (bJ : Option Addr) (c1_1 : Nat) (bw : List Int) (bK : Option Addr) (c1_2 : Nat) (bx : List Int) (bL : Option Addr) (c1_3 : Nat) (bz : List Int) (bM : Option Addr) (c1_4 : Nat) (bA : List Int) (bN : Option Addr) (c1_5 : Nat) (bB : List Int) (bn : Int) (bP : Option Addr) (c1_7 : Nat) (bD : List (List Int)) (a2 : Int) (r : Bool) (w : World) (eV : Kd.C (Kd.int .u8) w bj av.length av) (eW : av.length ≤ c0_1) (eX : Kd.C (Kd.int .u8) w bk aw.length aw) (eY : aw.length ≤ c0_2) (eZ : Kd.C (Kd.int .i8) w bl ax.length ax) (e0 : ax.length ≤ c0_3) (e1 : Kd.C (Kd.slice 3 (Kd.int .i64)) w bm ay.length ay) (e2 : ay.length ≤ c0_6) (e3 : Kd.C (Kd.int .i64) w bJ bw.length bw) (e4 : bw.length ≤ c1_1) (e5 : Kd.C (Kd.int .i64) w bK bx.length bx) (e6 : bx.length ≤ c1_2) (e7 : Kd.C (Kd.int .i64) w bL bz.length bz) (e8 : bz.length ≤ c1_3) (e9 : Kd.C (Kd.int .i64) w bM bA.length bA) (fa : bA.length ≤ c1_4) (fb : Kd.C (Kd.int .i64) w bN bB.length bB) (fc : bB.length ≤ c1_5) (fS : Kd.C (Kd.slice 3 (Kd.int .i64)) w bP bD.length bD) (fd : bD.length ≤ c1_7) (hrtab : Kd.C (Kd.int .u8) w (some ⟨0, 0, none⟩) tabL.length tabL) (h : jigsawlaw22_InverseRefuses.f k aK av aw ax aM aN ay aE bw bx bz bA bB bn bD a2 = some r) :
  Calls Tryz.prog 4 #[.agg #[.int .u8 aK, .slice bj av.length c0_1, .slice bk aw.length c0_2, .slice bl ax.length c0_3, .int .i16 aM, .int .u8 aN, .slice bm ay.length c0_6], .agg #[.int .i64 aE, .slice bJ bw.length c1_1, .slice bK bx.length c1_2, .slice bL bz.length c1_3, .slice bM bA.length c1_4, .slice bN bB.length c1_5, .int .i64 bn, .slice bP bD.length c1_7], .int .u8 a2] w fun e w' => e = .returned (.bool r) ∧ Below w.heap.size w w' := by
 have hu29 := Tryz.underlying29
 have hu32 := Tryz.underlying32
 have cQ := a_ eV
 have cR := a_ eW
 clear eV eW
 have cS := a_ eX
 have cT := a_ eY
 clear eX eY
 have cU := a_ eZ
 have cV := a_ e0
 clear eZ e0
 have cW := a_ e1
 have cX := a_ e2
 clear e1 e2
 have fT := a_ e3
 have fU := a_ e4
 clear e3 e4
 have fV := a_ e5
 have fW := a_ e6
 clear e5 e6
 have fX := a_ e7
 have fY := a_ e8
 clear e7 e8
 have fZ := a_ e9
 have f0 := a_ fa
 clear e9 fa
 have f1 := a_ fb
 have f2 := a_ fc
 clear fb fc
 have iv := a_ fd
 clear fS fd
 have HRtab := a_ hrtab
 clear hrtab
 have HB := a_ (Below.refl w.heap.size w)
 unfold jigsawlaw22_InverseRefuses.f at h
 have H := h
 clear h
 replace H := bs_.mp H
 obtain ⟨⟨Z, u, y, A, B, E, ac, Y, aa⟩, ef, H⟩ := H
 try dsimp only at H
 have A4 := a_ ef
 clear ef
 by_cases c5 : (Int.tmod a2 5) = 0
 ·
  rw [ip_ c5] at H
  have c5b0 : ((Int.tmod a2 5) == 0) = true := beq_iff_eq.mpr c5
  have c5b1 : ((Int.tmod a2 5) != 0) = false := bn_.mpr c5
  clear c5
  obtain ⟨cE, cM⟩ : ∃ j_ : Int, (wrap64 ((aa.length : Int) - 1)) = j_ := ⟨_, rfl⟩
  replace H : (if 0 ≤ (cE) then (if (cE) ≤ (aa.length : Int) then ((some (aa.take ((cE) : Int).toNat : List (List Int))).bind fun bO => ((jigsawlaw22_doms.f k bO).bind fun cN => ((inverse_Filter.f k Z u y A B E ac Y cN).bind fun cY => ((jigsawref10_Fits.f k Z u y A B E ac Y bO 23 23).bind fun di => (jigsawlaw22_InverseRefuses.j0 k bO cY.1 cY.2 di))))) else (none)) else (none)) = some r := by first | (rw [cM] at H; exact H) | (simp only [cM] at H ⊢; exact H)
  (try rw [cM] at A4)
  have hji6w : (IntKind.i64.wrap ((aa.length : Int) - 1)) = cE := (i64_w _).trans cM
  by_cases c7 : 0 ≤ (cE)
  rotate_left
  ·
   rw [ig_ c7] at H
   exact ab_ H
  rw [ip_ c7] at H
  have c7b0 := et_ c7
  have c7b1 : decide (0 ≤ (cE)) = true := dt_ c7
  clear c7
  by_cases c8 : (cE) ≤ (aa.length : Int)
  rotate_left
  ·
   rw [ig_ c8] at H
   exact ab_ H
  rw [ip_ c8] at H
  have c8b0 := et_ c8
  have c8b1 : decide ((cE) ≤ (aa.length : Int)) = true := dt_ c8
  clear c8
  obtain ⟨bO, cZ⟩ : ∃ y_ : List (List Int), y_ = (aa.take ((cE) : Int).toNat) := ⟨_, rfl⟩
  replace H : ((jigsawlaw22_doms.f k bO).bind fun cN => ((inverse_Filter.f k Z u y A B E ac Y cN).bind fun cY => ((jigsawref10_Fits.f k Z u y A B E ac Y bO 23 23).bind fun di => (jigsawlaw22_InverseRefuses.j0 k bO cY.1 cY.2 di)))) = some r := h2_ H cZ
  have fe := a_ cZ
  clear cZ
  replace H := bo_ H
  obtain ⟨cN, A9, H⟩ := H
  try dsimp only at H
  replace H := bs_.mp H
  obtain ⟨⟨dE, dF⟩, fD, H⟩ := H
  try dsimp only at H
  have hG := a_ fD
  clear fD
  have eg := a_ H
  clear H
  go_enter Tryz.func4, Tryz.ntmps4
  try go_wp2_with (first | ((with_reducible refine gate_dst (N := 3) rfl ?_); (try (refine gate_guard (by rfl) ?_; dsimp only)); refine bxe_ (N := 3) (cs := #[.int .u8 aK, .slice bj av.length c0_1, .slice bk aw.length c0_2, .slice bl ax.length c0_3, .int .i16 aM, .int .u8 aN, .slice bm ay.length c0_6]) (t := 29) ?_; intro z hg w12 hbox hb; have l := a_ (hbox); have bW := a_ (by rw [hg]; exact (bz_ bel_) : w.heap.size ≤ z); have dA := bW; replace HB := hq_ hb; clear hb hbox hg) | ((with_reducible refine gate_dst (N := 4) rfl ?_); (try (refine gate_guard (by rfl) ?_; dsimp only)); refine bxe_ (N := 4) (cs := #[.int .i64 aE, .slice bJ bw.length c1_1, .slice bK bx.length c1_2, .slice bL bz.length c1_3, .slice bM bA.length c1_4, .slice bN bB.length c1_5, .int .i64 bn, .slice bP bD.length c1_7]) (t := 32) ?_; intro X hg w13 hbox hb; have s := a_ (hbox); have bX := a_ (by rw [hg]; exact (bz_ bel_) : w.heap.size ≤ X); have dB := bX; replace HB := hq_ hb; have bE := a_ ((by rw [hg]; exact Nat.ne_of_lt (blk_lt (bk_ l.out)) : z ≠ X)); have bF := a_ ((by rw [hg]; exact Nat.ne_of_gt (blk_lt (bk_ l.out)) : X ≠ z)); replace l := a_ (bq_ l.out hb); clear hb hbox hg; have iw := bE.out; have ix := bF.out; have dj : w13.cell? ⟨z, 0, none⟩ = some (.int .u8 aK) := (blk_cell l.out 0).trans rfl; have dk : w13.cell? ⟨z, 1, none⟩ = some (.slice bj av.length c0_1) := (blk_cell l.out 1).trans rfl; have dl : w13.cell? ⟨z, 2, none⟩ = some (.slice bk aw.length c0_2) := (blk_cell l.out 2).trans rfl; have dm : w13.cell? ⟨z, 3, none⟩ = some (.slice bl ax.length c0_3) := (blk_cell l.out 3).trans rfl; have dn : w13.cell? ⟨z, 4, none⟩ = some (.int .i16 aM) := (blk_cell l.out 4).trans rfl; have dp : w13.cell? ⟨z, 5, none⟩ = some (.int .u8 aN) := (blk_cell l.out 5).trans rfl; have dq : w13.cell? ⟨z, 6, none⟩ = some (.slice bm ay.length c0_6) := (blk_cell l.out 6).trans rfl; have dr := blk_frozen l.out 0; have dt := blk_frozen l.out 1; have du := blk_frozen l.out 2; have dv := blk_frozen l.out 3; have dw := blk_frozen l.out 4; have dx := blk_frozen l.out 5; have dy := blk_frozen l.out 6) | ((with_reducible refine gate_callee (f := 8) rfl ?_); refine goesL_ (some 19) rfl rfl Tryz.func8 kr_ rfl #[.agg #[.int .u8 aK, .slice bj av.length c0_1, .slice bk aw.length c0_2, .slice bl ax.length c0_3, .int .i16 aM, .int .u8 aN, .slice bm ay.length c0_6], .int .i64 (wrap64 (1 + (Int.tmod (wrap64 (a2 / 8)) 23))), .int .i64 6] rfl ar_ ?_; (with_reducible refine (jigsawref10_Make.calls k aK _ _ av _ _ aw _ _ ax aM aN _ _ ay (wrap64 (1 + (Int.tmod (wrap64 (a2 / 8)) 23))) 6 Z u y A B E ac Y aa _ ?_ ?_ ?_ ?_ ?_ ?_ ?_ ?_ A4.out).mono ?_); exact ca_ ((cb_ cQ.out HB.out)); exact cR.out; exact ca_ ((cb_ cS.out HB.out)); exact cT.out; exact ca_ ((cb_ cU.out HB.out)); exact cV.out; exact ca_ ((cb_ cW.out HB.out)); exact cX.out; rintro e w16 ⟨ch, ci, cj, ck, cl, cF, aQ, rfl, ab, cu, cv, cw, cx, cy, cz, hb⟩; refine ⟨_, rfl, ?_⟩; have G := a_ (Kd.R_lower ab (bz_ bel_)); have I := a_ (Kd.R_lower cu (bz_ bel_)); have J := a_ (Kd.R_lower cv (bz_ bel_)); have O := a_ (Kd.R_lower cw (bz_ bel_)); have Q := a_ (Kd.R_lower cx (bz_ bel_)); have F := a_ (Kd.N_lower (nm_ (ok' := fun a => some a ≠ ch.ownBlock ∧ some a ≠ ci.ownBlock ∧ some a ≠ cj.ownBlock ∧ some a ≠ ck.ownBlock ∧ some a ≠ cl.ownBlock ∧ some a ≠ aQ.ownBlock ∧ a ≠ z ∧ a ≠ X) (Kd.S_N (Kd.S_bound cy)) (fun a hk_ => ⟨hk_.1.1, hk_.1.2.1, hk_.1.2.2.1, hk_.1.2.2.2.1, hk_.1.2.2.2.2.1, hk_.1.2.2.2.2.2, (Kd.freshB (bk_ l.out) a hk_.2.1), (Kd.freshB (bk_ s.out) a hk_.2.1)⟩)) (bz_ bel_)); have U := a_ (Kd.N_lower (nm_ (ok' := fun a => some a ≠ ch.ownBlock ∧ some a ≠ ci.ownBlock ∧ some a ≠ cj.ownBlock ∧ some a ≠ ck.ownBlock ∧ some a ≠ cl.ownBlock ∧ some a ≠ cF.ownBlock ∧ a ≠ z ∧ a ≠ X) (Kd.S_N (Kd.S_bound cz)) (fun a hk_ => ⟨hk_.1.1, hk_.1.2.1, hk_.1.2.2.1, hk_.1.2.2.2.1, hk_.1.2.2.2.2.1, hk_.1.2.2.2.2.2, (Kd.freshB (bk_ l.out) a hk_.2.1), (Kd.freshB (bk_ s.out) a hk_.2.1)⟩)) (bz_ bel_)); replace l := a_ (bq_ l.out hb); replace s := a_ (bq_ s.out hb); replace HB := hq_ hb; clear hb ab cu cv cw cx cy cz) | ((with_reducible refine gate_dst (N := 7) rfl ?_); (try (refine gate_guard (by rfl) ?_; dsimp only)); refine bxe_ (N := 7) (cs := #[.int .i64 0, .slice none 0 0, .slice none 0 0, .slice none 0 0, .slice none 0 0, .slice none 0 0, .int .i64 0, .slice none 0 0]) (t := 32) ?_; intro c hg w17 hbox hb; replace G := a_ (rb_ (vR_ G.out) hb); replace I := a_ (rb_ (vR_ I.out) hb); replace J := a_ (rb_ (vR_ J.out) hb); replace O := a_ (rb_ (vR_ O.out) hb); replace Q := a_ (rb_ (vR_ Q.out) hb); replace F := a_ (Kd.N_below (Kd.N_elderB (vN_ F.out) c (Nat.le_of_eq hg.symm)) hb); replace U := a_ (Kd.N_below (Kd.N_elderB (vN_ U.out) c (Nat.le_of_eq hg.symm)) hb); have q := a_ (hbox); have bY := a_ (by rw [hg]; exact (bz_ bel_) : w.heap.size ≤ c); have dC := bY; replace HB := hq_ hb; have W := a_ ((by rw [hg]; exact Nat.ne_of_lt (blk_lt (bk_ l.out)) : z ≠ c)); have ad := a_ ((by rw [hg]; exact Nat.ne_of_gt (blk_lt (bk_ l.out)) : c ≠ z)); replace l := a_ (bq_ l.out hb); have d := a_ ((by rw [hg]; exact Nat.ne_of_lt (blk_lt (bk_ s.out)) : X ≠ c)); have ae := a_ ((by rw [hg]; exact Nat.ne_of_gt (blk_lt (bk_ s.out)) : c ≠ X)); replace s := a_ (bq_ s.out hb); clear hb hbox hg; have iy := ad.out; have iz := W.out; have iA := ae.out; have iB := d.out; obtain ⟨_, _, _, _, _, _, _, _, _, _, _, _, _, _, _, _⟩ := cel8_ q.out; obtain ⟨a8, a9, gC⟩ := Kd.R_slice G.out; subst gC; obtain ⟨bc, bd, gD⟩ := Kd.R_slice I.out; subst gD; obtain ⟨bo, bp, gE⟩ := Kd.R_slice J.out; subst gE; obtain ⟨bq, br, gF⟩ := Kd.R_slice O.out; subst gF; obtain ⟨bu, bv, gG⟩ := Kd.R_slice Q.out; subst gG; obtain ⟨cm, cn, gH⟩ := Kd.N_slice F.out; subst gH) | ((with_reducible refine gate_store (t := 32) (p := 7) rfl ?_); refine store_event (t := 32) (p := 7) (v := ?vo_w27) (w1 := ((((((((w17.setCell ⟨c, 0, none⟩ (.int .i64 Z)).setCell ⟨c, 1, none⟩ (.slice a8 u.length a9)).setCell ⟨c, 2, none⟩ (.slice bc y.length bd)).setCell ⟨c, 3, none⟩ (.slice bo A.length bp)).setCell ⟨c, 4, none⟩ (.slice bq B.length br)).setCell ⟨c, 5, none⟩ (.slice bu E.length bv)).setCell ⟨c, 6, none⟩ (.int .i64 ac)).setCell ⟨c, 7, none⟩ (.slice cm Y.length cn))) ?hg ?ho ?hn ?hr ?_; (case ho => rfl); (case hg => rfl); (case hn => rfl); (case hr => first | (go_simp; done) | (go_simp; rfl)); intro w27 hw; replace G : Aside0 (Kd.R (Kd.int .i64) 3 w27 w.heap.size (fun a => some a ≠ (.slice bc y.length bd : Value).ownBlock ∧ some a ≠ (.slice bo A.length bp : Value).ownBlock ∧ some a ≠ (.slice bq B.length br : Value).ownBlock ∧ some a ≠ (.slice bu E.length bv : Value).ownBlock) (.slice a8 u.length a9) u) := ⟨(by rw [hw]; exact (by refine vR_ ?_; exact rm_ (fR_ (fR_ (fR_ (fR_ (fR_ (fR_ (fR_ (fR_ (rt_ G.out q.out (by decide)))))))))) (fun _ hk => ⟨hk.1.1, ⟨hk.1.2.1, ⟨hk.1.2.2.1, hk.1.2.2.2⟩⟩⟩)))⟩; replace I : Aside0 (Kd.R (Kd.int .i64) 3 w27 w.heap.size (fun a => some a ≠ (.slice a8 u.length a9 : Value).ownBlock ∧ some a ≠ (.slice bo A.length bp : Value).ownBlock ∧ some a ≠ (.slice bq B.length br : Value).ownBlock ∧ some a ≠ (.slice bu E.length bv : Value).ownBlock) (.slice bc y.length bd) y) := ⟨(by rw [hw]; exact (by refine vR_ ?_; exact rm_ (fR_ (fR_ (fR_ (fR_ (fR_ (fR_ (fR_ (fR_ (rt_ I.out q.out (by decide)))))))))) (fun _ hk => ⟨hk.1.1, ⟨hk.1.2.1, ⟨hk.1.2.2.1, hk.1.2.2.2⟩⟩⟩)))⟩; replace J : Aside0 (Kd.R (Kd.int .i64) 3 w27 w.heap.size (fun a => some a ≠ (.slice a8 u.length a9 : Value).ownBlock ∧ some a ≠ (.slice bc y.length bd : Value).ownBlock ∧ some a ≠ (.slice bq B.length br : Value).ownBlock ∧ some a ≠ (.slice bu E.length bv : Value).ownBlock) (.slice bo A.length bp) A) := ⟨(by rw [hw]; exact (by refine vR_ ?_; exact rm_ (fR_ (fR_ (fR_ (fR_ (fR_ (fR_ (fR_ (fR_ (rt_ J.out q.out (by decide)))))))))) (fun _ hk => ⟨hk.1.1, ⟨hk.1.2.1, ⟨hk.1.2.2.1, hk.1.2.2.2⟩⟩⟩)))⟩; replace O : Aside0 (Kd.R (Kd.int .i64) 3 w27 w.heap.size (fun a => some a ≠ (.slice a8 u.length a9 : Value).ownBlock ∧ some a ≠ (.slice bc y.length bd : Value).ownBlock ∧ some a ≠ (.slice bo A.length bp : Value).ownBlock ∧ some a ≠ (.slice bu E.length bv : Value).ownBlock) (.slice bq B.length br) B) := ⟨(by rw [hw]; exact (by refine vR_ ?_; exact rm_ (fR_ (fR_ (fR_ (fR_ (fR_ (fR_ (fR_ (fR_ (rt_ O.out q.out (by decide)))))))))) (fun _ hk => ⟨hk.1.1, ⟨hk.1.2.1, ⟨hk.1.2.2.1, hk.1.2.2.2⟩⟩⟩)))⟩; replace Q : Aside0 (Kd.R (Kd.int .i64) 3 w27 w.heap.size (fun a => some a ≠ (.slice a8 u.length a9 : Value).ownBlock ∧ some a ≠ (.slice bc y.length bd : Value).ownBlock ∧ some a ≠ (.slice bo A.length bp : Value).ownBlock ∧ some a ≠ (.slice bq B.length br : Value).ownBlock) (.slice bu E.length bv) E) := ⟨(by rw [hw]; exact (by refine vR_ ?_; exact rm_ (fR_ (fR_ (fR_ (fR_ (fR_ (fR_ (fR_ (fR_ (rt_ Q.out q.out (by decide)))))))))) (fun _ hk => ⟨hk.1.1, ⟨hk.1.2.1, ⟨hk.1.2.2.1, hk.1.2.2.2⟩⟩⟩)))⟩; replace F : Aside0 (Kd.N (Kd.slice 3 (Kd.int .i64)) 30 w27 w.heap.size (fun a => some a ≠ (.slice a8 u.length a9 : Value).ownBlock ∧ some a ≠ (.slice bc y.length bd : Value).ownBlock ∧ some a ≠ (.slice bo A.length bp : Value).ownBlock ∧ some a ≠ (.slice bq B.length br : Value).ownBlock ∧ some a ≠ (.slice bu E.length bv : Value).ownBlock ∧ some a ≠ aQ.ownBlock ∧ a ≠ z ∧ a ≠ X ∧ a ≠ c) (.slice cm Y.length cn) Y) := ⟨(by rw [hw]; exact (by refine vN_ ?_; exact nm_ (fN_ (fN_ (fN_ (fN_ (fN_ (fN_ (fN_ (fN_ (nm_ F.out (fun a hk => (⟨hk, hk.2⟩ : _ ∧ a ≠ c))))))))))) (fun _ hk => ⟨hk.1.1.1, ⟨hk.1.1.2.1, ⟨hk.1.1.2.2.1, ⟨hk.1.1.2.2.2.1, ⟨hk.1.1.2.2.2.2.1, ⟨hk.1.1.2.2.2.2.2.1, ⟨hk.1.1.2.2.2.2.2.2.1, ⟨hk.1.1.2.2.2.2.2.2.2, hk.1.2⟩⟩⟩⟩⟩⟩⟩⟩)))⟩; replace U : Aside0 (Kd.N (Kd.slice 3 (Kd.int .i64)) 30 w27 w.heap.size (fun a => some a ≠ (.slice a8 u.length a9 : Value).ownBlock ∧ some a ≠ (.slice bc y.length bd : Value).ownBlock ∧ some a ≠ (.slice bo A.length bp : Value).ownBlock ∧ some a ≠ (.slice bq B.length br : Value).ownBlock ∧ some a ≠ (.slice bu E.length bv : Value).ownBlock ∧ some a ≠ (.slice cm Y.length cn : Value).ownBlock ∧ a ≠ z ∧ a ≠ X ∧ a ≠ c) aQ aa) := ⟨(by rw [hw]; exact (by refine vN_ ?_; exact nm_ (fN_ (fN_ (fN_ (fN_ (fN_ (fN_ (fN_ (fN_ (nm_ U.out (fun a hk => (⟨hk, hk.2⟩ : _ ∧ a ≠ c))))))))))) (fun _ hk => ⟨hk.1.1.1, ⟨hk.1.1.2.1, ⟨hk.1.1.2.2.1, ⟨hk.1.1.2.2.2.1, ⟨hk.1.1.2.2.2.2.1, ⟨hk.1.1.2.2.2.2.2.1, ⟨hk.1.1.2.2.2.2.2.2.1, ⟨hk.1.1.2.2.2.2.2.2.2, hk.1.2⟩⟩⟩⟩⟩⟩⟩⟩)))⟩; replace l : Aside0 (w27.heap[z]? = some (.cells #[.int .u8 aK, .slice bj av.length c0_1, .slice bk aw.length c0_2, .slice bl ax.length c0_3, .int .i16 aM, .int .u8 aN, .slice bm ay.length c0_6] 29 (0, 0))) := ⟨(by rw [hw]; exact (by refine bk_ ?_; refine blk_far ?_ W.out _; refine bk_ ?_; refine blk_far ?_ W.out _; refine bk_ ?_; refine blk_far ?_ W.out _; refine bk_ ?_; refine blk_far ?_ W.out _; refine bk_ ?_; refine blk_far ?_ W.out _; refine bk_ ?_; refine blk_far ?_ W.out _; refine bk_ ?_; refine blk_far ?_ W.out _; refine bk_ ?_; refine blk_far ?_ W.out _; refine bk_ ?_; exact l.out))⟩; replace s : Aside0 (w27.heap[X]? = some (.cells #[.int .i64 aE, .slice bJ bw.length c1_1, .slice bK bx.length c1_2, .slice bL bz.length c1_3, .slice bM bA.length c1_4, .slice bN bB.length c1_5, .int .i64 bn, .slice bP bD.length c1_7] 32 (0, 0))) := ⟨(by rw [hw]; exact (by refine bk_ ?_; refine blk_far ?_ d.out _; refine bk_ ?_; refine blk_far ?_ d.out _; refine bk_ ?_; refine blk_far ?_ d.out _; refine bk_ ?_; refine blk_far ?_ d.out _; refine bk_ ?_; refine blk_far ?_ d.out _; refine bk_ ?_; refine blk_far ?_ d.out _; refine bk_ ?_; refine blk_far ?_ d.out _; refine bk_ ?_; refine blk_far ?_ d.out _; refine bk_ ?_; exact s.out))⟩; replace q : Aside0 (w27.heap[c]? = some (.cells #[.int .i64 Z, .slice a8 u.length a9, .slice bc y.length bd, .slice bo A.length bp, .slice bq B.length br, .slice bu E.length bv, .int .i64 ac, .slice cm Y.length cn] 32 (0, 0))) := ⟨(by rw [hw]; exact (by refine bk_ ?_; refine bu_ (cs := #[.int .i64 Z, .slice a8 u.length a9, .slice bc y.length bd, .slice bo A.length bp, .slice bq B.length br, .slice bu E.length bv, .int .i64 ac, .slice none 0 0]) ?_ 7 _ rfl; refine bk_ ?_; refine bu_ (cs := #[.int .i64 Z, .slice a8 u.length a9, .slice bc y.length bd, .slice bo A.length bp, .slice bq B.length br, .slice bu E.length bv, .int .i64 0, .slice none 0 0]) ?_ 6 _ rfl; refine bk_ ?_; refine bu_ (cs := #[.int .i64 Z, .slice a8 u.length a9, .slice bc y.length bd, .slice bo A.length bp, .slice bq B.length br, .slice none 0 0, .int .i64 0, .slice none 0 0]) ?_ 5 _ rfl; refine bk_ ?_; refine bu_ (cs := #[.int .i64 Z, .slice a8 u.length a9, .slice bc y.length bd, .slice bo A.length bp, .slice none 0 0, .slice none 0 0, .int .i64 0, .slice none 0 0]) ?_ 4 _ rfl; refine bk_ ?_; refine bu_ (cs := #[.int .i64 Z, .slice a8 u.length a9, .slice bc y.length bd, .slice none 0 0, .slice none 0 0, .slice none 0 0, .int .i64 0, .slice none 0 0]) ?_ 3 _ rfl; refine bk_ ?_; refine bu_ (cs := #[.int .i64 Z, .slice a8 u.length a9, .slice none 0 0, .slice none 0 0, .slice none 0 0, .slice none 0 0, .int .i64 0, .slice none 0 0]) ?_ 2 _ rfl; refine bk_ ?_; refine bu_ (cs := #[.int .i64 Z, .slice none 0 0, .slice none 0 0, .slice none 0 0, .slice none 0 0, .slice none 0 0, .int .i64 0, .slice none 0 0]) ?_ 1 _ rfl; refine bk_ ?_; refine bu_ (cs := #[.int .i64 0, .slice none 0 0, .slice none 0 0, .slice none 0 0, .slice none 0 0, .slice none 0 0, .int .i64 0, .slice none 0 0]) ?_ 0 _ rfl; refine bk_ ?_; exact q.out))⟩; replace HB : Aside0 (Below w.heap.size w w27) := ⟨(by rw [hw]; exact bel_)⟩; clear hw; obtain ⟨cG, cH, gI⟩ := Kd.N_slice U.out; subst gI; have c0 : ((cE) : Int) ≤ ((aa.length : Int) : Int) := dq_; obtain ⟨i029, ff, _, hsz29, _⟩ := info_parts info30; have hcut29 := cut_to (P := Tryz.prog) 27 30 .i64 Tryz.underlying27 ff cG aa.length cH (cE) (dq_) c0 (Kd.N_reads' U.out).2.1; have d5 := Kd.N_take (m := ((cE) : Int).toNat) U.out (by omega); have fE : bO.length = ((cE) : Int).toNat := (by rw [fe.out, List.length_take]; omega); rw [← fe.out] at d5; rw [← fE] at d5 hcut29; clear fE ff hsz29 U; have bI := a_ d5; clear d5; replace c0 := et_ c0))
  replace G := a_ (Kd.R_drew G.out)
  replace I := a_ (Kd.R_drew I.out)
  replace J := a_ (Kd.R_drew J.out)
  replace O := a_ (Kd.R_drew O.out)
  replace Q := a_ (Kd.R_drew Q.out)
  replace F := a_ (Kd.N_drew F.out)
  replace bI := a_ (Kd.N_drew bI.out)
  replace l := a_ (blk_drew l.out)
  replace s := a_ (blk_drew s.out)
  replace q := a_ (blk_drew q.out)
  replace HB := a_ (below_drew1 HB.out)
  refine start_ (n := 9) (S := fun w' => w'.cell? ⟨c, 0, none⟩ = some (.int .i64 Z) ∧ w'.cell? ⟨c, 1, none⟩ = some (.slice a8 u.length a9) ∧ w'.cell? ⟨c, 2, none⟩ = some (.slice bc y.length bd) ∧ w'.cell? ⟨c, 3, none⟩ = some (.slice bo A.length bp) ∧ w'.cell? ⟨c, 4, none⟩ = some (.slice bq B.length br) ∧ w'.cell? ⟨c, 5, none⟩ = some (.slice bu E.length bv) ∧ w'.cell? ⟨c, 6, none⟩ = some (.int .i64 ac) ∧ w'.cell? ⟨c, 7, none⟩ = some (.slice cm Y.length cn)) (ds := []) #[false, false, false, false, false, false, false, false, false] kr_ rfl rfl (ca8_ q.out) (fun hHeld => ?_); refine with_tabW jigsawlaw22_InverseRefuses.tab12 jigsawlaw22_InverseRefuses.bits12 (fun HT_ HW_ => ?_)
  generalize w27.drew = w30 at G I J O Q F bI l s q HB hHeld ⊢
  refine pn_ 1 70 ao_ ?_
  refine tn_ 0 69 tw_ hHeld ?_
  refine onn_ 2 71 #[true, true, true, false, false, false, false, false, false] rfl rfl on_ (by decide) (fun K hK => ?_)
  refine goes_ Tryz.func11 kr_ rfl #[.slice cG bO.length cH] (by rfl) rfl rfl ar_ ?_
  with_reducible refine (jigsawlaw22_doms.calls k _ _ bO cN _ ?_ ?_ ?_ A9.out).mono ?_
  exact ca_ ((Kd.N_reads' bI.out).2.2)
  exact (Kd.N_reads' bI.out).2.1
  exact ca_ ((cb_ HRtab.out HB.out))
  rintro e w31 ⟨jd, rfl, ab, hb⟩
  refine ⟨_, rfl, ?_⟩
  have fg := a_ (Kd.N_lower (nm_ (ok' := fun a => some a ≠ (.slice a8 u.length a9 : Value).ownBlock ∧ some a ≠ (.slice bc y.length bd : Value).ownBlock ∧ some a ≠ (.slice bo A.length bp : Value).ownBlock ∧ some a ≠ (.slice bq B.length br : Value).ownBlock ∧ some a ≠ (.slice bu E.length bv : Value).ownBlock ∧ some a ≠ (.slice cm Y.length cn : Value).ownBlock ∧ some a ≠ (.slice cG bO.length cH : Value).ownBlock ∧ a ≠ z ∧ a ≠ X ∧ a ≠ c) ab (fun a hk_ => ⟨(fr_ (rl_ (vR_ G.out)) a hk_), (fr_ (rl_ (vR_ I.out)) a hk_), (fr_ (rl_ (vR_ J.out)) a hk_), (fr_ (rl_ (vR_ O.out)) a hk_), (fr_ (rl_ (vR_ Q.out)) a hk_), (fr_ (Kd.N_lt (vN_ F.out)) a hk_), (fr_ (Kd.N_lt (vN_ bI.out)) a hk_), (Kd.freshB (bk_ l.out) a hk_), (Kd.freshB (bk_ s.out) a hk_), (Kd.freshB (bk_ q.out) a hk_)⟩)) (bz_ bel_))
  replace G := a_ (rb_ (vR_ G.out) hb)
  replace I := a_ (rb_ (vR_ I.out) hb)
  replace J := a_ (rb_ (vR_ J.out) hb)
  replace O := a_ (rb_ (vR_ O.out) hb)
  replace Q := a_ (rb_ (vR_ Q.out) hb)
  replace F := a_ (Kd.N_elder' (vN_ F.out) (Kd.N_base ab) hb)
  replace bI := a_ (Kd.N_elder' (vN_ bI.out) (Kd.N_base ab) hb)
  replace l := a_ (bq_ l.out hb)
  replace s := a_ (bq_ s.out hb)
  replace q := a_ (bq_ q.out hb)
  replace HB := hq_ hb
  clear hb ab
  obtain ⟨gJ, gK, fF⟩ := Kd.N_slice fg.out
  (first | subst fF | (injection fF with f1_ f2_ f3_; have f4_ := f1_.symm; have f5_ := f3_.symm; clear f1_ f2_ f3_; subst f4_; subst f5_))
  refine hK.out _ _ (ca8_ q.out) (fun hHeld => ?_)
  clear hK K
  refine nor_ (N := some 71) ?_
  refine onn_ 3 72 #[true, true, true, true, false, false, false, false, false] rfl rfl on_ (by decide) (fun K hK => ?_)
  refine goes_ Tryz.func10 kr_ rfl #[.agg #[.int .i64 Z, .slice a8 u.length a9, .slice bc y.length bd, .slice bo A.length bp, .slice bq B.length br, .slice bu E.length bv, .int .i64 ac, .slice cm Y.length cn], .slice gJ cN.length gK] (by rfl) rfl rfl ar_ ?_
  with_reducible refine (inverse_Filter.calls k Z _ _ u _ _ y _ _ A _ _ B _ _ E ac _ _ Y (fun a => (some a ≠ (.slice a8 u.length a9 : Value).ownBlock ∧ (some a ≠ (.slice bc y.length bd : Value).ownBlock ∧ (some a ≠ (.slice bo A.length bp : Value).ownBlock ∧ (some a ≠ (.slice bq B.length br : Value).ownBlock ∧ (some a ≠ (.slice bu E.length bv : Value).ownBlock ∧ (some a ≠ (.slice cm Y.length cn : Value).ownBlock ∧ (some a ≠ (.slice cG bO.length cH : Value).ownBlock ∧ (a ≠ z ∧ (a ≠ X ∧ a ≠ c)))))))))) _ _ cN dE dF _ ?_ ?_ ?_ ?_ ?_ ?_ ?_ ?_ ?_ ?_ ?_ ?_ ?_ ?_ hG.out).mono ?_
  exact ca_ ((rr_ G.out).2.2)
  exact (rr_ G.out).2.1
  exact ca_ ((rr_ I.out).2.2)
  exact (rr_ I.out).2.1
  exact ca_ ((rr_ J.out).2.2)
  exact (rr_ J.out).2.1
  exact ca_ ((rr_ O.out).2.2)
  exact (rr_ O.out).2.1
  exact ca_ ((rr_ Q.out).2.2)
  exact (rr_ Q.out).2.1
  exact ca_ ((Kd.N_reads' F.out).2.2)
  exact (Kd.N_reads' F.out).2.1
  exact Kd.N_V (fg.out)
  exact ca_ ((cb_ HRtab.out HB.out))
  rintro e w33 ⟨eh, rfl, ab, hb⟩
  refine ⟨_, rfl, ?_⟩
  have d6 := a_ (Kd.N_lower (nm_ (ok' := fun a => some a ≠ (.slice a8 u.length a9 : Value).ownBlock ∧ some a ≠ (.slice bc y.length bd : Value).ownBlock ∧ some a ≠ (.slice bo A.length bp : Value).ownBlock ∧ some a ≠ (.slice bq B.length br : Value).ownBlock ∧ some a ≠ (.slice bu E.length bv : Value).ownBlock ∧ some a ≠ (.slice cm Y.length cn : Value).ownBlock ∧ some a ≠ (.slice cG bO.length cH : Value).ownBlock ∧ a ≠ z ∧ a ≠ X ∧ a ≠ c) ab (fun a hk_ => ⟨Or.elim hk_ (fun hs_ => hs_.1) (fun hn_ => (fr_ (rl_ (vR_ G.out)) a hn_)), Or.elim hk_ (fun hs_ => hs_.2.1) (fun hn_ => (fr_ (rl_ (vR_ I.out)) a hn_)), Or.elim hk_ (fun hs_ => hs_.2.2.1) (fun hn_ => (fr_ (rl_ (vR_ J.out)) a hn_)), Or.elim hk_ (fun hs_ => hs_.2.2.2.1) (fun hn_ => (fr_ (rl_ (vR_ O.out)) a hn_)), Or.elim hk_ (fun hs_ => hs_.2.2.2.2.1) (fun hn_ => (fr_ (rl_ (vR_ Q.out)) a hn_)), Or.elim hk_ (fun hs_ => hs_.2.2.2.2.2.1) (fun hn_ => (fr_ (Kd.N_lt (vN_ F.out)) a hn_)), Or.elim hk_ (fun hs_ => hs_.2.2.2.2.2.2.1) (fun hn_ => (fr_ (Kd.N_lt (vN_ bI.out)) a hn_)), Or.elim hk_ (fun hs_ => hs_.2.2.2.2.2.2.2.1) (fun hn_ => (Kd.freshB (bk_ l.out) a hn_)), Or.elim hk_ (fun hs_ => hs_.2.2.2.2.2.2.2.2.1) (fun hn_ => (Kd.freshB (bk_ s.out) a hn_)), Or.elim hk_ (fun hs_ => hs_.2.2.2.2.2.2.2.2.2) (fun hn_ => (Kd.freshB (bk_ q.out) a hn_))⟩)) (bz_ bel_))
  replace G := a_ (rb_ (vR_ G.out) hb)
  replace I := a_ (rb_ (vR_ I.out) hb)
  replace J := a_ (rb_ (vR_ J.out) hb)
  replace O := a_ (rb_ (vR_ O.out) hb)
  replace Q := a_ (rb_ (vR_ Q.out) hb)
  replace F := a_ (Kd.N_elder' (vN_ F.out) (Kd.N_base ab) hb)
  replace bI := a_ (Kd.N_elder' (vN_ bI.out) (Kd.N_base ab) hb)
  replace l := a_ (bq_ l.out hb)
  replace s := a_ (bq_ s.out hb)
  replace q := a_ (bq_ q.out hb)
  replace HB := hq_ hb
  clear hb ab
  refine hK.out _ _ (ca8_ q.out) (fun hHeld => ?_)
  clear hK K
  refine nor_ (N := some 72) ?_
  refine pn_ 4 68 ao_ ?_
  refine pn_ 5 73 ao_ ?_
  refine pn_ 6 74 ao_ ?_
  refine pn_ 7 10 ao_ ?_
  refine pn_ 8 11 ao_ ?_
  refine done_ dn_ ?_
  go_upto_region 13 with (fail)
  go_cut [77] (fun da wc => ∃ (kq : Nat) (db : Bool), da = .bool db ∧ Aside0 (jigsawlaw22_InverseRefuses.j0 kq bO dE dF db = some r) ∧ Aside0 (kq ≤ k) ∧ Aside0 (Kd.N (Kd.slice 3 (Kd.int .i64)) 30 wc w.heap.size (fun a => some a ≠ eh.ownBlock ∧ some a ≠ ((.slice a8 u.length a9) : Value).ownBlock ∧ some a ≠ ((.slice bc y.length bd) : Value).ownBlock ∧ some a ≠ ((.slice bo A.length bp) : Value).ownBlock ∧ some a ≠ ((.slice bq B.length br) : Value).ownBlock ∧ some a ≠ ((.slice bu E.length bv) : Value).ownBlock ∧ some a ≠ ((.slice cm Y.length cn) : Value).ownBlock ∧ a ≠ z ∧ a ≠ X ∧ a ≠ c) (.slice cG bO.length cH) bO) ∧ Aside0 (Kd.N k58 58 wc w.heap.size (fun a => some a ≠ ((.slice cG bO.length cH) : Value).ownBlock ∧ some a ≠ ((.slice a8 u.length a9) : Value).ownBlock ∧ some a ≠ ((.slice bc y.length bd) : Value).ownBlock ∧ some a ≠ ((.slice bo A.length bp) : Value).ownBlock ∧ some a ≠ ((.slice bq B.length br) : Value).ownBlock ∧ some a ≠ ((.slice bu E.length bv) : Value).ownBlock ∧ some a ≠ ((.slice cm Y.length cn) : Value).ownBlock ∧ a ≠ z ∧ a ≠ X ∧ a ≠ c) eh dE) ∧ Aside0 (Kd.R (Kd.int .i64) 3 wc w.heap.size (fun a => some a ≠ ((.slice bc y.length bd) : Value).ownBlock ∧ some a ≠ ((.slice bo A.length bp) : Value).ownBlock ∧ some a ≠ ((.slice bq B.length br) : Value).ownBlock ∧ some a ≠ ((.slice bu E.length bv) : Value).ownBlock) (.slice a8 u.length a9) u) ∧ Aside0 (Kd.R (Kd.int .i64) 3 wc w.heap.size (fun a => some a ≠ ((.slice a8 u.length a9) : Value).ownBlock ∧ some a ≠ ((.slice bo A.length bp) : Value).ownBlock ∧ some a ≠ ((.slice bq B.length br) : Value).ownBlock ∧ some a ≠ ((.slice bu E.length bv) : Value).ownBlock) (.slice bc y.length bd) y) ∧ Aside0 (Kd.R (Kd.int .i64) 3 wc w.heap.size (fun a => some a ≠ ((.slice a8 u.length a9) : Value).ownBlock ∧ some a ≠ ((.slice bc y.length bd) : Value).ownBlock ∧ some a ≠ ((.slice bq B.length br) : Value).ownBlock ∧ some a ≠ ((.slice bu E.length bv) : Value).ownBlock) (.slice bo A.length bp) A) ∧ Aside0 (Kd.R (Kd.int .i64) 3 wc w.heap.size (fun a => some a ≠ ((.slice a8 u.length a9) : Value).ownBlock ∧ some a ≠ ((.slice bc y.length bd) : Value).ownBlock ∧ some a ≠ ((.slice bo A.length bp) : Value).ownBlock ∧ some a ≠ ((.slice bu E.length bv) : Value).ownBlock) (.slice bq B.length br) B) ∧ Aside0 (Kd.R (Kd.int .i64) 3 wc w.heap.size (fun a => some a ≠ ((.slice a8 u.length a9) : Value).ownBlock ∧ some a ≠ ((.slice bc y.length bd) : Value).ownBlock ∧ some a ≠ ((.slice bo A.length bp) : Value).ownBlock ∧ some a ≠ ((.slice bq B.length br) : Value).ownBlock) (.slice bu E.length bv) E) ∧ Aside0 (Kd.N (Kd.slice 3 (Kd.int .i64)) 30 wc w.heap.size (fun a => some a ≠ ((.slice cG bO.length cH) : Value).ownBlock ∧ some a ≠ eh.ownBlock ∧ some a ≠ ((.slice a8 u.length a9) : Value).ownBlock ∧ some a ≠ ((.slice bc y.length bd) : Value).ownBlock ∧ some a ≠ ((.slice bo A.length bp) : Value).ownBlock ∧ some a ≠ ((.slice bq B.length br) : Value).ownBlock ∧ some a ≠ ((.slice bu E.length bv) : Value).ownBlock ∧ a ≠ z ∧ a ≠ X ∧ a ≠ c) (.slice cm Y.length cn) Y) ∧ Aside0 (wc.heap[z]? = some (.cells #[.int .u8 aK, (.slice bj av.length c0_1), (.slice bk aw.length c0_2), (.slice bl ax.length c0_3), .int .i16 aM, .int .u8 aN, (.slice bm ay.length c0_6)] 29 (0, 0))) ∧ Aside0 (wc.heap[X]? = some (.cells #[.int .i64 aE, (.slice bJ bw.length c1_1), (.slice bK bx.length c1_2), (.slice bL bz.length c1_3), (.slice bM bA.length c1_4), (.slice bN bB.length c1_5), .int .i64 bn, (.slice bP bD.length c1_7)] 32 (0, 0))) ∧ Aside0 (wc.heap[c]? = some (.cells #[.int .i64 Z, (.slice a8 u.length a9), (.slice bc y.length bd), (.slice bo A.length bp), (.slice bq B.length br), (.slice bu E.length bv), .int .i64 ac, (.slice cm Y.length cn)] 32 (0, 0))) ∧ Aside0 (Below w.heap.size w wc))
  case first =>
   have H := eg.out
   clear eg
   replace H := bo_ H
   obtain ⟨di, hH, H⟩ := H
   try dsimp only at H
   have H' := a_ H
   clear H
   have iC := ad.out
   have iD := W.out
   have iE := ae.out
   have iF := d.out
   obtain ⟨_, _, _, _, _, _, _, _, _, _, _, _, _, _, _, _⟩ := cel8_ q.out
   go_wp2_with (first | ((with_reducible refine gate_callee (f := 17) rfl ?_); refine goesL_ (some 77) rfl rfl Tryz.func17 kr_ rfl #[.agg #[.int .i64 Z, .slice a8 u.length a9, .slice bc y.length bd, .slice bo A.length bp, .slice bq B.length br, .slice bu E.length bv, .int .i64 ac, .slice cm Y.length cn], .slice cG bO.length cH, .int .i64 23, .int .i64 23] rfl ar_ ?_; (with_reducible refine (jigsawref10_Fits.calls k Z _ _ u _ _ y _ _ A _ _ B _ _ E ac _ _ Y _ _ bO 23 23 di _ ?_ ?_ ?_ ?_ ?_ ?_ ?_ ?_ ?_ ?_ ?_ ?_ ?_ ?_ hH.out).mono ?_); exact ca_ ((rr_ G.out).2.2); exact (rr_ G.out).2.1; exact ca_ ((rr_ I.out).2.2); exact (rr_ I.out).2.1; exact ca_ ((rr_ J.out).2.2); exact (rr_ J.out).2.1; exact ca_ ((rr_ O.out).2.2); exact (rr_ O.out).2.1; exact ca_ ((rr_ Q.out).2.2); exact (rr_ Q.out).2.1; exact ca_ ((Kd.N_reads' F.out).2.2); exact (Kd.N_reads' F.out).2.1; exact ca_ ((Kd.N_reads' bI.out).2.2); exact (Kd.N_reads' bI.out).2.1; rintro e w38 ⟨rfl, hb⟩; refine ⟨_, rfl, ?_⟩; replace G := a_ (rb_ (vR_ G.out) hb); replace I := a_ (rb_ (vR_ I.out) hb); replace J := a_ (rb_ (vR_ J.out) hb); replace O := a_ (rb_ (vR_ O.out) hb); replace Q := a_ (rb_ (vR_ Q.out) hb); replace F := a_ (Kd.N_below (vN_ F.out) hb); replace bI := a_ (Kd.N_below (vN_ bI.out) hb); replace d6 := a_ (Kd.N_below (vN_ d6.out) hb); replace l := a_ (bq_ l.out hb); replace s := a_ (bq_ s.out hb); replace q := a_ (bq_ q.out hb); replace HB := hq_ hb; clear hb))
   go_meet
   exact ⟨_, (di), eq_, H', ⟨by first | omega | exact lr_ _⟩, ⟨by refine vN_ ?_; exact nm_ bI.out (fun _ hk => ⟨hk.2, ⟨hk.1.1.1, ⟨hk.1.1.2.1, ⟨hk.1.1.2.2.1, ⟨hk.1.1.2.2.2.1, ⟨hk.1.1.2.2.2.2.1, ⟨hk.1.1.2.2.2.2.2.1, ⟨hk.1.1.2.2.2.2.2.2.1, ⟨hk.1.1.2.2.2.2.2.2.2.1, hk.1.1.2.2.2.2.2.2.2.2⟩⟩⟩⟩⟩⟩⟩⟩⟩)⟩, ⟨by refine vN_ ?_; exact nm_ d6.out (fun _ hk => ⟨hk.2.2.2.2.2.2.1, ⟨hk.1, ⟨hk.2.1, ⟨hk.2.2.1, ⟨hk.2.2.2.1, ⟨hk.2.2.2.2.1, ⟨hk.2.2.2.2.2.1, ⟨hk.2.2.2.2.2.2.2.1, ⟨hk.2.2.2.2.2.2.2.2.1, hk.2.2.2.2.2.2.2.2.2⟩⟩⟩⟩⟩⟩⟩⟩⟩)⟩, ⟨vR_ G.out⟩, ⟨vR_ I.out⟩, ⟨vR_ J.out⟩, ⟨vR_ O.out⟩, ⟨vR_ Q.out⟩, ⟨by refine vN_ ?_; exact nm_ F.out (fun _ hk => ⟨nb_ hk.1.1.2.2.2.2.2.1, ⟨hk.2, ⟨hk.1.1.1, ⟨hk.1.1.2.1, ⟨hk.1.1.2.2.1, ⟨hk.1.1.2.2.2.1, ⟨hk.1.1.2.2.2.2.1, ⟨hk.1.1.2.2.2.2.2.2.1, ⟨hk.1.1.2.2.2.2.2.2.2.1, hk.1.1.2.2.2.2.2.2.2.2⟩⟩⟩⟩⟩⟩⟩⟩⟩)⟩, ⟨bk_ l.out⟩, ⟨bk_ s.out⟩, ⟨bk_ q.out⟩, ⟨bel_⟩⟩
  clear eg
  try clear c1
  try clear p2
  try clear q2
  try clear c3
  try clear c4
  try clear c5
  try clear c5b0
  try clear c5b1
  try clear p6
  try clear c7
  try clear c7b0
  try clear c7b1
  try clear c8
  try clear c8b0
  try clear c8b1
  try clear c10
  try clear c11
  try clear c14
  try clear c17
  try clear c18
  try clear c19
  try clear c0
  try clear c35
  try clear c36
  try clear dj
  try clear dk
  try clear dl
  try clear dm
  try clear dn
  try clear dp
  try clear dq
  try clear dr
  try clear dt
  try clear du
  try clear dv
  try clear dw
  try clear dx
  try clear dy
  try clear c0
  obtain ⟨kq, db, rfl, HA, je, HO_8, HO_10, HO_625001, HO_625002, HO_625003, HO_625004, HO_625005, HO_625007, l, s, q, HB⟩ := hcut
  cases kq with
  | zero => exact absurd HA.out (by simp [jigsawlaw22_InverseRefuses.j0])
  | succ kj10 =>
   have H := HA.out
   clear HA
   simp only [jigsawlaw22_InverseRefuses.j0] at H
   by_cases c39 : db = true
   rotate_left
   ·
    replace c39 := bf_.mpr c39
    subst c39
    have H1 : ((jigsawlaw22_wakes.f kj10).bind fun ei => (if ei = true then (if dF = true then (none) else (some ((dE.length : Int) == 0))) else (none))) = some r := by rw [ig_ (show ¬ (false = true) by decide)] at H; exact H
    clear H
    have H := H1
    clear H1
    replace H := bo_ H
    obtain ⟨ei, hI, H⟩ := H
    try dsimp only at H
    by_cases c47 : ei = true
    rotate_left
    ·
     replace c47 := bf_.mpr c47
     subst c47
     have H1 : (none) = some r := by rw [ig_ (show ¬ (false = true) by decide)] at H; exact H
     clear H
     have H := H1
     clear H1
     exact ab_ H
    subst c47
    rw [ip_ rfl] at H
    by_cases c48 : dF = true
    ·
     subst c48
     rw [ip_ rfl] at H
     exact ab_ H
    replace c48 := bf_.mpr c48
    subst c48
    have H1 : (some ((dE.length : Int) == 0)) = some r := by rw [ig_ (show ¬ (false = true) by decide)] at H; exact H
    clear H
    have H := H1
    clear H1
    obtain rfl := si_ H
    go_wp2_with (first | ((with_reducible refine gate_callee (f := 13) rfl ?_); refine goesL_ (some 90) rfl rfl Tryz.func13 kr_ rfl #[] rfl ar_ ?_; (with_reducible refine (jigsawlaw22_wakes.calls kj10 true _ ?_ hI.out).mono ?_); exact ca_ ((cb_ HRtab.out HB.out)); rintro e w49 ⟨rfl, hb⟩; refine ⟨_, rfl, ?_⟩; replace HO_10 := a_ (Kd.N_below (vN_ HO_10.out) hb); replace HB := hq_ hb; clear hb; obtain ⟨jh, ji, gN⟩ := Kd.N_slice HO_10.out; subst gN))
    go_ret
    exact ⟨by first | rfl | (simp [errW_none, errW_some] <;> rfl) | (simp only [← cM]; first | rfl | (simp [errW_none, errW_some] <;> rfl)) | (simp [*, errW_none, errW_some] <;> rfl), bel_⟩
   subst c39
   rw [ip_ rfl] at H
   replace H := bo_ H
   obtain ⟨gL, ef, H⟩ := H
   try dsimp only at H
   by_cases c41 : gL = true
   rotate_left
   ·
    replace c41 := bf_.mpr c41
    subst c41
    have H1 : (none) = some r := by rw [ig_ (show ¬ (false = true) by decide)] at H; exact H
    clear H
    have H := H1
    clear H1
    exact ab_ H
   subst c41
   rw [ip_ rfl] at H
   by_cases c42 : dF = true
   ·
    subst c42
    rw [ip_ rfl] at H
    obtain rfl := si_ H
    go_wp2_with (first | ((with_reducible refine gate_callee (f := 13) rfl ?_); refine goesL_ (some 78) rfl rfl Tryz.func13 kr_ rfl #[] rfl ar_ ?_; (with_reducible refine (jigsawlaw22_wakes.calls kj10 true _ ?_ ef.out).mono ?_); exact ca_ ((cb_ HRtab.out HB.out)); rintro e w43 ⟨rfl, hb⟩; refine ⟨_, rfl, ?_⟩; replace HO_10 := a_ (Kd.N_below (vN_ HO_10.out) hb); replace HB := hq_ hb; clear hb; obtain ⟨jf, jg, gM⟩ := Kd.N_slice HO_10.out; subst gM))
    go_ret
    exact ⟨by first | rfl | (simp [errW_none, errW_some] <;> rfl) | (simp only [← cM]; first | rfl | (simp [errW_none, errW_some] <;> rfl)) | (simp [*, errW_none, errW_some] <;> rfl), bel_⟩
   replace c42 := bf_.mpr c42
   subst c42
   have H1 : (some true) = some r := by rw [ig_ (show ¬ (false = true) by decide)] at H; exact H
   clear H
   have H := H1
   clear H1
   obtain rfl := si_ H
   go_wp2_with (first | ((with_reducible refine gate_callee (f := 13) rfl ?_); refine goesL_ (some 78) rfl rfl Tryz.func13 kr_ rfl #[] rfl ar_ ?_; (with_reducible refine (jigsawlaw22_wakes.calls kj10 true _ ?_ ef.out).mono ?_); exact ca_ ((cb_ HRtab.out HB.out)); rintro e w45 ⟨rfl, hb⟩; refine ⟨_, rfl, ?_⟩; replace HB := hq_ hb; clear hb))
   go_ret
   exact ⟨by first | rfl | (simp [errW_none, errW_some] <;> rfl) | (simp only [← cM]; first | rfl | (simp [errW_none, errW_some] <;> rfl)) | (simp [*, errW_none, errW_some] <;> rfl), bel_⟩
 rw [ig_ c5] at H
 have c5b0 : ((Int.tmod a2 5) == 0) = false := be_.mpr c5
 have c5b1 : ((Int.tmod a2 5) != 0) = true := ni_.mpr c5
 by_cases c51 : (Int.tmod a2 5) = 1
 ·
  rw [ip_ c51] at H
  have c51b0 : ((Int.tmod a2 5) == 1) = true := beq_iff_eq.mpr c51
  have c51b1 : ((Int.tmod a2 5) != 1) = false := bn_.mpr c51
  clear c51
  by_cases c52 : 0 < (aa.length : Int)
  rotate_left
  ·
   rw [ig_ c52] at H
   exact ab_ H
  rw [ip_ c52] at H
  have c52b0 : decide (0 < (aa.length : Int)) = true := dt_ c52
  have c52b1 : decide (0 < aa.length) = true := dt_ (by omega)
  clear c52
  obtain ⟨co, dc⟩ : ∃ y_ : List (List Int), y_ = (aa.set (0 : Int).toNat ([] : List Int)) := ⟨_, rfl⟩
  replace H : ((jigsawlaw22_doms.f k co).bind fun dG => ((inverse_Filter.f k Z u y A B E ac Y dG).bind fun fh => ((jigsawref10_Fits.f k Z u y A B E ac Y co 23 23).bind fun d7 => (jigsawlaw22_InverseRefuses.j1 k co fh.1 fh.2 d7)))) = some r := h2_ H dc
  have f4 := a_ dc
  clear dc
  replace H := bo_ H
  obtain ⟨dG, hJ, H⟩ := H
  try dsimp only at H
  replace H := bs_.mp H
  obtain ⟨⟨dH, dI⟩, fG, H⟩ := H
  try dsimp only at H
  have hL := a_ fG
  clear fG
  have ej := a_ H
  clear H
  go_enter Tryz.func4, Tryz.ntmps4
  try go_wp2_with (first | ((with_reducible refine gate_dst (N := 3) rfl ?_); (try (refine gate_guard (by rfl) ?_; dsimp only)); refine bxe_ (N := 3) (cs := #[.int .u8 aK, .slice bj av.length c0_1, .slice bk aw.length c0_2, .slice bl ax.length c0_3, .int .i16 aM, .int .u8 aN, .slice bm ay.length c0_6]) (t := 29) ?_; intro z hg w57 hbox hb; have l := a_ (hbox); have bW := a_ (by rw [hg]; exact (bz_ bel_) : w.heap.size ≤ z); have dA := bW; replace HB := hq_ hb; clear hb hbox hg) | ((with_reducible refine gate_dst (N := 4) rfl ?_); (try (refine gate_guard (by rfl) ?_; dsimp only)); refine bxe_ (N := 4) (cs := #[.int .i64 aE, .slice bJ bw.length c1_1, .slice bK bx.length c1_2, .slice bL bz.length c1_3, .slice bM bA.length c1_4, .slice bN bB.length c1_5, .int .i64 bn, .slice bP bD.length c1_7]) (t := 32) ?_; intro X hg w58 hbox hb; have s := a_ (hbox); have bX := a_ (by rw [hg]; exact (bz_ bel_) : w.heap.size ≤ X); have dB := bX; replace HB := hq_ hb; have bE := a_ ((by rw [hg]; exact Nat.ne_of_lt (blk_lt (bk_ l.out)) : z ≠ X)); have bF := a_ ((by rw [hg]; exact Nat.ne_of_gt (blk_lt (bk_ l.out)) : X ≠ z)); replace l := a_ (bq_ l.out hb); clear hb hbox hg; have iG := bE.out; have iH := bF.out; have dR : w58.cell? ⟨z, 0, none⟩ = some (.int .u8 aK) := (blk_cell l.out 0).trans rfl; have dS : w58.cell? ⟨z, 1, none⟩ = some (.slice bj av.length c0_1) := (blk_cell l.out 1).trans rfl; have dT : w58.cell? ⟨z, 2, none⟩ = some (.slice bk aw.length c0_2) := (blk_cell l.out 2).trans rfl; have dU : w58.cell? ⟨z, 3, none⟩ = some (.slice bl ax.length c0_3) := (blk_cell l.out 3).trans rfl; have dV : w58.cell? ⟨z, 4, none⟩ = some (.int .i16 aM) := (blk_cell l.out 4).trans rfl; have dW : w58.cell? ⟨z, 5, none⟩ = some (.int .u8 aN) := (blk_cell l.out 5).trans rfl; have dX : w58.cell? ⟨z, 6, none⟩ = some (.slice bm ay.length c0_6) := (blk_cell l.out 6).trans rfl; have dY := blk_frozen l.out 0; have dZ := blk_frozen l.out 1; have d0 := blk_frozen l.out 2; have d1 := blk_frozen l.out 3; have d2 := blk_frozen l.out 4; have d3 := blk_frozen l.out 5; have d4 := blk_frozen l.out 6) | ((with_reducible refine gate_callee (f := 8) rfl ?_); refine goesL_ (some 19) rfl rfl Tryz.func8 kr_ rfl #[.agg #[.int .u8 aK, .slice bj av.length c0_1, .slice bk aw.length c0_2, .slice bl ax.length c0_3, .int .i16 aM, .int .u8 aN, .slice bm ay.length c0_6], .int .i64 (wrap64 (1 + (Int.tmod (wrap64 (a2 / 8)) 23))), .int .i64 6] rfl ar_ ?_; (with_reducible refine (jigsawref10_Make.calls k aK _ _ av _ _ aw _ _ ax aM aN _ _ ay (wrap64 (1 + (Int.tmod (wrap64 (a2 / 8)) 23))) 6 Z u y A B E ac Y aa _ ?_ ?_ ?_ ?_ ?_ ?_ ?_ ?_ A4.out).mono ?_); exact ca_ ((cb_ cQ.out HB.out)); exact cR.out; exact ca_ ((cb_ cS.out HB.out)); exact cT.out; exact ca_ ((cb_ cU.out HB.out)); exact cV.out; exact ca_ ((cb_ cW.out HB.out)); exact cX.out; rintro e w61 ⟨ch, ci, cj, ck, cl, cF, aQ, rfl, ab, cu, cv, cw, cx, cy, cz, hb⟩; refine ⟨_, rfl, ?_⟩; have G := a_ (Kd.R_lower ab (bz_ bel_)); have I := a_ (Kd.R_lower cu (bz_ bel_)); have J := a_ (Kd.R_lower cv (bz_ bel_)); have O := a_ (Kd.R_lower cw (bz_ bel_)); have Q := a_ (Kd.R_lower cx (bz_ bel_)); have F := a_ (Kd.N_lower (nm_ (ok' := fun a => some a ≠ ch.ownBlock ∧ some a ≠ ci.ownBlock ∧ some a ≠ cj.ownBlock ∧ some a ≠ ck.ownBlock ∧ some a ≠ cl.ownBlock ∧ some a ≠ aQ.ownBlock ∧ a ≠ z ∧ a ≠ X) (Kd.S_N (Kd.S_bound cy)) (fun a hk_ => ⟨hk_.1.1, hk_.1.2.1, hk_.1.2.2.1, hk_.1.2.2.2.1, hk_.1.2.2.2.2.1, hk_.1.2.2.2.2.2, (Kd.freshB (bk_ l.out) a hk_.2.1), (Kd.freshB (bk_ s.out) a hk_.2.1)⟩)) (bz_ bel_)); have U := a_ (Kd.N_lower (nm_ (ok' := fun a => some a ≠ ch.ownBlock ∧ some a ≠ ci.ownBlock ∧ some a ≠ cj.ownBlock ∧ some a ≠ ck.ownBlock ∧ some a ≠ cl.ownBlock ∧ some a ≠ cF.ownBlock ∧ a ≠ z ∧ a ≠ X) (Kd.S_N (Kd.S_bound cz)) (fun a hk_ => ⟨hk_.1.1, hk_.1.2.1, hk_.1.2.2.1, hk_.1.2.2.2.1, hk_.1.2.2.2.2.1, hk_.1.2.2.2.2.2, (Kd.freshB (bk_ l.out) a hk_.2.1), (Kd.freshB (bk_ s.out) a hk_.2.1)⟩)) (bz_ bel_)); replace l := a_ (bq_ l.out hb); replace s := a_ (bq_ s.out hb); replace HB := hq_ hb; clear hb ab cu cv cw cx cy cz) | ((with_reducible refine gate_dst (N := 7) rfl ?_); (try (refine gate_guard (by rfl) ?_; dsimp only)); refine bxe_ (N := 7) (cs := #[.int .i64 0, .slice none 0 0, .slice none 0 0, .slice none 0 0, .slice none 0 0, .slice none 0 0, .int .i64 0, .slice none 0 0]) (t := 32) ?_; intro c hg w62 hbox hb; replace G := a_ (rb_ (vR_ G.out) hb); replace I := a_ (rb_ (vR_ I.out) hb); replace J := a_ (rb_ (vR_ J.out) hb); replace O := a_ (rb_ (vR_ O.out) hb); replace Q := a_ (rb_ (vR_ Q.out) hb); replace F := a_ (Kd.N_below (Kd.N_elderB (vN_ F.out) c (Nat.le_of_eq hg.symm)) hb); replace U := a_ (Kd.N_below (Kd.N_elderB (vN_ U.out) c (Nat.le_of_eq hg.symm)) hb); have q := a_ (hbox); have bY := a_ (by rw [hg]; exact (bz_ bel_) : w.heap.size ≤ c); have dC := bY; replace HB := hq_ hb; have W := a_ ((by rw [hg]; exact Nat.ne_of_lt (blk_lt (bk_ l.out)) : z ≠ c)); have ad := a_ ((by rw [hg]; exact Nat.ne_of_gt (blk_lt (bk_ l.out)) : c ≠ z)); replace l := a_ (bq_ l.out hb); have d := a_ ((by rw [hg]; exact Nat.ne_of_lt (blk_lt (bk_ s.out)) : X ≠ c)); have ae := a_ ((by rw [hg]; exact Nat.ne_of_gt (blk_lt (bk_ s.out)) : c ≠ X)); replace s := a_ (bq_ s.out hb); clear hb hbox hg; have iI := ad.out; have iJ := W.out; have iK := ae.out; have iL := d.out; obtain ⟨_, _, _, _, _, _, _, _, _, _, _, _, _, _, _, _⟩ := cel8_ q.out; obtain ⟨aR, aT, gO⟩ := Kd.R_slice G.out; subst gO; obtain ⟨aY, aZ, gP⟩ := Kd.R_slice I.out; subst gP; obtain ⟨a4, a5, gQ⟩ := Kd.R_slice J.out; subst gQ; obtain ⟨ba, bb, gR⟩ := Kd.R_slice O.out; subst gR; obtain ⟨be, bf, gS⟩ := Kd.R_slice Q.out; subst gS; obtain ⟨b7, b8, gT⟩ := Kd.N_slice F.out; subst gT) | ((with_reducible refine gate_store (t := 32) (p := 7) rfl ?_); refine store_event (t := 32) (p := 7) (v := ?vo_w72) (w1 := ((((((((w62.setCell ⟨c, 0, none⟩ (.int .i64 Z)).setCell ⟨c, 1, none⟩ (.slice aR u.length aT)).setCell ⟨c, 2, none⟩ (.slice aY y.length aZ)).setCell ⟨c, 3, none⟩ (.slice a4 A.length a5)).setCell ⟨c, 4, none⟩ (.slice ba B.length bb)).setCell ⟨c, 5, none⟩ (.slice be E.length bf)).setCell ⟨c, 6, none⟩ (.int .i64 ac)).setCell ⟨c, 7, none⟩ (.slice b7 Y.length b8))) ?hg ?ho ?hn ?hr ?_; (case ho => rfl); (case hg => rfl); (case hn => rfl); (case hr => first | (go_simp; done) | (go_simp; rfl)); intro w72 hw; replace G : Aside0 (Kd.R (Kd.int .i64) 3 w72 w.heap.size (fun a => some a ≠ (.slice aY y.length aZ : Value).ownBlock ∧ some a ≠ (.slice a4 A.length a5 : Value).ownBlock ∧ some a ≠ (.slice ba B.length bb : Value).ownBlock ∧ some a ≠ (.slice be E.length bf : Value).ownBlock) (.slice aR u.length aT) u) := ⟨(by rw [hw]; exact (by refine vR_ ?_; exact rm_ (fR_ (fR_ (fR_ (fR_ (fR_ (fR_ (fR_ (fR_ (rt_ G.out q.out (by decide)))))))))) (fun _ hk => ⟨hk.1.1, ⟨hk.1.2.1, ⟨hk.1.2.2.1, hk.1.2.2.2⟩⟩⟩)))⟩; replace I : Aside0 (Kd.R (Kd.int .i64) 3 w72 w.heap.size (fun a => some a ≠ (.slice aR u.length aT : Value).ownBlock ∧ some a ≠ (.slice a4 A.length a5 : Value).ownBlock ∧ some a ≠ (.slice ba B.length bb : Value).ownBlock ∧ some a ≠ (.slice be E.length bf : Value).ownBlock) (.slice aY y.length aZ) y) := ⟨(by rw [hw]; exact (by refine vR_ ?_; exact rm_ (fR_ (fR_ (fR_ (fR_ (fR_ (fR_ (fR_ (fR_ (rt_ I.out q.out (by decide)))))))))) (fun _ hk => ⟨hk.1.1, ⟨hk.1.2.1, ⟨hk.1.2.2.1, hk.1.2.2.2⟩⟩⟩)))⟩; replace J : Aside0 (Kd.R (Kd.int .i64) 3 w72 w.heap.size (fun a => some a ≠ (.slice aR u.length aT : Value).ownBlock ∧ some a ≠ (.slice aY y.length aZ : Value).ownBlock ∧ some a ≠ (.slice ba B.length bb : Value).ownBlock ∧ some a ≠ (.slice be E.length bf : Value).ownBlock) (.slice a4 A.length a5) A) := ⟨(by rw [hw]; exact (by refine vR_ ?_; exact rm_ (fR_ (fR_ (fR_ (fR_ (fR_ (fR_ (fR_ (fR_ (rt_ J.out q.out (by decide)))))))))) (fun _ hk => ⟨hk.1.1, ⟨hk.1.2.1, ⟨hk.1.2.2.1, hk.1.2.2.2⟩⟩⟩)))⟩; replace O : Aside0 (Kd.R (Kd.int .i64) 3 w72 w.heap.size (fun a => some a ≠ (.slice aR u.length aT : Value).ownBlock ∧ some a ≠ (.slice aY y.length aZ : Value).ownBlock ∧ some a ≠ (.slice a4 A.length a5 : Value).ownBlock ∧ some a ≠ (.slice be E.length bf : Value).ownBlock) (.slice ba B.length bb) B) := ⟨(by rw [hw]; exact (by refine vR_ ?_; exact rm_ (fR_ (fR_ (fR_ (fR_ (fR_ (fR_ (fR_ (fR_ (rt_ O.out q.out (by decide)))))))))) (fun _ hk => ⟨hk.1.1, ⟨hk.1.2.1, ⟨hk.1.2.2.1, hk.1.2.2.2⟩⟩⟩)))⟩; replace Q : Aside0 (Kd.R (Kd.int .i64) 3 w72 w.heap.size (fun a => some a ≠ (.slice aR u.length aT : Value).ownBlock ∧ some a ≠ (.slice aY y.length aZ : Value).ownBlock ∧ some a ≠ (.slice a4 A.length a5 : Value).ownBlock ∧ some a ≠ (.slice ba B.length bb : Value).ownBlock) (.slice be E.length bf) E) := ⟨(by rw [hw]; exact (by refine vR_ ?_; exact rm_ (fR_ (fR_ (fR_ (fR_ (fR_ (fR_ (fR_ (fR_ (rt_ Q.out q.out (by decide)))))))))) (fun _ hk => ⟨hk.1.1, ⟨hk.1.2.1, ⟨hk.1.2.2.1, hk.1.2.2.2⟩⟩⟩)))⟩; replace F : Aside0 (Kd.N (Kd.slice 3 (Kd.int .i64)) 30 w72 w.heap.size (fun a => some a ≠ (.slice aR u.length aT : Value).ownBlock ∧ some a ≠ (.slice aY y.length aZ : Value).ownBlock ∧ some a ≠ (.slice a4 A.length a5 : Value).ownBlock ∧ some a ≠ (.slice ba B.length bb : Value).ownBlock ∧ some a ≠ (.slice be E.length bf : Value).ownBlock ∧ some a ≠ aQ.ownBlock ∧ a ≠ z ∧ a ≠ X ∧ a ≠ c) (.slice b7 Y.length b8) Y) := ⟨(by rw [hw]; exact (by refine vN_ ?_; exact nm_ (fN_ (fN_ (fN_ (fN_ (fN_ (fN_ (fN_ (fN_ (nm_ F.out (fun a hk => (⟨hk, hk.2⟩ : _ ∧ a ≠ c))))))))))) (fun _ hk => ⟨hk.1.1.1, ⟨hk.1.1.2.1, ⟨hk.1.1.2.2.1, ⟨hk.1.1.2.2.2.1, ⟨hk.1.1.2.2.2.2.1, ⟨hk.1.1.2.2.2.2.2.1, ⟨hk.1.1.2.2.2.2.2.2.1, ⟨hk.1.1.2.2.2.2.2.2.2, hk.1.2⟩⟩⟩⟩⟩⟩⟩⟩)))⟩; replace U : Aside0 (Kd.N (Kd.slice 3 (Kd.int .i64)) 30 w72 w.heap.size (fun a => some a ≠ (.slice aR u.length aT : Value).ownBlock ∧ some a ≠ (.slice aY y.length aZ : Value).ownBlock ∧ some a ≠ (.slice a4 A.length a5 : Value).ownBlock ∧ some a ≠ (.slice ba B.length bb : Value).ownBlock ∧ some a ≠ (.slice be E.length bf : Value).ownBlock ∧ some a ≠ (.slice b7 Y.length b8 : Value).ownBlock ∧ a ≠ z ∧ a ≠ X ∧ a ≠ c) aQ aa) := ⟨(by rw [hw]; exact (by refine vN_ ?_; exact nm_ (fN_ (fN_ (fN_ (fN_ (fN_ (fN_ (fN_ (fN_ (nm_ U.out (fun a hk => (⟨hk, hk.2⟩ : _ ∧ a ≠ c))))))))))) (fun _ hk => ⟨hk.1.1.1, ⟨hk.1.1.2.1, ⟨hk.1.1.2.2.1, ⟨hk.1.1.2.2.2.1, ⟨hk.1.1.2.2.2.2.1, ⟨hk.1.1.2.2.2.2.2.1, ⟨hk.1.1.2.2.2.2.2.2.1, ⟨hk.1.1.2.2.2.2.2.2.2, hk.1.2⟩⟩⟩⟩⟩⟩⟩⟩)))⟩; replace l : Aside0 (w72.heap[z]? = some (.cells #[.int .u8 aK, .slice bj av.length c0_1, .slice bk aw.length c0_2, .slice bl ax.length c0_3, .int .i16 aM, .int .u8 aN, .slice bm ay.length c0_6] 29 (0, 0))) := ⟨(by rw [hw]; exact (by refine bk_ ?_; refine blk_far ?_ W.out _; refine bk_ ?_; refine blk_far ?_ W.out _; refine bk_ ?_; refine blk_far ?_ W.out _; refine bk_ ?_; refine blk_far ?_ W.out _; refine bk_ ?_; refine blk_far ?_ W.out _; refine bk_ ?_; refine blk_far ?_ W.out _; refine bk_ ?_; refine blk_far ?_ W.out _; refine bk_ ?_; refine blk_far ?_ W.out _; refine bk_ ?_; exact l.out))⟩; replace s : Aside0 (w72.heap[X]? = some (.cells #[.int .i64 aE, .slice bJ bw.length c1_1, .slice bK bx.length c1_2, .slice bL bz.length c1_3, .slice bM bA.length c1_4, .slice bN bB.length c1_5, .int .i64 bn, .slice bP bD.length c1_7] 32 (0, 0))) := ⟨(by rw [hw]; exact (by refine bk_ ?_; refine blk_far ?_ d.out _; refine bk_ ?_; refine blk_far ?_ d.out _; refine bk_ ?_; refine blk_far ?_ d.out _; refine bk_ ?_; refine blk_far ?_ d.out _; refine bk_ ?_; refine blk_far ?_ d.out _; refine bk_ ?_; refine blk_far ?_ d.out _; refine bk_ ?_; refine blk_far ?_ d.out _; refine bk_ ?_; refine blk_far ?_ d.out _; refine bk_ ?_; exact s.out))⟩; replace q : Aside0 (w72.heap[c]? = some (.cells #[.int .i64 Z, .slice aR u.length aT, .slice aY y.length aZ, .slice a4 A.length a5, .slice ba B.length bb, .slice be E.length bf, .int .i64 ac, .slice b7 Y.length b8] 32 (0, 0))) := ⟨(by rw [hw]; exact (by refine bk_ ?_; refine bu_ (cs := #[.int .i64 Z, .slice aR u.length aT, .slice aY y.length aZ, .slice a4 A.length a5, .slice ba B.length bb, .slice be E.length bf, .int .i64 ac, .slice none 0 0]) ?_ 7 _ rfl; refine bk_ ?_; refine bu_ (cs := #[.int .i64 Z, .slice aR u.length aT, .slice aY y.length aZ, .slice a4 A.length a5, .slice ba B.length bb, .slice be E.length bf, .int .i64 0, .slice none 0 0]) ?_ 6 _ rfl; refine bk_ ?_; refine bu_ (cs := #[.int .i64 Z, .slice aR u.length aT, .slice aY y.length aZ, .slice a4 A.length a5, .slice ba B.length bb, .slice none 0 0, .int .i64 0, .slice none 0 0]) ?_ 5 _ rfl; refine bk_ ?_; refine bu_ (cs := #[.int .i64 Z, .slice aR u.length aT, .slice aY y.length aZ, .slice a4 A.length a5, .slice none 0 0, .slice none 0 0, .int .i64 0, .slice none 0 0]) ?_ 4 _ rfl; refine bk_ ?_; refine bu_ (cs := #[.int .i64 Z, .slice aR u.length aT, .slice aY y.length aZ, .slice none 0 0, .slice none 0 0, .slice none 0 0, .int .i64 0, .slice none 0 0]) ?_ 3 _ rfl; refine bk_ ?_; refine bu_ (cs := #[.int .i64 Z, .slice aR u.length aT, .slice none 0 0, .slice none 0 0, .slice none 0 0, .slice none 0 0, .int .i64 0, .slice none 0 0]) ?_ 2 _ rfl; refine bk_ ?_; refine bu_ (cs := #[.int .i64 Z, .slice none 0 0, .slice none 0 0, .slice none 0 0, .slice none 0 0, .slice none 0 0, .int .i64 0, .slice none 0 0]) ?_ 1 _ rfl; refine bk_ ?_; refine bu_ (cs := #[.int .i64 0, .slice none 0 0, .slice none 0 0, .slice none 0 0, .slice none 0 0, .slice none 0 0, .int .i64 0, .slice none 0 0]) ?_ 0 _ rfl; refine bk_ ?_; exact q.out))⟩; replace HB : Aside0 (Below w.heap.size w w72) := ⟨(by rw [hw]; exact bel_)⟩; clear hw; have p53 : 0 ≤ (0 : Int) := (by omega); have dJ : (0 : Int) < ((aa.length : Int) : Int) := dq_; have fH : (0 < aa.length) = True := et_ (by omega); obtain ⟨go53, b3, fI, fJ, gl53, cl53, HG53⟩ := Kd.N_form U.out (by omega); (first | cases fI | (injection fI with ea_ en_ ec_; (first | subst ea_ | (injection ea_ with ea_; subst ea_)); subst ec_; clear en_)); have GB53 := a_ fJ; have GG53 := a_ HG53; clear fJ gl53 HG53; obtain ⟨ce53, hcl53, hM53, hcc53, hfr53⟩ := Kd.N_elem U.out [] (0 : Int) p53 dJ; obtain ⟨ua53_0, uc53_0, rfl, hM, hN⟩ := Kd.FK_slice_open hM53; have cI := hcc53 0 _ rfl; have hf53_0 := hfr53 0; (try simp only [show ((Kd.slice 3 (Kd.int .i64))).sz = 1 from rfl, Nat.mul_one, Nat.add_zero] at cI); (try simp only [show ((Kd.slice 3 (Kd.int .i64))).sz = 1 from rfl, Nat.mul_one, Nat.add_zero] at hf53_0); clear hcl53 hcc53 hfr53 hM53; (try rw [t0_] at cI); (try simp only [Nat.reduceMul, Nat.zero_mul, Nat.zero_add, Nat.reduceAdd] at cI); (try rw [t0_] at hf53_0); (try simp only [Nat.reduceMul, Nat.zero_mul, Nat.zero_add, Nat.reduceAdd] at hf53_0); replace p53 := et_ p53; replace dJ := et_ dJ; have fK := a_ (show Kd.N (Kd.slice 3 (Kd.int .i64)) 30 w72 w.heap.size (fun a => some a ≠ (.slice aR u.length aT : Value).ownBlock ∧ some a ≠ (.slice aY y.length aZ : Value).ownBlock ∧ some a ≠ (.slice a4 A.length a5 : Value).ownBlock ∧ some a ≠ (.slice ba B.length bb : Value).ownBlock ∧ some a ≠ (.slice be E.length bf : Value).ownBlock ∧ some a ≠ (.slice b7 Y.length b8 : Value).ownBlock ∧ a ≠ z ∧ a ≠ X ∧ a ≠ c) (.slice (some ⟨go53, 0, none⟩) aa.length b3) aa from (vN_ U.out)); obtain ⟨ce73, hcl73, hM73, hcc73, hfr73⟩ := Kd.N_elem fK.out [] (0 : Int) (by omega) (by have h_ : (0 : Int) < ((aa.length : Int) : Int) := dq_; first | exact h_ | (have e_ := (Kd.N_reads' U.out).1; omega) | simpa using h_); obtain ⟨ua73_0, uc73_0, rfl, hO, hP⟩ := Kd.FK_slice_open hM73; have HP73 := Kd.N_seg fK.out (0 : Int) (by omega) (by have h_ : (0 : Int) < ((aa.length : Int) : Int) := dq_; first | exact h_ | (have e_ := (Kd.N_reads' U.out).1; omega) | simpa using h_) (seg := [.slice none 0 0]) (j := 0) hcl73 hcc73 (show 1 ≤ 1 from by decide) (x' := ([] : List Int)) (Kd.FK_slice_mk (lr_ _) (Kd.F_nil _ _ _)) (fun _ hk => hk); have cJ := hcc73 0 _ rfl; (try simp only [show ((Kd.slice 3 (Kd.int .i64))).sz = 1 from rfl, Nat.mul_one, Nat.add_zero] at cJ); (try rw [t0_] at cJ); (try simp only [Nat.reduceMul, Nat.zero_mul, Nat.zero_add, Nat.reduceAdd] at cJ); have hf73_0 := hfr73 0; (try simp only [show ((Kd.slice 3 (Kd.int .i64))).sz = 1 from rfl, Nat.mul_one, Nat.add_zero] at hf73_0); (try rw [t0_] at hf73_0); (try simp only [Nat.reduceMul, Nat.zero_mul, Nat.zero_add, Nat.reduceAdd] at hf73_0); clear hcl73 hcc73 hfr73 hM73; (try simp only [show ((Kd.slice 3 (Kd.int .i64))).sz = 1 from rfl, Nat.mul_one, Nat.add_zero] at HP73); (try simp only [show ((Kd.slice 3 (Kd.int .i64))).sz = 1 from rfl, Nat.mul_one, Nat.add_zero] at HP73)) | ((with_reducible refine gate_store (t := 30) (p := 34) rfl ?_); refine store_event (t := 30) (p := 34) (v := ?vo_w74) (w1 := (w72.setCell ⟨go53, 0, none⟩ (.slice none 0 0))) ?hg ?ho ?hn ?hr ?_; (case ho => rfl); (case hg => rfl); (case hn => rfl); (case hr => first | (go_simp; done) | (go_simp; rfl)); intro w74 hw; have hg : w72.grownBy w74 (some go53) := (by rw [hw]; exact HP73.2); have hp_ : Kd.N (Kd.slice 3 (Kd.int .i64)) 30 w74 w.heap.size (fun a => some a ≠ (.slice aR u.length aT : Value).ownBlock ∧ some a ≠ (.slice aY y.length aZ : Value).ownBlock ∧ some a ≠ (.slice a4 A.length a5 : Value).ownBlock ∧ some a ≠ (.slice ba B.length bb : Value).ownBlock ∧ some a ≠ (.slice be E.length bf : Value).ownBlock ∧ some a ≠ (.slice b7 Y.length b8 : Value).ownBlock ∧ a ≠ z ∧ a ≠ X ∧ a ≠ c) (.slice (some ⟨go53, 0, none⟩) aa.length b3) co := (by rw [hw, f4.out]; exact HP73.1); clear HP73; replace l := a_ (blk_grown (bk_ l.out) hg (Kd.N_ne U.out l.out (by decide))); replace s := a_ (blk_grown (bk_ s.out) hg (Kd.N_ne U.out s.out (by decide))); replace G := a_ (Kd.R_over' (v := (.slice (some ⟨go53, 0, none⟩) aa.length b3)) (vR_ G.out) (Kd.N_typed U.out) (by decide) hg); replace I := a_ (Kd.R_over' (v := (.slice (some ⟨go53, 0, none⟩) aa.length b3)) (vR_ I.out) (Kd.N_typed U.out) (by decide) hg); replace J := a_ (Kd.R_over' (v := (.slice (some ⟨go53, 0, none⟩) aa.length b3)) (vR_ J.out) (Kd.N_typed U.out) (by decide) hg); replace O := a_ (Kd.R_over' (v := (.slice (some ⟨go53, 0, none⟩) aa.length b3)) (vR_ O.out) (Kd.N_typed U.out) (by decide) hg); replace Q := a_ (Kd.R_over' (v := (.slice (some ⟨go53, 0, none⟩) aa.length b3)) (vR_ Q.out) (Kd.N_typed U.out) (by decide) hg); replace F := a_ (Kd.N_afterv (v := (.slice (some ⟨go53, 0, none⟩) aa.length b3)) (v1 := (.slice (some ⟨go53, 0, none⟩) aa.length b3)) (ok := (fun a => some a ≠ (.slice aR u.length aT : Value).ownBlock ∧ some a ≠ (.slice aY y.length aZ : Value).ownBlock ∧ some a ≠ (.slice a4 A.length a5 : Value).ownBlock ∧ some a ≠ (.slice ba B.length bb : Value).ownBlock ∧ some a ≠ (.slice be E.length bf : Value).ownBlock ∧ a ≠ z ∧ a ≠ X ∧ a ≠ c)) (by refine vN_ ?_; exact nm_ F.out (fun _ hk => ⟨⟨hk.1, ⟨hk.2.1, ⟨hk.2.2.1, ⟨hk.2.2.2.1, ⟨hk.2.2.2.2.1, ⟨hk.2.2.2.2.2.2.1, ⟨hk.2.2.2.2.2.2.2.1, hk.2.2.2.2.2.2.2.2⟩⟩⟩⟩⟩⟩⟩, hk.2.2.2.2.2.1⟩)) hg (.inl rfl)); replace q := a_ (blk_grown (bk_ q.out) hg (Kd.N_ne U.out q.out (by decide))); replace U := a_ (hp_); replace HB := a_ ((by rw [hw]; exact below_set (HB.out) GB53.out : Below w.heap.size w w74)); clear hg hw hp_))
  replace G := a_ (Kd.R_drew G.out)
  replace I := a_ (Kd.R_drew I.out)
  replace J := a_ (Kd.R_drew J.out)
  replace O := a_ (Kd.R_drew O.out)
  replace Q := a_ (Kd.R_drew Q.out)
  replace F := a_ (Kd.N_drew F.out)
  replace U := a_ (Kd.N_drew U.out)
  replace l := a_ (blk_drew l.out)
  replace s := a_ (blk_drew s.out)
  replace q := a_ (blk_drew q.out)
  replace HB := a_ (below_drew1 HB.out)
  refine start_ (n := 9) (S := fun w' => w'.cell? ⟨c, 0, none⟩ = some (.int .i64 Z) ∧ w'.cell? ⟨c, 1, none⟩ = some (.slice aR u.length aT) ∧ w'.cell? ⟨c, 2, none⟩ = some (.slice aY y.length aZ) ∧ w'.cell? ⟨c, 3, none⟩ = some (.slice a4 A.length a5) ∧ w'.cell? ⟨c, 4, none⟩ = some (.slice ba B.length bb) ∧ w'.cell? ⟨c, 5, none⟩ = some (.slice be E.length bf) ∧ w'.cell? ⟨c, 6, none⟩ = some (.int .i64 ac) ∧ w'.cell? ⟨c, 7, none⟩ = some (.slice b7 Y.length b8)) (ds := []) #[false, false, false, false, false, false, false, false, false] kr_ rfl rfl (ca8_ q.out) (fun hHeld => ?_); refine with_tabW jigsawlaw22_InverseRefuses.tab12 jigsawlaw22_InverseRefuses.bits12 (fun HT_ HW_ => ?_)
  generalize w74.drew = w75 at G I J O Q F U l s q HB hHeld ⊢
  refine pn_ 1 70 ao_ ?_
  refine tn_ 0 69 tw_ hHeld ?_
  refine onn_ 2 71 #[true, true, true, false, false, false, false, false, false] rfl rfl on_ (by decide) (fun K hK => ?_)
  refine goes_ Tryz.func11 kr_ rfl #[.slice (some ⟨go53, 0, none⟩) co.length b3] (by rfl) rfl rfl (by (try simp only [List.map_toArray, List.map_cons, List.map_nil]); first | done | (rw [show co.length = aa.length from (Kd.N_reads' U.out).1.symm] <;> rfl) | rfl | (simp only [List.length_drop, List.length_take]; rfl)) ?_
  with_reducible refine (jigsawlaw22_doms.calls k _ _ co dG _ ?_ ?_ ?_ hJ.out).mono ?_
  exact ca_ ((Kd.N_reads' U.out).2.2)
  focus (rw [show co.length = aa.length from (Kd.N_reads' U.out).1.symm]; exact (Kd.N_reads' U.out).2.1)
  exact ca_ ((cb_ HRtab.out HB.out))
  rintro e w76 ⟨jj, rfl, ab, hb⟩
  refine ⟨_, rfl, ?_⟩
  have fi := a_ (Kd.N_lower (nm_ (ok' := fun a => some a ≠ (.slice aR u.length aT : Value).ownBlock ∧ some a ≠ (.slice aY y.length aZ : Value).ownBlock ∧ some a ≠ (.slice a4 A.length a5 : Value).ownBlock ∧ some a ≠ (.slice ba B.length bb : Value).ownBlock ∧ some a ≠ (.slice be E.length bf : Value).ownBlock ∧ some a ≠ (.slice b7 Y.length b8 : Value).ownBlock ∧ some a ≠ (.slice (some ⟨go53, 0, none⟩) aa.length b3 : Value).ownBlock ∧ a ≠ z ∧ a ≠ X ∧ a ≠ c) ab (fun a hk_ => ⟨(fr_ (rl_ (vR_ G.out)) a hk_), (fr_ (rl_ (vR_ I.out)) a hk_), (fr_ (rl_ (vR_ J.out)) a hk_), (fr_ (rl_ (vR_ O.out)) a hk_), (fr_ (rl_ (vR_ Q.out)) a hk_), (fr_ (Kd.N_lt (vN_ F.out)) a hk_), (fr_ (Kd.N_lt (vN_ U.out)) a hk_), (Kd.freshB (bk_ l.out) a hk_), (Kd.freshB (bk_ s.out) a hk_), (Kd.freshB (bk_ q.out) a hk_)⟩)) (bz_ bel_))
  replace G := a_ (rb_ (vR_ G.out) hb)
  replace I := a_ (rb_ (vR_ I.out) hb)
  replace J := a_ (rb_ (vR_ J.out) hb)
  replace O := a_ (rb_ (vR_ O.out) hb)
  replace Q := a_ (rb_ (vR_ Q.out) hb)
  replace F := a_ (Kd.N_elder' (vN_ F.out) (Kd.N_base ab) hb)
  replace U := a_ (Kd.N_elder' (vN_ U.out) (Kd.N_base ab) hb)
  replace l := a_ (bq_ l.out hb)
  replace s := a_ (bq_ s.out hb)
  replace q := a_ (bq_ q.out hb)
  replace HB := hq_ hb
  clear hb ab
  obtain ⟨gU, gV, fL⟩ := Kd.N_slice fi.out
  (first | subst fL | (injection fL with f1_ f2_ f3_; have f4_ := f1_.symm; have f5_ := f3_.symm; clear f1_ f2_ f3_; subst f4_; subst f5_))
  refine hK.out _ _ (ca8_ q.out) (fun hHeld => ?_)
  clear hK K
  refine nor_ (N := some 71) ?_
  refine onn_ 3 72 #[true, true, true, true, false, false, false, false, false] rfl rfl on_ (by decide) (fun K hK => ?_)
  refine goes_ Tryz.func10 kr_ rfl #[.agg #[.int .i64 Z, .slice aR u.length aT, .slice aY y.length aZ, .slice a4 A.length a5, .slice ba B.length bb, .slice be E.length bf, .int .i64 ac, .slice b7 Y.length b8], .slice gU dG.length gV] (by rfl) rfl rfl ar_ ?_
  with_reducible refine (inverse_Filter.calls k Z _ _ u _ _ y _ _ A _ _ B _ _ E ac _ _ Y (fun a => (some a ≠ (.slice aR u.length aT : Value).ownBlock ∧ (some a ≠ (.slice aY y.length aZ : Value).ownBlock ∧ (some a ≠ (.slice a4 A.length a5 : Value).ownBlock ∧ (some a ≠ (.slice ba B.length bb : Value).ownBlock ∧ (some a ≠ (.slice be E.length bf : Value).ownBlock ∧ (some a ≠ (.slice b7 Y.length b8 : Value).ownBlock ∧ (some a ≠ (.slice (some ⟨go53, 0, none⟩) aa.length b3 : Value).ownBlock ∧ (a ≠ z ∧ (a ≠ X ∧ a ≠ c)))))))))) _ _ dG dH dI _ ?_ ?_ ?_ ?_ ?_ ?_ ?_ ?_ ?_ ?_ ?_ ?_ ?_ ?_ hL.out).mono ?_
  exact ca_ ((rr_ G.out).2.2)
  exact (rr_ G.out).2.1
  exact ca_ ((rr_ I.out).2.2)
  exact (rr_ I.out).2.1
  exact ca_ ((rr_ J.out).2.2)
  exact (rr_ J.out).2.1
  exact ca_ ((rr_ O.out).2.2)
  exact (rr_ O.out).2.1
  exact ca_ ((rr_ Q.out).2.2)
  exact (rr_ Q.out).2.1
  exact ca_ ((Kd.N_reads' F.out).2.2)
  exact (Kd.N_reads' F.out).2.1
  exact Kd.N_V (fi.out)
  exact ca_ ((cb_ HRtab.out HB.out))
  rintro e w78 ⟨ek, rfl, ab, hb⟩
  refine ⟨_, rfl, ?_⟩
  have d8 := a_ (Kd.N_lower (nm_ (ok' := fun a => some a ≠ (.slice aR u.length aT : Value).ownBlock ∧ some a ≠ (.slice aY y.length aZ : Value).ownBlock ∧ some a ≠ (.slice a4 A.length a5 : Value).ownBlock ∧ some a ≠ (.slice ba B.length bb : Value).ownBlock ∧ some a ≠ (.slice be E.length bf : Value).ownBlock ∧ some a ≠ (.slice b7 Y.length b8 : Value).ownBlock ∧ some a ≠ (.slice (some ⟨go53, 0, none⟩) aa.length b3 : Value).ownBlock ∧ a ≠ z ∧ a ≠ X ∧ a ≠ c) ab (fun a hk_ => ⟨Or.elim hk_ (fun hs_ => hs_.1) (fun hn_ => (fr_ (rl_ (vR_ G.out)) a hn_)), Or.elim hk_ (fun hs_ => hs_.2.1) (fun hn_ => (fr_ (rl_ (vR_ I.out)) a hn_)), Or.elim hk_ (fun hs_ => hs_.2.2.1) (fun hn_ => (fr_ (rl_ (vR_ J.out)) a hn_)), Or.elim hk_ (fun hs_ => hs_.2.2.2.1) (fun hn_ => (fr_ (rl_ (vR_ O.out)) a hn_)), Or.elim hk_ (fun hs_ => hs_.2.2.2.2.1) (fun hn_ => (fr_ (rl_ (vR_ Q.out)) a hn_)), Or.elim hk_ (fun hs_ => hs_.2.2.2.2.2.1) (fun hn_ => (fr_ (Kd.N_lt (vN_ F.out)) a hn_)), Or.elim hk_ (fun hs_ => hs_.2.2.2.2.2.2.1) (fun hn_ => (fr_ (Kd.N_lt (vN_ U.out)) a hn_)), Or.elim hk_ (fun hs_ => hs_.2.2.2.2.2.2.2.1) (fun hn_ => (Kd.freshB (bk_ l.out) a hn_)), Or.elim hk_ (fun hs_ => hs_.2.2.2.2.2.2.2.2.1) (fun hn_ => (Kd.freshB (bk_ s.out) a hn_)), Or.elim hk_ (fun hs_ => hs_.2.2.2.2.2.2.2.2.2) (fun hn_ => (Kd.freshB (bk_ q.out) a hn_))⟩)) (bz_ bel_))
  replace G := a_ (rb_ (vR_ G.out) hb)
  replace I := a_ (rb_ (vR_ I.out) hb)
  replace J := a_ (rb_ (vR_ J.out) hb)
  replace O := a_ (rb_ (vR_ O.out) hb)
  replace Q := a_ (rb_ (vR_ Q.out) hb)
  replace F := a_ (Kd.N_elder' (vN_ F.out) (Kd.N_base ab) hb)
  replace U := a_ (Kd.N_elder' (vN_ U.out) (Kd.N_base ab) hb)
  replace l := a_ (bq_ l.out hb)
  replace s := a_ (bq_ s.out hb)
  replace q := a_ (bq_ q.out hb)
  replace HB := hq_ hb
  clear hb ab
  refine hK.out _ _ (ca8_ q.out) (fun hHeld => ?_)
  clear hK K
  refine nor_ (N := some 72) ?_
  refine pn_ 4 68 ao_ ?_
  refine pn_ 5 73 ao_ ?_
  refine pn_ 6 74 ao_ ?_
  refine pn_ 7 10 ao_ ?_
  refine pn_ 8 11 ao_ ?_
  refine done_ dn_ ?_
  go_upto_region 13 with (fail)
  go_cut [77] (fun da wc => ∃ (kq : Nat) (dd : Bool), da = .bool dd ∧ Aside0 (jigsawlaw22_InverseRefuses.j1 kq co dH dI dd = some r) ∧ Aside0 (kq ≤ k) ∧ Aside0 (Kd.N (Kd.slice 3 (Kd.int .i64)) 30 wc w.heap.size (fun a => some a ≠ ek.ownBlock ∧ some a ≠ ((.slice aR u.length aT) : Value).ownBlock ∧ some a ≠ ((.slice aY y.length aZ) : Value).ownBlock ∧ some a ≠ ((.slice a4 A.length a5) : Value).ownBlock ∧ some a ≠ ((.slice ba B.length bb) : Value).ownBlock ∧ some a ≠ ((.slice be E.length bf) : Value).ownBlock ∧ some a ≠ ((.slice b7 Y.length b8) : Value).ownBlock ∧ a ≠ z ∧ a ≠ X ∧ a ≠ c) (.slice (some ⟨go53, 0, none⟩) aa.length b3) co) ∧ Aside0 (Kd.N k58 58 wc w.heap.size (fun a => some a ≠ ((.slice (some ⟨go53, 0, none⟩) aa.length b3) : Value).ownBlock ∧ some a ≠ ((.slice aR u.length aT) : Value).ownBlock ∧ some a ≠ ((.slice aY y.length aZ) : Value).ownBlock ∧ some a ≠ ((.slice a4 A.length a5) : Value).ownBlock ∧ some a ≠ ((.slice ba B.length bb) : Value).ownBlock ∧ some a ≠ ((.slice be E.length bf) : Value).ownBlock ∧ some a ≠ ((.slice b7 Y.length b8) : Value).ownBlock ∧ a ≠ z ∧ a ≠ X ∧ a ≠ c) ek dH) ∧ Aside0 (Kd.R (Kd.int .i64) 3 wc w.heap.size (fun a => some a ≠ ((.slice aY y.length aZ) : Value).ownBlock ∧ some a ≠ ((.slice a4 A.length a5) : Value).ownBlock ∧ some a ≠ ((.slice ba B.length bb) : Value).ownBlock ∧ some a ≠ ((.slice be E.length bf) : Value).ownBlock) (.slice aR u.length aT) u) ∧ Aside0 (Kd.R (Kd.int .i64) 3 wc w.heap.size (fun a => some a ≠ ((.slice aR u.length aT) : Value).ownBlock ∧ some a ≠ ((.slice a4 A.length a5) : Value).ownBlock ∧ some a ≠ ((.slice ba B.length bb) : Value).ownBlock ∧ some a ≠ ((.slice be E.length bf) : Value).ownBlock) (.slice aY y.length aZ) y) ∧ Aside0 (Kd.R (Kd.int .i64) 3 wc w.heap.size (fun a => some a ≠ ((.slice aR u.length aT) : Value).ownBlock ∧ some a ≠ ((.slice aY y.length aZ) : Value).ownBlock ∧ some a ≠ ((.slice ba B.length bb) : Value).ownBlock ∧ some a ≠ ((.slice be E.length bf) : Value).ownBlock) (.slice a4 A.length a5) A) ∧ Aside0 (Kd.R (Kd.int .i64) 3 wc w.heap.size (fun a => some a ≠ ((.slice aR u.length aT) : Value).ownBlock ∧ some a ≠ ((.slice aY y.length aZ) : Value).ownBlock ∧ some a ≠ ((.slice a4 A.length a5) : Value).ownBlock ∧ some a ≠ ((.slice be E.length bf) : Value).ownBlock) (.slice ba B.length bb) B) ∧ Aside0 (Kd.R (Kd.int .i64) 3 wc w.heap.size (fun a => some a ≠ ((.slice aR u.length aT) : Value).ownBlock ∧ some a ≠ ((.slice aY y.length aZ) : Value).ownBlock ∧ some a ≠ ((.slice a4 A.length a5) : Value).ownBlock ∧ some a ≠ ((.slice ba B.length bb) : Value).ownBlock) (.slice be E.length bf) E) ∧ Aside0 (Kd.N (Kd.slice 3 (Kd.int .i64)) 30 wc w.heap.size (fun a => some a ≠ ((.slice (some ⟨go53, 0, none⟩) aa.length b3) : Value).ownBlock ∧ some a ≠ ek.ownBlock ∧ some a ≠ ((.slice aR u.length aT) : Value).ownBlock ∧ some a ≠ ((.slice aY y.length aZ) : Value).ownBlock ∧ some a ≠ ((.slice a4 A.length a5) : Value).ownBlock ∧ some a ≠ ((.slice ba B.length bb) : Value).ownBlock ∧ some a ≠ ((.slice be E.length bf) : Value).ownBlock ∧ a ≠ z ∧ a ≠ X ∧ a ≠ c) (.slice b7 Y.length b8) Y) ∧ Aside0 (wc.heap[z]? = some (.cells #[.int .u8 aK, (.slice bj av.length c0_1), (.slice bk aw.length c0_2), (.slice bl ax.length c0_3), .int .i16 aM, .int .u8 aN, (.slice bm ay.length c0_6)] 29 (0, 0))) ∧ Aside0 (wc.heap[X]? = some (.cells #[.int .i64 aE, (.slice bJ bw.length c1_1), (.slice bK bx.length c1_2), (.slice bL bz.length c1_3), (.slice bM bA.length c1_4), (.slice bN bB.length c1_5), .int .i64 bn, (.slice bP bD.length c1_7)] 32 (0, 0))) ∧ Aside0 (wc.heap[c]? = some (.cells #[.int .i64 Z, (.slice aR u.length aT), (.slice aY y.length aZ), (.slice a4 A.length a5), (.slice ba B.length bb), (.slice be E.length bf), .int .i64 ac, (.slice b7 Y.length b8)] 32 (0, 0))) ∧ Aside0 (Below w.heap.size w wc))
  case first =>
   have H := ej.out
   clear ej
   replace H := bo_ H
   obtain ⟨d7, hQ, H⟩ := H
   try dsimp only at H
   have H' := a_ H
   clear H
   have iM := ad.out
   have iN := W.out
   have iO := ae.out
   have iP := d.out
   obtain ⟨_, _, _, _, _, _, _, _, _, _, _, _, _, _, _, _⟩ := cel8_ q.out
   go_wp2_with (first | ((with_reducible refine gate_callee (f := 17) rfl ?_); refine goesL_ (some 77) rfl rfl Tryz.func17 kr_ rfl #[.agg #[.int .i64 Z, .slice aR u.length aT, .slice aY y.length aZ, .slice a4 A.length a5, .slice ba B.length bb, .slice be E.length bf, .int .i64 ac, .slice b7 Y.length b8], .slice (some ⟨go53, 0, none⟩) co.length b3, .int .i64 23, .int .i64 23] rfl (by (try simp only [List.map_toArray, List.map_cons, List.map_nil]); first | done | (rw [show co.length = aa.length from (Kd.N_reads' U.out).1.symm] <;> rfl) | rfl | (simp only [List.length_drop, List.length_take]; rfl)) ?_; (with_reducible refine (jigsawref10_Fits.calls k Z _ _ u _ _ y _ _ A _ _ B _ _ E ac _ _ Y _ _ co 23 23 d7 _ ?side1 ?side2 ?side3 ?side4 ?side5 ?side6 ?side7 ?side8 ?side9 ?side10 ?side11 ?side12 ?side13 ?side14 hQ.out).mono ?_); (case side1 => exact ca_ ((rr_ G.out).2.2)); (case side2 => exact (rr_ G.out).2.1); (case side3 => exact ca_ ((rr_ I.out).2.2)); (case side4 => exact (rr_ I.out).2.1); (case side5 => exact ca_ ((rr_ J.out).2.2)); (case side6 => exact (rr_ J.out).2.1); (case side7 => exact ca_ ((rr_ O.out).2.2)); (case side8 => exact (rr_ O.out).2.1); (case side9 => exact ca_ ((rr_ Q.out).2.2)); (case side10 => exact (rr_ Q.out).2.1); (case side11 => exact ca_ ((Kd.N_reads' F.out).2.2)); (case side12 => exact (Kd.N_reads' F.out).2.1); (case side13 => exact ca_ ((Kd.N_reads' U.out).2.2)); (case side14 => rw [show co.length = aa.length from (Kd.N_reads' U.out).1.symm]; exact (Kd.N_reads' U.out).2.1); rintro e w83 ⟨rfl, hb⟩; refine ⟨_, rfl, ?_⟩; replace G := a_ (rb_ (vR_ G.out) hb); replace I := a_ (rb_ (vR_ I.out) hb); replace J := a_ (rb_ (vR_ J.out) hb); replace O := a_ (rb_ (vR_ O.out) hb); replace Q := a_ (rb_ (vR_ Q.out) hb); replace F := a_ (Kd.N_below (vN_ F.out) hb); replace U := a_ (Kd.N_below (vN_ U.out) hb); replace d8 := a_ (Kd.N_below (vN_ d8.out) hb); replace l := a_ (bq_ l.out hb); replace s := a_ (bq_ s.out hb); replace q := a_ (bq_ q.out hb); replace HB := hq_ hb; clear hb))
   go_meet
   exact ⟨_, (d7), eq_, H', ⟨by first | omega | exact lr_ _⟩, ⟨by refine vN_ ?_; exact nm_ U.out (fun _ hk => ⟨hk.2, ⟨hk.1.1.1, ⟨hk.1.1.2.1, ⟨hk.1.1.2.2.1, ⟨hk.1.1.2.2.2.1, ⟨hk.1.1.2.2.2.2.1, ⟨hk.1.1.2.2.2.2.2.1, ⟨hk.1.1.2.2.2.2.2.2.1, ⟨hk.1.1.2.2.2.2.2.2.2.1, hk.1.1.2.2.2.2.2.2.2.2⟩⟩⟩⟩⟩⟩⟩⟩⟩)⟩, ⟨by refine vN_ ?_; exact nm_ d8.out (fun _ hk => ⟨hk.2.2.2.2.2.2.1, ⟨hk.1, ⟨hk.2.1, ⟨hk.2.2.1, ⟨hk.2.2.2.1, ⟨hk.2.2.2.2.1, ⟨hk.2.2.2.2.2.1, ⟨hk.2.2.2.2.2.2.2.1, ⟨hk.2.2.2.2.2.2.2.2.1, hk.2.2.2.2.2.2.2.2.2⟩⟩⟩⟩⟩⟩⟩⟩⟩)⟩, ⟨vR_ G.out⟩, ⟨vR_ I.out⟩, ⟨vR_ J.out⟩, ⟨vR_ O.out⟩, ⟨vR_ Q.out⟩, ⟨by refine vN_ ?_; exact nm_ F.out (fun _ hk => ⟨hk.1.1.2, ⟨hk.2, ⟨hk.1.1.1.1, ⟨hk.1.1.1.2.1, ⟨hk.1.1.1.2.2.1, ⟨hk.1.1.1.2.2.2.1, ⟨hk.1.1.1.2.2.2.2.1, ⟨hk.1.1.1.2.2.2.2.2.1, ⟨hk.1.1.1.2.2.2.2.2.2.1, hk.1.1.1.2.2.2.2.2.2.2⟩⟩⟩⟩⟩⟩⟩⟩⟩)⟩, ⟨bk_ l.out⟩, ⟨bk_ s.out⟩, ⟨bk_ q.out⟩, ⟨bel_⟩⟩
  clear ej
  try clear c1
  try clear p2
  try clear q2
  try clear c3
  try clear c4
  try clear c5
  try clear c5b0
  try clear c5b1
  try clear p5
  try clear q5
  try clear hS
  try clear hT
  try clear hf5
  try clear c6
  try clear p6
  try clear c7
  try clear c7b0
  try clear c7b1
  try clear hU
  try clear hf7
  try clear c8
  try clear c8b0
  try clear c8b1
  try clear c10
  try clear c11
  try clear c13
  try clear c14
  try clear c17
  try clear c18
  try clear c19
  try clear c0
  try clear c35
  try clear c36
  try clear c39
  try clear c41
  try clear c42
  try clear c47
  try clear c48
  try clear c51
  try clear c51b0
  try clear c51b1
  try clear c52
  try clear c52b0
  try clear c52b1
  try clear c53
  try clear p53
  try clear dJ
  try clear gW
  try clear fH
  try clear hf53
  try clear c59
  try clear c63
  try clear c64
  try clear p64
  try clear c73
  try clear gX
  try clear hf73
  try clear c80
  try clear c81
  try clear dj
  try clear dk
  try clear dl
  try clear dm
  try clear dn
  try clear dp
  try clear dq
  try clear dR
  try clear dS
  try clear dT
  try clear dU
  try clear dV
  try clear dW
  try clear dX
  try clear dr
  try clear dt
  try clear du
  try clear dv
  try clear dw
  try clear dx
  try clear dy
  try clear dY
  try clear dZ
  try clear d0
  try clear d1
  try clear d2
  try clear d3
  try clear d4
  try clear cI
  try clear cJ
  try clear p2
  try clear p53
  try clear p6
  try clear q2
  try clear c0
  try clear dJ
  obtain ⟨kq, dd, rfl, HA, jk, HO_8, HO_10, HO_625001, HO_625002, HO_625003, HO_625004, HO_625005, HO_625007, l, s, q, HB⟩ := hcut
  have bU := (Kd.N_reads' HO_8.out).1
  rw [bU] at HO_8
  (try simp only [bU])
  (try simp only [bU] at l)
  (try simp only [bU] at s)
  (try simp only [bU] at q)
  (try simp only [bU] at HO_10)
  (try simp only [bU] at HO_625001)
  (try simp only [bU] at HO_625002)
  (try simp only [bU] at HO_625003)
  (try simp only [bU] at HO_625004)
  (try simp only [bU] at HO_625005)
  (try simp only [bU] at HO_625007)
  cases kq with
  | zero => exact absurd HA.out (by simp [jigsawlaw22_InverseRefuses.j1])
  | succ kj55 =>
   have H := HA.out
   clear HA
   simp only [jigsawlaw22_InverseRefuses.j1] at H
   by_cases c84 : dd = true
   rotate_left
   ·
    replace c84 := bf_.mpr c84
    subst c84
    have H1 : ((jigsawlaw22_wakes.f kj55).bind fun el => (if el = true then (if dI = true then (none) else (some ((dH.length : Int) == 0))) else (none))) = some r := by rw [ig_ (show ¬ (false = true) by decide)] at H; exact H
    clear H
    have H := H1
    clear H1
    replace H := bo_ H
    obtain ⟨el, hV, H⟩ := H
    try dsimp only at H
    by_cases c92 : el = true
    rotate_left
    ·
     replace c92 := bf_.mpr c92
     subst c92
     have H1 : (none) = some r := by rw [ig_ (show ¬ (false = true) by decide)] at H; exact H
     clear H
     have H := H1
     clear H1
     exact ab_ H
    subst c92
    rw [ip_ rfl] at H
    by_cases c93 : dI = true
    ·
     subst c93
     rw [ip_ rfl] at H
     exact ab_ H
    replace c93 := bf_.mpr c93
    subst c93
    have H1 : (some ((dH.length : Int) == 0)) = some r := by rw [ig_ (show ¬ (false = true) by decide)] at H; exact H
    clear H
    have H := H1
    clear H1
    obtain rfl := si_ H
    go_wp2_with (first | ((with_reducible refine gate_callee (f := 13) rfl ?_); refine goesL_ (some 90) rfl rfl Tryz.func13 kr_ rfl #[] rfl ar_ ?_; (with_reducible refine (jigsawlaw22_wakes.calls kj55 true _ ?_ hV.out).mono ?_); exact ca_ ((cb_ HRtab.out HB.out)); rintro e w94 ⟨rfl, hb⟩; refine ⟨_, rfl, ?_⟩; replace HO_10 := a_ (Kd.N_below (vN_ HO_10.out) hb); replace HB := hq_ hb; clear hb; obtain ⟨jn, jo, g0⟩ := Kd.N_slice HO_10.out; subst g0))
    go_ret
    exact ⟨er_, bel_⟩
   subst c84
   rw [ip_ rfl] at H
   replace H := bo_ H
   obtain ⟨gY, gB, H⟩ := H
   try dsimp only at H
   by_cases c86 : gY = true
   rotate_left
   ·
    replace c86 := bf_.mpr c86
    subst c86
    have H1 : (none) = some r := by rw [ig_ (show ¬ (false = true) by decide)] at H; exact H
    clear H
    have H := H1
    clear H1
    exact ab_ H
   subst c86
   rw [ip_ rfl] at H
   by_cases c87 : dI = true
   ·
    subst c87
    rw [ip_ rfl] at H
    obtain rfl := si_ H
    go_wp2_with (first | ((with_reducible refine gate_callee (f := 13) rfl ?_); refine goesL_ (some 78) rfl rfl Tryz.func13 kr_ rfl #[] rfl ar_ ?_; (with_reducible refine (jigsawlaw22_wakes.calls kj55 true _ ?_ gB.out).mono ?_); exact ca_ ((cb_ HRtab.out HB.out)); rintro e w88 ⟨rfl, hb⟩; refine ⟨_, rfl, ?_⟩; replace HO_10 := a_ (Kd.N_below (vN_ HO_10.out) hb); replace HB := hq_ hb; clear hb; obtain ⟨jl, jm, gZ⟩ := Kd.N_slice HO_10.out; subst gZ))
    go_ret
    exact ⟨er_, bel_⟩
   replace c87 := bf_.mpr c87
   subst c87
   have H1 : (some true) = some r := by rw [ig_ (show ¬ (false = true) by decide)] at H; exact H
   clear H
   have H := H1
   clear H1
   obtain rfl := si_ H
   go_wp2_with (first | ((with_reducible refine gate_callee (f := 13) rfl ?_); refine goesL_ (some 78) rfl rfl Tryz.func13 kr_ rfl #[] rfl ar_ ?_; (with_reducible refine (jigsawlaw22_wakes.calls kj55 true _ ?_ gB.out).mono ?_); exact ca_ ((cb_ HRtab.out HB.out)); rintro e w90 ⟨rfl, hb⟩; refine ⟨_, rfl, ?_⟩; replace HB := hq_ hb; clear hb))
   go_ret
   exact ⟨er_, bel_⟩
 rw [ig_ c51] at H
 have c51b0 : ((Int.tmod a2 5) == 1) = false := be_.mpr c51
 have c51b1 : ((Int.tmod a2 5) != 1) = true := ni_.mpr c51
 by_cases c96 : (Int.tmod a2 5) = 2
 ·
  rw [ip_ c96] at H
  have c96b0 : ((Int.tmod a2 5) == 2) = true := beq_iff_eq.mpr c96
  have c96b1 : ((Int.tmod a2 5) != 2) = false := bn_.mpr c96
  clear c96
  obtain ⟨dK, de⟩ : ∃ y_ : List Int, y_ = (([1] : List Int)) := ⟨_, rfl⟩
  replace H : (if aa.length < 5864062014805 then ((some (aa ++ [dK] : List (List Int))).bind fun bQ => ((jigsawlaw22_doms.f k bQ).bind fun cO => ((inverse_Filter.f k Z u y A B E ac Y cO).bind fun df => ((jigsawref10_Fits.f k Z u y A B E ac Y bQ 23 23).bind fun dz => (jigsawlaw22_InverseRefuses.j2 k bQ df.1 df.2 dz))))) else (none)) = some r := h2_ H de
  have fj := a_ de
  clear de
  by_cases c97 : aa.length < 5864062014805
  rotate_left
  ·
   rw [ig_ c97] at H
   exact ab_ H
  rw [ip_ c97] at H
  have LMc97 := a_ c97
  clear c97
  obtain ⟨bQ, dg⟩ : ∃ y_ : List (List Int), y_ = (aa ++ [dK]) := ⟨_, rfl⟩
  replace H : ((jigsawlaw22_doms.f k bQ).bind fun cO => ((inverse_Filter.f k Z u y A B E ac Y cO).bind fun df => ((jigsawref10_Fits.f k Z u y A B E ac Y bQ 23 23).bind fun dz => (jigsawlaw22_InverseRefuses.j2 k bQ df.1 df.2 dz)))) = some r := h2_ H dg
  have f5 := a_ dg
  clear dg
  replace H := bo_ H
  obtain ⟨cO, hW, H⟩ := H
  try dsimp only at H
  replace H := bs_.mp H
  obtain ⟨⟨dL, dM⟩, fM, H⟩ := H
  try dsimp only at H
  have hX := a_ fM
  clear fM
  have d9 := a_ H
  clear H
  go_enter Tryz.func4, Tryz.ntmps4
  try go_wp2_with (first | ((with_reducible refine gate_dst (N := 3) rfl ?_); (try (refine gate_guard (by rfl) ?_; dsimp only)); refine bxe_ (N := 3) (cs := #[.int .u8 aK, .slice bj av.length c0_1, .slice bk aw.length c0_2, .slice bl ax.length c0_3, .int .i16 aM, .int .u8 aN, .slice bm ay.length c0_6]) (t := 29) ?_; intro z hg w101 hbox hb; have l := a_ (hbox); have bW := a_ (by rw [hg]; exact (bz_ bel_) : w.heap.size ≤ z); have dA := bW; replace HB := hq_ hb; clear hb hbox hg) | ((with_reducible refine gate_dst (N := 4) rfl ?_); (try (refine gate_guard (by rfl) ?_; dsimp only)); refine bxe_ (N := 4) (cs := #[.int .i64 aE, .slice bJ bw.length c1_1, .slice bK bx.length c1_2, .slice bL bz.length c1_3, .slice bM bA.length c1_4, .slice bN bB.length c1_5, .int .i64 bn, .slice bP bD.length c1_7]) (t := 32) ?_; intro X hg w102 hbox hb; have s := a_ (hbox); have bX := a_ (by rw [hg]; exact (bz_ bel_) : w.heap.size ≤ X); have dB := bX; replace HB := hq_ hb; have bE := a_ ((by rw [hg]; exact Nat.ne_of_lt (blk_lt (bk_ l.out)) : z ≠ X)); have bF := a_ ((by rw [hg]; exact Nat.ne_of_gt (blk_lt (bk_ l.out)) : X ≠ z)); replace l := a_ (bq_ l.out hb); clear hb hbox hg; have hY := bE.out; have hZ := bF.out; have em : w102.cell? ⟨z, 0, none⟩ = some (.int .u8 aK) := (blk_cell l.out 0).trans rfl; have en : w102.cell? ⟨z, 1, none⟩ = some (.slice bj av.length c0_1) := (blk_cell l.out 1).trans rfl; have eo : w102.cell? ⟨z, 2, none⟩ = some (.slice bk aw.length c0_2) := (blk_cell l.out 2).trans rfl; have ep : w102.cell? ⟨z, 3, none⟩ = some (.slice bl ax.length c0_3) := (blk_cell l.out 3).trans rfl; have eq : w102.cell? ⟨z, 4, none⟩ = some (.int .i16 aM) := (blk_cell l.out 4).trans rfl; have er : w102.cell? ⟨z, 5, none⟩ = some (.int .u8 aN) := (blk_cell l.out 5).trans rfl; have es : w102.cell? ⟨z, 6, none⟩ = some (.slice bm ay.length c0_6) := (blk_cell l.out 6).trans rfl; have et := blk_frozen l.out 0; have eu := blk_frozen l.out 1; have ev := blk_frozen l.out 2; have ew := blk_frozen l.out 3; have ex := blk_frozen l.out 4; have ey := blk_frozen l.out 5; have ez := blk_frozen l.out 6) | ((with_reducible refine gate_callee (f := 8) rfl ?_); refine goesL_ (some 19) rfl rfl Tryz.func8 kr_ rfl #[.agg #[.int .u8 aK, .slice bj av.length c0_1, .slice bk aw.length c0_2, .slice bl ax.length c0_3, .int .i16 aM, .int .u8 aN, .slice bm ay.length c0_6], .int .i64 (wrap64 (1 + (Int.tmod (wrap64 (a2 / 8)) 23))), .int .i64 6] rfl ar_ ?_; (with_reducible refine (jigsawref10_Make.calls k aK _ _ av _ _ aw _ _ ax aM aN _ _ ay (wrap64 (1 + (Int.tmod (wrap64 (a2 / 8)) 23))) 6 Z u y A B E ac Y aa _ ?_ ?_ ?_ ?_ ?_ ?_ ?_ ?_ A4.out).mono ?_); exact ca_ ((cb_ cQ.out HB.out)); exact cR.out; exact ca_ ((cb_ cS.out HB.out)); exact cT.out; exact ca_ ((cb_ cU.out HB.out)); exact cV.out; exact ca_ ((cb_ cW.out HB.out)); exact cX.out; rintro e w105 ⟨ch, ci, cj, ck, cl, cF, aQ, rfl, ab, cu, cv, cw, cx, cy, cz, hb⟩; refine ⟨_, rfl, ?_⟩; have G := a_ (Kd.R_lower ab (bz_ bel_)); have I := a_ (Kd.R_lower cu (bz_ bel_)); have J := a_ (Kd.R_lower cv (bz_ bel_)); have O := a_ (Kd.R_lower cw (bz_ bel_)); have Q := a_ (Kd.R_lower cx (bz_ bel_)); have F := a_ (Kd.N_lower (nm_ (ok' := fun a => some a ≠ ch.ownBlock ∧ some a ≠ ci.ownBlock ∧ some a ≠ cj.ownBlock ∧ some a ≠ ck.ownBlock ∧ some a ≠ cl.ownBlock ∧ some a ≠ aQ.ownBlock ∧ a ≠ z ∧ a ≠ X) (Kd.S_N (Kd.S_bound cy)) (fun a hk_ => ⟨hk_.1.1, hk_.1.2.1, hk_.1.2.2.1, hk_.1.2.2.2.1, hk_.1.2.2.2.2.1, hk_.1.2.2.2.2.2, (Kd.freshB (bk_ l.out) a hk_.2.1), (Kd.freshB (bk_ s.out) a hk_.2.1)⟩)) (bz_ bel_)); have U := a_ (Kd.N_lower (nm_ (ok' := fun a => some a ≠ ch.ownBlock ∧ some a ≠ ci.ownBlock ∧ some a ≠ cj.ownBlock ∧ some a ≠ ck.ownBlock ∧ some a ≠ cl.ownBlock ∧ some a ≠ cF.ownBlock ∧ a ≠ z ∧ a ≠ X) (Kd.S_N (Kd.S_bound cz)) (fun a hk_ => ⟨hk_.1.1, hk_.1.2.1, hk_.1.2.2.1, hk_.1.2.2.2.1, hk_.1.2.2.2.2.1, hk_.1.2.2.2.2.2, (Kd.freshB (bk_ l.out) a hk_.2.1), (Kd.freshB (bk_ s.out) a hk_.2.1)⟩)) (bz_ bel_)); replace l := a_ (bq_ l.out hb); replace s := a_ (bq_ s.out hb); replace HB := hq_ hb; clear hb ab cu cv cw cx cy cz) | ((with_reducible refine gate_dst (N := 7) rfl ?_); (try (refine gate_guard (by rfl) ?_; dsimp only)); refine bxe_ (N := 7) (cs := #[.int .i64 0, .slice none 0 0, .slice none 0 0, .slice none 0 0, .slice none 0 0, .slice none 0 0, .int .i64 0, .slice none 0 0]) (t := 32) ?_; intro c hg w106 hbox hb; replace G := a_ (rb_ (vR_ G.out) hb); replace I := a_ (rb_ (vR_ I.out) hb); replace J := a_ (rb_ (vR_ J.out) hb); replace O := a_ (rb_ (vR_ O.out) hb); replace Q := a_ (rb_ (vR_ Q.out) hb); replace F := a_ (Kd.N_below (Kd.N_elderB (vN_ F.out) c (Nat.le_of_eq hg.symm)) hb); replace U := a_ (Kd.N_below (Kd.N_elderB (vN_ U.out) c (Nat.le_of_eq hg.symm)) hb); have q := a_ (hbox); have bY := a_ (by rw [hg]; exact (bz_ bel_) : w.heap.size ≤ c); have dC := bY; replace HB := hq_ hb; have W := a_ ((by rw [hg]; exact Nat.ne_of_lt (blk_lt (bk_ l.out)) : z ≠ c)); have ad := a_ ((by rw [hg]; exact Nat.ne_of_gt (blk_lt (bk_ l.out)) : c ≠ z)); replace l := a_ (bq_ l.out hb); have d := a_ ((by rw [hg]; exact Nat.ne_of_lt (blk_lt (bk_ s.out)) : X ≠ c)); have ae := a_ ((by rw [hg]; exact Nat.ne_of_gt (blk_lt (bk_ s.out)) : c ≠ X)); replace s := a_ (bq_ s.out hb); clear hb hbox hg; have h0 := ad.out; have h1 := W.out; have h2 := ae.out; have h3 := d.out; obtain ⟨_, _, _, _, _, _, _, _, _, _, _, _, _, _, _, _⟩ := cel8_ q.out; obtain ⟨aG, aH, f6⟩ := Kd.R_slice G.out; subst f6; obtain ⟨aU, aV, f7⟩ := Kd.R_slice I.out; subst f7; obtain ⟨a0, a1, f8⟩ := Kd.R_slice J.out; subst f8; obtain ⟨a6, a7, f9⟩ := Kd.R_slice O.out; subst f9; obtain ⟨bg, bh, ga⟩ := Kd.R_slice Q.out; subst ga; obtain ⟨bR, bS, gb⟩ := Kd.N_slice F.out; subst gb) | ((with_reducible refine gate_dst (N := 38) rfl ?_); (try (refine gate_guard (by rfl) ?_; dsimp only)); refine Kd.R_lit (Kd.int .i64) _ 3 ?hg (N := 38) ?hd (xs := ([1] : List Int)) (inner := [.int .i64 1]) (ok := fun _ => True) (okp := fun _ => True) ?hr ?hp (fun _ hk => hk) trivial (Below.refl _ _) (lr_ _) (by simp) ?_; (case hd => rfl); (case hg => rfl); (case hr => first | (go_simp; done) | (go_simp; rfl)); (case hp => exact (Reps.one (show Kd.M (Kd.int .i64) _ _ _ 1 [.int .i64 1] from rfl) (Reps.none _ _))); intro jp w116 cb hb hg_ hnew_; clear hg_ hnew_; (first | rw [← fj.out] at cb | (simp only [Int.reduceToNat] at cb; rw [← fj.out] at cb)); replace F := a_ (Kd.N_elder' (by refine vN_ ?_; exact (nm_ (fN_ (fN_ (fN_ (fN_ (fN_ (fN_ (fN_ (fN_ (nm_ F.out (fun a hk => (⟨hk, hk.2⟩ : _ ∧ a ≠ c))))))))))) (fun _ h_ => h_.1))) (rs_ cb) hb); replace U := a_ (Kd.N_elder' (by refine vN_ ?_; exact (nm_ (fN_ (fN_ (fN_ (fN_ (fN_ (fN_ (fN_ (fN_ (nm_ U.out (fun a hk => (⟨hk, hk.2⟩ : _ ∧ a ≠ c))))))))))) (fun _ h_ => h_.1))) (rs_ cb) hb); have dD := a_ (Kd.R_lower (Kd.R_new' (Kd.R_new' (Kd.R_new' (Kd.R_new' (Kd.R_new' cb (rl_ (by refine vR_ ?_; exact (rm_ (fR_ (fR_ (fR_ (fR_ (fR_ (fR_ (fR_ (fR_ (rt_ G.out q.out (by decide)))))))))) (fun _ h_ => h_.1))))) (rl_ (by refine vR_ ?_; exact (rm_ (fR_ (fR_ (fR_ (fR_ (fR_ (fR_ (fR_ (fR_ (rt_ I.out q.out (by decide)))))))))) (fun _ h_ => h_.1))))) (rl_ (by refine vR_ ?_; exact (rm_ (fR_ (fR_ (fR_ (fR_ (fR_ (fR_ (fR_ (fR_ (rt_ J.out q.out (by decide)))))))))) (fun _ h_ => h_.1))))) (rl_ (by refine vR_ ?_; exact (rm_ (fR_ (fR_ (fR_ (fR_ (fR_ (fR_ (fR_ (fR_ (rt_ O.out q.out (by decide)))))))))) (fun _ h_ => h_.1))))) (rl_ (by refine vR_ ?_; exact (rm_ (fR_ (fR_ (fR_ (fR_ (fR_ (fR_ (fR_ (fR_ (rt_ Q.out q.out (by decide)))))))))) (fun _ h_ => h_.1))))) (bz_ bel_)); replace G := a_ (Kd.R_elder' (by refine vR_ ?_; exact (rm_ (fR_ (fR_ (fR_ (fR_ (fR_ (fR_ (fR_ (fR_ (rt_ G.out q.out (by decide)))))))))) (fun _ h_ => h_.1))) (rs_ cb) hb); replace I := a_ (Kd.R_elder' (by refine vR_ ?_; exact (rm_ (fR_ (fR_ (fR_ (fR_ (fR_ (fR_ (fR_ (fR_ (rt_ I.out q.out (by decide)))))))))) (fun _ h_ => h_.1))) (rs_ cb) hb); replace J := a_ (Kd.R_elder' (by refine vR_ ?_; exact (rm_ (fR_ (fR_ (fR_ (fR_ (fR_ (fR_ (fR_ (fR_ (rt_ J.out q.out (by decide)))))))))) (fun _ h_ => h_.1))) (rs_ cb) hb); replace O := a_ (Kd.R_elder' (by refine vR_ ?_; exact (rm_ (fR_ (fR_ (fR_ (fR_ (fR_ (fR_ (fR_ (fR_ (rt_ O.out q.out (by decide)))))))))) (fun _ h_ => h_.1))) (rs_ cb) hb); replace Q := a_ (Kd.R_elder' (by refine vR_ ?_; exact (rm_ (fR_ (fR_ (fR_ (fR_ (fR_ (fR_ (fR_ (fR_ (rt_ Q.out q.out (by decide)))))))))) (fun _ h_ => h_.1))) (rs_ cb) hb); replace l := a_ (bb_ (g := z) (o := .cells #[.int .u8 aK, .slice bj av.length c0_1, .slice bk aw.length c0_2, .slice bl ax.length c0_3, .int .i16 aM, .int .u8 aN, .slice bm ay.length c0_6] 29 (0, 0)) (by refine bk_ ?_; refine blk_far ?_ W.out _; refine bk_ ?_; refine blk_far ?_ W.out _; refine bk_ ?_; refine blk_far ?_ W.out _; refine bk_ ?_; refine blk_far ?_ W.out _; refine bk_ ?_; refine blk_far ?_ W.out _; refine bk_ ?_; refine blk_far ?_ W.out _; refine bk_ ?_; refine blk_far ?_ W.out _; refine bk_ ?_; refine blk_far ?_ W.out _; refine bk_ ?_; exact l.out) hb); replace s := a_ (bb_ (g := X) (o := .cells #[.int .i64 aE, .slice bJ bw.length c1_1, .slice bK bx.length c1_2, .slice bL bz.length c1_3, .slice bM bA.length c1_4, .slice bN bB.length c1_5, .int .i64 bn, .slice bP bD.length c1_7] 32 (0, 0)) (by refine bk_ ?_; refine blk_far ?_ d.out _; refine bk_ ?_; refine blk_far ?_ d.out _; refine bk_ ?_; refine blk_far ?_ d.out _; refine bk_ ?_; refine blk_far ?_ d.out _; refine bk_ ?_; refine blk_far ?_ d.out _; refine bk_ ?_; refine blk_far ?_ d.out _; refine bk_ ?_; refine blk_far ?_ d.out _; refine bk_ ?_; refine blk_far ?_ d.out _; refine bk_ ?_; exact s.out) hb); replace q := a_ (bb_ (g := c) (o := .cells #[.int .i64 Z, .slice aG u.length aH, .slice aU y.length aV, .slice a0 A.length a1, .slice a6 B.length a7, .slice bg E.length bh, .int .i64 ac, .slice bR Y.length bS] 32 (0, 0)) (by refine bk_ ?_; refine bu_ (cs := #[.int .i64 Z, .slice aG u.length aH, .slice aU y.length aV, .slice a0 A.length a1, .slice a6 B.length a7, .slice bg E.length bh, .int .i64 ac, .slice none 0 0]) ?_ 7 _ rfl; refine bk_ ?_; refine bu_ (cs := #[.int .i64 Z, .slice aG u.length aH, .slice aU y.length aV, .slice a0 A.length a1, .slice a6 B.length a7, .slice bg E.length bh, .int .i64 0, .slice none 0 0]) ?_ 6 _ rfl; refine bk_ ?_; refine bu_ (cs := #[.int .i64 Z, .slice aG u.length aH, .slice aU y.length aV, .slice a0 A.length a1, .slice a6 B.length a7, .slice none 0 0, .int .i64 0, .slice none 0 0]) ?_ 5 _ rfl; refine bk_ ?_; refine bu_ (cs := #[.int .i64 Z, .slice aG u.length aH, .slice aU y.length aV, .slice a0 A.length a1, .slice none 0 0, .slice none 0 0, .int .i64 0, .slice none 0 0]) ?_ 4 _ rfl; refine bk_ ?_; refine bu_ (cs := #[.int .i64 Z, .slice aG u.length aH, .slice aU y.length aV, .slice none 0 0, .slice none 0 0, .slice none 0 0, .int .i64 0, .slice none 0 0]) ?_ 3 _ rfl; refine bk_ ?_; refine bu_ (cs := #[.int .i64 Z, .slice aG u.length aH, .slice none 0 0, .slice none 0 0, .slice none 0 0, .slice none 0 0, .int .i64 0, .slice none 0 0]) ?_ 2 _ rfl; refine bk_ ?_; refine bu_ (cs := #[.int .i64 Z, .slice none 0 0, .slice none 0 0, .slice none 0 0, .slice none 0 0, .slice none 0 0, .int .i64 0, .slice none 0 0]) ?_ 1 _ rfl; refine bk_ ?_; refine bu_ (cs := #[.int .i64 0, .slice none 0 0, .slice none 0 0, .slice none 0 0, .slice none 0 0, .slice none 0 0, .int .i64 0, .slice none 0 0]) ?_ 0 _ rfl; refine bk_ ?_; exact q.out) hb); replace HB := hq_ hb; clear hb cb; obtain ⟨fk, fl, gc⟩ := Kd.R_slice dD.out; subst gc) | ((with_reducible refine gate_builtin (b := .append) (xs := #[.tmp 37, .tmp 39]) rfl ?_); (try (refine gate_guard (by rfl) ?_; dsimp only)); at_builtin; refine Kd.N_append (Kd.slice 3 (Kd.int .i64)) (w0 := w) w.heap.size rfl (.tmp 37) (.tmp 39) 27 30 (.slice none 0 0) 24 rfl Tryz.underlying27 info30 rfl (by decide) (by omega) aQ aa dK [.slice fk dK.length fl] (fun a => some a ≠ (.slice aG u.length aH : Value).ownBlock ∧ some a ≠ (.slice aU y.length aV : Value).ownBlock ∧ some a ≠ (.slice a0 A.length a1 : Value).ownBlock ∧ some a ≠ (.slice a6 B.length a7 : Value).ownBlock ∧ some a ≠ (.slice bg E.length bh : Value).ownBlock ∧ some a ≠ (.slice bR Y.length bS : Value).ownBlock ∧ a ≠ z ∧ a ≠ X ∧ a ≠ c) (fun a => ((fun a => some a ≠ (.slice aG u.length aH : Value).ownBlock ∧ some a ≠ (.slice aU y.length aV : Value).ownBlock ∧ some a ≠ (.slice a0 A.length a1 : Value).ownBlock ∧ some a ≠ (.slice a6 B.length a7 : Value).ownBlock ∧ some a ≠ (.slice bg E.length bh : Value).ownBlock ∧ some a ≠ (.slice bR Y.length bS : Value).ownBlock ∧ a ≠ z ∧ a ≠ X ∧ a ≠ c)) a ∧ some a ≠ aQ.ownBlock) rfl rfl ?aP (fun _ hk => hk) ?aF ?aO ?aB ?aS ?aL ?_; (case aP => exact (Kd.FK_slice_mk (rr_ (rm_ (ok' := (fun a => ((fun a => some a ≠ (.slice aG u.length aH : Value).ownBlock ∧ some a ≠ (.slice aU y.length aV : Value).ownBlock ∧ some a ≠ (.slice a0 A.length a1 : Value).ownBlock ∧ some a ≠ (.slice a6 B.length a7 : Value).ownBlock ∧ some a ≠ (.slice bg E.length bh : Value).ownBlock ∧ some a ≠ (.slice bR Y.length bS : Value).ownBlock ∧ a ≠ z ∧ a ≠ X ∧ a ≠ c)) a ∧ some a ≠ aQ.ownBlock)) (rt_ (rt_ (rt_ (Kd.R_apart' (Kd.R_apart' (dD.out) (Kd.N_typed F.out) (by decide)) (Kd.N_typed U.out) (by decide)) l.out (by decide)) s.out (by decide)) q.out (by decide)) (fun a hk => ⟨⟨hk.1.1.1.1.1.1.1.1.1.2, ⟨hk.1.1.1.1.1.1.1.1.2, ⟨hk.1.1.1.1.1.1.1.2, ⟨hk.1.1.1.1.1.1.2, ⟨hk.1.1.1.1.1.2, ⟨hk.1.1.1.1.2, ⟨hk.1.1.2, ⟨hk.1.2, hk.2⟩⟩⟩⟩⟩⟩⟩⟩, hk.1.1.1.2⟩))).2.1 (Kd.R_F (rm_ (ok' := (fun a => ((fun a => some a ≠ (.slice aG u.length aH : Value).ownBlock ∧ some a ≠ (.slice aU y.length aV : Value).ownBlock ∧ some a ≠ (.slice a0 A.length a1 : Value).ownBlock ∧ some a ≠ (.slice a6 B.length a7 : Value).ownBlock ∧ some a ≠ (.slice bg E.length bh : Value).ownBlock ∧ some a ≠ (.slice bR Y.length bS : Value).ownBlock ∧ a ≠ z ∧ a ≠ X ∧ a ≠ c)) a ∧ some a ≠ aQ.ownBlock)) (rt_ (rt_ (rt_ (Kd.R_apart' (Kd.R_apart' (dD.out) (Kd.N_typed F.out) (by decide)) (Kd.N_typed U.out) (by decide)) l.out (by decide)) s.out (by decide)) q.out (by decide)) (fun a hk => ⟨⟨hk.1.1.1.1.1.1.1.1.1.2, ⟨hk.1.1.1.1.1.1.1.1.2, ⟨hk.1.1.1.1.1.1.1.2, ⟨hk.1.1.1.1.1.1.2, ⟨hk.1.1.1.1.1.2, ⟨hk.1.1.1.1.2, ⟨hk.1.1.2, ⟨hk.1.2, hk.2⟩⟩⟩⟩⟩⟩⟩⟩, hk.1.1.1.2⟩))))); (case aB => exact bel_); (case aF => exact (fun a hk => ⟨fr_ (rl_ (vR_ G.out)) a hk, fr_ (rl_ (vR_ I.out)) a hk, fr_ (rl_ (vR_ J.out)) a hk, fr_ (rl_ (vR_ O.out)) a hk, fr_ (rl_ (vR_ Q.out)) a hk, fr_ (Kd.N_lt (vN_ F.out)) a hk, Kd.freshB (bk_ l.out) a hk, Kd.freshB (bk_ s.out) a hk, Kd.freshB (bk_ q.out) a hk⟩)); (case aO => exact (by refine vN_ ?_; exact nm_ U.out (fun _ hk => ⟨hk.1.1.1, ⟨hk.1.1.2.1, ⟨hk.1.1.2.2.1, ⟨hk.1.1.2.2.2.1, ⟨hk.1.1.2.2.2.2.1, ⟨hk.1.1.2.2.2.2.2.1, ⟨hk.1.1.2.2.2.2.2.2.1, ⟨hk.1.1.2.2.2.2.2.2.2, hk.1.2⟩⟩⟩⟩⟩⟩⟩⟩))); (case aS => exact (bz_ bel_)); (case aL => have := LMc97.out; omega); intro jq w118 ho hb hg hat; rw [← f5.out] at ho; replace l := a_ (blk_grown (bk_ l.out) hg (Kd.N_ne U.out l.out (by decide))); replace s := a_ (blk_grown (bk_ s.out) hg (Kd.N_ne U.out s.out (by decide))); replace G := a_ (Kd.R_over' (vR_ G.out) (Kd.N_typed (vN_ U.out)) (by decide) hg); replace I := a_ (Kd.R_over' (vR_ I.out) (Kd.N_typed (vN_ U.out)) (by decide) hg); replace J := a_ (Kd.R_over' (vR_ J.out) (Kd.N_typed (vN_ U.out)) (by decide) hg); replace O := a_ (Kd.R_over' (vR_ O.out) (Kd.N_typed (vN_ U.out)) (by decide) hg); replace Q := a_ (Kd.R_over' (vR_ Q.out) (Kd.N_typed (vN_ U.out)) (by decide) hg); replace F := a_ (Kd.N_afterv (ok := (fun a => some a ≠ (.slice aG u.length aH : Value).ownBlock ∧ some a ≠ (.slice aU y.length aV : Value).ownBlock ∧ some a ≠ (.slice a0 A.length a1 : Value).ownBlock ∧ some a ≠ (.slice a6 B.length a7 : Value).ownBlock ∧ some a ≠ (.slice bg E.length bh : Value).ownBlock ∧ some a ≠ (.slice fk dK.length fl : Value).ownBlock ∧ a ≠ z ∧ a ≠ X ∧ a ≠ c)) (by refine vN_ ?_; exact nm_ F.out (fun _ hk => ⟨⟨hk.1.1.1, ⟨hk.1.1.2.1, ⟨hk.1.1.2.2.1, ⟨hk.1.1.2.2.2.1, ⟨hk.1.1.2.2.2.2.1, ⟨hk.2, ⟨hk.1.1.2.2.2.2.2.2.1, ⟨hk.1.1.2.2.2.2.2.2.2, hk.1.2⟩⟩⟩⟩⟩⟩⟩⟩, hk.1.1.2.2.2.2.2.1⟩)) hg hat); replace q := a_ (blk_grown (bk_ q.out) hg (Kd.N_ne U.out q.out (by decide))); replace HB := a_ (hb); have bG := a_ (ho); clear U dD; clear ho hb hg hat))
  replace G := a_ (Kd.R_drew G.out)
  replace I := a_ (Kd.R_drew I.out)
  replace J := a_ (Kd.R_drew J.out)
  replace O := a_ (Kd.R_drew O.out)
  replace Q := a_ (Kd.R_drew Q.out)
  replace F := a_ (Kd.N_drew F.out)
  replace bG := a_ (Kd.N_drew bG.out)
  replace l := a_ (blk_drew l.out)
  replace s := a_ (blk_drew s.out)
  replace q := a_ (blk_drew q.out)
  replace HB := a_ (below_drew1 HB.out)
  obtain ⟨cA, cB, fm⟩ := Kd.N_slice bG.out
  (first | subst fm | (injection fm with f1_ f2_ f3_; have f4_ := f1_.symm; have f5_ := f3_.symm; clear f1_ f2_ f3_; subst f4_; subst f5_))
  refine start_ (n := 9) (S := fun w' => w'.cell? ⟨c, 0, none⟩ = some (.int .i64 Z) ∧ w'.cell? ⟨c, 1, none⟩ = some (.slice aG u.length aH) ∧ w'.cell? ⟨c, 2, none⟩ = some (.slice aU y.length aV) ∧ w'.cell? ⟨c, 3, none⟩ = some (.slice a0 A.length a1) ∧ w'.cell? ⟨c, 4, none⟩ = some (.slice a6 B.length a7) ∧ w'.cell? ⟨c, 5, none⟩ = some (.slice bg E.length bh) ∧ w'.cell? ⟨c, 6, none⟩ = some (.int .i64 ac) ∧ w'.cell? ⟨c, 7, none⟩ = some (.slice bR Y.length bS)) (ds := []) #[false, false, false, false, false, false, false, false, false] kr_ rfl rfl (ca8_ q.out) (fun hHeld => ?_); refine with_tabW jigsawlaw22_InverseRefuses.tab12 jigsawlaw22_InverseRefuses.bits12 (fun HT_ HW_ => ?_)
  generalize w118.drew = w120 at G I J O Q F bG l s q HB hHeld ⊢
  refine pn_ 1 70 ao_ ?_
  refine tn_ 0 69 tw_ hHeld ?_
  refine onn_ 2 71 #[true, true, true, false, false, false, false, false, false] rfl rfl on_ (by decide) (fun K hK => ?_)
  refine goes_ Tryz.func11 kr_ rfl #[.slice cA bQ.length cB] (by rfl) rfl rfl ar_ ?_
  with_reducible refine (jigsawlaw22_doms.calls k _ _ bQ cO _ ?_ ?_ ?_ hW.out).mono ?_
  exact ca_ ((Kd.N_reads' bG.out).2.2)
  exact (Kd.N_reads' bG.out).2.1
  exact ca_ ((cb_ HRtab.out HB.out))
  rintro e w122 ⟨jr, rfl, ab, hb⟩
  refine ⟨_, rfl, ?_⟩
  have fn := a_ (Kd.N_lower (nm_ (ok' := fun a => some a ≠ (.slice aG u.length aH : Value).ownBlock ∧ some a ≠ (.slice aU y.length aV : Value).ownBlock ∧ some a ≠ (.slice a0 A.length a1 : Value).ownBlock ∧ some a ≠ (.slice a6 B.length a7 : Value).ownBlock ∧ some a ≠ (.slice bg E.length bh : Value).ownBlock ∧ some a ≠ (.slice bR Y.length bS : Value).ownBlock ∧ some a ≠ (.slice cA bQ.length cB : Value).ownBlock ∧ a ≠ z ∧ a ≠ X ∧ a ≠ c) ab (fun a hk_ => ⟨(fr_ (rl_ (vR_ G.out)) a hk_), (fr_ (rl_ (vR_ I.out)) a hk_), (fr_ (rl_ (vR_ J.out)) a hk_), (fr_ (rl_ (vR_ O.out)) a hk_), (fr_ (rl_ (vR_ Q.out)) a hk_), (fr_ (Kd.N_lt (vN_ F.out)) a hk_), (fr_ (Kd.N_lt (vN_ bG.out)) a hk_), (Kd.freshB (bk_ l.out) a hk_), (Kd.freshB (bk_ s.out) a hk_), (Kd.freshB (bk_ q.out) a hk_)⟩)) (bz_ bel_))
  replace G := a_ (rb_ (vR_ G.out) hb)
  replace I := a_ (rb_ (vR_ I.out) hb)
  replace J := a_ (rb_ (vR_ J.out) hb)
  replace O := a_ (rb_ (vR_ O.out) hb)
  replace Q := a_ (rb_ (vR_ Q.out) hb)
  replace F := a_ (Kd.N_elder' (vN_ F.out) (Kd.N_base ab) hb)
  replace bG := a_ (Kd.N_elder' (vN_ bG.out) (Kd.N_base ab) hb)
  replace l := a_ (bq_ l.out hb)
  replace s := a_ (bq_ s.out hb)
  replace q := a_ (bq_ q.out hb)
  replace HB := hq_ hb
  clear hb ab
  obtain ⟨gd, ge, fo⟩ := Kd.N_slice fn.out
  (first | subst fo | (injection fo with f1_ f2_ f3_; have f4_ := f1_.symm; have f5_ := f3_.symm; clear f1_ f2_ f3_; subst f4_; subst f5_))
  refine hK.out _ _ (ca8_ q.out) (fun hHeld => ?_)
  clear hK K
  refine nor_ (N := some 71) ?_
  refine onn_ 3 72 #[true, true, true, true, false, false, false, false, false] rfl rfl on_ (by decide) (fun K hK => ?_)
  refine goes_ Tryz.func10 kr_ rfl #[.agg #[.int .i64 Z, .slice aG u.length aH, .slice aU y.length aV, .slice a0 A.length a1, .slice a6 B.length a7, .slice bg E.length bh, .int .i64 ac, .slice bR Y.length bS], .slice gd cO.length ge] (by rfl) rfl rfl ar_ ?_
  with_reducible refine (inverse_Filter.calls k Z _ _ u _ _ y _ _ A _ _ B _ _ E ac _ _ Y (fun a => (some a ≠ (.slice aG u.length aH : Value).ownBlock ∧ (some a ≠ (.slice aU y.length aV : Value).ownBlock ∧ (some a ≠ (.slice a0 A.length a1 : Value).ownBlock ∧ (some a ≠ (.slice a6 B.length a7 : Value).ownBlock ∧ (some a ≠ (.slice bg E.length bh : Value).ownBlock ∧ (some a ≠ (.slice bR Y.length bS : Value).ownBlock ∧ (some a ≠ (.slice cA bQ.length cB : Value).ownBlock ∧ (a ≠ z ∧ (a ≠ X ∧ a ≠ c)))))))))) _ _ cO dL dM _ ?_ ?_ ?_ ?_ ?_ ?_ ?_ ?_ ?_ ?_ ?_ ?_ ?_ ?_ hX.out).mono ?_
  exact ca_ ((rr_ G.out).2.2)
  exact (rr_ G.out).2.1
  exact ca_ ((rr_ I.out).2.2)
  exact (rr_ I.out).2.1
  exact ca_ ((rr_ J.out).2.2)
  exact (rr_ J.out).2.1
  exact ca_ ((rr_ O.out).2.2)
  exact (rr_ O.out).2.1
  exact ca_ ((rr_ Q.out).2.2)
  exact (rr_ Q.out).2.1
  exact ca_ ((Kd.N_reads' F.out).2.2)
  exact (Kd.N_reads' F.out).2.1
  exact Kd.N_V (fn.out)
  exact ca_ ((cb_ HRtab.out HB.out))
  rintro e w124 ⟨eA, rfl, ab, hb⟩
  refine ⟨_, rfl, ?_⟩
  have ea := a_ (Kd.N_lower (nm_ (ok' := fun a => some a ≠ (.slice aG u.length aH : Value).ownBlock ∧ some a ≠ (.slice aU y.length aV : Value).ownBlock ∧ some a ≠ (.slice a0 A.length a1 : Value).ownBlock ∧ some a ≠ (.slice a6 B.length a7 : Value).ownBlock ∧ some a ≠ (.slice bg E.length bh : Value).ownBlock ∧ some a ≠ (.slice bR Y.length bS : Value).ownBlock ∧ some a ≠ (.slice cA bQ.length cB : Value).ownBlock ∧ a ≠ z ∧ a ≠ X ∧ a ≠ c) ab (fun a hk_ => ⟨Or.elim hk_ (fun hs_ => hs_.1) (fun hn_ => (fr_ (rl_ (vR_ G.out)) a hn_)), Or.elim hk_ (fun hs_ => hs_.2.1) (fun hn_ => (fr_ (rl_ (vR_ I.out)) a hn_)), Or.elim hk_ (fun hs_ => hs_.2.2.1) (fun hn_ => (fr_ (rl_ (vR_ J.out)) a hn_)), Or.elim hk_ (fun hs_ => hs_.2.2.2.1) (fun hn_ => (fr_ (rl_ (vR_ O.out)) a hn_)), Or.elim hk_ (fun hs_ => hs_.2.2.2.2.1) (fun hn_ => (fr_ (rl_ (vR_ Q.out)) a hn_)), Or.elim hk_ (fun hs_ => hs_.2.2.2.2.2.1) (fun hn_ => (fr_ (Kd.N_lt (vN_ F.out)) a hn_)), Or.elim hk_ (fun hs_ => hs_.2.2.2.2.2.2.1) (fun hn_ => (fr_ (Kd.N_lt (vN_ bG.out)) a hn_)), Or.elim hk_ (fun hs_ => hs_.2.2.2.2.2.2.2.1) (fun hn_ => (Kd.freshB (bk_ l.out) a hn_)), Or.elim hk_ (fun hs_ => hs_.2.2.2.2.2.2.2.2.1) (fun hn_ => (Kd.freshB (bk_ s.out) a hn_)), Or.elim hk_ (fun hs_ => hs_.2.2.2.2.2.2.2.2.2) (fun hn_ => (Kd.freshB (bk_ q.out) a hn_))⟩)) (bz_ bel_))
  replace G := a_ (rb_ (vR_ G.out) hb)
  replace I := a_ (rb_ (vR_ I.out) hb)
  replace J := a_ (rb_ (vR_ J.out) hb)
  replace O := a_ (rb_ (vR_ O.out) hb)
  replace Q := a_ (rb_ (vR_ Q.out) hb)
  replace F := a_ (Kd.N_elder' (vN_ F.out) (Kd.N_base ab) hb)
  replace bG := a_ (Kd.N_elder' (vN_ bG.out) (Kd.N_base ab) hb)
  replace l := a_ (bq_ l.out hb)
  replace s := a_ (bq_ s.out hb)
  replace q := a_ (bq_ q.out hb)
  replace HB := hq_ hb
  clear hb ab
  refine hK.out _ _ (ca8_ q.out) (fun hHeld => ?_)
  clear hK K
  refine nor_ (N := some 72) ?_
  refine pn_ 4 68 ao_ ?_
  refine pn_ 5 73 ao_ ?_
  refine pn_ 6 74 ao_ ?_
  refine pn_ 7 10 ao_ ?_
  refine pn_ 8 11 ao_ ?_
  refine done_ dn_ ?_
  go_upto_region 13 with (fail)
  go_cut [77] (fun da wc => ∃ (kq : Nat) (dh : Bool), da = .bool dh ∧ Aside0 (jigsawlaw22_InverseRefuses.j2 kq bQ dL dM dh = some r) ∧ Aside0 (kq ≤ k) ∧ Aside0 (Kd.N (Kd.slice 3 (Kd.int .i64)) 30 wc w.heap.size (fun a => some a ≠ eA.ownBlock ∧ some a ≠ ((.slice aG u.length aH) : Value).ownBlock ∧ some a ≠ ((.slice aU y.length aV) : Value).ownBlock ∧ some a ≠ ((.slice a0 A.length a1) : Value).ownBlock ∧ some a ≠ ((.slice a6 B.length a7) : Value).ownBlock ∧ some a ≠ ((.slice bg E.length bh) : Value).ownBlock ∧ some a ≠ ((.slice bR Y.length bS) : Value).ownBlock ∧ a ≠ z ∧ a ≠ X ∧ a ≠ c) (.slice cA bQ.length cB) bQ) ∧ Aside0 (Kd.N k58 58 wc w.heap.size (fun a => some a ≠ ((.slice cA bQ.length cB) : Value).ownBlock ∧ some a ≠ ((.slice aG u.length aH) : Value).ownBlock ∧ some a ≠ ((.slice aU y.length aV) : Value).ownBlock ∧ some a ≠ ((.slice a0 A.length a1) : Value).ownBlock ∧ some a ≠ ((.slice a6 B.length a7) : Value).ownBlock ∧ some a ≠ ((.slice bg E.length bh) : Value).ownBlock ∧ some a ≠ ((.slice bR Y.length bS) : Value).ownBlock ∧ a ≠ z ∧ a ≠ X ∧ a ≠ c) eA dL) ∧ Aside0 (Kd.R (Kd.int .i64) 3 wc w.heap.size (fun a => some a ≠ ((.slice aU y.length aV) : Value).ownBlock ∧ some a ≠ ((.slice a0 A.length a1) : Value).ownBlock ∧ some a ≠ ((.slice a6 B.length a7) : Value).ownBlock ∧ some a ≠ ((.slice bg E.length bh) : Value).ownBlock) (.slice aG u.length aH) u) ∧ Aside0 (Kd.R (Kd.int .i64) 3 wc w.heap.size (fun a => some a ≠ ((.slice aG u.length aH) : Value).ownBlock ∧ some a ≠ ((.slice a0 A.length a1) : Value).ownBlock ∧ some a ≠ ((.slice a6 B.length a7) : Value).ownBlock ∧ some a ≠ ((.slice bg E.length bh) : Value).ownBlock) (.slice aU y.length aV) y) ∧ Aside0 (Kd.R (Kd.int .i64) 3 wc w.heap.size (fun a => some a ≠ ((.slice aG u.length aH) : Value).ownBlock ∧ some a ≠ ((.slice aU y.length aV) : Value).ownBlock ∧ some a ≠ ((.slice a6 B.length a7) : Value).ownBlock ∧ some a ≠ ((.slice bg E.length bh) : Value).ownBlock) (.slice a0 A.length a1) A) ∧ Aside0 (Kd.R (Kd.int .i64) 3 wc w.heap.size (fun a => some a ≠ ((.slice aG u.length aH) : Value).ownBlock ∧ some a ≠ ((.slice aU y.length aV) : Value).ownBlock ∧ some a ≠ ((.slice a0 A.length a1) : Value).ownBlock ∧ some a ≠ ((.slice bg E.length bh) : Value).ownBlock) (.slice a6 B.length a7) B) ∧ Aside0 (Kd.R (Kd.int .i64) 3 wc w.heap.size (fun a => some a ≠ ((.slice aG u.length aH) : Value).ownBlock ∧ some a ≠ ((.slice aU y.length aV) : Value).ownBlock ∧ some a ≠ ((.slice a0 A.length a1) : Value).ownBlock ∧ some a ≠ ((.slice a6 B.length a7) : Value).ownBlock) (.slice bg E.length bh) E) ∧ Aside0 (Kd.N (Kd.slice 3 (Kd.int .i64)) 30 wc w.heap.size (fun a => some a ≠ ((.slice cA bQ.length cB) : Value).ownBlock ∧ some a ≠ eA.ownBlock ∧ some a ≠ ((.slice aG u.length aH) : Value).ownBlock ∧ some a ≠ ((.slice aU y.length aV) : Value).ownBlock ∧ some a ≠ ((.slice a0 A.length a1) : Value).ownBlock ∧ some a ≠ ((.slice a6 B.length a7) : Value).ownBlock ∧ some a ≠ ((.slice bg E.length bh) : Value).ownBlock ∧ a ≠ z ∧ a ≠ X ∧ a ≠ c) (.slice bR Y.length bS) Y) ∧ Aside0 (wc.heap[z]? = some (.cells #[.int .u8 aK, (.slice bj av.length c0_1), (.slice bk aw.length c0_2), (.slice bl ax.length c0_3), .int .i16 aM, .int .u8 aN, (.slice bm ay.length c0_6)] 29 (0, 0))) ∧ Aside0 (wc.heap[X]? = some (.cells #[.int .i64 aE, (.slice bJ bw.length c1_1), (.slice bK bx.length c1_2), (.slice bL bz.length c1_3), (.slice bM bA.length c1_4), (.slice bN bB.length c1_5), .int .i64 bn, (.slice bP bD.length c1_7)] 32 (0, 0))) ∧ Aside0 (wc.heap[c]? = some (.cells #[.int .i64 Z, (.slice aG u.length aH), (.slice aU y.length aV), (.slice a0 A.length a1), (.slice a6 B.length a7), (.slice bg E.length bh), .int .i64 ac, (.slice bR Y.length bS)] 32 (0, 0))) ∧ Aside0 (Below w.heap.size w wc))
  case first =>
   have H := d9.out
   clear d9
   replace H := bo_ H
   obtain ⟨dz, g1, H⟩ := H
   try dsimp only at H
   have H' := a_ H
   clear H
   have h4 := ad.out
   have h5 := W.out
   have h6 := ae.out
   have h7 := d.out
   obtain ⟨_, _, _, _, _, _, _, _, _, _, _, _, _, _, _, _⟩ := cel8_ q.out
   go_wp2_with (first | ((with_reducible refine gate_callee (f := 17) rfl ?_); refine goesL_ (some 77) rfl rfl Tryz.func17 kr_ rfl #[.agg #[.int .i64 Z, .slice aG u.length aH, .slice aU y.length aV, .slice a0 A.length a1, .slice a6 B.length a7, .slice bg E.length bh, .int .i64 ac, .slice bR Y.length bS], .slice cA bQ.length cB, .int .i64 23, .int .i64 23] rfl ar_ ?_; (with_reducible refine (jigsawref10_Fits.calls k Z _ _ u _ _ y _ _ A _ _ B _ _ E ac _ _ Y _ _ bQ 23 23 dz _ ?_ ?_ ?_ ?_ ?_ ?_ ?_ ?_ ?_ ?_ ?_ ?_ ?_ ?_ g1.out).mono ?_); exact ca_ ((rr_ G.out).2.2); exact (rr_ G.out).2.1; exact ca_ ((rr_ I.out).2.2); exact (rr_ I.out).2.1; exact ca_ ((rr_ J.out).2.2); exact (rr_ J.out).2.1; exact ca_ ((rr_ O.out).2.2); exact (rr_ O.out).2.1; exact ca_ ((rr_ Q.out).2.2); exact (rr_ Q.out).2.1; exact ca_ ((Kd.N_reads' F.out).2.2); exact (Kd.N_reads' F.out).2.1; exact ca_ ((Kd.N_reads' bG.out).2.2); exact (Kd.N_reads' bG.out).2.1; rintro e w129 ⟨rfl, hb⟩; refine ⟨_, rfl, ?_⟩; replace G := a_ (rb_ (vR_ G.out) hb); replace I := a_ (rb_ (vR_ I.out) hb); replace J := a_ (rb_ (vR_ J.out) hb); replace O := a_ (rb_ (vR_ O.out) hb); replace Q := a_ (rb_ (vR_ Q.out) hb); replace F := a_ (Kd.N_below (vN_ F.out) hb); replace bG := a_ (Kd.N_below (vN_ bG.out) hb); replace ea := a_ (Kd.N_below (vN_ ea.out) hb); replace l := a_ (bq_ l.out hb); replace s := a_ (bq_ s.out hb); replace q := a_ (bq_ q.out hb); replace HB := hq_ hb; clear hb))
   go_meet
   exact ⟨_, (dz), eq_, H', ⟨by first | omega | exact lr_ _⟩, ⟨by refine vN_ ?_; exact nm_ bG.out (fun _ hk => ⟨hk.2, ⟨hk.1.1.1, ⟨hk.1.1.2.1, ⟨hk.1.1.2.2.1, ⟨hk.1.1.2.2.2.1, ⟨hk.1.1.2.2.2.2.1, ⟨hk.1.1.2.2.2.2.2.1, ⟨hk.1.1.2.2.2.2.2.2.1, ⟨hk.1.1.2.2.2.2.2.2.2.1, hk.1.1.2.2.2.2.2.2.2.2⟩⟩⟩⟩⟩⟩⟩⟩⟩)⟩, ⟨by refine vN_ ?_; exact nm_ ea.out (fun _ hk => ⟨hk.2.2.2.2.2.2.1, ⟨hk.1, ⟨hk.2.1, ⟨hk.2.2.1, ⟨hk.2.2.2.1, ⟨hk.2.2.2.2.1, ⟨hk.2.2.2.2.2.1, ⟨hk.2.2.2.2.2.2.2.1, ⟨hk.2.2.2.2.2.2.2.2.1, hk.2.2.2.2.2.2.2.2.2⟩⟩⟩⟩⟩⟩⟩⟩⟩)⟩, ⟨by refine vR_ ?_; exact rm_ G.out (fun _ hk => ⟨hk.1.1, ⟨hk.1.2.1, ⟨hk.1.2.2.1, hk.1.2.2.2⟩⟩⟩)⟩, ⟨by refine vR_ ?_; exact rm_ I.out (fun _ hk => ⟨hk.1.1, ⟨hk.1.2.1, ⟨hk.1.2.2.1, hk.1.2.2.2⟩⟩⟩)⟩, ⟨by refine vR_ ?_; exact rm_ J.out (fun _ hk => ⟨hk.1.1, ⟨hk.1.2.1, ⟨hk.1.2.2.1, hk.1.2.2.2⟩⟩⟩)⟩, ⟨by refine vR_ ?_; exact rm_ O.out (fun _ hk => ⟨hk.1.1, ⟨hk.1.2.1, ⟨hk.1.2.2.1, hk.1.2.2.2⟩⟩⟩)⟩, ⟨by refine vR_ ?_; exact rm_ Q.out (fun _ hk => ⟨hk.1.1, ⟨hk.1.2.1, ⟨hk.1.2.2.1, hk.1.2.2.2⟩⟩⟩)⟩, ⟨by refine vN_ ?_; exact nm_ F.out (fun _ hk => ⟨hk.1.1.2, ⟨hk.2, ⟨hk.1.1.1.1, ⟨hk.1.1.1.2.1, ⟨hk.1.1.1.2.2.1, ⟨hk.1.1.1.2.2.2.1, ⟨hk.1.1.1.2.2.2.2.1, ⟨hk.1.1.1.2.2.2.2.2.2.1, ⟨hk.1.1.1.2.2.2.2.2.2.2.1, hk.1.1.1.2.2.2.2.2.2.2.2⟩⟩⟩⟩⟩⟩⟩⟩⟩)⟩, ⟨bk_ l.out⟩, ⟨bk_ s.out⟩, ⟨bk_ q.out⟩, ⟨bel_⟩⟩
  clear d9
  try clear c1
  try clear p2
  try clear q2
  try clear c3
  try clear c4
  try clear c5
  try clear c5b0
  try clear c5b1
  try clear p5
  try clear q5
  try clear hS
  try clear hT
  try clear hf5
  try clear c6
  try clear p6
  try clear c7
  try clear c7b0
  try clear c7b1
  try clear hU
  try clear hf7
  try clear c8
  try clear c8b0
  try clear c8b1
  try clear c9
  try clear c10
  try clear c11
  try clear c12
  try clear c13
  try clear c14
  try clear c17
  try clear c18
  try clear c19
  try clear c0
  try clear c35
  try clear c36
  try clear c39
  try clear c41
  try clear c42
  try clear c47
  try clear c48
  try clear c51
  try clear c51b0
  try clear c51b1
  try clear c52
  try clear c52b0
  try clear c52b1
  try clear c53
  try clear p53
  try clear dJ
  try clear gW
  try clear fH
  try clear hf53
  try clear c59
  try clear c63
  try clear c64
  try clear p64
  try clear c73
  try clear gX
  try clear hf73
  try clear c80
  try clear c81
  try clear c84
  try clear c86
  try clear c87
  try clear c92
  try clear c93
  try clear c96
  try clear c96b0
  try clear c96b1
  try clear c97
  try clear c103
  try clear c107
  try clear c108
  try clear c126
  try clear c127
  try clear em
  try clear en
  try clear eo
  try clear ep
  try clear eq
  try clear er
  try clear es
  try clear dj
  try clear dk
  try clear dl
  try clear dm
  try clear dn
  try clear dp
  try clear dq
  try clear dR
  try clear dS
  try clear dT
  try clear dU
  try clear dV
  try clear dW
  try clear dX
  try clear et
  try clear eu
  try clear ev
  try clear ew
  try clear ex
  try clear ey
  try clear ez
  try clear dr
  try clear dt
  try clear du
  try clear dv
  try clear dw
  try clear dx
  try clear dy
  try clear dY
  try clear dZ
  try clear d0
  try clear d1
  try clear d2
  try clear d3
  try clear d4
  try clear cI
  try clear cJ
  try clear p2
  try clear p5
  try clear p53
  try clear p6
  try clear p64
  try clear q2
  try clear c0
  try clear q5
  try clear dJ
  obtain ⟨kq, dh, rfl, HA, js, HO_8, HO_10, HO_625001, HO_625002, HO_625003, HO_625004, HO_625005, HO_625007, l, s, q, HB⟩ := hcut
  cases kq with
  | zero => exact absurd HA.out (by simp [jigsawlaw22_InverseRefuses.j2])
  | succ kj99 =>
   have H := HA.out
   clear HA
   simp only [jigsawlaw22_InverseRefuses.j2] at H
   by_cases c130 : dh = true
   rotate_left
   ·
    replace c130 := bf_.mpr c130
    subst c130
    have H1 : ((jigsawlaw22_wakes.f kj99).bind fun eB => (if eB = true then (if dM = true then (none) else (some ((dL.length : Int) == 0))) else (none))) = some r := by rw [ig_ (show ¬ (false = true) by decide)] at H; exact H
    clear H
    have H := H1
    clear H1
    replace H := bo_ H
    obtain ⟨eB, g3, H⟩ := H
    try dsimp only at H
    by_cases c138 : eB = true
    rotate_left
    ·
     replace c138 := bf_.mpr c138
     subst c138
     have H1 : (none) = some r := by rw [ig_ (show ¬ (false = true) by decide)] at H; exact H
     clear H
     have H := H1
     clear H1
     exact ab_ H
    subst c138
    rw [ip_ rfl] at H
    by_cases c139 : dM = true
    ·
     subst c139
     rw [ip_ rfl] at H
     exact ab_ H
    replace c139 := bf_.mpr c139
    subst c139
    have H1 : (some ((dL.length : Int) == 0)) = some r := by rw [ig_ (show ¬ (false = true) by decide)] at H; exact H
    clear H
    have H := H1
    clear H1
    obtain rfl := si_ H
    go_wp2_with (first | ((with_reducible refine gate_callee (f := 13) rfl ?_); refine goesL_ (some 90) rfl rfl Tryz.func13 kr_ rfl #[] rfl ar_ ?_; (with_reducible refine (jigsawlaw22_wakes.calls kj99 true _ ?_ g3.out).mono ?_); exact ca_ ((cb_ HRtab.out HB.out)); rintro e w140 ⟨rfl, hb⟩; refine ⟨_, rfl, ?_⟩; replace HO_10 := a_ (Kd.N_below (vN_ HO_10.out) hb); replace HB := hq_ hb; clear hb; obtain ⟨iS, iT, gg⟩ := Kd.N_slice HO_10.out; subst gg))
    go_ret
    exact ⟨er_, bel_⟩
   subst c130
   rw [ip_ rfl] at H
   replace H := bo_ H
   obtain ⟨g2, fN, H⟩ := H
   try dsimp only at H
   by_cases c132 : g2 = true
   rotate_left
   ·
    replace c132 := bf_.mpr c132
    subst c132
    have H1 : (none) = some r := by rw [ig_ (show ¬ (false = true) by decide)] at H; exact H
    clear H
    have H := H1
    clear H1
    exact ab_ H
   subst c132
   rw [ip_ rfl] at H
   by_cases c133 : dM = true
   ·
    subst c133
    rw [ip_ rfl] at H
    obtain rfl := si_ H
    go_wp2_with (first | ((with_reducible refine gate_callee (f := 13) rfl ?_); refine goesL_ (some 78) rfl rfl Tryz.func13 kr_ rfl #[] rfl ar_ ?_; (with_reducible refine (jigsawlaw22_wakes.calls kj99 true _ ?_ fN.out).mono ?_); exact ca_ ((cb_ HRtab.out HB.out)); rintro e w134 ⟨rfl, hb⟩; refine ⟨_, rfl, ?_⟩; replace HO_10 := a_ (Kd.N_below (vN_ HO_10.out) hb); replace HB := hq_ hb; clear hb; obtain ⟨iQ, iR, gf⟩ := Kd.N_slice HO_10.out; subst gf))
    go_ret
    exact ⟨er_, bel_⟩
   replace c133 := bf_.mpr c133
   subst c133
   have H1 : (some true) = some r := by rw [ig_ (show ¬ (false = true) by decide)] at H; exact H
   clear H
   have H := H1
   clear H1
   obtain rfl := si_ H
   go_wp2_with (first | ((with_reducible refine gate_callee (f := 13) rfl ?_); refine goesL_ (some 78) rfl rfl Tryz.func13 kr_ rfl #[] rfl ar_ ?_; (with_reducible refine (jigsawlaw22_wakes.calls kj99 true _ ?_ fN.out).mono ?_); exact ca_ ((cb_ HRtab.out HB.out)); rintro e w136 ⟨rfl, hb⟩; refine ⟨_, rfl, ?_⟩; replace HB := hq_ hb; clear hb))
   go_ret
   exact ⟨er_, bel_⟩
 rw [ig_ c96] at H
 have c96b0 : ((Int.tmod a2 5) == 2) = false := be_.mpr c96
 have c96b1 : ((Int.tmod a2 5) != 2) = true := ni_.mpr c96
 by_cases c142 : (Int.tmod a2 5) = 3
 rotate_left
 ·
  rw [ig_ c142] at H
  have c142b0 : ((Int.tmod a2 5) == 3) = false := be_.mpr c142
  have c142b1 : ((Int.tmod a2 5) != 3) = true := ni_.mpr c142
  replace H := bo_ H
  obtain ⟨eE, hB, H⟩ := H
  try dsimp only at H
  replace H := bs_.mp H
  obtain ⟨⟨dP, dQ⟩, fy, H⟩ := H
  try dsimp only at H
  have hC := a_ fy
  clear fy
  have ed := a_ H
  clear H
  go_enter Tryz.func4, Tryz.ntmps4
  try go_wp2_with (first | ((with_reducible refine gate_dst (N := 3) rfl ?_); (try (refine gate_guard (by rfl) ?_; dsimp only)); refine bxe_ (N := 3) (cs := #[.int .u8 aK, .slice bj av.length c0_1, .slice bk aw.length c0_2, .slice bl ax.length c0_3, .int .i16 aM, .int .u8 aN, .slice bm ay.length c0_6]) (t := 29) ?_; intro z hg w212 hbox hb; have l := a_ (hbox); have bW := a_ (by rw [hg]; exact (bz_ bel_) : w.heap.size ≤ z); have dA := bW; replace HB := hq_ hb; clear hb hbox hg) | ((with_reducible refine gate_dst (N := 4) rfl ?_); (try (refine gate_guard (by rfl) ?_; dsimp only)); refine bxe_ (N := 4) (cs := #[.int .i64 aE, .slice bJ bw.length c1_1, .slice bK bx.length c1_2, .slice bL bz.length c1_3, .slice bM bA.length c1_4, .slice bN bB.length c1_5, .int .i64 bn, .slice bP bD.length c1_7]) (t := 32) ?_; intro X hg w213 hbox hb; have s := a_ (hbox); have bX := a_ (by rw [hg]; exact (bz_ bel_) : w.heap.size ≤ X); have dB := bX; replace HB := hq_ hb; have bE := a_ ((by rw [hg]; exact Nat.ne_of_lt (blk_lt (bk_ l.out)) : z ≠ X)); have bF := a_ ((by rw [hg]; exact Nat.ne_of_gt (blk_lt (bk_ l.out)) : X ≠ z)); replace l := a_ (bq_ l.out hb); clear hb hbox hg; have ij := bE.out; have ik := bF.out; have eF : w213.cell? ⟨z, 0, none⟩ = some (.int .u8 aK) := (blk_cell l.out 0).trans rfl; have eG : w213.cell? ⟨z, 1, none⟩ = some (.slice bj av.length c0_1) := (blk_cell l.out 1).trans rfl; have eH : w213.cell? ⟨z, 2, none⟩ = some (.slice bk aw.length c0_2) := (blk_cell l.out 2).trans rfl; have eI : w213.cell? ⟨z, 3, none⟩ = some (.slice bl ax.length c0_3) := (blk_cell l.out 3).trans rfl; have eJ : w213.cell? ⟨z, 4, none⟩ = some (.int .i16 aM) := (blk_cell l.out 4).trans rfl; have eK : w213.cell? ⟨z, 5, none⟩ = some (.int .u8 aN) := (blk_cell l.out 5).trans rfl; have eL : w213.cell? ⟨z, 6, none⟩ = some (.slice bm ay.length c0_6) := (blk_cell l.out 6).trans rfl; have eM := blk_frozen l.out 0; have eN := blk_frozen l.out 1; have eO := blk_frozen l.out 2; have eP := blk_frozen l.out 3; have eQ := blk_frozen l.out 4; have eR := blk_frozen l.out 5; have eS := blk_frozen l.out 6) | ((with_reducible refine gate_callee (f := 8) rfl ?_); refine goesL_ (some 19) rfl rfl Tryz.func8 kr_ rfl #[.agg #[.int .u8 aK, .slice bj av.length c0_1, .slice bk aw.length c0_2, .slice bl ax.length c0_3, .int .i16 aM, .int .u8 aN, .slice bm ay.length c0_6], .int .i64 (wrap64 (1 + (Int.tmod (wrap64 (a2 / 8)) 23))), .int .i64 6] rfl ar_ ?_; (with_reducible refine (jigsawref10_Make.calls k aK _ _ av _ _ aw _ _ ax aM aN _ _ ay (wrap64 (1 + (Int.tmod (wrap64 (a2 / 8)) 23))) 6 Z u y A B E ac Y aa _ ?_ ?_ ?_ ?_ ?_ ?_ ?_ ?_ A4.out).mono ?_); exact ca_ ((cb_ cQ.out HB.out)); exact cR.out; exact ca_ ((cb_ cS.out HB.out)); exact cT.out; exact ca_ ((cb_ cU.out HB.out)); exact cV.out; exact ca_ ((cb_ cW.out HB.out)); exact cX.out; rintro e w216 ⟨ch, ci, cj, ck, cl, cF, aQ, rfl, ab, cu, cv, cw, cx, cy, cz, hb⟩; refine ⟨_, rfl, ?_⟩; have G := a_ (Kd.R_lower ab (bz_ bel_)); have I := a_ (Kd.R_lower cu (bz_ bel_)); have J := a_ (Kd.R_lower cv (bz_ bel_)); have O := a_ (Kd.R_lower cw (bz_ bel_)); have Q := a_ (Kd.R_lower cx (bz_ bel_)); have F := a_ (Kd.N_lower (nm_ (ok' := fun a => some a ≠ ch.ownBlock ∧ some a ≠ ci.ownBlock ∧ some a ≠ cj.ownBlock ∧ some a ≠ ck.ownBlock ∧ some a ≠ cl.ownBlock ∧ some a ≠ aQ.ownBlock ∧ a ≠ z ∧ a ≠ X) (Kd.S_N (Kd.S_bound cy)) (fun a hk_ => ⟨hk_.1.1, hk_.1.2.1, hk_.1.2.2.1, hk_.1.2.2.2.1, hk_.1.2.2.2.2.1, hk_.1.2.2.2.2.2, (Kd.freshB (bk_ l.out) a hk_.2.1), (Kd.freshB (bk_ s.out) a hk_.2.1)⟩)) (bz_ bel_)); have U := a_ (Kd.N_lower (nm_ (ok' := fun a => some a ≠ ch.ownBlock ∧ some a ≠ ci.ownBlock ∧ some a ≠ cj.ownBlock ∧ some a ≠ ck.ownBlock ∧ some a ≠ cl.ownBlock ∧ some a ≠ cF.ownBlock ∧ a ≠ z ∧ a ≠ X) (Kd.S_N (Kd.S_bound cz)) (fun a hk_ => ⟨hk_.1.1, hk_.1.2.1, hk_.1.2.2.1, hk_.1.2.2.2.1, hk_.1.2.2.2.2.1, hk_.1.2.2.2.2.2, (Kd.freshB (bk_ l.out) a hk_.2.1), (Kd.freshB (bk_ s.out) a hk_.2.1)⟩)) (bz_ bel_)); replace l := a_ (bq_ l.out hb); replace s := a_ (bq_ s.out hb); replace HB := hq_ hb; clear hb ab cu cv cw cx cy cz) | ((with_reducible refine gate_dst (N := 7) rfl ?_); (try (refine gate_guard (by rfl) ?_; dsimp only)); refine bxe_ (N := 7) (cs := #[.int .i64 0, .slice none 0 0, .slice none 0 0, .slice none 0 0, .slice none 0 0, .slice none 0 0, .int .i64 0, .slice none 0 0]) (t := 32) ?_; intro c hg w217 hbox hb; replace G := a_ (rb_ (vR_ G.out) hb); replace I := a_ (rb_ (vR_ I.out) hb); replace J := a_ (rb_ (vR_ J.out) hb); replace O := a_ (rb_ (vR_ O.out) hb); replace Q := a_ (rb_ (vR_ Q.out) hb); replace F := a_ (Kd.N_below (Kd.N_elderB (vN_ F.out) c (Nat.le_of_eq hg.symm)) hb); replace U := a_ (Kd.N_below (Kd.N_elderB (vN_ U.out) c (Nat.le_of_eq hg.symm)) hb); have q := a_ (hbox); have bY := a_ (by rw [hg]; exact (bz_ bel_) : w.heap.size ≤ c); have dC := bY; replace HB := hq_ hb; have W := a_ ((by rw [hg]; exact Nat.ne_of_lt (blk_lt (bk_ l.out)) : z ≠ c)); have ad := a_ ((by rw [hg]; exact Nat.ne_of_gt (blk_lt (bk_ l.out)) : c ≠ z)); replace l := a_ (bq_ l.out hb); have d := a_ ((by rw [hg]; exact Nat.ne_of_lt (blk_lt (bk_ s.out)) : X ≠ c)); have ae := a_ ((by rw [hg]; exact Nat.ne_of_gt (blk_lt (bk_ s.out)) : c ≠ X)); replace s := a_ (bq_ s.out hb); clear hb hbox hg; have il := ad.out; have im := W.out; have io := ae.out; have ip := d.out; obtain ⟨_, _, _, _, _, _, _, _, _, _, _, _, _, _, _, _⟩ := cel8_ q.out; obtain ⟨ap, aq, gr⟩ := Kd.R_slice G.out; subst gr; obtain ⟨ar, au, gs⟩ := Kd.R_slice I.out; subst gs; obtain ⟨aC, aD, gt⟩ := Kd.R_slice J.out; subst gt; obtain ⟨aI, aJ, gu⟩ := Kd.R_slice O.out; subst gu; obtain ⟨aW, aX, gv⟩ := Kd.R_slice Q.out; subst gv; obtain ⟨b1, b2, gw⟩ := Kd.N_slice F.out; subst gw))
  obtain ⟨w227, hq_⟩ : ∃ x, x = ((((((((w217.setCell ⟨c, 0, none⟩ (.int .i64 Z)).setCell ⟨c, 1, none⟩ (.slice ap u.length aq)).setCell ⟨c, 2, none⟩ (.slice ar y.length au)).setCell ⟨c, 3, none⟩ (.slice aC A.length aD)).setCell ⟨c, 4, none⟩ (.slice aI B.length aJ)).setCell ⟨c, 5, none⟩ (.slice aW E.length aX)).setCell ⟨c, 6, none⟩ (.int .i64 ac)).setCell ⟨c, 7, none⟩ (.slice b1 Y.length b2)) := ⟨_, rfl⟩
  replace G : Aside0 (Kd.R (Kd.int .i64) 3 w227 w.heap.size (fun a => some a ≠ (.slice ar y.length au : Value).ownBlock ∧ some a ≠ (.slice aC A.length aD : Value).ownBlock ∧ some a ≠ (.slice aI B.length aJ : Value).ownBlock ∧ some a ≠ (.slice aW E.length aX : Value).ownBlock) (.slice ap u.length aq) u) := ⟨by subst hq_; refine vR_ ?_; exact rm_ (fR_ (fR_ (fR_ (fR_ (fR_ (fR_ (fR_ (fR_ (rt_ G.out q.out (by decide)))))))))) (fun _ hk => ⟨hk.1.1, ⟨hk.1.2.1, ⟨hk.1.2.2.1, hk.1.2.2.2⟩⟩⟩)⟩
  replace I : Aside0 (Kd.R (Kd.int .i64) 3 w227 w.heap.size (fun a => some a ≠ (.slice ap u.length aq : Value).ownBlock ∧ some a ≠ (.slice aC A.length aD : Value).ownBlock ∧ some a ≠ (.slice aI B.length aJ : Value).ownBlock ∧ some a ≠ (.slice aW E.length aX : Value).ownBlock) (.slice ar y.length au) y) := ⟨by subst hq_; refine vR_ ?_; exact rm_ (fR_ (fR_ (fR_ (fR_ (fR_ (fR_ (fR_ (fR_ (rt_ I.out q.out (by decide)))))))))) (fun _ hk => ⟨hk.1.1, ⟨hk.1.2.1, ⟨hk.1.2.2.1, hk.1.2.2.2⟩⟩⟩)⟩
  replace J : Aside0 (Kd.R (Kd.int .i64) 3 w227 w.heap.size (fun a => some a ≠ (.slice ap u.length aq : Value).ownBlock ∧ some a ≠ (.slice ar y.length au : Value).ownBlock ∧ some a ≠ (.slice aI B.length aJ : Value).ownBlock ∧ some a ≠ (.slice aW E.length aX : Value).ownBlock) (.slice aC A.length aD) A) := ⟨by subst hq_; refine vR_ ?_; exact rm_ (fR_ (fR_ (fR_ (fR_ (fR_ (fR_ (fR_ (fR_ (rt_ J.out q.out (by decide)))))))))) (fun _ hk => ⟨hk.1.1, ⟨hk.1.2.1, ⟨hk.1.2.2.1, hk.1.2.2.2⟩⟩⟩)⟩
  replace O : Aside0 (Kd.R (Kd.int .i64) 3 w227 w.heap.size (fun a => some a ≠ (.slice ap u.length aq : Value).ownBlock ∧ some a ≠ (.slice ar y.length au : Value).ownBlock ∧ some a ≠ (.slice aC A.length aD : Value).ownBlock ∧ some a ≠ (.slice aW E.length aX : Value).ownBlock) (.slice aI B.length aJ) B) := ⟨by subst hq_; refine vR_ ?_; exact rm_ (fR_ (fR_ (fR_ (fR_ (fR_ (fR_ (fR_ (fR_ (rt_ O.out q.out (by decide)))))))))) (fun _ hk => ⟨hk.1.1, ⟨hk.1.2.1, ⟨hk.1.2.2.1, hk.1.2.2.2⟩⟩⟩)⟩
  replace Q : Aside0 (Kd.R (Kd.int .i64) 3 w227 w.heap.size (fun a => some a ≠ (.slice ap u.length aq : Value).ownBlock ∧ some a ≠ (.slice ar y.length au : Value).ownBlock ∧ some a ≠ (.slice aC A.length aD : Value).ownBlock ∧ some a ≠ (.slice aI B.length aJ : Value).ownBlock) (.slice aW E.length aX) E) := ⟨by subst hq_; refine vR_ ?_; exact rm_ (fR_ (fR_ (fR_ (fR_ (fR_ (fR_ (fR_ (fR_ (rt_ Q.out q.out (by decide)))))))))) (fun _ hk => ⟨hk.1.1, ⟨hk.1.2.1, ⟨hk.1.2.2.1, hk.1.2.2.2⟩⟩⟩)⟩
  replace F : Aside0 (Kd.N (Kd.slice 3 (Kd.int .i64)) 30 w227 w.heap.size (fun a => some a ≠ (.slice ap u.length aq : Value).ownBlock ∧ some a ≠ (.slice ar y.length au : Value).ownBlock ∧ some a ≠ (.slice aC A.length aD : Value).ownBlock ∧ some a ≠ (.slice aI B.length aJ : Value).ownBlock ∧ some a ≠ (.slice aW E.length aX : Value).ownBlock ∧ some a ≠ aQ.ownBlock ∧ a ≠ z ∧ a ≠ X ∧ a ≠ c) (.slice b1 Y.length b2) Y) := ⟨by subst hq_; refine vN_ ?_; exact nm_ (fN_ (fN_ (fN_ (fN_ (fN_ (fN_ (fN_ (fN_ (nm_ F.out (fun a hk => (⟨hk, hk.2⟩ : _ ∧ a ≠ c))))))))))) (fun _ hk => ⟨hk.1.1.1, ⟨hk.1.1.2.1, ⟨hk.1.1.2.2.1, ⟨hk.1.1.2.2.2.1, ⟨hk.1.1.2.2.2.2.1, ⟨hk.1.1.2.2.2.2.2.1, ⟨hk.1.1.2.2.2.2.2.2.1, ⟨hk.1.1.2.2.2.2.2.2.2, hk.1.2⟩⟩⟩⟩⟩⟩⟩⟩)⟩
  replace U : Aside0 (Kd.N (Kd.slice 3 (Kd.int .i64)) 30 w227 w.heap.size (fun a => some a ≠ (.slice ap u.length aq : Value).ownBlock ∧ some a ≠ (.slice ar y.length au : Value).ownBlock ∧ some a ≠ (.slice aC A.length aD : Value).ownBlock ∧ some a ≠ (.slice aI B.length aJ : Value).ownBlock ∧ some a ≠ (.slice aW E.length aX : Value).ownBlock ∧ some a ≠ (.slice b1 Y.length b2 : Value).ownBlock ∧ a ≠ z ∧ a ≠ X ∧ a ≠ c) aQ aa) := ⟨by subst hq_; refine vN_ ?_; exact nm_ (fN_ (fN_ (fN_ (fN_ (fN_ (fN_ (fN_ (fN_ (nm_ U.out (fun a hk => (⟨hk, hk.2⟩ : _ ∧ a ≠ c))))))))))) (fun _ hk => ⟨hk.1.1.1, ⟨hk.1.1.2.1, ⟨hk.1.1.2.2.1, ⟨hk.1.1.2.2.2.1, ⟨hk.1.1.2.2.2.2.1, ⟨hk.1.1.2.2.2.2.2.1, ⟨hk.1.1.2.2.2.2.2.2.1, ⟨hk.1.1.2.2.2.2.2.2.2, hk.1.2⟩⟩⟩⟩⟩⟩⟩⟩)⟩
  replace l : Aside0 (w227.heap[z]? = some (.cells #[.int .u8 aK, .slice bj av.length c0_1, .slice bk aw.length c0_2, .slice bl ax.length c0_3, .int .i16 aM, .int .u8 aN, .slice bm ay.length c0_6] 29 (0, 0))) := ⟨by subst hq_; refine bk_ ?_; refine blk_far ?_ W.out _; refine bk_ ?_; refine blk_far ?_ W.out _; refine bk_ ?_; refine blk_far ?_ W.out _; refine bk_ ?_; refine blk_far ?_ W.out _; refine bk_ ?_; refine blk_far ?_ W.out _; refine bk_ ?_; refine blk_far ?_ W.out _; refine bk_ ?_; refine blk_far ?_ W.out _; refine bk_ ?_; refine blk_far ?_ W.out _; refine bk_ ?_; exact l.out⟩
  replace s : Aside0 (w227.heap[X]? = some (.cells #[.int .i64 aE, .slice bJ bw.length c1_1, .slice bK bx.length c1_2, .slice bL bz.length c1_3, .slice bM bA.length c1_4, .slice bN bB.length c1_5, .int .i64 bn, .slice bP bD.length c1_7] 32 (0, 0))) := ⟨by subst hq_; refine bk_ ?_; refine blk_far ?_ d.out _; refine bk_ ?_; refine blk_far ?_ d.out _; refine bk_ ?_; refine blk_far ?_ d.out _; refine bk_ ?_; refine blk_far ?_ d.out _; refine bk_ ?_; refine blk_far ?_ d.out _; refine bk_ ?_; refine blk_far ?_ d.out _; refine bk_ ?_; refine blk_far ?_ d.out _; refine bk_ ?_; refine blk_far ?_ d.out _; refine bk_ ?_; exact s.out⟩
  replace q : Aside0 (w227.heap[c]? = some (.cells #[.int .i64 Z, .slice ap u.length aq, .slice ar y.length au, .slice aC A.length aD, .slice aI B.length aJ, .slice aW E.length aX, .int .i64 ac, .slice b1 Y.length b2] 32 (0, 0))) := ⟨by subst hq_; refine bk_ ?_; refine bu_ (cs := #[.int .i64 Z, .slice ap u.length aq, .slice ar y.length au, .slice aC A.length aD, .slice aI B.length aJ, .slice aW E.length aX, .int .i64 ac, .slice none 0 0]) ?_ 7 _ rfl; refine bk_ ?_; refine bu_ (cs := #[.int .i64 Z, .slice ap u.length aq, .slice ar y.length au, .slice aC A.length aD, .slice aI B.length aJ, .slice aW E.length aX, .int .i64 0, .slice none 0 0]) ?_ 6 _ rfl; refine bk_ ?_; refine bu_ (cs := #[.int .i64 Z, .slice ap u.length aq, .slice ar y.length au, .slice aC A.length aD, .slice aI B.length aJ, .slice none 0 0, .int .i64 0, .slice none 0 0]) ?_ 5 _ rfl; refine bk_ ?_; refine bu_ (cs := #[.int .i64 Z, .slice ap u.length aq, .slice ar y.length au, .slice aC A.length aD, .slice none 0 0, .slice none 0 0, .int .i64 0, .slice none 0 0]) ?_ 4 _ rfl; refine bk_ ?_; refine bu_ (cs := #[.int .i64 Z, .slice ap u.length aq, .slice ar y.length au, .slice none 0 0, .slice none 0 0, .slice none 0 0, .int .i64 0, .slice none 0 0]) ?_ 3 _ rfl; refine bk_ ?_; refine bu_ (cs := #[.int .i64 Z, .slice ap u.length aq, .slice none 0 0, .slice none 0 0, .slice none 0 0, .slice none 0 0, .int .i64 0, .slice none 0 0]) ?_ 2 _ rfl; refine bk_ ?_; refine bu_ (cs := #[.int .i64 Z, .slice none 0 0, .slice none 0 0, .slice none 0 0, .slice none 0 0, .slice none 0 0, .int .i64 0, .slice none 0 0]) ?_ 1 _ rfl; refine bk_ ?_; refine bu_ (cs := #[.int .i64 0, .slice none 0 0, .slice none 0 0, .slice none 0 0, .slice none 0 0, .slice none 0 0, .int .i64 0, .slice none 0 0]) ?_ 0 _ rfl; refine bk_ ?_; exact q.out⟩
  replace HB : Aside0 (Below w.heap.size w w227) := ⟨by subst hq_; exact bel_⟩
  rw [← hq_]
  clear hq_
  replace G := a_ (Kd.R_drew G.out)
  replace I := a_ (Kd.R_drew I.out)
  replace J := a_ (Kd.R_drew J.out)
  replace O := a_ (Kd.R_drew O.out)
  replace Q := a_ (Kd.R_drew Q.out)
  replace F := a_ (Kd.N_drew F.out)
  replace U := a_ (Kd.N_drew U.out)
  replace l := a_ (blk_drew l.out)
  replace s := a_ (blk_drew s.out)
  replace q := a_ (blk_drew q.out)
  replace HB := a_ (below_drew1 HB.out)
  obtain ⟨cC, cD, fz⟩ := Kd.N_slice U.out
  (first | subst fz | (injection fz with f1_ f2_ f3_; have f4_ := f1_.symm; have f5_ := f3_.symm; clear f1_ f2_ f3_; subst f4_; subst f5_))
  refine start_ (n := 9) (S := fun w' => w'.cell? ⟨c, 0, none⟩ = some (.int .i64 Z) ∧ w'.cell? ⟨c, 1, none⟩ = some (.slice ap u.length aq) ∧ w'.cell? ⟨c, 2, none⟩ = some (.slice ar y.length au) ∧ w'.cell? ⟨c, 3, none⟩ = some (.slice aC A.length aD) ∧ w'.cell? ⟨c, 4, none⟩ = some (.slice aI B.length aJ) ∧ w'.cell? ⟨c, 5, none⟩ = some (.slice aW E.length aX) ∧ w'.cell? ⟨c, 6, none⟩ = some (.int .i64 ac) ∧ w'.cell? ⟨c, 7, none⟩ = some (.slice b1 Y.length b2)) (ds := []) #[false, false, false, false, false, false, false, false, false] kr_ rfl rfl (ca8_ q.out) (fun hHeld => ?_); refine with_tabW jigsawlaw22_InverseRefuses.tab12 jigsawlaw22_InverseRefuses.bits12 (fun HT_ HW_ => ?_)
  generalize w227.drew = w228 at G I J O Q F U l s q HB hHeld ⊢
  refine pn_ 1 70 ao_ ?_
  refine tn_ 0 69 tw_ hHeld ?_
  refine onn_ 2 71 #[true, true, true, false, false, false, false, false, false] rfl rfl on_ (by decide) (fun K hK => ?_)
  refine goes_ Tryz.func11 kr_ rfl #[.slice cC aa.length cD] (by rfl) rfl rfl ar_ ?_
  with_reducible refine (jigsawlaw22_doms.calls k _ _ aa eE _ ?_ ?_ ?_ hB.out).mono ?_
  exact ca_ ((Kd.N_reads' U.out).2.2)
  exact (Kd.N_reads' U.out).2.1
  exact ca_ ((cb_ HRtab.out HB.out))
  rintro e w230 ⟨jz, rfl, ab, hb⟩
  refine ⟨_, rfl, ?_⟩
  have fA := a_ (Kd.N_lower (nm_ (ok' := fun a => some a ≠ (.slice ap u.length aq : Value).ownBlock ∧ some a ≠ (.slice ar y.length au : Value).ownBlock ∧ some a ≠ (.slice aC A.length aD : Value).ownBlock ∧ some a ≠ (.slice aI B.length aJ : Value).ownBlock ∧ some a ≠ (.slice aW E.length aX : Value).ownBlock ∧ some a ≠ (.slice b1 Y.length b2 : Value).ownBlock ∧ some a ≠ (.slice cC aa.length cD : Value).ownBlock ∧ a ≠ z ∧ a ≠ X ∧ a ≠ c) ab (fun a hk_ => ⟨(fr_ (rl_ (vR_ G.out)) a hk_), (fr_ (rl_ (vR_ I.out)) a hk_), (fr_ (rl_ (vR_ J.out)) a hk_), (fr_ (rl_ (vR_ O.out)) a hk_), (fr_ (rl_ (vR_ Q.out)) a hk_), (fr_ (Kd.N_lt (vN_ F.out)) a hk_), (fr_ (Kd.N_lt (vN_ U.out)) a hk_), (Kd.freshB (bk_ l.out) a hk_), (Kd.freshB (bk_ s.out) a hk_), (Kd.freshB (bk_ q.out) a hk_)⟩)) (bz_ bel_))
  replace G := a_ (rb_ (vR_ G.out) hb)
  replace I := a_ (rb_ (vR_ I.out) hb)
  replace J := a_ (rb_ (vR_ J.out) hb)
  replace O := a_ (rb_ (vR_ O.out) hb)
  replace Q := a_ (rb_ (vR_ Q.out) hb)
  replace F := a_ (Kd.N_elder' (vN_ F.out) (Kd.N_base ab) hb)
  replace U := a_ (Kd.N_elder' (vN_ U.out) (Kd.N_base ab) hb)
  replace l := a_ (bq_ l.out hb)
  replace s := a_ (bq_ s.out hb)
  replace q := a_ (bq_ q.out hb)
  replace HB := hq_ hb
  clear hb ab
  obtain ⟨gx, gy, fB⟩ := Kd.N_slice fA.out
  (first | subst fB | (injection fB with f1_ f2_ f3_; have f4_ := f1_.symm; have f5_ := f3_.symm; clear f1_ f2_ f3_; subst f4_; subst f5_))
  refine hK.out _ _ (ca8_ q.out) (fun hHeld => ?_)
  clear hK K
  refine nor_ (N := some 71) ?_
  refine onn_ 3 72 #[true, true, true, true, false, false, false, false, false] rfl rfl on_ (by decide) (fun K hK => ?_)
  refine goes_ Tryz.func10 kr_ rfl #[.agg #[.int .i64 Z, .slice ap u.length aq, .slice ar y.length au, .slice aC A.length aD, .slice aI B.length aJ, .slice aW E.length aX, .int .i64 ac, .slice b1 Y.length b2], .slice gx eE.length gy] (by rfl) rfl rfl ar_ ?_
  with_reducible refine (inverse_Filter.calls k Z _ _ u _ _ y _ _ A _ _ B _ _ E ac _ _ Y (fun a => (some a ≠ (.slice ap u.length aq : Value).ownBlock ∧ (some a ≠ (.slice ar y.length au : Value).ownBlock ∧ (some a ≠ (.slice aC A.length aD : Value).ownBlock ∧ (some a ≠ (.slice aI B.length aJ : Value).ownBlock ∧ (some a ≠ (.slice aW E.length aX : Value).ownBlock ∧ (some a ≠ (.slice b1 Y.length b2 : Value).ownBlock ∧ (some a ≠ (.slice cC aa.length cD : Value).ownBlock ∧ (a ≠ z ∧ (a ≠ X ∧ a ≠ c)))))))))) _ _ eE dP dQ _ ?_ ?_ ?_ ?_ ?_ ?_ ?_ ?_ ?_ ?_ ?_ ?_ ?_ ?_ hC.out).mono ?_
  exact ca_ ((rr_ G.out).2.2)
  exact (rr_ G.out).2.1
  exact ca_ ((rr_ I.out).2.2)
  exact (rr_ I.out).2.1
  exact ca_ ((rr_ J.out).2.2)
  exact (rr_ J.out).2.1
  exact ca_ ((rr_ O.out).2.2)
  exact (rr_ O.out).2.1
  exact ca_ ((rr_ Q.out).2.2)
  exact (rr_ Q.out).2.1
  exact ca_ ((Kd.N_reads' F.out).2.2)
  exact (Kd.N_reads' F.out).2.1
  exact Kd.N_V (fA.out)
  exact ca_ ((cb_ HRtab.out HB.out))
  rintro e w232 ⟨eT, rfl, ab, hb⟩
  refine ⟨_, rfl, ?_⟩
  have ee := a_ (Kd.N_lower (nm_ (ok' := fun a => some a ≠ (.slice ap u.length aq : Value).ownBlock ∧ some a ≠ (.slice ar y.length au : Value).ownBlock ∧ some a ≠ (.slice aC A.length aD : Value).ownBlock ∧ some a ≠ (.slice aI B.length aJ : Value).ownBlock ∧ some a ≠ (.slice aW E.length aX : Value).ownBlock ∧ some a ≠ (.slice b1 Y.length b2 : Value).ownBlock ∧ some a ≠ (.slice cC aa.length cD : Value).ownBlock ∧ a ≠ z ∧ a ≠ X ∧ a ≠ c) ab (fun a hk_ => ⟨Or.elim hk_ (fun hs_ => hs_.1) (fun hn_ => (fr_ (rl_ (vR_ G.out)) a hn_)), Or.elim hk_ (fun hs_ => hs_.2.1) (fun hn_ => (fr_ (rl_ (vR_ I.out)) a hn_)), Or.elim hk_ (fun hs_ => hs_.2.2.1) (fun hn_ => (fr_ (rl_ (vR_ J.out)) a hn_)), Or.elim hk_ (fun hs_ => hs_.2.2.2.1) (fun hn_ => (fr_ (rl_ (vR_ O.out)) a hn_)), Or.elim hk_ (fun hs_ => hs_.2.2.2.2.1) (fun hn_ => (fr_ (rl_ (vR_ Q.out)) a hn_)), Or.elim hk_ (fun hs_ => hs_.2.2.2.2.2.1) (fun hn_ => (fr_ (Kd.N_lt (vN_ F.out)) a hn_)), Or.elim hk_ (fun hs_ => hs_.2.2.2.2.2.2.1) (fun hn_ => (fr_ (Kd.N_lt (vN_ U.out)) a hn_)), Or.elim hk_ (fun hs_ => hs_.2.2.2.2.2.2.2.1) (fun hn_ => (Kd.freshB (bk_ l.out) a hn_)), Or.elim hk_ (fun hs_ => hs_.2.2.2.2.2.2.2.2.1) (fun hn_ => (Kd.freshB (bk_ s.out) a hn_)), Or.elim hk_ (fun hs_ => hs_.2.2.2.2.2.2.2.2.2) (fun hn_ => (Kd.freshB (bk_ q.out) a hn_))⟩)) (bz_ bel_))
  replace G := a_ (rb_ (vR_ G.out) hb)
  replace I := a_ (rb_ (vR_ I.out) hb)
  replace J := a_ (rb_ (vR_ J.out) hb)
  replace O := a_ (rb_ (vR_ O.out) hb)
  replace Q := a_ (rb_ (vR_ Q.out) hb)
  replace F := a_ (Kd.N_elder' (vN_ F.out) (Kd.N_base ab) hb)
  replace U := a_ (Kd.N_elder' (vN_ U.out) (Kd.N_base ab) hb)
  replace l := a_ (bq_ l.out hb)
  replace s := a_ (bq_ s.out hb)
  replace q := a_ (bq_ q.out hb)
  replace HB := hq_ hb
  clear hb ab
  refine hK.out _ _ (ca8_ q.out) (fun hHeld => ?_)
  clear hK K
  refine nor_ (N := some 72) ?_
  refine pn_ 4 68 ao_ ?_
  refine pn_ 5 73 ao_ ?_
  refine pn_ 6 74 ao_ ?_
  refine pn_ 7 10 ao_ ?_
  refine pn_ 8 11 ao_ ?_
  refine done_ dn_ ?_
  go_upto_region 13 with (fail)
  go_cut [77] (fun da wc => ∃ (kq : Nat) (cL : Bool), da = .bool cL ∧ Aside0 (jigsawlaw22_InverseRefuses.j4 kq aa dP dQ cL = some r) ∧ Aside0 (kq ≤ k) ∧ Aside0 (Kd.N (Kd.slice 3 (Kd.int .i64)) 30 wc w.heap.size (fun a => some a ≠ eT.ownBlock ∧ some a ≠ ((.slice ap u.length aq) : Value).ownBlock ∧ some a ≠ ((.slice ar y.length au) : Value).ownBlock ∧ some a ≠ ((.slice aC A.length aD) : Value).ownBlock ∧ some a ≠ ((.slice aI B.length aJ) : Value).ownBlock ∧ some a ≠ ((.slice aW E.length aX) : Value).ownBlock ∧ some a ≠ ((.slice b1 Y.length b2) : Value).ownBlock ∧ a ≠ z ∧ a ≠ X ∧ a ≠ c) (.slice cC aa.length cD) aa) ∧ Aside0 (Kd.N k58 58 wc w.heap.size (fun a => some a ≠ ((.slice cC aa.length cD) : Value).ownBlock ∧ some a ≠ ((.slice ap u.length aq) : Value).ownBlock ∧ some a ≠ ((.slice ar y.length au) : Value).ownBlock ∧ some a ≠ ((.slice aC A.length aD) : Value).ownBlock ∧ some a ≠ ((.slice aI B.length aJ) : Value).ownBlock ∧ some a ≠ ((.slice aW E.length aX) : Value).ownBlock ∧ some a ≠ ((.slice b1 Y.length b2) : Value).ownBlock ∧ a ≠ z ∧ a ≠ X ∧ a ≠ c) eT dP) ∧ Aside0 (Kd.R (Kd.int .i64) 3 wc w.heap.size (fun a => some a ≠ ((.slice ar y.length au) : Value).ownBlock ∧ some a ≠ ((.slice aC A.length aD) : Value).ownBlock ∧ some a ≠ ((.slice aI B.length aJ) : Value).ownBlock ∧ some a ≠ ((.slice aW E.length aX) : Value).ownBlock) (.slice ap u.length aq) u) ∧ Aside0 (Kd.R (Kd.int .i64) 3 wc w.heap.size (fun a => some a ≠ ((.slice ap u.length aq) : Value).ownBlock ∧ some a ≠ ((.slice aC A.length aD) : Value).ownBlock ∧ some a ≠ ((.slice aI B.length aJ) : Value).ownBlock ∧ some a ≠ ((.slice aW E.length aX) : Value).ownBlock) (.slice ar y.length au) y) ∧ Aside0 (Kd.R (Kd.int .i64) 3 wc w.heap.size (fun a => some a ≠ ((.slice ap u.length aq) : Value).ownBlock ∧ some a ≠ ((.slice ar y.length au) : Value).ownBlock ∧ some a ≠ ((.slice aI B.length aJ) : Value).ownBlock ∧ some a ≠ ((.slice aW E.length aX) : Value).ownBlock) (.slice aC A.length aD) A) ∧ Aside0 (Kd.R (Kd.int .i64) 3 wc w.heap.size (fun a => some a ≠ ((.slice ap u.length aq) : Value).ownBlock ∧ some a ≠ ((.slice ar y.length au) : Value).ownBlock ∧ some a ≠ ((.slice aC A.length aD) : Value).ownBlock ∧ some a ≠ ((.slice aW E.length aX) : Value).ownBlock) (.slice aI B.length aJ) B) ∧ Aside0 (Kd.R (Kd.int .i64) 3 wc w.heap.size (fun a => some a ≠ ((.slice ap u.length aq) : Value).ownBlock ∧ some a ≠ ((.slice ar y.length au) : Value).ownBlock ∧ some a ≠ ((.slice aC A.length aD) : Value).ownBlock ∧ some a ≠ ((.slice aI B.length aJ) : Value).ownBlock) (.slice aW E.length aX) E) ∧ Aside0 (Kd.N (Kd.slice 3 (Kd.int .i64)) 30 wc w.heap.size (fun a => some a ≠ ((.slice cC aa.length cD) : Value).ownBlock ∧ some a ≠ eT.ownBlock ∧ some a ≠ ((.slice ap u.length aq) : Value).ownBlock ∧ some a ≠ ((.slice ar y.length au) : Value).ownBlock ∧ some a ≠ ((.slice aC A.length aD) : Value).ownBlock ∧ some a ≠ ((.slice aI B.length aJ) : Value).ownBlock ∧ some a ≠ ((.slice aW E.length aX) : Value).ownBlock ∧ a ≠ z ∧ a ≠ X ∧ a ≠ c) (.slice b1 Y.length b2) Y) ∧ Aside0 (wc.heap[z]? = some (.cells #[.int .u8 aK, (.slice bj av.length c0_1), (.slice bk aw.length c0_2), (.slice bl ax.length c0_3), .int .i16 aM, .int .u8 aN, (.slice bm ay.length c0_6)] 29 (0, 0))) ∧ Aside0 (wc.heap[X]? = some (.cells #[.int .i64 aE, (.slice bJ bw.length c1_1), (.slice bK bx.length c1_2), (.slice bL bz.length c1_3), (.slice bM bA.length c1_4), (.slice bN bB.length c1_5), .int .i64 bn, (.slice bP bD.length c1_7)] 32 (0, 0))) ∧ Aside0 (wc.heap[c]? = some (.cells #[.int .i64 Z, (.slice ap u.length aq), (.slice ar y.length au), (.slice aC A.length aD), (.slice aI B.length aJ), (.slice aW E.length aX), .int .i64 ac, (.slice b1 Y.length b2)] 32 (0, 0))) ∧ Aside0 (Below w.heap.size w wc))
  case first =>
   have H := ed.out
   clear ed
   replace H := bo_ H
   obtain ⟨fQ, hD, H⟩ := H
   try dsimp only at H
   have H' := a_ H
   clear H
   have iq := ad.out
   have ir := W.out
   have it := ae.out
   have iu := d.out
   obtain ⟨_, _, _, _, _, _, _, _, _, _, _, _, _, _, _, _⟩ := cel8_ q.out
   go_wp2_with (first | ((with_reducible refine gate_callee (f := 17) rfl ?_); refine goesL_ (some 77) rfl rfl Tryz.func17 kr_ rfl #[.agg #[.int .i64 Z, .slice ap u.length aq, .slice ar y.length au, .slice aC A.length aD, .slice aI B.length aJ, .slice aW E.length aX, .int .i64 ac, .slice b1 Y.length b2], .slice cC aa.length cD, .int .i64 23, .int .i64 23] rfl ar_ ?_; (with_reducible refine (jigsawref10_Fits.calls k Z _ _ u _ _ y _ _ A _ _ B _ _ E ac _ _ Y _ _ aa 23 23 fQ _ ?_ ?_ ?_ ?_ ?_ ?_ ?_ ?_ ?_ ?_ ?_ ?_ ?_ ?_ hD.out).mono ?_); exact ca_ ((rr_ G.out).2.2); exact (rr_ G.out).2.1; exact ca_ ((rr_ I.out).2.2); exact (rr_ I.out).2.1; exact ca_ ((rr_ J.out).2.2); exact (rr_ J.out).2.1; exact ca_ ((rr_ O.out).2.2); exact (rr_ O.out).2.1; exact ca_ ((rr_ Q.out).2.2); exact (rr_ Q.out).2.1; exact ca_ ((Kd.N_reads' F.out).2.2); exact (Kd.N_reads' F.out).2.1; exact ca_ ((Kd.N_reads' U.out).2.2); exact (Kd.N_reads' U.out).2.1; rintro e w237 ⟨rfl, hb⟩; refine ⟨_, rfl, ?_⟩; replace G := a_ (rb_ (vR_ G.out) hb); replace I := a_ (rb_ (vR_ I.out) hb); replace J := a_ (rb_ (vR_ J.out) hb); replace O := a_ (rb_ (vR_ O.out) hb); replace Q := a_ (rb_ (vR_ Q.out) hb); replace F := a_ (Kd.N_below (vN_ F.out) hb); replace U := a_ (Kd.N_below (vN_ U.out) hb); replace ee := a_ (Kd.N_below (vN_ ee.out) hb); replace l := a_ (bq_ l.out hb); replace s := a_ (bq_ s.out hb); replace q := a_ (bq_ q.out hb); replace HB := hq_ hb; clear hb))
   go_meet
   exact ⟨_, (fQ), eq_, H', ⟨by first | omega | exact lr_ _⟩, ⟨by refine vN_ ?_; exact nm_ U.out (fun _ hk => ⟨hk.2, ⟨hk.1.1.1, ⟨hk.1.1.2.1, ⟨hk.1.1.2.2.1, ⟨hk.1.1.2.2.2.1, ⟨hk.1.1.2.2.2.2.1, ⟨hk.1.1.2.2.2.2.2.1, ⟨hk.1.1.2.2.2.2.2.2.1, ⟨hk.1.1.2.2.2.2.2.2.2.1, hk.1.1.2.2.2.2.2.2.2.2⟩⟩⟩⟩⟩⟩⟩⟩⟩)⟩, ⟨by refine vN_ ?_; exact nm_ ee.out (fun _ hk => ⟨hk.2.2.2.2.2.2.1, ⟨hk.1, ⟨hk.2.1, ⟨hk.2.2.1, ⟨hk.2.2.2.1, ⟨hk.2.2.2.2.1, ⟨hk.2.2.2.2.2.1, ⟨hk.2.2.2.2.2.2.2.1, ⟨hk.2.2.2.2.2.2.2.2.1, hk.2.2.2.2.2.2.2.2.2⟩⟩⟩⟩⟩⟩⟩⟩⟩)⟩, ⟨vR_ G.out⟩, ⟨vR_ I.out⟩, ⟨vR_ J.out⟩, ⟨vR_ O.out⟩, ⟨vR_ Q.out⟩, ⟨by refine vN_ ?_; exact nm_ F.out (fun _ hk => ⟨nb_ hk.1.1.2.2.2.2.2.1, ⟨hk.2, ⟨hk.1.1.1, ⟨hk.1.1.2.1, ⟨hk.1.1.2.2.1, ⟨hk.1.1.2.2.2.1, ⟨hk.1.1.2.2.2.2.1, ⟨hk.1.1.2.2.2.2.2.2.1, ⟨hk.1.1.2.2.2.2.2.2.2.1, hk.1.1.2.2.2.2.2.2.2.2⟩⟩⟩⟩⟩⟩⟩⟩⟩)⟩, ⟨bk_ l.out⟩, ⟨bk_ s.out⟩, ⟨bk_ q.out⟩, ⟨bel_⟩⟩
  clear ed
  try clear c1
  try clear c2
  try clear p2
  try clear c4
  try clear p6
  try clear c8
  try clear c10
  try clear c11
  try clear c13
  try clear c14
  try clear c16
  try clear c17
  try clear c19
  try clear c20
  try clear c21
  try clear c23
  try clear p64
  try clear c142
  try clear c142b0
  try clear c142b1
  try clear c193
  try clear c194
  try clear c197
  try clear c199
  try clear c200
  try clear c205
  try clear c206
  try clear c214
  try clear c218
  try clear c219
  try clear c234
  try clear c235
  try clear eF
  try clear eG
  try clear eH
  try clear eI
  try clear eJ
  try clear eK
  try clear eL
  try clear eM
  try clear eN
  try clear eO
  try clear eP
  try clear eQ
  try clear eR
  try clear eS
  try clear p2
  obtain ⟨kq, cL, rfl, HA, i7, HO_8, HO_10, HO_625001, HO_625002, HO_625003, HO_625004, HO_625005, HO_625007, l, s, q, HB⟩ := hcut
  cases kq with
  | zero => exact absurd HA.out (by simp [jigsawlaw22_InverseRefuses.j4])
  | succ kj210 =>
   have H := HA.out
   clear HA
   simp only [jigsawlaw22_InverseRefuses.j4] at H
   by_cases c238 : cL = true
   rotate_left
   ·
    replace c238 := bf_.mpr c238
    subst c238
    have H1 : ((jigsawlaw22_wakes.f kj210).bind fun eU => (if eU = true then (if dQ = true then (none) else (some ((dP.length : Int) == 0))) else (none))) = some r := by rw [ig_ (show ¬ (false = true) by decide)] at H; exact H
    clear H
    have H := H1
    clear H1
    replace H := bo_ H
    obtain ⟨eU, hF, H⟩ := H
    try dsimp only at H
    by_cases c246 : eU = true
    rotate_left
    ·
     replace c246 := bf_.mpr c246
     subst c246
     have H1 : (none) = some r := by rw [ig_ (show ¬ (false = true) by decide)] at H; exact H
     clear H
     have H := H1
     clear H1
     exact ab_ H
    subst c246
    rw [ip_ rfl] at H
    by_cases c247 : dQ = true
    ·
     subst c247
     rw [ip_ rfl] at H
     exact ab_ H
    replace c247 := bf_.mpr c247
    subst c247
    have H1 : (some ((dP.length : Int) == 0)) = some r := by rw [ig_ (show ¬ (false = true) by decide)] at H; exact H
    clear H
    have H := H1
    clear H1
    obtain rfl := si_ H
    go_wp2_with (first | ((with_reducible refine gate_callee (f := 13) rfl ?_); refine goesL_ (some 90) rfl rfl Tryz.func13 kr_ rfl #[] rfl ar_ ?_; (with_reducible refine (jigsawlaw22_wakes.calls kj210 true _ ?_ hF.out).mono ?_); exact ca_ ((cb_ HRtab.out HB.out)); rintro e w248 ⟨rfl, hb⟩; refine ⟨_, rfl, ?_⟩; replace HO_10 := a_ (Kd.N_below (vN_ HO_10.out) hb); replace HB := hq_ hb; clear hb; obtain ⟨ja, jb, gA⟩ := Kd.N_slice HO_10.out; subst gA))
    go_ret
    exact ⟨er_, bel_⟩
   subst c238
   rw [ip_ rfl] at H
   replace H := bo_ H
   obtain ⟨hE, fR, H⟩ := H
   try dsimp only at H
   by_cases c240 : hE = true
   rotate_left
   ·
    replace c240 := bf_.mpr c240
    subst c240
    have H1 : (none) = some r := by rw [ig_ (show ¬ (false = true) by decide)] at H; exact H
    clear H
    have H := H1
    clear H1
    exact ab_ H
   subst c240
   rw [ip_ rfl] at H
   by_cases c241 : dQ = true
   ·
    subst c241
    rw [ip_ rfl] at H
    obtain rfl := si_ H
    go_wp2_with (first | ((with_reducible refine gate_callee (f := 13) rfl ?_); refine goesL_ (some 78) rfl rfl Tryz.func13 kr_ rfl #[] rfl ar_ ?_; (with_reducible refine (jigsawlaw22_wakes.calls kj210 true _ ?_ fR.out).mono ?_); exact ca_ ((cb_ HRtab.out HB.out)); rintro e w242 ⟨rfl, hb⟩; refine ⟨_, rfl, ?_⟩; replace HO_10 := a_ (Kd.N_below (vN_ HO_10.out) hb); replace HB := hq_ hb; clear hb; obtain ⟨i8, i9, gz⟩ := Kd.N_slice HO_10.out; subst gz))
    go_ret
    exact ⟨er_, bel_⟩
   replace c241 := bf_.mpr c241
   subst c241
   have H1 : (some true) = some r := by rw [ig_ (show ¬ (false = true) by decide)] at H; exact H
   clear H
   have H := H1
   clear H1
   obtain rfl := si_ H
   go_wp2_with (first | ((with_reducible refine gate_callee (f := 13) rfl ?_); refine goesL_ (some 78) rfl rfl Tryz.func13 kr_ rfl #[] rfl ar_ ?_; (with_reducible refine (jigsawlaw22_wakes.calls kj210 true _ ?_ fR.out).mono ?_); exact ca_ ((cb_ HRtab.out HB.out)); rintro e w244 ⟨rfl, hb⟩; refine ⟨_, rfl, ?_⟩; replace HB := hq_ hb; clear hb))
   go_ret
   exact ⟨er_, bel_⟩
 rw [ip_ c142] at H
 have c142b0 : ((Int.tmod a2 5) == 3) = true := beq_iff_eq.mpr c142
 have c142b1 : ((Int.tmod a2 5) != 3) = false := bn_.mpr c142
 clear c142
 replace H := bo_ H
 obtain ⟨bT, g4, H⟩ := H
 try dsimp only at H
 replace H := bo_ H
 obtain ⟨bV, g5, H⟩ := H
 try dsimp only at H
 replace H := bo_ H
 obtain ⟨b4, g6, H⟩ := H
 try dsimp only at H
 replace H := bo_ H
 obtain ⟨b9, g7, H⟩ := H
 try dsimp only at H
 replace H := bo_ H
 obtain ⟨cg, g8, H⟩ := H
 try dsimp only at H
 replace H := bo_ H
 obtain ⟨eC, g9, H⟩ := H
 try dsimp only at H
 replace H := bs_.mp H
 obtain ⟨⟨dN, dO⟩, fp, H⟩ := H
 try dsimp only at H
 have ha := a_ fp
 clear fp
 have eb := a_ H
 clear H
 go_enter Tryz.func4, Tryz.ntmps4
 try go_wp2_with (first | ((with_reducible refine gate_dst (N := 3) rfl ?_); (try (refine gate_guard (by rfl) ?_; dsimp only)); refine bxe_ (N := 3) (cs := #[.int .u8 aK, .slice bj av.length c0_1, .slice bk aw.length c0_2, .slice bl ax.length c0_3, .int .i16 aM, .int .u8 aN, .slice bm ay.length c0_6]) (t := 29) ?_; intro z hg w151 hbox hb; have l := a_ (hbox); have bW := a_ (by rw [hg]; exact (bz_ bel_) : w.heap.size ≤ z); have dA := bW; replace HB := hq_ hb; clear hb hbox hg) | ((with_reducible refine gate_dst (N := 4) rfl ?_); (try (refine gate_guard (by rfl) ?_; dsimp only)); refine bxe_ (N := 4) (cs := #[.int .i64 aE, .slice bJ bw.length c1_1, .slice bK bx.length c1_2, .slice bL bz.length c1_3, .slice bM bA.length c1_4, .slice bN bB.length c1_5, .int .i64 bn, .slice bP bD.length c1_7]) (t := 32) ?_; intro X hg w152 hbox hb; have s := a_ (hbox); have bX := a_ (by rw [hg]; exact (bz_ bel_) : w.heap.size ≤ X); have dB := bX; replace HB := hq_ hb; have bE := a_ ((by rw [hg]; exact Nat.ne_of_lt (blk_lt (bk_ l.out)) : z ≠ X)); have bF := a_ ((by rw [hg]; exact Nat.ne_of_gt (blk_lt (bk_ l.out)) : X ≠ z)); replace l := a_ (bq_ l.out hb); clear hb hbox hg; have h8 := bE.out; have h9 := bF.out; have hc : w152.cell? ⟨z, 0, none⟩ = some (.int .u8 aK) := (blk_cell l.out 0).trans rfl; have he : w152.cell? ⟨z, 1, none⟩ = some (.slice bj av.length c0_1) := (blk_cell l.out 1).trans rfl; have hf : w152.cell? ⟨z, 2, none⟩ = some (.slice bk aw.length c0_2) := (blk_cell l.out 2).trans rfl; have hh : w152.cell? ⟨z, 3, none⟩ = some (.slice bl ax.length c0_3) := (blk_cell l.out 3).trans rfl; have hi : w152.cell? ⟨z, 4, none⟩ = some (.int .i16 aM) := (blk_cell l.out 4).trans rfl; have hj : w152.cell? ⟨z, 5, none⟩ = some (.int .u8 aN) := (blk_cell l.out 5).trans rfl; have hl : w152.cell? ⟨z, 6, none⟩ = some (.slice bm ay.length c0_6) := (blk_cell l.out 6).trans rfl; have hm := blk_frozen l.out 0; have hq := blk_frozen l.out 1; have hs := blk_frozen l.out 2; have ht := blk_frozen l.out 3; have hu := blk_frozen l.out 4; have hv := blk_frozen l.out 5; have hx := blk_frozen l.out 6) | ((with_reducible refine gate_callee (f := 8) rfl ?_); refine goesL_ (some 19) rfl rfl Tryz.func8 kr_ rfl #[.agg #[.int .u8 aK, .slice bj av.length c0_1, .slice bk aw.length c0_2, .slice bl ax.length c0_3, .int .i16 aM, .int .u8 aN, .slice bm ay.length c0_6], .int .i64 (wrap64 (1 + (Int.tmod (wrap64 (a2 / 8)) 23))), .int .i64 6] rfl ar_ ?_; (with_reducible refine (jigsawref10_Make.calls k aK _ _ av _ _ aw _ _ ax aM aN _ _ ay (wrap64 (1 + (Int.tmod (wrap64 (a2 / 8)) 23))) 6 Z u y A B E ac Y aa _ ?_ ?_ ?_ ?_ ?_ ?_ ?_ ?_ A4.out).mono ?_); exact ca_ ((cb_ cQ.out HB.out)); exact cR.out; exact ca_ ((cb_ cS.out HB.out)); exact cT.out; exact ca_ ((cb_ cU.out HB.out)); exact cV.out; exact ca_ ((cb_ cW.out HB.out)); exact cX.out; rintro e w155 ⟨ch, ci, cj, ck, cl, cF, aQ, rfl, ab, cu, cv, cw, cx, cy, cz, hb⟩; refine ⟨_, rfl, ?_⟩; have G := a_ (Kd.R_lower ab (bz_ bel_)); have I := a_ (Kd.R_lower cu (bz_ bel_)); have J := a_ (Kd.R_lower cv (bz_ bel_)); have O := a_ (Kd.R_lower cw (bz_ bel_)); have Q := a_ (Kd.R_lower cx (bz_ bel_)); have F := a_ (Kd.N_lower (nm_ (ok' := fun a => some a ≠ ch.ownBlock ∧ some a ≠ ci.ownBlock ∧ some a ≠ cj.ownBlock ∧ some a ≠ ck.ownBlock ∧ some a ≠ cl.ownBlock ∧ some a ≠ aQ.ownBlock ∧ a ≠ z ∧ a ≠ X) (Kd.S_N (Kd.S_bound cy)) (fun a hk_ => ⟨hk_.1.1, hk_.1.2.1, hk_.1.2.2.1, hk_.1.2.2.2.1, hk_.1.2.2.2.2.1, hk_.1.2.2.2.2.2, (Kd.freshB (bk_ l.out) a hk_.2.1), (Kd.freshB (bk_ s.out) a hk_.2.1)⟩)) (bz_ bel_)); have U := a_ (Kd.N_lower (nm_ (ok' := fun a => some a ≠ ch.ownBlock ∧ some a ≠ ci.ownBlock ∧ some a ≠ cj.ownBlock ∧ some a ≠ ck.ownBlock ∧ some a ≠ cl.ownBlock ∧ some a ≠ cF.ownBlock ∧ a ≠ z ∧ a ≠ X) (Kd.S_N (Kd.S_bound cz)) (fun a hk_ => ⟨hk_.1.1, hk_.1.2.1, hk_.1.2.2.1, hk_.1.2.2.2.1, hk_.1.2.2.2.2.1, hk_.1.2.2.2.2.2, (Kd.freshB (bk_ l.out) a hk_.2.1), (Kd.freshB (bk_ s.out) a hk_.2.1)⟩)) (bz_ bel_)); replace l := a_ (bq_ l.out hb); replace s := a_ (bq_ s.out hb); replace HB := hq_ hb; clear hb ab cu cv cw cx cy cz) | ((with_reducible refine gate_dst (N := 7) rfl ?_); (try (refine gate_guard (by rfl) ?_; dsimp only)); refine bxe_ (N := 7) (cs := #[.int .i64 0, .slice none 0 0, .slice none 0 0, .slice none 0 0, .slice none 0 0, .slice none 0 0, .int .i64 0, .slice none 0 0]) (t := 32) ?_; intro c hg w156 hbox hb; replace G := a_ (rb_ (vR_ G.out) hb); replace I := a_ (rb_ (vR_ I.out) hb); replace J := a_ (rb_ (vR_ J.out) hb); replace O := a_ (rb_ (vR_ O.out) hb); replace Q := a_ (rb_ (vR_ Q.out) hb); replace F := a_ (Kd.N_below (Kd.N_elderB (vN_ F.out) c (Nat.le_of_eq hg.symm)) hb); replace U := a_ (Kd.N_below (Kd.N_elderB (vN_ U.out) c (Nat.le_of_eq hg.symm)) hb); have q := a_ (hbox); have bY := a_ (by rw [hg]; exact (bz_ bel_) : w.heap.size ≤ c); have dC := bY; replace HB := hq_ hb; have W := a_ ((by rw [hg]; exact Nat.ne_of_lt (blk_lt (bk_ l.out)) : z ≠ c)); have ad := a_ ((by rw [hg]; exact Nat.ne_of_gt (blk_lt (bk_ l.out)) : c ≠ z)); replace l := a_ (bq_ l.out hb); have d := a_ ((by rw [hg]; exact Nat.ne_of_lt (blk_lt (bk_ s.out)) : X ≠ c)); have ae := a_ ((by rw [hg]; exact Nat.ne_of_gt (blk_lt (bk_ s.out)) : c ≠ X)); replace s := a_ (bq_ s.out hb); clear hb hbox hg; have ia := ad.out; have ib := W.out; have ic := ae.out; have id := d.out; obtain ⟨_, _, _, _, _, _, _, _, _, _, _, _, _, _, _, _⟩ := cel8_ q.out; obtain ⟨af, ag, gh⟩ := Kd.R_slice G.out; subst gh; obtain ⟨ah, ai, gi⟩ := Kd.R_slice I.out; subst gi; obtain ⟨aj, ak, gj⟩ := Kd.R_slice J.out; subst gj; obtain ⟨al, am, gk⟩ := Kd.R_slice O.out; subst gk; obtain ⟨an, ao, gl⟩ := Kd.R_slice Q.out; subst gl; obtain ⟨az, aA, gm⟩ := Kd.N_slice F.out; subst gm))
 obtain ⟨w166, hq_⟩ : ∃ x, x = ((((((((w156.setCell ⟨c, 0, none⟩ (.int .i64 Z)).setCell ⟨c, 1, none⟩ (.slice af u.length ag)).setCell ⟨c, 2, none⟩ (.slice ah y.length ai)).setCell ⟨c, 3, none⟩ (.slice aj A.length ak)).setCell ⟨c, 4, none⟩ (.slice al B.length am)).setCell ⟨c, 5, none⟩ (.slice an E.length ao)).setCell ⟨c, 6, none⟩ (.int .i64 ac)).setCell ⟨c, 7, none⟩ (.slice az Y.length aA)) := ⟨_, rfl⟩
 replace G : Aside0 (Kd.R (Kd.int .i64) 3 w166 w.heap.size (fun a => some a ≠ (.slice ah y.length ai : Value).ownBlock ∧ some a ≠ (.slice aj A.length ak : Value).ownBlock ∧ some a ≠ (.slice al B.length am : Value).ownBlock ∧ some a ≠ (.slice an E.length ao : Value).ownBlock) (.slice af u.length ag) u) := ⟨by subst hq_; refine vR_ ?_; exact rm_ (fR_ (fR_ (fR_ (fR_ (fR_ (fR_ (fR_ (fR_ (rt_ G.out q.out (by decide)))))))))) (fun _ hk => ⟨hk.1.1, ⟨hk.1.2.1, ⟨hk.1.2.2.1, hk.1.2.2.2⟩⟩⟩)⟩
 replace I : Aside0 (Kd.R (Kd.int .i64) 3 w166 w.heap.size (fun a => some a ≠ (.slice af u.length ag : Value).ownBlock ∧ some a ≠ (.slice aj A.length ak : Value).ownBlock ∧ some a ≠ (.slice al B.length am : Value).ownBlock ∧ some a ≠ (.slice an E.length ao : Value).ownBlock) (.slice ah y.length ai) y) := ⟨by subst hq_; refine vR_ ?_; exact rm_ (fR_ (fR_ (fR_ (fR_ (fR_ (fR_ (fR_ (fR_ (rt_ I.out q.out (by decide)))))))))) (fun _ hk => ⟨hk.1.1, ⟨hk.1.2.1, ⟨hk.1.2.2.1, hk.1.2.2.2⟩⟩⟩)⟩
 replace J : Aside0 (Kd.R (Kd.int .i64) 3 w166 w.heap.size (fun a => some a ≠ (.slice af u.length ag : Value).ownBlock ∧ some a ≠ (.slice ah y.length ai : Value).ownBlock ∧ some a ≠ (.slice al B.length am : Value).ownBlock ∧ some a ≠ (.slice an E.length ao : Value).ownBlock) (.slice aj A.length ak) A) := ⟨by subst hq_; refine vR_ ?_; exact rm_ (fR_ (fR_ (fR_ (fR_ (fR_ (fR_ (fR_ (fR_ (rt_ J.out q.out (by decide)))))))))) (fun _ hk => ⟨hk.1.1, ⟨hk.1.2.1, ⟨hk.1.2.2.1, hk.1.2.2.2⟩⟩⟩)⟩
 replace O : Aside0 (Kd.R (Kd.int .i64) 3 w166 w.heap.size (fun a => some a ≠ (.slice af u.length ag : Value).ownBlock ∧ some a ≠ (.slice ah y.length ai : Value).ownBlock ∧ some a ≠ (.slice aj A.length ak : Value).ownBlock ∧ some a ≠ (.slice an E.length ao : Value).ownBlock) (.slice al B.length am) B) := ⟨by subst hq_; refine vR_ ?_; exact rm_ (fR_ (fR_ (fR_ (fR_ (fR_ (fR_ (fR_ (fR_ (rt_ O.out q.out (by decide)))))))))) (fun _ hk => ⟨hk.1.1, ⟨hk.1.2.1, ⟨hk.1.2.2.1, hk.1.2.2.2⟩⟩⟩)⟩
 replace Q : Aside0 (Kd.R (Kd.int .i64) 3 w166 w.heap.size (fun a => some a ≠ (.slice af u.length ag : Value).ownBlock ∧ some a ≠ (.slice ah y.length ai : Value).ownBlock ∧ some a ≠ (.slice aj A.length ak : Value).ownBlock ∧ some a ≠ (.slice al B.length am : Value).ownBlock) (.slice an E.length ao) E) := ⟨by subst hq_; refine vR_ ?_; exact rm_ (fR_ (fR_ (fR_ (fR_ (fR_ (fR_ (fR_ (fR_ (rt_ Q.out q.out (by decide)))))))))) (fun _ hk => ⟨hk.1.1, ⟨hk.1.2.1, ⟨hk.1.2.2.1, hk.1.2.2.2⟩⟩⟩)⟩
 replace F : Aside0 (Kd.N (Kd.slice 3 (Kd.int .i64)) 30 w166 w.heap.size (fun a => some a ≠ (.slice af u.length ag : Value).ownBlock ∧ some a ≠ (.slice ah y.length ai : Value).ownBlock ∧ some a ≠ (.slice aj A.length ak : Value).ownBlock ∧ some a ≠ (.slice al B.length am : Value).ownBlock ∧ some a ≠ (.slice an E.length ao : Value).ownBlock ∧ some a ≠ aQ.ownBlock ∧ a ≠ z ∧ a ≠ X ∧ a ≠ c) (.slice az Y.length aA) Y) := ⟨by subst hq_; refine vN_ ?_; exact nm_ (fN_ (fN_ (fN_ (fN_ (fN_ (fN_ (fN_ (fN_ (nm_ F.out (fun a hk => (⟨hk, hk.2⟩ : _ ∧ a ≠ c))))))))))) (fun _ hk => ⟨hk.1.1.1, ⟨hk.1.1.2.1, ⟨hk.1.1.2.2.1, ⟨hk.1.1.2.2.2.1, ⟨hk.1.1.2.2.2.2.1, ⟨hk.1.1.2.2.2.2.2.1, ⟨hk.1.1.2.2.2.2.2.2.1, ⟨hk.1.1.2.2.2.2.2.2.2, hk.1.2⟩⟩⟩⟩⟩⟩⟩⟩)⟩
 replace U : Aside0 (Kd.N (Kd.slice 3 (Kd.int .i64)) 30 w166 w.heap.size (fun a => some a ≠ (.slice af u.length ag : Value).ownBlock ∧ some a ≠ (.slice ah y.length ai : Value).ownBlock ∧ some a ≠ (.slice aj A.length ak : Value).ownBlock ∧ some a ≠ (.slice al B.length am : Value).ownBlock ∧ some a ≠ (.slice an E.length ao : Value).ownBlock ∧ some a ≠ (.slice az Y.length aA : Value).ownBlock ∧ a ≠ z ∧ a ≠ X ∧ a ≠ c) aQ aa) := ⟨by subst hq_; refine vN_ ?_; exact nm_ (fN_ (fN_ (fN_ (fN_ (fN_ (fN_ (fN_ (fN_ (nm_ U.out (fun a hk => (⟨hk, hk.2⟩ : _ ∧ a ≠ c))))))))))) (fun _ hk => ⟨hk.1.1.1, ⟨hk.1.1.2.1, ⟨hk.1.1.2.2.1, ⟨hk.1.1.2.2.2.1, ⟨hk.1.1.2.2.2.2.1, ⟨hk.1.1.2.2.2.2.2.1, ⟨hk.1.1.2.2.2.2.2.2.1, ⟨hk.1.1.2.2.2.2.2.2.2, hk.1.2⟩⟩⟩⟩⟩⟩⟩⟩)⟩
 replace l : Aside0 (w166.heap[z]? = some (.cells #[.int .u8 aK, .slice bj av.length c0_1, .slice bk aw.length c0_2, .slice bl ax.length c0_3, .int .i16 aM, .int .u8 aN, .slice bm ay.length c0_6] 29 (0, 0))) := ⟨by subst hq_; refine bk_ ?_; refine blk_far ?_ W.out _; refine bk_ ?_; refine blk_far ?_ W.out _; refine bk_ ?_; refine blk_far ?_ W.out _; refine bk_ ?_; refine blk_far ?_ W.out _; refine bk_ ?_; refine blk_far ?_ W.out _; refine bk_ ?_; refine blk_far ?_ W.out _; refine bk_ ?_; refine blk_far ?_ W.out _; refine bk_ ?_; refine blk_far ?_ W.out _; refine bk_ ?_; exact l.out⟩
 replace s : Aside0 (w166.heap[X]? = some (.cells #[.int .i64 aE, .slice bJ bw.length c1_1, .slice bK bx.length c1_2, .slice bL bz.length c1_3, .slice bM bA.length c1_4, .slice bN bB.length c1_5, .int .i64 bn, .slice bP bD.length c1_7] 32 (0, 0))) := ⟨by subst hq_; refine bk_ ?_; refine blk_far ?_ d.out _; refine bk_ ?_; refine blk_far ?_ d.out _; refine bk_ ?_; refine blk_far ?_ d.out _; refine bk_ ?_; refine blk_far ?_ d.out _; refine bk_ ?_; refine blk_far ?_ d.out _; refine bk_ ?_; refine blk_far ?_ d.out _; refine bk_ ?_; refine blk_far ?_ d.out _; refine bk_ ?_; refine blk_far ?_ d.out _; refine bk_ ?_; exact s.out⟩
 replace q : Aside0 (w166.heap[c]? = some (.cells #[.int .i64 Z, .slice af u.length ag, .slice ah y.length ai, .slice aj A.length ak, .slice al B.length am, .slice an E.length ao, .int .i64 ac, .slice az Y.length aA] 32 (0, 0))) := ⟨by subst hq_; refine bk_ ?_; refine bu_ (cs := #[.int .i64 Z, .slice af u.length ag, .slice ah y.length ai, .slice aj A.length ak, .slice al B.length am, .slice an E.length ao, .int .i64 ac, .slice none 0 0]) ?_ 7 _ rfl; refine bk_ ?_; refine bu_ (cs := #[.int .i64 Z, .slice af u.length ag, .slice ah y.length ai, .slice aj A.length ak, .slice al B.length am, .slice an E.length ao, .int .i64 0, .slice none 0 0]) ?_ 6 _ rfl; refine bk_ ?_; refine bu_ (cs := #[.int .i64 Z, .slice af u.length ag, .slice ah y.length ai, .slice aj A.length ak, .slice al B.length am, .slice none 0 0, .int .i64 0, .slice none 0 0]) ?_ 5 _ rfl; refine bk_ ?_; refine bu_ (cs := #[.int .i64 Z, .slice af u.length ag, .slice ah y.length ai, .slice aj A.length ak, .slice none 0 0, .slice none 0 0, .int .i64 0, .slice none 0 0]) ?_ 4 _ rfl; refine bk_ ?_; refine bu_ (cs := #[.int .i64 Z, .slice af u.length ag, .slice ah y.length ai, .slice none 0 0, .slice none 0 0, .slice none 0 0, .int .i64 0, .slice none 0 0]) ?_ 3 _ rfl; refine bk_ ?_; refine bu_ (cs := #[.int .i64 Z, .slice af u.length ag, .slice none 0 0, .slice none 0 0, .slice none 0 0, .slice none 0 0, .int .i64 0, .slice none 0 0]) ?_ 2 _ rfl; refine bk_ ?_; refine bu_ (cs := #[.int .i64 Z, .slice none 0 0, .slice none 0 0, .slice none 0 0, .slice none 0 0, .slice none 0 0, .int .i64 0, .slice none 0 0]) ?_ 1 _ rfl; refine bk_ ?_; refine bu_ (cs := #[.int .i64 0, .slice none 0 0, .slice none 0 0, .slice none 0 0, .slice none 0 0, .slice none 0 0, .int .i64 0, .slice none 0 0]) ?_ 0 _ rfl; refine bk_ ?_; exact q.out⟩
 replace HB : Aside0 (Below w.heap.size w w166) := ⟨by subst hq_; exact bel_⟩
 rw [← hq_]
 clear hq_
 replace G := a_ (Kd.R_drew G.out)
 replace I := a_ (Kd.R_drew I.out)
 replace J := a_ (Kd.R_drew J.out)
 replace O := a_ (Kd.R_drew O.out)
 replace Q := a_ (Kd.R_drew Q.out)
 replace F := a_ (Kd.N_drew F.out)
 replace U := a_ (Kd.N_drew U.out)
 replace l := a_ (blk_drew l.out)
 replace s := a_ (blk_drew s.out)
 replace q := a_ (blk_drew q.out)
 replace HB := a_ (below_drew1 HB.out)
 refine start_ (n := 26) (S := fun w' => w'.cell? ⟨X, 0, none⟩ = some (.int .i64 aE) ∧ w'.cell? ⟨X, 1, none⟩ = some (.slice bJ bw.length c1_1) ∧ w'.cell? ⟨X, 2, none⟩ = some (.slice bK bx.length c1_2) ∧ w'.cell? ⟨X, 3, none⟩ = some (.slice bL bz.length c1_3) ∧ w'.cell? ⟨X, 4, none⟩ = some (.slice bM bA.length c1_4) ∧ w'.cell? ⟨X, 5, none⟩ = some (.slice bN bB.length c1_5) ∧ w'.cell? ⟨X, 6, none⟩ = some (.int .i64 bn) ∧ w'.cell? ⟨X, 7, none⟩ = some (.slice bP bD.length c1_7)) (ds := []) #[false, false, false, false, false, false, false, false, false, false, false, false, false, false, false, false, false, false, false, false, false, false, false, false, false, false] kr_ rfl rfl (ca8_ s.out) (fun hHeld => ?_); refine with_tabW jigsawlaw22_InverseRefuses.tab11 jigsawlaw22_InverseRefuses.bits11 (fun HT_ HW_ => ?_)
 generalize w166.drew = w167 at G I J O Q F U l s q HB hHeld ⊢
 refine pn_ 0 43 ao_ ?_
 refine pn_ 2 45 ao_ ?_
 refine pn_ 3 46 ao_ ?_
 refine pn_ 6 49 ao_ ?_
 refine pn_ 7 50 ao_ ?_
 refine pn_ 10 53 ao_ ?_
 refine pn_ 11 54 ao_ ?_
 refine pn_ 14 57 ao_ ?_
 refine pn_ 15 58 ao_ ?_
 refine pn_ 18 61 ao_ ?_
 refine pn_ 19 62 ao_ ?_
 refine pn_ 22 65 ao_ ?_
 refine tn_ 1 44 tw_ hHeld ?_
 refine tn_ 4 47 tw_ hHeld ?_
 refine tn_ 8 51 tw_ hHeld ?_
 refine tn_ 12 55 tw_ hHeld ?_
 refine tn_ 16 59 tw_ hHeld ?_
 refine tn_ 20 63 tw_ hHeld ?_
 refine tn_ 23 66 tw_ hHeld ?_
 refine onn_ 5 48 #[true, true, true, true, true, true, true, true, true, false, true, true, true, false, true, true, true, false, true, true, true, false, true, true, false, false] rfl rfl on_ (by decide) (fun K hK => ?_)
 refine goeV_ Tryz.func16 kr_ rfl #[.slice bJ bw.length c1_1] (by rfl) rfl rfl rfl ar_ ?_
 with_reducible refine (jigsawlaw22_InverseRefuses_1.calls (fun a => a < w.heap.size) _ _ bw bT _ ?_ g4.out).mono ?_
 exact Kd.V_mk fU.out (Kd.F_below (Kd.C_F (Kd.heap_int .i64) fT.out) bel_)
 rintro e w168 ⟨jt, rfl, ab, hb⟩
 refine ⟨_, rfl, ?_⟩
 have a3 := a_ (Kd.V_lower (vm_ (ok' := fun a => some a ≠ (.slice af u.length ag : Value).ownBlock ∧ some a ≠ (.slice ah y.length ai : Value).ownBlock ∧ some a ≠ (.slice aj A.length ak : Value).ownBlock ∧ some a ≠ (.slice al B.length am : Value).ownBlock ∧ some a ≠ (.slice an E.length ao : Value).ownBlock ∧ some a ≠ (.slice az Y.length aA : Value).ownBlock ∧ some a ≠ aQ.ownBlock ∧ a ≠ z ∧ a ≠ X ∧ a ≠ c) ab (fun a hk_ => ⟨Or.elim hk_ (fun hs_ => fun e_ => Nat.not_le.2 hs_ (rs_ G.out a e_.symm)) (fun hn_ => (fr_ (rl_ (vR_ G.out)) a hn_)), Or.elim hk_ (fun hs_ => fun e_ => Nat.not_le.2 hs_ (rs_ I.out a e_.symm)) (fun hn_ => (fr_ (rl_ (vR_ I.out)) a hn_)), Or.elim hk_ (fun hs_ => fun e_ => Nat.not_le.2 hs_ (rs_ J.out a e_.symm)) (fun hn_ => (fr_ (rl_ (vR_ J.out)) a hn_)), Or.elim hk_ (fun hs_ => fun e_ => Nat.not_le.2 hs_ (rs_ O.out a e_.symm)) (fun hn_ => (fr_ (rl_ (vR_ O.out)) a hn_)), Or.elim hk_ (fun hs_ => fun e_ => Nat.not_le.2 hs_ (rs_ Q.out a e_.symm)) (fun hn_ => (fr_ (rl_ (vR_ Q.out)) a hn_)), Or.elim hk_ (fun hs_ => fun e_ => Nat.not_le.2 hs_ (Kd.N_base F.out a e_.symm)) (fun hn_ => (fr_ (Kd.N_lt (vN_ F.out)) a hn_)), Or.elim hk_ (fun hs_ => fun e_ => Nat.not_le.2 hs_ (Kd.N_base U.out a e_.symm)) (fun hn_ => (fr_ (Kd.N_lt (vN_ U.out)) a hn_)), Or.elim hk_ (fun hs_ => fun e_ => Nat.not_le.2 hs_ (by rw [e_]; exact bW.out)) (fun hn_ => (Kd.freshB (bk_ l.out) a hn_)), Or.elim hk_ (fun hs_ => fun e_ => Nat.not_le.2 hs_ (by rw [e_]; exact bX.out)) (fun hn_ => (Kd.freshB (bk_ s.out) a hn_)), Or.elim hk_ (fun hs_ => fun e_ => Nat.not_le.2 hs_ (by rw [e_]; exact bY.out)) (fun hn_ => (Kd.freshB (bk_ q.out) a hn_))⟩)) (bz_ bel_))
 replace G := a_ (rb_ (vR_ G.out) hb)
 replace I := a_ (rb_ (vR_ I.out) hb)
 replace J := a_ (rb_ (vR_ J.out) hb)
 replace O := a_ (rb_ (vR_ O.out) hb)
 replace Q := a_ (rb_ (vR_ Q.out) hb)
 replace F := a_ (Kd.N_below (vN_ F.out) hb)
 replace U := a_ (Kd.N_below (vN_ U.out) hb)
 replace l := a_ (bq_ l.out hb)
 replace s := a_ (bq_ s.out hb)
 replace q := a_ (bq_ q.out hb)
 replace HB := hq_ hb
 clear hb ab
 refine hK.out _ _ (ca8_ s.out) (fun hHeld => ?_)
 clear hK K
 refine nor_ (N := some 48) ?_
 refine onn_ 9 52 #[true, true, true, true, true, true, true, true, true, true, true, true, true, false, true, true, true, false, true, true, true, false, true, true, false, false] rfl rfl on_ (by decide) (fun K hK => ?_)
 refine goeV_ Tryz.func16 kr_ rfl #[.slice bK bx.length c1_2] (by rfl) rfl rfl rfl ar_ ?_
 with_reducible refine (jigsawlaw22_InverseRefuses_1.calls (fun a => a < w.heap.size) _ _ bx bV _ ?_ g5.out).mono ?_
 exact Kd.V_mk fW.out (Kd.F_below (Kd.C_F (Kd.heap_int .i64) fV.out) bel_)
 rintro e w169 ⟨ju, rfl, ab, hb⟩
 refine ⟨_, rfl, ?_⟩
 replace a3 := a_ (vb_ (vV_ a3.out) hb)
 have bi := a_ (Kd.V_lower (vm_ (ok' := fun a => some a ≠ (.slice af u.length ag : Value).ownBlock ∧ some a ≠ (.slice ah y.length ai : Value).ownBlock ∧ some a ≠ (.slice aj A.length ak : Value).ownBlock ∧ some a ≠ (.slice al B.length am : Value).ownBlock ∧ some a ≠ (.slice an E.length ao : Value).ownBlock ∧ some a ≠ (.slice az Y.length aA : Value).ownBlock ∧ some a ≠ aQ.ownBlock ∧ a ≠ z ∧ a ≠ X ∧ a ≠ c) ab (fun a hk_ => ⟨Or.elim hk_ (fun hs_ => fun e_ => Nat.not_le.2 hs_ (rs_ G.out a e_.symm)) (fun hn_ => (fr_ (rl_ (vR_ G.out)) a hn_)), Or.elim hk_ (fun hs_ => fun e_ => Nat.not_le.2 hs_ (rs_ I.out a e_.symm)) (fun hn_ => (fr_ (rl_ (vR_ I.out)) a hn_)), Or.elim hk_ (fun hs_ => fun e_ => Nat.not_le.2 hs_ (rs_ J.out a e_.symm)) (fun hn_ => (fr_ (rl_ (vR_ J.out)) a hn_)), Or.elim hk_ (fun hs_ => fun e_ => Nat.not_le.2 hs_ (rs_ O.out a e_.symm)) (fun hn_ => (fr_ (rl_ (vR_ O.out)) a hn_)), Or.elim hk_ (fun hs_ => fun e_ => Nat.not_le.2 hs_ (rs_ Q.out a e_.symm)) (fun hn_ => (fr_ (rl_ (vR_ Q.out)) a hn_)), Or.elim hk_ (fun hs_ => fun e_ => Nat.not_le.2 hs_ (Kd.N_base F.out a e_.symm)) (fun hn_ => (fr_ (Kd.N_lt (vN_ F.out)) a hn_)), Or.elim hk_ (fun hs_ => fun e_ => Nat.not_le.2 hs_ (Kd.N_base U.out a e_.symm)) (fun hn_ => (fr_ (Kd.N_lt (vN_ U.out)) a hn_)), Or.elim hk_ (fun hs_ => fun e_ => Nat.not_le.2 hs_ (by rw [e_]; exact bW.out)) (fun hn_ => (Kd.freshB (bk_ l.out) a hn_)), Or.elim hk_ (fun hs_ => fun e_ => Nat.not_le.2 hs_ (by rw [e_]; exact bX.out)) (fun hn_ => (Kd.freshB (bk_ s.out) a hn_)), Or.elim hk_ (fun hs_ => fun e_ => Nat.not_le.2 hs_ (by rw [e_]; exact bY.out)) (fun hn_ => (Kd.freshB (bk_ q.out) a hn_))⟩)) (bz_ bel_))
 replace G := a_ (rb_ (vR_ G.out) hb)
 replace I := a_ (rb_ (vR_ I.out) hb)
 replace J := a_ (rb_ (vR_ J.out) hb)
 replace O := a_ (rb_ (vR_ O.out) hb)
 replace Q := a_ (rb_ (vR_ Q.out) hb)
 replace F := a_ (Kd.N_below (vN_ F.out) hb)
 replace U := a_ (Kd.N_below (vN_ U.out) hb)
 replace l := a_ (bq_ l.out hb)
 replace s := a_ (bq_ s.out hb)
 replace q := a_ (bq_ q.out hb)
 replace HB := hq_ hb
 clear hb ab
 refine hK.out _ _ (ca8_ s.out) (fun hHeld => ?_)
 clear hK K
 refine nor_ (N := some 52) ?_
 refine onn_ 13 56 #[true, true, true, true, true, true, true, true, true, true, true, true, true, true, true, true, true, false, true, true, true, false, true, true, false, false] rfl rfl on_ (by decide) (fun K hK => ?_)
 refine goeV_ Tryz.func16 kr_ rfl #[.slice bL bz.length c1_3] (by rfl) rfl rfl rfl ar_ ?_
 with_reducible refine (jigsawlaw22_InverseRefuses_1.calls (fun a => a < w.heap.size) _ _ bz b4 _ ?_ g6.out).mono ?_
 exact Kd.V_mk fY.out (Kd.F_below (Kd.C_F (Kd.heap_int .i64) fX.out) bel_)
 rintro e w170 ⟨jv, rfl, ab, hb⟩
 refine ⟨_, rfl, ?_⟩
 replace a3 := a_ (vb_ (vV_ a3.out) hb)
 replace bi := a_ (vb_ (vV_ bi.out) hb)
 have bs := a_ (Kd.V_lower (vm_ (ok' := fun a => some a ≠ (.slice af u.length ag : Value).ownBlock ∧ some a ≠ (.slice ah y.length ai : Value).ownBlock ∧ some a ≠ (.slice aj A.length ak : Value).ownBlock ∧ some a ≠ (.slice al B.length am : Value).ownBlock ∧ some a ≠ (.slice an E.length ao : Value).ownBlock ∧ some a ≠ (.slice az Y.length aA : Value).ownBlock ∧ some a ≠ aQ.ownBlock ∧ a ≠ z ∧ a ≠ X ∧ a ≠ c) ab (fun a hk_ => ⟨Or.elim hk_ (fun hs_ => fun e_ => Nat.not_le.2 hs_ (rs_ G.out a e_.symm)) (fun hn_ => (fr_ (rl_ (vR_ G.out)) a hn_)), Or.elim hk_ (fun hs_ => fun e_ => Nat.not_le.2 hs_ (rs_ I.out a e_.symm)) (fun hn_ => (fr_ (rl_ (vR_ I.out)) a hn_)), Or.elim hk_ (fun hs_ => fun e_ => Nat.not_le.2 hs_ (rs_ J.out a e_.symm)) (fun hn_ => (fr_ (rl_ (vR_ J.out)) a hn_)), Or.elim hk_ (fun hs_ => fun e_ => Nat.not_le.2 hs_ (rs_ O.out a e_.symm)) (fun hn_ => (fr_ (rl_ (vR_ O.out)) a hn_)), Or.elim hk_ (fun hs_ => fun e_ => Nat.not_le.2 hs_ (rs_ Q.out a e_.symm)) (fun hn_ => (fr_ (rl_ (vR_ Q.out)) a hn_)), Or.elim hk_ (fun hs_ => fun e_ => Nat.not_le.2 hs_ (Kd.N_base F.out a e_.symm)) (fun hn_ => (fr_ (Kd.N_lt (vN_ F.out)) a hn_)), Or.elim hk_ (fun hs_ => fun e_ => Nat.not_le.2 hs_ (Kd.N_base U.out a e_.symm)) (fun hn_ => (fr_ (Kd.N_lt (vN_ U.out)) a hn_)), Or.elim hk_ (fun hs_ => fun e_ => Nat.not_le.2 hs_ (by rw [e_]; exact bW.out)) (fun hn_ => (Kd.freshB (bk_ l.out) a hn_)), Or.elim hk_ (fun hs_ => fun e_ => Nat.not_le.2 hs_ (by rw [e_]; exact bX.out)) (fun hn_ => (Kd.freshB (bk_ s.out) a hn_)), Or.elim hk_ (fun hs_ => fun e_ => Nat.not_le.2 hs_ (by rw [e_]; exact bY.out)) (fun hn_ => (Kd.freshB (bk_ q.out) a hn_))⟩)) (bz_ bel_))
 replace G := a_ (rb_ (vR_ G.out) hb)
 replace I := a_ (rb_ (vR_ I.out) hb)
 replace J := a_ (rb_ (vR_ J.out) hb)
 replace O := a_ (rb_ (vR_ O.out) hb)
 replace Q := a_ (rb_ (vR_ Q.out) hb)
 replace F := a_ (Kd.N_below (vN_ F.out) hb)
 replace U := a_ (Kd.N_below (vN_ U.out) hb)
 replace l := a_ (bq_ l.out hb)
 replace s := a_ (bq_ s.out hb)
 replace q := a_ (bq_ q.out hb)
 replace HB := hq_ hb
 clear hb ab
 refine hK.out _ _ (ca8_ s.out) (fun hHeld => ?_)
 clear hK K
 refine nor_ (N := some 56) ?_
 refine onn_ 17 60 #[true, true, true, true, true, true, true, true, true, true, true, true, true, true, true, true, true, true, true, true, true, false, true, true, false, false] rfl rfl on_ (by decide) (fun K hK => ?_)
 refine goeV_ Tryz.func16 kr_ rfl #[.slice bM bA.length c1_4] (by rfl) rfl rfl rfl ar_ ?_
 with_reducible refine (jigsawlaw22_InverseRefuses_1.calls (fun a => a < w.heap.size) _ _ bA b9 _ ?_ g7.out).mono ?_
 exact Kd.V_mk f0.out (Kd.F_below (Kd.C_F (Kd.heap_int .i64) fZ.out) bel_)
 rintro e w171 ⟨jw, rfl, ab, hb⟩
 refine ⟨_, rfl, ?_⟩
 replace a3 := a_ (vb_ (vV_ a3.out) hb)
 replace bi := a_ (vb_ (vV_ bi.out) hb)
 replace bs := a_ (vb_ (vV_ bs.out) hb)
 have bC := a_ (Kd.V_lower (vm_ (ok' := fun a => some a ≠ (.slice af u.length ag : Value).ownBlock ∧ some a ≠ (.slice ah y.length ai : Value).ownBlock ∧ some a ≠ (.slice aj A.length ak : Value).ownBlock ∧ some a ≠ (.slice al B.length am : Value).ownBlock ∧ some a ≠ (.slice an E.length ao : Value).ownBlock ∧ some a ≠ (.slice az Y.length aA : Value).ownBlock ∧ some a ≠ aQ.ownBlock ∧ a ≠ z ∧ a ≠ X ∧ a ≠ c) ab (fun a hk_ => ⟨Or.elim hk_ (fun hs_ => fun e_ => Nat.not_le.2 hs_ (rs_ G.out a e_.symm)) (fun hn_ => (fr_ (rl_ (vR_ G.out)) a hn_)), Or.elim hk_ (fun hs_ => fun e_ => Nat.not_le.2 hs_ (rs_ I.out a e_.symm)) (fun hn_ => (fr_ (rl_ (vR_ I.out)) a hn_)), Or.elim hk_ (fun hs_ => fun e_ => Nat.not_le.2 hs_ (rs_ J.out a e_.symm)) (fun hn_ => (fr_ (rl_ (vR_ J.out)) a hn_)), Or.elim hk_ (fun hs_ => fun e_ => Nat.not_le.2 hs_ (rs_ O.out a e_.symm)) (fun hn_ => (fr_ (rl_ (vR_ O.out)) a hn_)), Or.elim hk_ (fun hs_ => fun e_ => Nat.not_le.2 hs_ (rs_ Q.out a e_.symm)) (fun hn_ => (fr_ (rl_ (vR_ Q.out)) a hn_)), Or.elim hk_ (fun hs_ => fun e_ => Nat.not_le.2 hs_ (Kd.N_base F.out a e_.symm)) (fun hn_ => (fr_ (Kd.N_lt (vN_ F.out)) a hn_)), Or.elim hk_ (fun hs_ => fun e_ => Nat.not_le.2 hs_ (Kd.N_base U.out a e_.symm)) (fun hn_ => (fr_ (Kd.N_lt (vN_ U.out)) a hn_)), Or.elim hk_ (fun hs_ => fun e_ => Nat.not_le.2 hs_ (by rw [e_]; exact bW.out)) (fun hn_ => (Kd.freshB (bk_ l.out) a hn_)), Or.elim hk_ (fun hs_ => fun e_ => Nat.not_le.2 hs_ (by rw [e_]; exact bX.out)) (fun hn_ => (Kd.freshB (bk_ s.out) a hn_)), Or.elim hk_ (fun hs_ => fun e_ => Nat.not_le.2 hs_ (by rw [e_]; exact bY.out)) (fun hn_ => (Kd.freshB (bk_ q.out) a hn_))⟩)) (bz_ bel_))
 replace G := a_ (rb_ (vR_ G.out) hb)
 replace I := a_ (rb_ (vR_ I.out) hb)
 replace J := a_ (rb_ (vR_ J.out) hb)
 replace O := a_ (rb_ (vR_ O.out) hb)
 replace Q := a_ (rb_ (vR_ Q.out) hb)
 replace F := a_ (Kd.N_below (vN_ F.out) hb)
 replace U := a_ (Kd.N_below (vN_ U.out) hb)
 replace l := a_ (bq_ l.out hb)
 replace s := a_ (bq_ s.out hb)
 replace q := a_ (bq_ q.out hb)
 replace HB := hq_ hb
 clear hb ab
 refine hK.out _ _ (ca8_ s.out) (fun hHeld => ?_)
 clear hK K
 refine nor_ (N := some 60) ?_
 refine onn_ 21 64 #[true, true, true, true, true, true, true, true, true, true, true, true, true, true, true, true, true, true, true, true, true, true, true, true, false, false] rfl rfl on_ (by decide) (fun K hK => ?_)
 refine goeV_ Tryz.func16 kr_ rfl #[.slice bN bB.length c1_5] (by rfl) rfl rfl rfl ar_ ?_
 with_reducible refine (jigsawlaw22_InverseRefuses_1.calls (fun a => a < w.heap.size) _ _ bB cg _ ?_ g8.out).mono ?_
 exact Kd.V_mk f2.out (Kd.F_below (Kd.C_F (Kd.heap_int .i64) f1.out) bel_)
 rintro e w172 ⟨jx, rfl, ab, hb⟩
 refine ⟨_, rfl, ?_⟩
 replace a3 := a_ (vb_ (vV_ a3.out) hb)
 replace bi := a_ (vb_ (vV_ bi.out) hb)
 replace bs := a_ (vb_ (vV_ bs.out) hb)
 replace bC := a_ (vb_ (vV_ bC.out) hb)
 have bH := a_ (Kd.V_lower (vm_ (ok' := fun a => some a ≠ (.slice af u.length ag : Value).ownBlock ∧ some a ≠ (.slice ah y.length ai : Value).ownBlock ∧ some a ≠ (.slice aj A.length ak : Value).ownBlock ∧ some a ≠ (.slice al B.length am : Value).ownBlock ∧ some a ≠ (.slice an E.length ao : Value).ownBlock ∧ some a ≠ (.slice az Y.length aA : Value).ownBlock ∧ some a ≠ aQ.ownBlock ∧ a ≠ z ∧ a ≠ X ∧ a ≠ c) ab (fun a hk_ => ⟨Or.elim hk_ (fun hs_ => fun e_ => Nat.not_le.2 hs_ (rs_ G.out a e_.symm)) (fun hn_ => (fr_ (rl_ (vR_ G.out)) a hn_)), Or.elim hk_ (fun hs_ => fun e_ => Nat.not_le.2 hs_ (rs_ I.out a e_.symm)) (fun hn_ => (fr_ (rl_ (vR_ I.out)) a hn_)), Or.elim hk_ (fun hs_ => fun e_ => Nat.not_le.2 hs_ (rs_ J.out a e_.symm)) (fun hn_ => (fr_ (rl_ (vR_ J.out)) a hn_)), Or.elim hk_ (fun hs_ => fun e_ => Nat.not_le.2 hs_ (rs_ O.out a e_.symm)) (fun hn_ => (fr_ (rl_ (vR_ O.out)) a hn_)), Or.elim hk_ (fun hs_ => fun e_ => Nat.not_le.2 hs_ (rs_ Q.out a e_.symm)) (fun hn_ => (fr_ (rl_ (vR_ Q.out)) a hn_)), Or.elim hk_ (fun hs_ => fun e_ => Nat.not_le.2 hs_ (Kd.N_base F.out a e_.symm)) (fun hn_ => (fr_ (Kd.N_lt (vN_ F.out)) a hn_)), Or.elim hk_ (fun hs_ => fun e_ => Nat.not_le.2 hs_ (Kd.N_base U.out a e_.symm)) (fun hn_ => (fr_ (Kd.N_lt (vN_ U.out)) a hn_)), Or.elim hk_ (fun hs_ => fun e_ => Nat.not_le.2 hs_ (by rw [e_]; exact bW.out)) (fun hn_ => (Kd.freshB (bk_ l.out) a hn_)), Or.elim hk_ (fun hs_ => fun e_ => Nat.not_le.2 hs_ (by rw [e_]; exact bX.out)) (fun hn_ => (Kd.freshB (bk_ s.out) a hn_)), Or.elim hk_ (fun hs_ => fun e_ => Nat.not_le.2 hs_ (by rw [e_]; exact bY.out)) (fun hn_ => (Kd.freshB (bk_ q.out) a hn_))⟩)) (bz_ bel_))
 replace G := a_ (rb_ (vR_ G.out) hb)
 replace I := a_ (rb_ (vR_ I.out) hb)
 replace J := a_ (rb_ (vR_ J.out) hb)
 replace O := a_ (rb_ (vR_ O.out) hb)
 replace Q := a_ (rb_ (vR_ Q.out) hb)
 replace F := a_ (Kd.N_below (vN_ F.out) hb)
 replace U := a_ (Kd.N_below (vN_ U.out) hb)
 replace l := a_ (bq_ l.out hb)
 replace s := a_ (bq_ s.out hb)
 replace q := a_ (bq_ q.out hb)
 replace HB := hq_ hb
 clear hb ab
 obtain ⟨cr, ct, fq⟩ := Kd.V_slice bH.out
 (first | subst fq | (injection fq with f1_ f2_ f3_; have f4_ := f1_.symm; have f5_ := f3_.symm; clear f1_ f2_ f3_; subst f4_; subst f5_))
 obtain ⟨cp, cq, fr⟩ := Kd.V_slice bC.out
 (first | subst fr | (injection fr with f1_ f2_ f3_; have f4_ := f1_.symm; have f5_ := f3_.symm; clear f1_ f2_ f3_; subst f4_; subst f5_))
 obtain ⟨cc, cd, fs⟩ := Kd.V_slice bs.out
 (first | subst fs | (injection fs with f1_ f2_ f3_; have f4_ := f1_.symm; have f5_ := f3_.symm; clear f1_ f2_ f3_; subst f4_; subst f5_))
 obtain ⟨b5, b6, ft⟩ := Kd.V_slice bi.out
 (first | subst ft | (injection ft with f1_ f2_ f3_; have f4_ := f1_.symm; have f5_ := f3_.symm; clear f1_ f2_ f3_; subst f4_; subst f5_))
 obtain ⟨bZ, b0, fu⟩ := Kd.V_slice a3.out
 (first | subst fu | (injection fu with f1_ f2_ f3_; have f4_ := f1_.symm; have f5_ := f3_.symm; clear f1_ f2_ f3_; subst f4_; subst f5_))
 refine hK.out _ _ (ca8_ s.out) (fun hHeld => ?_)
 clear hK K
 refine nor_ (N := some 64) ?_
 refine pn_ 24 67 ao_ ?_
 refine one_ (i := 25) (N := none) #[true, true, true, true, true, true, true, true, true, true, true, true, true, true, true, true, true, true, true, true, true, true, true, true, true, true] rfl rfl on_ (by decide) (fun K hK => ?_)
 have iU : w172.cell? ⟨c, 0, none⟩ = some (.int .i64 Z) := (blk_cell q.out 0).trans rfl
 have hfs178 := blk_frozen q.out 0
 have hns178_0 := W.out
 have hns178_1 := d.out
 have hms178_0 := ad.out
 have hms178_1 := ae.out
 have iV : w172.cell? ⟨c, 1, none⟩ = some (.slice af u.length ag) := (blk_cell q.out 1).trans rfl
 have hfs179 := blk_frozen q.out 1
 have hns179_0 := W.out
 have hns179_1 := d.out
 have hms179_0 := ad.out
 have hms179_1 := ae.out
 have iW : w172.cell? ⟨c, 2, none⟩ = some (.slice ah y.length ai) := (blk_cell q.out 2).trans rfl
 have hfs180 := blk_frozen q.out 2
 have hns180_0 := W.out
 have hns180_1 := d.out
 have hms180_0 := ad.out
 have hms180_1 := ae.out
 have iX : w172.cell? ⟨c, 3, none⟩ = some (.slice aj A.length ak) := (blk_cell q.out 3).trans rfl
 have hfs181 := blk_frozen q.out 3
 have hns181_0 := W.out
 have hns181_1 := d.out
 have hms181_0 := ad.out
 have hms181_1 := ae.out
 have iY : w172.cell? ⟨c, 4, none⟩ = some (.slice al B.length am) := (blk_cell q.out 4).trans rfl
 have hfs182 := blk_frozen q.out 4
 have hns182_0 := W.out
 have hns182_1 := d.out
 have hms182_0 := ad.out
 have hms182_1 := ae.out
 have iZ : w172.cell? ⟨c, 5, none⟩ = some (.slice an E.length ao) := (blk_cell q.out 5).trans rfl
 have hfs183 := blk_frozen q.out 5
 have hns183_0 := W.out
 have hns183_1 := d.out
 have hms183_0 := ad.out
 have hms183_1 := ae.out
 have i0 : w172.cell? ⟨c, 6, none⟩ = some (.int .i64 ac) := (blk_cell q.out 6).trans rfl
 have hfs184 := blk_frozen q.out 6
 have hns184_0 := W.out
 have hns184_1 := d.out
 have hms184_0 := ad.out
 have hms184_1 := ae.out
 have i1 : w172.cell? ⟨c, 7, none⟩ = some (.slice az Y.length aA) := (blk_cell q.out 7).trans rfl
 have hfs185 := blk_frozen q.out 7
 have hns185_0 := W.out
 have hns185_1 := d.out
 have hms185_0 := ad.out
 have hms185_1 := ae.out
 refine skip_ (w1 := ?_) (by rfl) rfl ?_ ?_
 rotate_left
 ·
  go_simp
  rfl
 refine hK.out _ _ ⟨((cell_far (p := ⟨c, _, none⟩) d.out _).trans (((cell_far (p := ⟨c, _, none⟩) d.out _).trans (((cell_far (p := ⟨c, _, none⟩) d.out _).trans (((cell_far (p := ⟨c, _, none⟩) d.out _).trans (((cell_far (p := ⟨c, _, none⟩) d.out _).trans (((cell_far (p := ⟨c, _, none⟩) d.out _).trans (((cell_far (p := ⟨c, _, none⟩) d.out _).trans (((cell_far (p := ⟨c, _, none⟩) d.out _).trans (hHeld.1)))))))))))))))), ((cell_far (p := ⟨c, _, none⟩) d.out _).trans (((cell_far (p := ⟨c, _, none⟩) d.out _).trans (((cell_far (p := ⟨c, _, none⟩) d.out _).trans (((cell_far (p := ⟨c, _, none⟩) d.out _).trans (((cell_far (p := ⟨c, _, none⟩) d.out _).trans (((cell_far (p := ⟨c, _, none⟩) d.out _).trans (((cell_far (p := ⟨c, _, none⟩) d.out _).trans (((cell_far (p := ⟨c, _, none⟩) d.out _).trans (hHeld.2.1)))))))))))))))), ((cell_far (p := ⟨c, _, none⟩) d.out _).trans (((cell_far (p := ⟨c, _, none⟩) d.out _).trans (((cell_far (p := ⟨c, _, none⟩) d.out _).trans (((cell_far (p := ⟨c, _, none⟩) d.out _).trans (((cell_far (p := ⟨c, _, none⟩) d.out _).trans (((cell_far (p := ⟨c, _, none⟩) d.out _).trans (((cell_far (p := ⟨c, _, none⟩) d.out _).trans (((cell_far (p := ⟨c, _, none⟩) d.out _).trans (hHeld.2.2.1)))))))))))))))), ((cell_far (p := ⟨c, _, none⟩) d.out _).trans (((cell_far (p := ⟨c, _, none⟩) d.out _).trans (((cell_far (p := ⟨c, _, none⟩) d.out _).trans (((cell_far (p := ⟨c, _, none⟩) d.out _).trans (((cell_far (p := ⟨c, _, none⟩) d.out _).trans (((cell_far (p := ⟨c, _, none⟩) d.out _).trans (((cell_far (p := ⟨c, _, none⟩) d.out _).trans (((cell_far (p := ⟨c, _, none⟩) d.out _).trans (hHeld.2.2.2.1)))))))))))))))), ((cell_far (p := ⟨c, _, none⟩) d.out _).trans (((cell_far (p := ⟨c, _, none⟩) d.out _).trans (((cell_far (p := ⟨c, _, none⟩) d.out _).trans (((cell_far (p := ⟨c, _, none⟩) d.out _).trans (((cell_far (p := ⟨c, _, none⟩) d.out _).trans (((cell_far (p := ⟨c, _, none⟩) d.out _).trans (((cell_far (p := ⟨c, _, none⟩) d.out _).trans (((cell_far (p := ⟨c, _, none⟩) d.out _).trans (hHeld.2.2.2.2.1)))))))))))))))), ((cell_far (p := ⟨c, _, none⟩) d.out _).trans (((cell_far (p := ⟨c, _, none⟩) d.out _).trans (((cell_far (p := ⟨c, _, none⟩) d.out _).trans (((cell_far (p := ⟨c, _, none⟩) d.out _).trans (((cell_far (p := ⟨c, _, none⟩) d.out _).trans (((cell_far (p := ⟨c, _, none⟩) d.out _).trans (((cell_far (p := ⟨c, _, none⟩) d.out _).trans (((cell_far (p := ⟨c, _, none⟩) d.out _).trans (hHeld.2.2.2.2.2.1)))))))))))))))), ((cell_far (p := ⟨c, _, none⟩) d.out _).trans (((cell_far (p := ⟨c, _, none⟩) d.out _).trans (((cell_far (p := ⟨c, _, none⟩) d.out _).trans (((cell_far (p := ⟨c, _, none⟩) d.out _).trans (((cell_far (p := ⟨c, _, none⟩) d.out _).trans (((cell_far (p := ⟨c, _, none⟩) d.out _).trans (((cell_far (p := ⟨c, _, none⟩) d.out _).trans (((cell_far (p := ⟨c, _, none⟩) d.out _).trans (hHeld.2.2.2.2.2.2.1)))))))))))))))), ((cell_far (p := ⟨c, _, none⟩) d.out _).trans (((cell_far (p := ⟨c, _, none⟩) d.out _).trans (((cell_far (p := ⟨c, _, none⟩) d.out _).trans (((cell_far (p := ⟨c, _, none⟩) d.out _).trans (((cell_far (p := ⟨c, _, none⟩) d.out _).trans (((cell_far (p := ⟨c, _, none⟩) d.out _).trans (((cell_far (p := ⟨c, _, none⟩) d.out _).trans (((cell_far (p := ⟨c, _, none⟩) d.out _).trans (hHeld.2.2.2.2.2.2.2))))))))))))))))⟩ (fun hHeld => ?_)
 clear hK K
 refine done_ dn_ ?_
 try go_wp2
 obtain ⟨w186, hq_⟩ : ∃ x, x = ((((((((w172.setCell ⟨c, 0, none⟩ (.int .i64 aE)).setCell ⟨c, 1, none⟩ (.slice bZ bT.length b0)).setCell ⟨c, 2, none⟩ (.slice b5 bV.length b6)).setCell ⟨c, 3, none⟩ (.slice cc b4.length cd)).setCell ⟨c, 4, none⟩ (.slice cp b9.length cq)).setCell ⟨c, 5, none⟩ (.slice cr cg.length ct)).setCell ⟨c, 6, none⟩ (.int .i64 bn)).setCell ⟨c, 7, none⟩ (.slice none 0 0)) := ⟨_, rfl⟩
 replace G : Aside0 (Kd.R (Kd.int .i64) 3 w186 w.heap.size (fun a => some a ≠ (.slice ah y.length ai : Value).ownBlock ∧ some a ≠ (.slice aj A.length ak : Value).ownBlock ∧ some a ≠ (.slice al B.length am : Value).ownBlock ∧ some a ≠ (.slice an E.length ao : Value).ownBlock) (.slice af u.length ag) u) := ⟨by subst hq_; refine vR_ ?_; exact rm_ (fR_ (fR_ (fR_ (fR_ (fR_ (fR_ (fR_ (fR_ (rt_ G.out q.out (by decide)))))))))) (fun _ hk => ⟨hk.1.1, ⟨hk.1.2.1, ⟨hk.1.2.2.1, hk.1.2.2.2⟩⟩⟩)⟩
 replace I : Aside0 (Kd.R (Kd.int .i64) 3 w186 w.heap.size (fun a => some a ≠ (.slice af u.length ag : Value).ownBlock ∧ some a ≠ (.slice aj A.length ak : Value).ownBlock ∧ some a ≠ (.slice al B.length am : Value).ownBlock ∧ some a ≠ (.slice an E.length ao : Value).ownBlock) (.slice ah y.length ai) y) := ⟨by subst hq_; refine vR_ ?_; exact rm_ (fR_ (fR_ (fR_ (fR_ (fR_ (fR_ (fR_ (fR_ (rt_ I.out q.out (by decide)))))))))) (fun _ hk => ⟨hk.1.1, ⟨hk.1.2.1, ⟨hk.1.2.2.1, hk.1.2.2.2⟩⟩⟩)⟩
 replace J : Aside0 (Kd.R (Kd.int .i64) 3 w186 w.heap.size (fun a => some a ≠ (.slice af u.length ag : Value).ownBlock ∧ some a ≠ (.slice ah y.length ai : Value).ownBlock ∧ some a ≠ (.slice al B.length am : Value).ownBlock ∧ some a ≠ (.slice an E.length ao : Value).ownBlock) (.slice aj A.length ak) A) := ⟨by subst hq_; refine vR_ ?_; exact rm_ (fR_ (fR_ (fR_ (fR_ (fR_ (fR_ (fR_ (fR_ (rt_ J.out q.out (by decide)))))))))) (fun _ hk => ⟨hk.1.1, ⟨hk.1.2.1, ⟨hk.1.2.2.1, hk.1.2.2.2⟩⟩⟩)⟩
 replace O : Aside0 (Kd.R (Kd.int .i64) 3 w186 w.heap.size (fun a => some a ≠ (.slice af u.length ag : Value).ownBlock ∧ some a ≠ (.slice ah y.length ai : Value).ownBlock ∧ some a ≠ (.slice aj A.length ak : Value).ownBlock ∧ some a ≠ (.slice an E.length ao : Value).ownBlock) (.slice al B.length am) B) := ⟨by subst hq_; refine vR_ ?_; exact rm_ (fR_ (fR_ (fR_ (fR_ (fR_ (fR_ (fR_ (fR_ (rt_ O.out q.out (by decide)))))))))) (fun _ hk => ⟨hk.1.1, ⟨hk.1.2.1, ⟨hk.1.2.2.1, hk.1.2.2.2⟩⟩⟩)⟩
 replace Q : Aside0 (Kd.R (Kd.int .i64) 3 w186 w.heap.size (fun a => some a ≠ (.slice af u.length ag : Value).ownBlock ∧ some a ≠ (.slice ah y.length ai : Value).ownBlock ∧ some a ≠ (.slice aj A.length ak : Value).ownBlock ∧ some a ≠ (.slice al B.length am : Value).ownBlock) (.slice an E.length ao) E) := ⟨by subst hq_; refine vR_ ?_; exact rm_ (fR_ (fR_ (fR_ (fR_ (fR_ (fR_ (fR_ (fR_ (rt_ Q.out q.out (by decide)))))))))) (fun _ hk => ⟨hk.1.1, ⟨hk.1.2.1, ⟨hk.1.2.2.1, hk.1.2.2.2⟩⟩⟩)⟩
 replace F : Aside0 (Kd.N (Kd.slice 3 (Kd.int .i64)) 30 w186 w.heap.size (fun a => some a ≠ (.slice af u.length ag : Value).ownBlock ∧ some a ≠ (.slice ah y.length ai : Value).ownBlock ∧ some a ≠ (.slice aj A.length ak : Value).ownBlock ∧ some a ≠ (.slice al B.length am : Value).ownBlock ∧ some a ≠ (.slice an E.length ao : Value).ownBlock ∧ some a ≠ aQ.ownBlock ∧ a ≠ z ∧ a ≠ X ∧ a ≠ c) (.slice az Y.length aA) Y) := ⟨by subst hq_; refine vN_ ?_; exact nm_ (fN_ (fN_ (fN_ (fN_ (fN_ (fN_ (fN_ (fN_ (nm_ F.out (fun a hk => (⟨hk, hk.2.2.2.2.2.2.2.2⟩ : _ ∧ a ≠ c))))))))))) (fun _ hk => ⟨hk.1.1, ⟨hk.1.2.1, ⟨hk.1.2.2.1, ⟨hk.1.2.2.2.1, ⟨hk.1.2.2.2.2.1, ⟨hk.1.2.2.2.2.2.1, ⟨hk.1.2.2.2.2.2.2.1, ⟨hk.1.2.2.2.2.2.2.2.1, hk.1.2.2.2.2.2.2.2.2⟩⟩⟩⟩⟩⟩⟩⟩)⟩
 replace U : Aside0 (Kd.N (Kd.slice 3 (Kd.int .i64)) 30 w186 w.heap.size (fun a => some a ≠ (.slice af u.length ag : Value).ownBlock ∧ some a ≠ (.slice ah y.length ai : Value).ownBlock ∧ some a ≠ (.slice aj A.length ak : Value).ownBlock ∧ some a ≠ (.slice al B.length am : Value).ownBlock ∧ some a ≠ (.slice an E.length ao : Value).ownBlock ∧ some a ≠ (.slice az Y.length aA : Value).ownBlock ∧ a ≠ z ∧ a ≠ X ∧ a ≠ c) aQ aa) := ⟨by subst hq_; refine vN_ ?_; exact nm_ (fN_ (fN_ (fN_ (fN_ (fN_ (fN_ (fN_ (fN_ (nm_ U.out (fun a hk => (⟨hk, hk.2.2.2.2.2.2.2.2⟩ : _ ∧ a ≠ c))))))))))) (fun _ hk => ⟨hk.1.1, ⟨hk.1.2.1, ⟨hk.1.2.2.1, ⟨hk.1.2.2.2.1, ⟨hk.1.2.2.2.2.1, ⟨hk.1.2.2.2.2.2.1, ⟨hk.1.2.2.2.2.2.2.1, ⟨hk.1.2.2.2.2.2.2.2.1, hk.1.2.2.2.2.2.2.2.2⟩⟩⟩⟩⟩⟩⟩⟩)⟩
 replace a3 : Aside0 (Kd.V (Kd.int .i64) 3 w186 w.heap.size (fun a => some a ≠ (.slice af u.length ag : Value).ownBlock ∧ some a ≠ (.slice ah y.length ai : Value).ownBlock ∧ some a ≠ (.slice aj A.length ak : Value).ownBlock ∧ some a ≠ (.slice al B.length am : Value).ownBlock ∧ some a ≠ (.slice an E.length ao : Value).ownBlock ∧ some a ≠ (.slice az Y.length aA : Value).ownBlock ∧ some a ≠ aQ.ownBlock ∧ a ≠ z ∧ a ≠ X ∧ a ≠ c) (.slice bZ bT.length b0) bT) := ⟨by subst hq_; refine vV_ ?_; exact vm_ (fV_ (fV_ (fV_ (fV_ (fV_ (fV_ (fV_ (fV_ (vm_ a3.out (fun a hk => (⟨hk, hk.2.2.2.2.2.2.2.2.2⟩ : _ ∧ a ≠ c))))))))))) (fun _ hk => ⟨hk.1.1, ⟨hk.1.2.1, ⟨hk.1.2.2.1, ⟨hk.1.2.2.2.1, ⟨hk.1.2.2.2.2.1, ⟨hk.1.2.2.2.2.2.1, ⟨hk.1.2.2.2.2.2.2.1, ⟨hk.1.2.2.2.2.2.2.2.1, ⟨hk.1.2.2.2.2.2.2.2.2.1, hk.1.2.2.2.2.2.2.2.2.2⟩⟩⟩⟩⟩⟩⟩⟩⟩)⟩
 replace bi : Aside0 (Kd.V (Kd.int .i64) 3 w186 w.heap.size (fun a => some a ≠ (.slice af u.length ag : Value).ownBlock ∧ some a ≠ (.slice ah y.length ai : Value).ownBlock ∧ some a ≠ (.slice aj A.length ak : Value).ownBlock ∧ some a ≠ (.slice al B.length am : Value).ownBlock ∧ some a ≠ (.slice an E.length ao : Value).ownBlock ∧ some a ≠ (.slice az Y.length aA : Value).ownBlock ∧ some a ≠ aQ.ownBlock ∧ a ≠ z ∧ a ≠ X ∧ a ≠ c) (.slice b5 bV.length b6) bV) := ⟨by subst hq_; refine vV_ ?_; exact vm_ (fV_ (fV_ (fV_ (fV_ (fV_ (fV_ (fV_ (fV_ (vm_ bi.out (fun a hk => (⟨hk, hk.2.2.2.2.2.2.2.2.2⟩ : _ ∧ a ≠ c))))))))))) (fun _ hk => ⟨hk.1.1, ⟨hk.1.2.1, ⟨hk.1.2.2.1, ⟨hk.1.2.2.2.1, ⟨hk.1.2.2.2.2.1, ⟨hk.1.2.2.2.2.2.1, ⟨hk.1.2.2.2.2.2.2.1, ⟨hk.1.2.2.2.2.2.2.2.1, ⟨hk.1.2.2.2.2.2.2.2.2.1, hk.1.2.2.2.2.2.2.2.2.2⟩⟩⟩⟩⟩⟩⟩⟩⟩)⟩
 replace bs : Aside0 (Kd.V (Kd.int .i64) 3 w186 w.heap.size (fun a => some a ≠ (.slice af u.length ag : Value).ownBlock ∧ some a ≠ (.slice ah y.length ai : Value).ownBlock ∧ some a ≠ (.slice aj A.length ak : Value).ownBlock ∧ some a ≠ (.slice al B.length am : Value).ownBlock ∧ some a ≠ (.slice an E.length ao : Value).ownBlock ∧ some a ≠ (.slice az Y.length aA : Value).ownBlock ∧ some a ≠ aQ.ownBlock ∧ a ≠ z ∧ a ≠ X ∧ a ≠ c) (.slice cc b4.length cd) b4) := ⟨by subst hq_; refine vV_ ?_; exact vm_ (fV_ (fV_ (fV_ (fV_ (fV_ (fV_ (fV_ (fV_ (vm_ bs.out (fun a hk => (⟨hk, hk.2.2.2.2.2.2.2.2.2⟩ : _ ∧ a ≠ c))))))))))) (fun _ hk => ⟨hk.1.1, ⟨hk.1.2.1, ⟨hk.1.2.2.1, ⟨hk.1.2.2.2.1, ⟨hk.1.2.2.2.2.1, ⟨hk.1.2.2.2.2.2.1, ⟨hk.1.2.2.2.2.2.2.1, ⟨hk.1.2.2.2.2.2.2.2.1, ⟨hk.1.2.2.2.2.2.2.2.2.1, hk.1.2.2.2.2.2.2.2.2.2⟩⟩⟩⟩⟩⟩⟩⟩⟩)⟩
 replace bC : Aside0 (Kd.V (Kd.int .i64) 3 w186 w.heap.size (fun a => some a ≠ (.slice af u.length ag : Value).ownBlock ∧ some a ≠ (.slice ah y.length ai : Value).ownBlock ∧ some a ≠ (.slice aj A.length ak : Value).ownBlock ∧ some a ≠ (.slice al B.length am : Value).ownBlock ∧ some a ≠ (.slice an E.length ao : Value).ownBlock ∧ some a ≠ (.slice az Y.length aA : Value).ownBlock ∧ some a ≠ aQ.ownBlock ∧ a ≠ z ∧ a ≠ X ∧ a ≠ c) (.slice cp b9.length cq) b9) := ⟨by subst hq_; refine vV_ ?_; exact vm_ (fV_ (fV_ (fV_ (fV_ (fV_ (fV_ (fV_ (fV_ (vm_ bC.out (fun a hk => (⟨hk, hk.2.2.2.2.2.2.2.2.2⟩ : _ ∧ a ≠ c))))))))))) (fun _ hk => ⟨hk.1.1, ⟨hk.1.2.1, ⟨hk.1.2.2.1, ⟨hk.1.2.2.2.1, ⟨hk.1.2.2.2.2.1, ⟨hk.1.2.2.2.2.2.1, ⟨hk.1.2.2.2.2.2.2.1, ⟨hk.1.2.2.2.2.2.2.2.1, ⟨hk.1.2.2.2.2.2.2.2.2.1, hk.1.2.2.2.2.2.2.2.2.2⟩⟩⟩⟩⟩⟩⟩⟩⟩)⟩
 replace bH : Aside0 (Kd.V (Kd.int .i64) 3 w186 w.heap.size (fun a => some a ≠ (.slice af u.length ag : Value).ownBlock ∧ some a ≠ (.slice ah y.length ai : Value).ownBlock ∧ some a ≠ (.slice aj A.length ak : Value).ownBlock ∧ some a ≠ (.slice al B.length am : Value).ownBlock ∧ some a ≠ (.slice an E.length ao : Value).ownBlock ∧ some a ≠ (.slice az Y.length aA : Value).ownBlock ∧ some a ≠ aQ.ownBlock ∧ a ≠ z ∧ a ≠ X ∧ a ≠ c) (.slice cr cg.length ct) cg) := ⟨by subst hq_; refine vV_ ?_; exact vm_ (fV_ (fV_ (fV_ (fV_ (fV_ (fV_ (fV_ (fV_ (vm_ bH.out (fun a hk => (⟨hk, hk.2.2.2.2.2.2.2.2.2⟩ : _ ∧ a ≠ c))))))))))) (fun _ hk => ⟨hk.1.1, ⟨hk.1.2.1, ⟨hk.1.2.2.1, ⟨hk.1.2.2.2.1, ⟨hk.1.2.2.2.2.1, ⟨hk.1.2.2.2.2.2.1, ⟨hk.1.2.2.2.2.2.2.1, ⟨hk.1.2.2.2.2.2.2.2.1, ⟨hk.1.2.2.2.2.2.2.2.2.1, hk.1.2.2.2.2.2.2.2.2.2⟩⟩⟩⟩⟩⟩⟩⟩⟩)⟩
 replace l : Aside0 (w186.heap[z]? = some (.cells #[.int .u8 aK, .slice bj av.length c0_1, .slice bk aw.length c0_2, .slice bl ax.length c0_3, .int .i16 aM, .int .u8 aN, .slice bm ay.length c0_6] 29 (0, 0))) := ⟨by subst hq_; refine bk_ ?_; refine blk_far ?_ W.out _; refine bk_ ?_; refine blk_far ?_ W.out _; refine bk_ ?_; refine blk_far ?_ W.out _; refine bk_ ?_; refine blk_far ?_ W.out _; refine bk_ ?_; refine blk_far ?_ W.out _; refine bk_ ?_; refine blk_far ?_ W.out _; refine bk_ ?_; refine blk_far ?_ W.out _; refine bk_ ?_; refine blk_far ?_ W.out _; refine bk_ ?_; exact l.out⟩
 replace s : Aside0 (w186.heap[X]? = some (.cells #[.int .i64 aE, .slice bJ bw.length c1_1, .slice bK bx.length c1_2, .slice bL bz.length c1_3, .slice bM bA.length c1_4, .slice bN bB.length c1_5, .int .i64 bn, .slice bP bD.length c1_7] 32 (0, 0))) := ⟨by subst hq_; refine bk_ ?_; refine blk_far ?_ d.out _; refine bk_ ?_; refine blk_far ?_ d.out _; refine bk_ ?_; refine blk_far ?_ d.out _; refine bk_ ?_; refine blk_far ?_ d.out _; refine bk_ ?_; refine blk_far ?_ d.out _; refine bk_ ?_; refine blk_far ?_ d.out _; refine bk_ ?_; refine blk_far ?_ d.out _; refine bk_ ?_; refine blk_far ?_ d.out _; refine bk_ ?_; exact s.out⟩
 replace q : Aside0 (w186.heap[c]? = some (.cells #[.int .i64 aE, .slice bZ bT.length b0, .slice b5 bV.length b6, .slice cc b4.length cd, .slice cp b9.length cq, .slice cr cg.length ct, .int .i64 bn, .slice none 0 0] 32 (0, 0))) := ⟨by subst hq_; refine bk_ ?_; refine bu_ (cs := #[.int .i64 aE, .slice bZ bT.length b0, .slice b5 bV.length b6, .slice cc b4.length cd, .slice cp b9.length cq, .slice cr cg.length ct, .int .i64 bn, .slice az Y.length aA]) ?_ 7 _ rfl; refine bk_ ?_; refine bu_ (cs := #[.int .i64 aE, .slice bZ bT.length b0, .slice b5 bV.length b6, .slice cc b4.length cd, .slice cp b9.length cq, .slice cr cg.length ct, .int .i64 ac, .slice az Y.length aA]) ?_ 6 _ rfl; refine bk_ ?_; refine bu_ (cs := #[.int .i64 aE, .slice bZ bT.length b0, .slice b5 bV.length b6, .slice cc b4.length cd, .slice cp b9.length cq, .slice an E.length ao, .int .i64 ac, .slice az Y.length aA]) ?_ 5 _ rfl; refine bk_ ?_; refine bu_ (cs := #[.int .i64 aE, .slice bZ bT.length b0, .slice b5 bV.length b6, .slice cc b4.length cd, .slice al B.length am, .slice an E.length ao, .int .i64 ac, .slice az Y.length aA]) ?_ 4 _ rfl; refine bk_ ?_; refine bu_ (cs := #[.int .i64 aE, .slice bZ bT.length b0, .slice b5 bV.length b6, .slice aj A.length ak, .slice al B.length am, .slice an E.length ao, .int .i64 ac, .slice az Y.length aA]) ?_ 3 _ rfl; refine bk_ ?_; refine bu_ (cs := #[.int .i64 aE, .slice bZ bT.length b0, .slice ah y.length ai, .slice aj A.length ak, .slice al B.length am, .slice an E.length ao, .int .i64 ac, .slice az Y.length aA]) ?_ 2 _ rfl; refine bk_ ?_; refine bu_ (cs := #[.int .i64 aE, .slice af u.length ag, .slice ah y.length ai, .slice aj A.length ak, .slice al B.length am, .slice an E.length ao, .int .i64 ac, .slice az Y.length aA]) ?_ 1 _ rfl; refine bk_ ?_; refine bu_ (cs := #[.int .i64 Z, .slice af u.length ag, .slice ah y.length ai, .slice aj A.length ak, .slice al B.length am, .slice an E.length ao, .int .i64 ac, .slice az Y.length aA]) ?_ 0 _ rfl; refine bk_ ?_; exact q.out⟩
 replace HB : Aside0 (Below w.heap.size w w186) := ⟨by subst hq_; exact bel_⟩
 rw [← hq_]
 clear hq_
 replace G := a_ (Kd.R_drew G.out)
 replace I := a_ (Kd.R_drew I.out)
 replace J := a_ (Kd.R_drew J.out)
 replace O := a_ (Kd.R_drew O.out)
 replace Q := a_ (Kd.R_drew Q.out)
 replace F := a_ (Kd.N_drew F.out)
 replace U := a_ (Kd.N_drew U.out)
 replace a3 := a_ (Kd.V_drew a3.out)
 replace bi := a_ (Kd.V_drew bi.out)
 replace bs := a_ (Kd.V_drew bs.out)
 replace bC := a_ (Kd.V_drew bC.out)
 replace bH := a_ (Kd.V_drew bH.out)
 replace l := a_ (blk_drew l.out)
 replace s := a_ (blk_drew s.out)
 replace q := a_ (blk_drew q.out)
 replace HB := a_ (below_drew1 HB.out)
 obtain ⟨ce, cf, fv⟩ := Kd.N_slice U.out
 (first | subst fv | (injection fv with f1_ f2_ f3_; have f4_ := f1_.symm; have f5_ := f3_.symm; clear f1_ f2_ f3_; subst f4_; subst f5_))
 refine start_ (n := 9) (S := fun w' => w'.cell? ⟨c, 0, none⟩ = some (.int .i64 aE) ∧ w'.cell? ⟨c, 1, none⟩ = some (.slice bZ bT.length b0) ∧ w'.cell? ⟨c, 2, none⟩ = some (.slice b5 bV.length b6) ∧ w'.cell? ⟨c, 3, none⟩ = some (.slice cc b4.length cd) ∧ w'.cell? ⟨c, 4, none⟩ = some (.slice cp b9.length cq) ∧ w'.cell? ⟨c, 5, none⟩ = some (.slice cr cg.length ct) ∧ w'.cell? ⟨c, 6, none⟩ = some (.int .i64 bn) ∧ w'.cell? ⟨c, 7, none⟩ = some (.slice none 0 0)) (ds := []) #[false, false, false, false, false, false, false, false, false] kr_ rfl rfl (ca8_ q.out) (fun hHeld => ?_); refine with_tabW jigsawlaw22_InverseRefuses.tab12 jigsawlaw22_InverseRefuses.bits12 (fun HT_ HW_ => ?_)
 generalize w186.drew = w187 at G I J O Q F U a3 bi bs bC bH l s q HB hHeld ⊢
 refine pn_ 1 70 ao_ ?_
 refine tn_ 0 69 tw_ hHeld ?_
 refine onn_ 2 71 #[true, true, true, false, false, false, false, false, false] rfl rfl on_ (by decide) (fun K hK => ?_)
 refine goes_ Tryz.func11 kr_ rfl #[.slice ce aa.length cf] (by rfl) rfl rfl ar_ ?_
 with_reducible refine (jigsawlaw22_doms.calls k _ _ aa eC _ ?_ ?_ ?_ g9.out).mono ?_
 exact ca_ ((Kd.N_reads' U.out).2.2)
 exact (Kd.N_reads' U.out).2.1
 exact ca_ ((cb_ HRtab.out HB.out))
 rintro e w189 ⟨jy, rfl, ab, hb⟩
 refine ⟨_, rfl, ?_⟩
 replace a3 := a_ (Kd.V_elder' (vV_ a3.out) (Kd.N_base ab) hb)
 replace bi := a_ (Kd.V_elder' (vV_ bi.out) (Kd.N_base ab) hb)
 replace bs := a_ (Kd.V_elder' (vV_ bs.out) (Kd.N_base ab) hb)
 replace bC := a_ (Kd.V_elder' (vV_ bC.out) (Kd.N_base ab) hb)
 replace bH := a_ (Kd.V_elder' (vV_ bH.out) (Kd.N_base ab) hb)
 have fw := a_ (Kd.N_lower (nm_ (ok' := fun a => some a ≠ (.slice af u.length ag : Value).ownBlock ∧ some a ≠ (.slice ah y.length ai : Value).ownBlock ∧ some a ≠ (.slice aj A.length ak : Value).ownBlock ∧ some a ≠ (.slice al B.length am : Value).ownBlock ∧ some a ≠ (.slice an E.length ao : Value).ownBlock ∧ some a ≠ (.slice az Y.length aA : Value).ownBlock ∧ some a ≠ (.slice ce aa.length cf : Value).ownBlock ∧ a ≠ z ∧ a ≠ X ∧ a ≠ c) ab (fun a hk_ => ⟨(fr_ (rl_ (vR_ G.out)) a hk_), (fr_ (rl_ (vR_ I.out)) a hk_), (fr_ (rl_ (vR_ J.out)) a hk_), (fr_ (rl_ (vR_ O.out)) a hk_), (fr_ (rl_ (vR_ Q.out)) a hk_), (fr_ (Kd.N_lt (vN_ F.out)) a hk_), (fr_ (Kd.N_lt (vN_ U.out)) a hk_), (Kd.freshB (bk_ l.out) a hk_), (Kd.freshB (bk_ s.out) a hk_), (Kd.freshB (bk_ q.out) a hk_)⟩)) (bz_ bel_))
 replace G := a_ (rb_ (vR_ G.out) hb)
 replace I := a_ (rb_ (vR_ I.out) hb)
 replace J := a_ (rb_ (vR_ J.out) hb)
 replace O := a_ (rb_ (vR_ O.out) hb)
 replace Q := a_ (rb_ (vR_ Q.out) hb)
 replace F := a_ (Kd.N_elder' (vN_ F.out) (Kd.N_base ab) hb)
 replace U := a_ (Kd.N_elder' (vN_ U.out) (Kd.N_base ab) hb)
 replace l := a_ (bq_ l.out hb)
 replace s := a_ (bq_ s.out hb)
 replace q := a_ (bq_ q.out hb)
 replace HB := hq_ hb
 clear hb ab
 obtain ⟨gn, go, fx⟩ := Kd.N_slice fw.out
 (first | subst fx | (injection fx with f1_ f2_ f3_; have f4_ := f1_.symm; have f5_ := f3_.symm; clear f1_ f2_ f3_; subst f4_; subst f5_))
 refine hK.out _ _ (ca8_ q.out) (fun hHeld => ?_)
 clear hK K
 refine nor_ (N := some 71) ?_
 refine onn_ 3 72 #[true, true, true, true, false, false, false, false, false] rfl rfl on_ (by decide) (fun K hK => ?_)
 refine goes_ Tryz.func10 kr_ rfl #[.agg #[.int .i64 aE, .slice bZ bT.length b0, .slice b5 bV.length b6, .slice cc b4.length cd, .slice cp b9.length cq, .slice cr cg.length ct, .int .i64 bn, .slice none 0 0], .slice gn eC.length go] (by rfl) rfl rfl ar_ ?_
 refine (inverse_Filter.calls k aE _ _ bT _ _ bV _ _ b4 _ _ b9 _ _ cg bn _ _ ([] : List (List Int)) (fun a => (some a ≠ (.slice af u.length ag : Value).ownBlock ∧ (some a ≠ (.slice ah y.length ai : Value).ownBlock ∧ (some a ≠ (.slice aj A.length ak : Value).ownBlock ∧ (some a ≠ (.slice al B.length am : Value).ownBlock ∧ (some a ≠ (.slice an E.length ao : Value).ownBlock ∧ (some a ≠ (.slice az Y.length aA : Value).ownBlock ∧ (some a ≠ (.slice ce aa.length cf : Value).ownBlock ∧ (a ≠ z ∧ (a ≠ X ∧ a ≠ c)))))))))) _ _ eC dN dO _ ?side1 ?side2 ?side3 ?side4 ?side5 ?side6 ?side7 ?side8 ?side9 ?side10 ?side11 ?side12 ?side13 ?side14 ha.out).mono ?_
 (case side1 => exact ca_ ((Kd.V_reads' a3.out).2.2))
 (case side2 => exact (Kd.V_reads' a3.out).2.1)
 (case side3 => exact ca_ ((Kd.V_reads' bi.out).2.2))
 (case side4 => exact (Kd.V_reads' bi.out).2.1)
 (case side5 => exact ca_ ((Kd.V_reads' bs.out).2.2))
 (case side6 => exact (Kd.V_reads' bs.out).2.1)
 (case side7 => exact ca_ ((Kd.V_reads' bC.out).2.2))
 (case side8 => exact (Kd.V_reads' bC.out).2.1)
 (case side9 => exact ca_ ((Kd.V_reads' bH.out).2.2))
 (case side10 => exact (Kd.V_reads' bH.out).2.1)
 (case side11 => exact Kd.C_nil _ _)
 (case side12 => exact lr_ _)
 (case side13 => exact Kd.N_V (fw.out))
 (case side14 => exact ca_ ((cb_ HRtab.out HB.out)))
 rintro e w191 ⟨cP, rfl, ab, hb⟩
 refine ⟨_, rfl, ?_⟩
 replace a3 := a_ (Kd.V_elder' (vV_ a3.out) (Kd.N_base ab) hb)
 replace bi := a_ (Kd.V_elder' (vV_ bi.out) (Kd.N_base ab) hb)
 replace bs := a_ (Kd.V_elder' (vV_ bs.out) (Kd.N_base ab) hb)
 replace bC := a_ (Kd.V_elder' (vV_ bC.out) (Kd.N_base ab) hb)
 replace bH := a_ (Kd.V_elder' (vV_ bH.out) (Kd.N_base ab) hb)
 have ec := a_ (Kd.N_lower (nm_ (ok' := fun a => some a ≠ (.slice af u.length ag : Value).ownBlock ∧ some a ≠ (.slice ah y.length ai : Value).ownBlock ∧ some a ≠ (.slice aj A.length ak : Value).ownBlock ∧ some a ≠ (.slice al B.length am : Value).ownBlock ∧ some a ≠ (.slice an E.length ao : Value).ownBlock ∧ some a ≠ (.slice az Y.length aA : Value).ownBlock ∧ some a ≠ (.slice ce aa.length cf : Value).ownBlock ∧ a ≠ z ∧ a ≠ X ∧ a ≠ c) ab (fun a hk_ => ⟨Or.elim hk_ (fun hs_ => hs_.1) (fun hn_ => (fr_ (rl_ (vR_ G.out)) a hn_)), Or.elim hk_ (fun hs_ => hs_.2.1) (fun hn_ => (fr_ (rl_ (vR_ I.out)) a hn_)), Or.elim hk_ (fun hs_ => hs_.2.2.1) (fun hn_ => (fr_ (rl_ (vR_ J.out)) a hn_)), Or.elim hk_ (fun hs_ => hs_.2.2.2.1) (fun hn_ => (fr_ (rl_ (vR_ O.out)) a hn_)), Or.elim hk_ (fun hs_ => hs_.2.2.2.2.1) (fun hn_ => (fr_ (rl_ (vR_ Q.out)) a hn_)), Or.elim hk_ (fun hs_ => hs_.2.2.2.2.2.1) (fun hn_ => (fr_ (Kd.N_lt (vN_ F.out)) a hn_)), Or.elim hk_ (fun hs_ => hs_.2.2.2.2.2.2.1) (fun hn_ => (fr_ (Kd.N_lt (vN_ U.out)) a hn_)), Or.elim hk_ (fun hs_ => hs_.2.2.2.2.2.2.2.1) (fun hn_ => (Kd.freshB (bk_ l.out) a hn_)), Or.elim hk_ (fun hs_ => hs_.2.2.2.2.2.2.2.2.1) (fun hn_ => (Kd.freshB (bk_ s.out) a hn_)), Or.elim hk_ (fun hs_ => hs_.2.2.2.2.2.2.2.2.2) (fun hn_ => (Kd.freshB (bk_ q.out) a hn_))⟩)) (bz_ bel_))
 replace G := a_ (rb_ (vR_ G.out) hb)
 replace I := a_ (rb_ (vR_ I.out) hb)
 replace J := a_ (rb_ (vR_ J.out) hb)
 replace O := a_ (rb_ (vR_ O.out) hb)
 replace Q := a_ (rb_ (vR_ Q.out) hb)
 replace F := a_ (Kd.N_elder' (vN_ F.out) (Kd.N_base ab) hb)
 replace U := a_ (Kd.N_elder' (vN_ U.out) (Kd.N_base ab) hb)
 replace l := a_ (bq_ l.out hb)
 replace s := a_ (bq_ s.out hb)
 replace q := a_ (bq_ q.out hb)
 replace HB := hq_ hb
 clear hb ab
 refine hK.out _ _ (ca8_ q.out) (fun hHeld => ?_)
 clear hK K
 refine nor_ (N := some 72) ?_
 refine pn_ 4 68 ao_ ?_
 refine pn_ 5 73 ao_ ?_
 refine pn_ 6 74 ao_ ?_
 refine pn_ 7 10 ao_ ?_
 refine pn_ 8 11 ao_ ?_
 refine done_ dn_ ?_
 go_upto_region 13 with (fail)
 go_cut [77] (fun da wc => ∃ (kq : Nat) (cK : Bool), da = .bool cK ∧ Aside0 (jigsawlaw22_InverseRefuses.j3 kq aa dN dO cK = some r) ∧ Aside0 (kq ≤ k) ∧ Aside0 (Kd.N (Kd.slice 3 (Kd.int .i64)) 30 wc w.heap.size (fun a => some a ≠ cP.ownBlock ∧ a ≠ z ∧ a ≠ X ∧ a ≠ c) (.slice ce aa.length cf) aa) ∧ Aside0 (Kd.N k58 58 wc w.heap.size (fun a => some a ≠ ((.slice ce aa.length cf) : Value).ownBlock ∧ a ≠ z ∧ a ≠ X ∧ a ≠ c) cP dN) ∧ Aside0 (Kd.V (Kd.int .i64) 3 wc w.heap.size (fun a => some a ≠ ((.slice ce aa.length cf) : Value).ownBlock ∧ some a ≠ cP.ownBlock ∧ a ≠ z ∧ a ≠ X ∧ a ≠ c) (.slice bZ bT.length b0) bT) ∧ Aside0 (Kd.V (Kd.int .i64) 3 wc w.heap.size (fun a => some a ≠ ((.slice ce aa.length cf) : Value).ownBlock ∧ some a ≠ cP.ownBlock ∧ a ≠ z ∧ a ≠ X ∧ a ≠ c) (.slice b5 bV.length b6) bV) ∧ Aside0 (Kd.V (Kd.int .i64) 3 wc w.heap.size (fun a => some a ≠ ((.slice ce aa.length cf) : Value).ownBlock ∧ some a ≠ cP.ownBlock ∧ a ≠ z ∧ a ≠ X ∧ a ≠ c) (.slice cc b4.length cd) b4) ∧ Aside0 (Kd.V (Kd.int .i64) 3 wc w.heap.size (fun a => some a ≠ ((.slice ce aa.length cf) : Value).ownBlock ∧ some a ≠ cP.ownBlock ∧ a ≠ z ∧ a ≠ X ∧ a ≠ c) (.slice cp b9.length cq) b9) ∧ Aside0 (Kd.V (Kd.int .i64) 3 wc w.heap.size (fun a => some a ≠ ((.slice ce aa.length cf) : Value).ownBlock ∧ some a ≠ cP.ownBlock ∧ a ≠ z ∧ a ≠ X ∧ a ≠ c) (.slice cr cg.length ct) cg) ∧ Aside0 (wc.heap[z]? = some (.cells #[.int .u8 aK, (.slice bj av.length c0_1), (.slice bk aw.length c0_2), (.slice bl ax.length c0_3), .int .i16 aM, .int .u8 aN, (.slice bm ay.length c0_6)] 29 (0, 0))) ∧ Aside0 (wc.heap[X]? = some (.cells #[.int .i64 aE, (.slice bJ bw.length c1_1), (.slice bK bx.length c1_2), (.slice bL bz.length c1_3), (.slice bM bA.length c1_4), (.slice bN bB.length c1_5), .int .i64 bn, (.slice bP bD.length c1_7)] 32 (0, 0))) ∧ Aside0 (wc.heap[c]? = some (.cells #[.int .i64 aE, (.slice bZ bT.length b0), (.slice b5 bV.length b6), (.slice cc b4.length cd), (.slice cp b9.length cq), (.slice cr cg.length ct), .int .i64 bn, (.slice none 0 0)] 32 (0, 0))) ∧ Aside0 (Below w.heap.size w wc))
 case first =>
  have H := eb.out
  clear eb
  replace H := bo_ H
  obtain ⟨fO, hy, H⟩ := H
  try dsimp only at H
  have H' := a_ H
  clear H
  have ie := ad.out
  have ig := W.out
  have ih := ae.out
  have ii := d.out
  obtain ⟨_, _, _, _, _, _, _, _, _, _, _, _, _, _, _, _⟩ := cel8_ q.out
  go_wp2_with (first | ((with_reducible refine gate_callee (f := 17) rfl ?_); refine goesL_ (some 77) rfl rfl Tryz.func17 kr_ rfl #[.agg #[.int .i64 aE, .slice bZ bT.length b0, .slice b5 bV.length b6, .slice cc b4.length cd, .slice cp b9.length cq, .slice cr cg.length ct, .int .i64 bn, .slice none 0 0], .slice ce aa.length cf, .int .i64 23, .int .i64 23] rfl ar_ ?_; (refine (jigsawref10_Fits.calls k aE _ _ bT _ _ bV _ _ b4 _ _ b9 _ _ cg bn _ _ ([] : List (List Int)) _ _ aa 23 23 fO _ ?side1 ?side2 ?side3 ?side4 ?side5 ?side6 ?side7 ?side8 ?side9 ?side10 ?side11 ?side12 ?side13 ?side14 hy.out).mono ?_); (case side1 => exact ca_ ((Kd.V_reads' a3.out).2.2)); (case side2 => exact (Kd.V_reads' a3.out).2.1); (case side3 => exact ca_ ((Kd.V_reads' bi.out).2.2)); (case side4 => exact (Kd.V_reads' bi.out).2.1); (case side5 => exact ca_ ((Kd.V_reads' bs.out).2.2)); (case side6 => exact (Kd.V_reads' bs.out).2.1); (case side7 => exact ca_ ((Kd.V_reads' bC.out).2.2)); (case side8 => exact (Kd.V_reads' bC.out).2.1); (case side9 => exact ca_ ((Kd.V_reads' bH.out).2.2)); (case side10 => exact (Kd.V_reads' bH.out).2.1); (case side11 => exact Kd.C_nil _ _); (case side12 => exact lr_ _); (case side13 => exact ca_ ((Kd.N_reads' U.out).2.2)); (case side14 => exact (Kd.N_reads' U.out).2.1); rintro e w196 ⟨rfl, hb⟩; refine ⟨_, rfl, ?_⟩; replace U := a_ (Kd.N_below (vN_ U.out) hb); replace a3 := a_ (vb_ (vV_ a3.out) hb); replace bi := a_ (vb_ (vV_ bi.out) hb); replace bs := a_ (vb_ (vV_ bs.out) hb); replace bC := a_ (vb_ (vV_ bC.out) hb); replace bH := a_ (vb_ (vV_ bH.out) hb); replace ec := a_ (Kd.N_below (vN_ ec.out) hb); replace l := a_ (bq_ l.out hb); replace s := a_ (bq_ s.out hb); replace q := a_ (bq_ q.out hb); replace HB := hq_ hb; clear hb))
  go_meet
  exact ⟨_, (fO), eq_, H', ⟨by first | omega | exact lr_ _⟩, ⟨by refine vN_ ?_; exact nm_ U.out (fun _ hk => ⟨hk.2, ⟨hk.1.1.2.2.2.2.2.2.1, ⟨hk.1.1.2.2.2.2.2.2.2.1, hk.1.1.2.2.2.2.2.2.2.2⟩⟩⟩)⟩, ⟨by refine vN_ ?_; exact nm_ ec.out (fun _ hk => ⟨hk.2.2.2.2.2.2.1, ⟨hk.2.2.2.2.2.2.2.1, ⟨hk.2.2.2.2.2.2.2.2.1, hk.2.2.2.2.2.2.2.2.2⟩⟩⟩)⟩, ⟨by refine vV_ ?_; exact vm_ a3.out (fun _ hk => ⟨hk.1.1.2.2.2.2.2.2.1, ⟨hk.2, ⟨hk.1.1.2.2.2.2.2.2.2.1, ⟨hk.1.1.2.2.2.2.2.2.2.2.1, hk.1.1.2.2.2.2.2.2.2.2.2⟩⟩⟩⟩)⟩, ⟨by refine vV_ ?_; exact vm_ bi.out (fun _ hk => ⟨hk.1.1.2.2.2.2.2.2.1, ⟨hk.2, ⟨hk.1.1.2.2.2.2.2.2.2.1, ⟨hk.1.1.2.2.2.2.2.2.2.2.1, hk.1.1.2.2.2.2.2.2.2.2.2⟩⟩⟩⟩)⟩, ⟨by refine vV_ ?_; exact vm_ bs.out (fun _ hk => ⟨hk.1.1.2.2.2.2.2.2.1, ⟨hk.2, ⟨hk.1.1.2.2.2.2.2.2.2.1, ⟨hk.1.1.2.2.2.2.2.2.2.2.1, hk.1.1.2.2.2.2.2.2.2.2.2⟩⟩⟩⟩)⟩, ⟨by refine vV_ ?_; exact vm_ bC.out (fun _ hk => ⟨hk.1.1.2.2.2.2.2.2.1, ⟨hk.2, ⟨hk.1.1.2.2.2.2.2.2.2.1, ⟨hk.1.1.2.2.2.2.2.2.2.2.1, hk.1.1.2.2.2.2.2.2.2.2.2⟩⟩⟩⟩)⟩, ⟨by refine vV_ ?_; exact vm_ bH.out (fun _ hk => ⟨hk.1.1.2.2.2.2.2.2.1, ⟨hk.2, ⟨hk.1.1.2.2.2.2.2.2.2.1, ⟨hk.1.1.2.2.2.2.2.2.2.2.1, hk.1.1.2.2.2.2.2.2.2.2.2⟩⟩⟩⟩)⟩, ⟨bk_ l.out⟩, ⟨bk_ s.out⟩, ⟨bk_ q.out⟩, ⟨bel_⟩⟩
 clear eb
 try clear c1
 try clear p2
 try clear c10
 try clear c11
 try clear c16
 try clear c17
 try clear c19
 try clear c193
 try clear c194
 obtain ⟨kq, cK, rfl, HA, i2, HO_8, HO_10, HO_625001, HO_625002, HO_625003, HO_625004, HO_625005, l, s, q, HB⟩ := hcut
 cases kq with
 | zero => exact absurd HA.out (by simp [jigsawlaw22_InverseRefuses.j3])
 | succ kj149 =>
  have H := HA.out
  clear HA
  simp only [jigsawlaw22_InverseRefuses.j3] at H
  by_cases c197 : cK = true
  rotate_left
  ·
   replace c197 := bf_.mpr c197
   subst c197
   have H1 : ((jigsawlaw22_wakes.f kj149).bind fun eD => (if eD = true then (if dO = true then (none) else (some ((dN.length : Int) == 0))) else (none))) = some r := by rw [ig_ (show ¬ (false = true) by decide)] at H; exact H
   clear H
   have H := H1
   clear H1
   replace H := bo_ H
   obtain ⟨eD, hA, H⟩ := H
   try dsimp only at H
   by_cases c205 : eD = true
   rotate_left
   ·
    replace c205 := bf_.mpr c205
    subst c205
    have H1 : (none) = some r := by rw [ig_ (show ¬ (false = true) by decide)] at H; exact H
    clear H
    have H := H1
    clear H1
    exact ab_ H
   subst c205
   rw [ip_ rfl] at H
   by_cases c206 : dO = true
   ·
    subst c206
    rw [ip_ rfl] at H
    exact ab_ H
   replace c206 := bf_.mpr c206
   subst c206
   have H1 : (some ((dN.length : Int) == 0)) = some r := by rw [ig_ (show ¬ (false = true) by decide)] at H; exact H
   clear H
   have H := H1
   clear H1
   obtain rfl := si_ H
   go_wp2_with (first | ((with_reducible refine gate_callee (f := 13) rfl ?_); refine goesL_ (some 90) rfl rfl Tryz.func13 kr_ rfl #[] rfl ar_ ?_; (with_reducible refine (jigsawlaw22_wakes.calls kj149 true _ ?_ hA.out).mono ?_); exact ca_ ((cb_ HRtab.out HB.out)); rintro e w207 ⟨rfl, hb⟩; refine ⟨_, rfl, ?_⟩; replace HO_10 := a_ (Kd.N_below (vN_ HO_10.out) hb); replace HB := hq_ hb; clear hb; obtain ⟨i5, i6, gq⟩ := Kd.N_slice HO_10.out; subst gq))
   go_ret
   exact ⟨er_, bel_⟩
  subst c197
  rw [ip_ rfl] at H
  replace H := bo_ H
  obtain ⟨hz, fP, H⟩ := H
  try dsimp only at H
  by_cases c199 : hz = true
  rotate_left
  ·
   replace c199 := bf_.mpr c199
   subst c199
   have H1 : (none) = some r := by rw [ig_ (show ¬ (false = true) by decide)] at H; exact H
   clear H
   have H := H1
   clear H1
   exact ab_ H
  subst c199
  rw [ip_ rfl] at H
  by_cases c200 : dO = true
  ·
   subst c200
   rw [ip_ rfl] at H
   obtain rfl := si_ H
   go_wp2_with (first | ((with_reducible refine gate_callee (f := 13) rfl ?_); refine goesL_ (some 78) rfl rfl Tryz.func13 kr_ rfl #[] rfl ar_ ?_; (with_reducible refine (jigsawlaw22_wakes.calls kj149 true _ ?_ fP.out).mono ?_); exact ca_ ((cb_ HRtab.out HB.out)); rintro e w201 ⟨rfl, hb⟩; refine ⟨_, rfl, ?_⟩; replace HO_10 := a_ (Kd.N_below (vN_ HO_10.out) hb); replace HB := hq_ hb; clear hb; obtain ⟨i3, i4, gp⟩ := Kd.N_slice HO_10.out; subst gp))
   go_ret
   exact ⟨er_, bel_⟩
  replace c200 := bf_.mpr c200
  subst c200
  have H1 : (some true) = some r := by rw [ig_ (show ¬ (false = true) by decide)] at H; exact H
  clear H
  have H := H1
  clear H1
  obtain rfl := si_ H
  go_wp2_with (first | ((with_reducible refine gate_callee (f := 13) rfl ?_); refine goesL_ (some 78) rfl rfl Tryz.func13 kr_ rfl #[] rfl ar_ ?_; (with_reducible refine (jigsawlaw22_wakes.calls kj149 true _ ?_ fP.out).mono ?_); exact ca_ ((cb_ HRtab.out HB.out)); rintro e w203 ⟨rfl, hb⟩; refine ⟨_, rfl, ?_⟩; replace HB := hq_ hb; clear hb))
  go_ret
  exact ⟨er_, bel_⟩

end Go.Proofs.YtfbfalhdgmjdpaaGreatDoor.XInverseRefuses
