-- by xprint.py, a program of this session, over the kit's print
import Derived.Test.YtiofjnhmogeenaaGreatDoorXEFix0
import Derived.Test.YtiofjnhmogeenaaGreatDoorXEFix8
import Derived.Test.YtiofjnhmogeenaaGreatDoorXEFix11
import Derived.Test.YtiofjnhmogeenaaGreatDoorXEFix15
import Derived.Test.YtiofjnhmogeenaaGreatDoorXEFix21
import Derived.Test.YtiofjnhmogeenaaGreatDoorSq
namespace Go.Proofs.YtiofjnhmogeenaaGreatDoor.XExtFilters
open Go.RowKit Go.Proofs.YtiofjnhmogeenaaGreatDoor.Sq Go.Proofs.YtiofjnhmogeenaaGreatDoorW.PrintWords Go.Proofs.YtiofjnhmogeenaaGreatDoorW.PrintLast Go.Proofs.YtiofjnhmogeenaaGreatDoorW.PrintMore
attribute [local go_sem] max2_int min2_int max_two min_two max_three min_three max_four min_four   -- for this text's walks alone
set_option linter.unusedVariables false
set_option linter.unusedSimpArgs false

/-! ### slices_Equal_int_int: function 41 -/
def slices_Equal_int_int.l0 : Nat → List Int → List Int → Int → Int → Option (Bool)
 | 0, _, _, _, _ => none
 | k + 1, c, d, b, a => if a < b then (if 0 ≤ a then (if a < (c.length : Int) then (if a < (d.length : Int) then (if (rd c a) = (rd d a) then (slices_Equal_int_int.l0 k c d b (wrap64 (a + 1))) else (none)) else (none)) else (none)) else (none)) else (some true)
def slices_Equal_int_int.f (k : Nat) (a : List Int) (b : List Int) : Option (Bool) := if (a.length : Int) = (b.length : Int) then (slices_Equal_int_int.l0 k a b (a.length : Int) 0) else (none)
theorem slices_Equal_int_int.mono_l : ∀ k, (∀ a b c d, LeO (slices_Equal_int_int.l0 k a b c d) (slices_Equal_int_int.l0 (k + 1) a b c d))
 | 0 => fun _ _ _ _ r h => by simp [slices_Equal_int_int.l0] at h
 | k + 1 => by
  have ih0 := slices_Equal_int_int.mono_l k
  ·
   intro a b c d
   unfold slices_Equal_int_int.l0
   exact leo_
theorem slices_Equal_int_int.mono : ∀ a b k, LeO (slices_Equal_int_int.f k a b) (slices_Equal_int_int.f (k + 1) a b) := by
 intro a b k
 have ih0 := slices_Equal_int_int.mono_l k
 unfold slices_Equal_int_int.f
 exact leo_
set_option maxHeartbeats 8000000 in
set_option maxRecDepth 100000 in
theorem slices_Equal_int_int.calls (k : Nat) (v : Option Addr) (c0 : Nat) (b : List Int) (x : Option Addr) (c1 : Nat) (c : List Int) (r : Bool) (w : World) (l : Kd.C (Kd.int .i64) w v b.length b) (m : b.length ≤ c0) (n : Kd.C (Kd.int .i64) w x c.length c) (o : c.length ≤ c1) (h : slices_Equal_int_int.f k b c = some r) :
  Calls Tryz.prog 41 #[.slice v b.length c0, .slice x c.length c1] w fun e w' => e = .returned (.bool r) ∧ Drawn0 w w' := by
 have y := a_ l
 have F := a_ m
 clear l m
 have z := a_ n
 have G := a_ o
 clear n o
 unfold slices_Equal_int_int.f at h
 have H := h
 clear h
 by_cases c3 : (b.length : Int) = (c.length : Int)
 ·
  rw [ip_ c3] at H
  have c3b0 : ((b.length : Int) == (c.length : Int)) = true := beq_iff_eq.mpr c3
  have c3b1 : ((b.length : Int) != (c.length : Int)) = false := bn_.mpr c3
  have c3b2 : (b.length == c.length) = true := by first | simpa using c3 | (simp at c3 ⊢; omega)
  clear c3
  have H' := a_ H
  clear H
  go_enter Tryz.func41, Tryz.ntmps41
  go_wp2
  repeat (go_quiet (fail); try go_wp2)
  go_loopg [13] k (fun kq A w' => ∃ (a : Int), A = .int .i64 a ∧ Aside0 (slices_Equal_int_int.l0 kq b c (b.length : Int) a = some r) ∧ Aside0 (kq ≤ k) ∧ Drawn0 w w')
  case atStart => exact ⟨(0), eq_, H', ⟨lr_ _⟩, by repeat (first | exact d0_ _ | apply Drawn0.step)⟩
  case round =>
   clear H'
   try clear c1
   try clear p2
   try clear c3
   try clear c3b0
   try clear c3b1
   try clear c3b2
   obtain ⟨a, rfl, HA, p, ⟨m1, rfl⟩⟩ := hrel
   cases gk with
   | zero => exact absurd HA.out (by simp [slices_Equal_int_int.l0])
   | succ k1 =>
    have H := HA.out
    clear HA
    simp only [slices_Equal_int_int.l0] at H
    by_cases c4 : a < (b.length : Int)
    ·
     rw [ip_ c4] at H
     have c4b0 : decide (a < (b.length : Int)) = true := dt_ c4
     clear c4
     by_cases c5 : 0 ≤ a
     ·
      rw [ip_ c5] at H
      have c5b0 : decide (0 ≤ a) = true := dt_ c5
      clear c5
      by_cases c6 : a < (b.length : Int)
      ·
       rw [ip_ c6] at H
       have c6b0 : decide (a < (b.length : Int)) = true := dt_ c6
       clear c6
       by_cases c7 : a < (c.length : Int)
       ·
        rw [ip_ c7] at H
        have c7b0 : decide (a < (c.length : Int)) = true := dt_ c7
        clear c7
        by_cases c8 : (rd b a) = (rd c a)
        ·
         rw [ip_ c8] at H
         have c8b0 : ((rd b a) == (rd c a)) = true := beq_iff_eq.mpr c8
         have c8b1 : ((rd b a) != (rd c a)) = false := bn_.mpr c8
         clear c8
         have H' := a_ H
         clear H
         have p578 : 0 ≤ (a : Int) := dq_
         have d : a < (b.length : Int) := dq_
         obtain ⟨B, q, t⟩ := ai_ y.out a p578 d
         cases q
         replace p578 := et_ p578
         replace d := et_ d
         have p579 : 0 ≤ (a : Int) := dq_
         have g : a < (c.length : Int) := dq_
         obtain ⟨E, s, u⟩ := ai_ z.out a p579 g
         cases s
         replace p579 := et_ p579
         replace g := et_ g
         go_wp2
         repeat (go_quiet (fail); try go_wp2)
         go_roundg k1
         case measure => have := p.out; omega
         case rel => exact ⟨(wrap64 (a + 1)), eq_, H', ⟨by have := p.out; omega⟩, by repeat (first | exact d0_ _ | apply Drawn0.step)⟩
        ·
         rw [ig_ c8] at H
         exact absurd H (by simp)
       ·
        rw [ig_ c7] at H
        exact absurd H (by simp)
      ·
       rw [ig_ c6] at H
       exact absurd H (by simp)
     ·
      rw [ig_ c5] at H
      exact absurd H (by simp)
    ·
     rw [ig_ c4] at H
     have c4b0 : decide (a < (b.length : Int)) = false := df_ c4
     clear c4
     obtain rfl := si_ H
     go_wp2
     repeat (go_quiet (fail); try go_wp2)
     go_ret
     exact ⟨by first | rfl | (simp; done) | (simp [*]; done), by repeat (first | exact d0_ _ | apply Drawn0.step)⟩
 ·
  rw [ig_ c3] at H
  exact absurd H (by simp)

/-! ### jigsawlaw12_wakes: function 13 -/
def jigsawlaw12_wakes.f (k : Nat)  : Option (Bool) := (dom_Range.f k (-3) 2).bind fun a => ((dom_Of.f k (([0, 2, 3, 5] : List Int))).bind fun c => ((ext_Filter.f k 8 (([0, 1] : List Int)) ([] : List Int) ([] : List Int) ([] : List Int) ([] : List Int) 0 ([] : List (List Int)) (([(⟨a.1, a.2.1, a.2.2.1, a.2.2.2.1, a.2.2.2.2.1⟩ : S61), (⟨c.1, c.2.1, c.2.2.1, c.2.2.2.1, c.2.2.2.2.1⟩ : S61)] : List (S61)))).bind fun b => ((ext_Filter.f k 5 (([0, 1, 0] : List Int)) ([] : List Int) ([] : List Int) ([] : List Int) ([] : List Int) 0 ([] : List (List Int)) (([(⟨a.1, a.2.1, a.2.2.1, a.2.2.2.1, a.2.2.2.2.1⟩ : S61), (⟨a.1, a.2.1, a.2.2.1, a.2.2.2.1, a.2.2.2.2.1⟩ : S61), (⟨c.1, c.2.1, c.2.2.1, c.2.2.2.1, c.2.2.2.2.1⟩ : S61)] : List (S61)))).bind fun d => (if b.2 = true then (if (b.1.length : Int) = 2 then (if 0 < (b.1.length : Int) then ((dom_Dom_List.f k ((rd_T61 b.1 0).f0) ((rd_T61 b.1 0).f1) ((rd_T61 b.1 0).f2) ((rd_T61 b.1 0).f3) ((rd_T61 b.1 0).f4)).bind fun e => ((slices_Equal_int_int.f k e (([(-3), (-2), 0, 2] : List Int))).bind fun g => (if g = true then (if 1 < (b.1.length : Int) then ((dom_Dom_List.f k ((rd_T61 b.1 1).f0) ((rd_T61 b.1 1).f1) ((rd_T61 b.1 1).f2) ((rd_T61 b.1 1).f3) ((rd_T61 b.1 1).f4)).bind fun l => ((slices_Equal_int_int.f k l (([0, 2, 3] : List Int))).bind fun m => (if m = true then (some (!d.2)) else (none)))) else (none)) else (none)))) else (none)) else (none)) else (none)))))
theorem jigsawlaw12_wakes.mono : ∀ k, LeO (jigsawlaw12_wakes.f k ) (jigsawlaw12_wakes.f (k + 1) ) := by
 intro k
 unfold jigsawlaw12_wakes.f
 have m0 := @dom_Dom_List.mono
 have m1 := @dom_Of.mono
 have m2 := @dom_Range.mono
 have m3 := @ext_Filter.mono
 have m4 := @slices_Equal_int_int.mono
 exact leo_
set_option maxHeartbeats 8000000 in
set_option maxRecDepth 100000 in
theorem jigsawlaw12_wakes.calls (k : Nat)  (r : Bool) (w : World) (hrtab : Kd.C (Kd.int .u8) w (some ⟨0, 0, none⟩) tabL.length tabL) (h : jigsawlaw12_wakes.f k  = some r) :
  Calls Tryz.prog 13 #[] w fun e w' => e = .returned (.bool r) ∧ Below w.heap.size w w' := by
 have hu61 := Tryz.underlying61
 have hu32 := Tryz.underlying32
 have HRtab := a_ hrtab
 clear hrtab
 have HB := a_ (Below.refl w.heap.size w)
 unfold jigsawlaw12_wakes.f at h
 have H := h
 clear h
 replace H := bs_.mp H
 obtain ⟨⟨l, m, p, q, v, bD⟩, bw, H⟩ := H
 try dsimp only at H
 have A1 := a_ bw
 clear bw
 obtain ⟨F, aE⟩ : ∃ y_ : List Int, y_ = (([0, 2, 3, 5] : List Int)) := ⟨_, rfl⟩
 replace H : ((dom_Of.f k F).bind fun af => ((ext_Filter.f k 8 (([0, 1] : List Int)) ([] : List Int) ([] : List Int) ([] : List Int) ([] : List Int) 0 ([] : List (List Int)) (([(⟨l, m, p, q, v⟩ : S61), (⟨af.1, af.2.1, af.2.2.1, af.2.2.2.1, af.2.2.2.2.1⟩ : S61)] : List (S61)))).bind fun c => ((ext_Filter.f k 5 (([0, 1, 0] : List Int)) ([] : List Int) ([] : List Int) ([] : List Int) ([] : List Int) 0 ([] : List (List Int)) (([(⟨l, m, p, q, v⟩ : S61), (⟨l, m, p, q, v⟩ : S61), (⟨af.1, af.2.1, af.2.2.1, af.2.2.2.1, af.2.2.2.2.1⟩ : S61)] : List (S61)))).bind fun ah => (if c.2 = true then (if (c.1.length : Int) = 2 then (if 0 < (c.1.length : Int) then ((dom_Dom_List.f k ((rd_T61 c.1 0).f0) ((rd_T61 c.1 0).f1) ((rd_T61 c.1 0).f2) ((rd_T61 c.1 0).f3) ((rd_T61 c.1 0).f4)).bind fun ab => ((slices_Equal_int_int.f k ab (([(-3), (-2), 0, 2] : List Int))).bind fun ac => (if ac = true then (if 1 < (c.1.length : Int) then ((dom_Dom_List.f k ((rd_T61 c.1 1).f0) ((rd_T61 c.1 1).f1) ((rd_T61 c.1 1).f2) ((rd_T61 c.1 1).f3) ((rd_T61 c.1 1).f4)).bind fun Y => ((slices_Equal_int_int.f k Y (([0, 2, 3] : List Int))).bind fun Z => (if Z = true then (some (!ah.2)) else (none)))) else (none)) else (none)))) else (none)) else (none)) else (none))))) = some r := by first | (rw [aE]; with_reducible exact H) | (have H2_ := (ob_ _ _).symm.trans H; rw [aE]; with_reducible exact H2_) | (have H2_ := (ob_ _ _).symm.trans H; with_reducible exact H2_) | with_reducible exact H | (rw [aE]; exact H) | exact H
 have be := a_ aE
 clear aE
 replace H := bs_.mp H
 obtain ⟨⟨B, G, K, O, V, bE⟩, bx, H⟩ := H
 try dsimp only at H
 have A2 := a_ bx
 clear bx
 obtain ⟨I, aF⟩ : ∃ y_ : List Int, y_ = (([0, 1] : List Int)) := ⟨_, rfl⟩
 replace H : ((ext_Filter.f k 8 I ([] : List Int) ([] : List Int) ([] : List Int) ([] : List Int) 0 ([] : List (List Int)) (([(⟨l, m, p, q, v⟩ : S61), (⟨B, G, K, O, V⟩ : S61)] : List (S61)))).bind fun c => ((ext_Filter.f k 5 (([0, 1, 0] : List Int)) ([] : List Int) ([] : List Int) ([] : List Int) ([] : List Int) 0 ([] : List (List Int)) (([(⟨l, m, p, q, v⟩ : S61), (⟨l, m, p, q, v⟩ : S61), (⟨B, G, K, O, V⟩ : S61)] : List (S61)))).bind fun ah => (if c.2 = true then (if (c.1.length : Int) = 2 then (if 0 < (c.1.length : Int) then ((dom_Dom_List.f k ((rd_T61 c.1 0).f0) ((rd_T61 c.1 0).f1) ((rd_T61 c.1 0).f2) ((rd_T61 c.1 0).f3) ((rd_T61 c.1 0).f4)).bind fun ab => ((slices_Equal_int_int.f k ab (([(-3), (-2), 0, 2] : List Int))).bind fun ac => (if ac = true then (if 1 < (c.1.length : Int) then ((dom_Dom_List.f k ((rd_T61 c.1 1).f0) ((rd_T61 c.1 1).f1) ((rd_T61 c.1 1).f2) ((rd_T61 c.1 1).f3) ((rd_T61 c.1 1).f4)).bind fun Y => ((slices_Equal_int_int.f k Y (([0, 2, 3] : List Int))).bind fun Z => (if Z = true then (some (!ah.2)) else (none)))) else (none)) else (none)))) else (none)) else (none)) else (none)))) = some r := by first | (rw [aF]; with_reducible exact H) | (have H2_ := (ob_ _ _).symm.trans H; rw [aF]; with_reducible exact H2_) | (have H2_ := (ob_ _ _).symm.trans H; with_reducible exact H2_) | with_reducible exact H | (rw [aF]; exact H) | exact H
 have bf := a_ aF
 clear aF
 obtain ⟨ad, aG⟩ : ∃ y_ : List (S61), y_ = (([(⟨l, m, p, q, v⟩ : S61), (⟨B, G, K, O, V⟩ : S61)] : List (S61))) := ⟨_, rfl⟩
 replace H : ((ext_Filter.f k 8 I ([] : List Int) ([] : List Int) ([] : List Int) ([] : List Int) 0 ([] : List (List Int)) ad).bind fun c => ((ext_Filter.f k 5 (([0, 1, 0] : List Int)) ([] : List Int) ([] : List Int) ([] : List Int) ([] : List Int) 0 ([] : List (List Int)) (([(⟨l, m, p, q, v⟩ : S61), (⟨l, m, p, q, v⟩ : S61), (⟨B, G, K, O, V⟩ : S61)] : List (S61)))).bind fun ah => (if c.2 = true then (if (c.1.length : Int) = 2 then (if 0 < (c.1.length : Int) then ((dom_Dom_List.f k ((rd_T61 c.1 0).f0) ((rd_T61 c.1 0).f1) ((rd_T61 c.1 0).f2) ((rd_T61 c.1 0).f3) ((rd_T61 c.1 0).f4)).bind fun ab => ((slices_Equal_int_int.f k ab (([(-3), (-2), 0, 2] : List Int))).bind fun ac => (if ac = true then (if 1 < (c.1.length : Int) then ((dom_Dom_List.f k ((rd_T61 c.1 1).f0) ((rd_T61 c.1 1).f1) ((rd_T61 c.1 1).f2) ((rd_T61 c.1 1).f3) ((rd_T61 c.1 1).f4)).bind fun Y => ((slices_Equal_int_int.f k Y (([0, 2, 3] : List Int))).bind fun Z => (if Z = true then (some (!ah.2)) else (none)))) else (none)) else (none)))) else (none)) else (none)) else (none)))) = some r := by first | (rw [aG]; with_reducible exact H) | (have H2_ := (ob_ _ _).symm.trans H; rw [aG]; with_reducible exact H2_) | (have H2_ := (ob_ _ _).symm.trans H; with_reducible exact H2_) | with_reducible exact H | (rw [aG]; exact H) | exact H
 have bg := a_ aG
 clear aG
 replace H := bs_.mp H
 obtain ⟨⟨b, bb⟩, bz, H⟩ := H
 try dsimp only at H
 have A3 := a_ bz
 clear bz
 obtain ⟨ae, aH⟩ : ∃ y_ : List Int, y_ = (([0, 1, 0] : List Int)) := ⟨_, rfl⟩
 replace H : ((ext_Filter.f k 5 ae ([] : List Int) ([] : List Int) ([] : List Int) ([] : List Int) 0 ([] : List (List Int)) (([(⟨l, m, p, q, v⟩ : S61), (⟨l, m, p, q, v⟩ : S61), (⟨B, G, K, O, V⟩ : S61)] : List (S61)))).bind fun ah => (if bb = true then (if (b.length : Int) = 2 then (if 0 < (b.length : Int) then ((dom_Dom_List.f k ((rd_T61 b 0).f0) ((rd_T61 b 0).f1) ((rd_T61 b 0).f2) ((rd_T61 b 0).f3) ((rd_T61 b 0).f4)).bind fun ab => ((slices_Equal_int_int.f k ab (([(-3), (-2), 0, 2] : List Int))).bind fun ac => (if ac = true then (if 1 < (b.length : Int) then ((dom_Dom_List.f k ((rd_T61 b 1).f0) ((rd_T61 b 1).f1) ((rd_T61 b 1).f2) ((rd_T61 b 1).f3) ((rd_T61 b 1).f4)).bind fun Y => ((slices_Equal_int_int.f k Y (([0, 2, 3] : List Int))).bind fun Z => (if Z = true then (some (!ah.2)) else (none)))) else (none)) else (none)))) else (none)) else (none)) else (none))) = some r := by first | (rw [aH]; with_reducible exact H) | (have H2_ := (ob_ _ _).symm.trans H; rw [aH]; with_reducible exact H2_) | (have H2_ := (ob_ _ _).symm.trans H; with_reducible exact H2_) | with_reducible exact H | (rw [aH]; exact H) | exact H
 have bh := a_ aH
 clear aH
 obtain ⟨bc, aI⟩ : ∃ y_ : List (S61), y_ = (([(⟨l, m, p, q, v⟩ : S61), (⟨l, m, p, q, v⟩ : S61), (⟨B, G, K, O, V⟩ : S61)] : List (S61))) := ⟨_, rfl⟩
 replace H : ((ext_Filter.f k 5 ae ([] : List Int) ([] : List Int) ([] : List Int) ([] : List Int) 0 ([] : List (List Int)) bc).bind fun ah => (if bb = true then (if (b.length : Int) = 2 then (if 0 < (b.length : Int) then ((dom_Dom_List.f k ((rd_T61 b 0).f0) ((rd_T61 b 0).f1) ((rd_T61 b 0).f2) ((rd_T61 b 0).f3) ((rd_T61 b 0).f4)).bind fun ab => ((slices_Equal_int_int.f k ab (([(-3), (-2), 0, 2] : List Int))).bind fun ac => (if ac = true then (if 1 < (b.length : Int) then ((dom_Dom_List.f k ((rd_T61 b 1).f0) ((rd_T61 b 1).f1) ((rd_T61 b 1).f2) ((rd_T61 b 1).f3) ((rd_T61 b 1).f4)).bind fun Y => ((slices_Equal_int_int.f k Y (([0, 2, 3] : List Int))).bind fun Z => (if Z = true then (some (!ah.2)) else (none)))) else (none)) else (none)))) else (none)) else (none)) else (none))) = some r := by first | (rw [aI]; with_reducible exact H) | (have H2_ := (ob_ _ _).symm.trans H; rw [aI]; with_reducible exact H2_) | (have H2_ := (ob_ _ _).symm.trans H; with_reducible exact H2_) | with_reducible exact H | (rw [aI]; exact H) | exact H
 have bi := a_ aI
 clear aI
 replace H := bs_.mp H
 obtain ⟨⟨bF, bd⟩, bA, H⟩ := H
 try dsimp only at H
 have A4 := a_ bA
 clear bA
 by_cases c5 : bb = true
 ·
  subst c5
  rw [ip_ rfl] at H
  by_cases c6 : (b.length : Int) = 2
  ·
   rw [ip_ c6] at H
   have c6b0 : ((b.length : Int) == 2) = true := beq_iff_eq.mpr c6
   have c6b1 : ((b.length : Int) != 2) = false := bn_.mpr c6
   clear c6
   by_cases c7 : 0 < (b.length : Int)
   ·
    rw [ip_ c7] at H
    have c7b0 : decide (0 < (b.length : Int)) = true := dt_ c7
    have c7b1 : decide (0 < b.length) = true := dt_ (by omega)
    clear c7
    replace H := bs_.mp H
    obtain ⟨ab, bB, H⟩ := H
    try dsimp only at H
    have A8 := a_ bB
    clear bB
    obtain ⟨bn, aJ⟩ : ∃ y_ : List Int, y_ = (([(-3), (-2), 0, 2] : List Int)) := ⟨_, rfl⟩
    replace H : ((slices_Equal_int_int.f k ab bn).bind fun ac => (if ac = true then (if 1 < (b.length : Int) then ((dom_Dom_List.f k ((rd_T61 b 1).f0) ((rd_T61 b 1).f1) ((rd_T61 b 1).f2) ((rd_T61 b 1).f3) ((rd_T61 b 1).f4)).bind fun Y => ((slices_Equal_int_int.f k Y (([0, 2, 3] : List Int))).bind fun Z => (if Z = true then (some (!bd)) else (none)))) else (none)) else (none))) = some r := by first | (rw [aJ]; with_reducible exact H) | (have H2_ := (ob_ _ _).symm.trans H; rw [aJ]; with_reducible exact H2_) | (have H2_ := (ob_ _ _).symm.trans H; with_reducible exact H2_) | with_reducible exact H | (rw [aJ]; exact H) | exact H
    have bj := a_ aJ
    clear aJ
    replace H := bs_.mp H
    obtain ⟨ac, bC, H⟩ := H
    try dsimp only at H
    have A9 := a_ bC
    clear bC
    by_cases c10 : ac = true
    ·
     subst c10
     rw [ip_ rfl] at H
     by_cases c11 : 1 < (b.length : Int)
     ·
      rw [ip_ c11] at H
      have c11b0 : decide (1 < (b.length : Int)) = true := dt_ c11
      have c11b1 : decide (1 < b.length) = true := dt_ (by omega)
      clear c11
      replace H := bs_.mp H
      obtain ⟨Y, bo, H⟩ := H
      try dsimp only at H
      have bW := a_ bo
      clear bo
      obtain ⟨bp, aK⟩ : ∃ y_ : List Int, y_ = (([0, 2, 3] : List Int)) := ⟨_, rfl⟩
      replace H : ((slices_Equal_int_int.f k Y bp).bind fun Z => (if Z = true then (some (!bd)) else (none))) = some r := by first | (rw [aK]; with_reducible exact H) | (have H2_ := (ob_ _ _).symm.trans H; rw [aK]; with_reducible exact H2_) | (have H2_ := (ob_ _ _).symm.trans H; with_reducible exact H2_) | with_reducible exact H | (rw [aK]; exact H) | exact H
      have bk := a_ aK
      clear aK
      replace H := bs_.mp H
      obtain ⟨Z, bq, H⟩ := H
      try dsimp only at H
      have bX := a_ bq
      clear bq
      by_cases c14 : Z = true
      ·
       subst c14
       rw [ip_ rfl] at H
       obtain rfl := si_ H
       go_enter Tryz.func13, Tryz.ntmps13
       go_wp2_with (first | ((with_reducible refine gate_callee (f := 40) rfl ?_); refine goesL_ (some 10) rfl rfl Tryz.func40 (by kernel_rfl) rfl #[.int .i64 (-3), .int .i64 2] rfl ar_ ?_; (with_reducible refine (dom_Range.calls k (-3) 2 l m p q v bD _ ?_ A1.out).mono ?_); exact ca_ (HRtab.out); rintro e w15 ⟨cc, rfl, E, hb⟩; refine ⟨_, rfl, ?_⟩; have x := a_ (Kd.V_lower (vm_ (ok' := fun a => True) E (fun a hk_ => trivial)) (bz_ bel_)); replace HB := a_ (bp_ bel_ hb); clear hb E) | ((with_reducible refine gate_dst (N := 1) rfl ?_); (try (refine gate_guard (by rfl) ?_; dsimp only)); refine bxe_ (N := 1) (cs := #[.int .i64 0, .slice none 0 0, .int .i64 0, .int .i64 0, .int .i64 0]) (t := 61) ?_; intro s hg w16 hbox hb; replace x := a_ (vb_ (Kd.V_elderB (vV_ x.out) s (Nat.le_of_eq hg.symm)) hb); have y := a_ (hbox); have br := a_ (by rw [hg]; exact (bz_ bel_) : w.heap.size ≤ s); have b0 := br; replace HB := a_ (bp_ bel_ hb); clear hb hbox hg; obtain ⟨_, _, _, _, _, _, _, _, _, _⟩ := cel5_ y.out; obtain ⟨aj, ak, bG⟩ := Kd.V_slice x.out; subst bG) | ((with_reducible refine gate_dst (N := 14) rfl ?_); (try (refine gate_guard (by rfl) ?_; dsimp only)); refine Kd.R_lit (Kd.int .i64) _ 3 ?hg (N := 14) ?hd (xs := ([0, 2, 3, 5] : List Int)) (inner := [.int .i64 0, .int .i64 2, .int .i64 3, .int .i64 5]) (ok := fun _ => True) (okp := fun _ => True) ?hr ?hp (fun _ hk => hk) trivial (Below.refl _ _) (lr_ _) (by simp) ?_; (case hd => rfl); (case hg => rfl); (case hr => first | (go_simp; done) | (go_simp; rfl)); (case hp => exact (Reps.one (show Kd.M (Kd.int .i64) _ _ _ 0 [.int .i64 0] from rfl) (Reps.one (show Kd.M (Kd.int .i64) _ _ _ 2 [.int .i64 2] from rfl) (Reps.one (show Kd.M (Kd.int .i64) _ _ _ 3 [.int .i64 3] from rfl) (Reps.one (show Kd.M (Kd.int .i64) _ _ _ 5 [.int .i64 5] from rfl) (Reps.none _ _)))))); intro cd w19 aL hb hg_ hnew_; clear hg_ hnew_; (first | rw [← be.out] at aL | (simp only [Int.reduceToNat] at aL; rw [← be.out] at aL)); replace x := a_ (Kd.V_elder' (by refine vV_ ?_; exact (vm_ (fV_ (fV_ (fV_ (fV_ (fV_ (vm_ x.out (fun a hk => (⟨hk, hk.2⟩ : _ ∧ a ≠ s)))))))) (fun _ h_ => h_.1))) (rs_ aL) hb); have d := a_ (Kd.R_lower aL (bz_ bel_)); replace y := a_ (bb_ (g := s) (o := .cells #[.int .i64 l, .slice aj m.length ak, .int .i64 p, .int .i64 q, .int .i64 v] 61 (0, 0)) (by refine bk_ ?_; refine bu_ (cs := #[.int .i64 l, .slice aj m.length ak, .int .i64 p, .int .i64 q, .int .i64 0]) ?_ 4 _ rfl; refine bk_ ?_; refine bu_ (cs := #[.int .i64 l, .slice aj m.length ak, .int .i64 p, .int .i64 0, .int .i64 0]) ?_ 3 _ rfl; refine bk_ ?_; refine bu_ (cs := #[.int .i64 l, .slice aj m.length ak, .int .i64 0, .int .i64 0, .int .i64 0]) ?_ 2 _ rfl; refine bk_ ?_; refine bu_ (cs := #[.int .i64 l, .slice none 0 0, .int .i64 0, .int .i64 0, .int .i64 0]) ?_ 1 _ rfl; refine bk_ ?_; refine bu_ (cs := #[.int .i64 0, .slice none 0 0, .int .i64 0, .int .i64 0, .int .i64 0]) ?_ 0 _ rfl; refine bk_ ?_; exact y.out) hb); replace HB := a_ (bp_ bel_ hb); clear hb aL; obtain ⟨P, Q, bH⟩ := Kd.R_slice d.out; subst bH) | ((with_reducible refine gate_callee (f := 35) rfl ?_); refine goesL_ (some 15) rfl rfl Tryz.func35 (by kernel_rfl) rfl #[.slice P F.length Q] rfl ar_ ?_; (with_reducible refine (dom_Of.calls k _ _ F B G K O V bE _ ?_ ?_ ?_ A2.out).mono ?_); exact ca_ ((rr_ d.out).2.2); exact (rr_ d.out).2.1; exact ca_ ((cb_ HRtab.out HB.out)); rintro e w22 ⟨ce, rfl, E, hb⟩; refine ⟨_, rfl, ?_⟩; replace x := a_ (vb_ (vV_ x.out) hb); have U := a_ (Kd.V_lower (vm_ (ok' := fun a => some a ≠ (.slice P F.length Q : Value).ownBlock ∧ a ≠ s) E (fun a hk_ => ⟨(fr_ (rl_ (vR_ d.out)) a hk_), (Kd.freshB (bk_ y.out) a hk_)⟩)) (bz_ bel_)); replace d := a_ (rb_ (vR_ d.out) hb); replace y := a_ (bb_ (bk_ y.out) hb); replace HB := a_ (bp_ bel_ hb); clear hb E) | ((with_reducible refine gate_dst (N := 3) rfl ?_); (try (refine gate_guard (by rfl) ?_; dsimp only)); refine bxe_ (N := 3) (cs := #[.int .i64 0, .slice none 0 0, .int .i64 0, .int .i64 0, .int .i64 0]) (t := 61) ?_; intro u hg w23 hbox hb; replace x := a_ (vb_ (Kd.V_elderB (vV_ x.out) u (Nat.le_of_eq hg.symm)) hb); replace d := a_ (rb_ (vR_ d.out) hb); replace U := a_ (vb_ (Kd.V_elderB (vV_ U.out) u (Nat.le_of_eq hg.symm)) hb); have J := a_ (hbox); have bs := a_ (by rw [hg]; exact (bz_ bel_) : w.heap.size ≤ u); have b1 := bs; replace HB := a_ (bp_ bel_ hb); have aa := a_ ((by rw [hg]; exact Nat.ne_of_lt (blk_lt (bk_ y.out)) : s ≠ u)); have ba := a_ ((by rw [hg]; exact Nat.ne_of_gt (blk_lt (bk_ y.out)) : u ≠ s)); replace y := a_ (bb_ (bk_ y.out) hb); clear hb hbox hg; have b2 := ba.out; have b3 := aa.out; obtain ⟨_, _, _, _, _, _, _, _, _, _⟩ := cel5_ J.out; obtain ⟨av, aw, bI⟩ := Kd.V_slice U.out; subst bI) | ((with_reducible refine gate_dst (N := 19) rfl ?_); (try (refine gate_guard (by rfl) ?_; dsimp only)); refine Kd.R_lit (Kd.int .i64) _ 3 ?hg (N := 19) ?hd (xs := ([0, 1] : List Int)) (inner := [.int .i64 0, .int .i64 1]) (ok := fun _ => True) (okp := fun _ => True) ?hr ?hp (fun _ hk => hk) trivial (Below.refl _ _) (lr_ _) (by simp) ?_; (case hd => rfl); (case hg => rfl); (case hr => first | (go_simp; done) | (go_simp; rfl)); (case hp => exact (Reps.one (show Kd.M (Kd.int .i64) _ _ _ 0 [.int .i64 0] from rfl) (Reps.one (show Kd.M (Kd.int .i64) _ _ _ 1 [.int .i64 1] from rfl) (Reps.none _ _)))); intro cf w27 ax hb hg_ hnew_; clear hg_ hnew_; (first | rw [← bf.out] at ax | (simp only [Int.reduceToNat] at ax; rw [← bf.out] at ax)); replace x := a_ (Kd.V_elder' (by refine vV_ ?_; exact (vm_ (fV_ (fV_ (fV_ (fV_ (fV_ (vm_ x.out (fun a hk => (⟨hk, hk.2⟩ : _ ∧ a ≠ u)))))))) (fun _ h_ => h_.1))) (rs_ ax) hb); replace U := a_ (Kd.V_elder' (by refine vV_ ?_; exact (vm_ (fV_ (fV_ (fV_ (fV_ (fV_ (vm_ U.out (fun a hk => (⟨hk, hk.2⟩ : _ ∧ a ≠ u)))))))) (fun _ h_ => h_.1))) (rs_ ax) hb); have n := a_ (Kd.R_lower (Kd.R_new' ax (rl_ (by refine vR_ ?_; exact (rm_ (fR_ (fR_ (fR_ (fR_ (fR_ (rt_ d.out J.out (by decide))))))) (fun _ h_ => h_.1))))) (bz_ bel_)); replace d := a_ (Kd.R_elder' (by refine vR_ ?_; exact (rm_ (fR_ (fR_ (fR_ (fR_ (fR_ (rt_ d.out J.out (by decide))))))) (fun _ h_ => h_.1))) (rs_ ax) hb); replace y := a_ (bb_ (g := s) (o := .cells #[.int .i64 l, .slice aj m.length ak, .int .i64 p, .int .i64 q, .int .i64 v] 61 (0, 0)) (by refine bk_ ?_; refine blk_far ?_ aa.out _; refine bk_ ?_; refine blk_far ?_ aa.out _; refine bk_ ?_; refine blk_far ?_ aa.out _; refine bk_ ?_; refine blk_far ?_ aa.out _; refine bk_ ?_; refine blk_far ?_ aa.out _; refine bk_ ?_; exact y.out) hb); replace J := a_ (bb_ (g := u) (o := .cells #[.int .i64 B, .slice av G.length aw, .int .i64 K, .int .i64 O, .int .i64 V] 61 (0, 0)) (by refine bk_ ?_; refine bu_ (cs := #[.int .i64 B, .slice av G.length aw, .int .i64 K, .int .i64 O, .int .i64 0]) ?_ 4 _ rfl; refine bk_ ?_; refine bu_ (cs := #[.int .i64 B, .slice av G.length aw, .int .i64 K, .int .i64 0, .int .i64 0]) ?_ 3 _ rfl; refine bk_ ?_; refine bu_ (cs := #[.int .i64 B, .slice av G.length aw, .int .i64 0, .int .i64 0, .int .i64 0]) ?_ 2 _ rfl; refine bk_ ?_; refine bu_ (cs := #[.int .i64 B, .slice none 0 0, .int .i64 0, .int .i64 0, .int .i64 0]) ?_ 1 _ rfl; refine bk_ ?_; refine bu_ (cs := #[.int .i64 0, .slice none 0 0, .int .i64 0, .int .i64 0, .int .i64 0]) ?_ 0 _ rfl; refine bk_ ?_; exact J.out) hb); replace HB := a_ (bp_ bel_ hb); clear hb ax; obtain ⟨W, X, bJ⟩ := Kd.R_slice n.out; subst bJ; obtain ⟨_, _, _, _, _, _, _, _, _, _⟩ := cel5_ y.out; obtain ⟨_, _, _, _, _, _, _, _, _, _⟩ := cel5_ J.out) | ((with_reducible refine gate_dst (N := 23) rfl ?_); (try (refine gate_guard (by rfl) ?_; dsimp only)); refine Kd.N_lit k61 _ 61 ?hg (N' := 23) ?hd (xs := ([(⟨l, m, p, q, v⟩ : S61), (⟨B, G, K, O, V⟩ : S61)] : List (S61))) (inner := [.int .i64 l, .slice aj m.length ak, .int .i64 p, .int .i64 q, .int .i64 v, .int .i64 B, .slice av G.length aw, .int .i64 K, .int .i64 O, .int .i64 V]) (ok := (fun a => some a ≠ (.slice P F.length Q : Value).ownBlock ∧ some a ≠ (.slice W I.length X : Value).ownBlock ∧ a ≠ s ∧ a ≠ u)) (okp := (fun a => some a ≠ (.slice P F.length Q : Value).ownBlock ∧ some a ≠ (.slice W I.length X : Value).ownBlock ∧ a ≠ s ∧ a ≠ u)) ?hr ?hp (fun _ hk => hk) ((show ∀ a, w27.heap.size ≤ a → (fun a => some a ≠ (.slice P F.length Q : Value).ownBlock ∧ some a ≠ (.slice W I.length X : Value).ownBlock ∧ a ≠ s ∧ a ≠ u) a from fun a hk => ⟨fr_ (rl_ (vR_ d.out)) a hk, fr_ (rl_ (vR_ n.out)) a hk, Kd.freshB (bk_ y.out) a hk, Kd.freshB (bk_ J.out) a hk⟩) _ (lr_ _)) (Below.refl _ _) (lr_ _) (by simp) ?_; (case hd => rfl); (case hg => rfl); (case hr => first | (go_simp; done) | (go_simp; rfl)); (case hp => exact (Reps.c5 (show Kd.FK k61 _ _ (⟨l, m, p, q, v⟩ : S61) [.int .i64 l, .slice aj m.length ak, .int .i64 p, .int .i64 q, .int .i64 v] from (k61_mkF _ _ (⟨l, m, p, q, v⟩ : S61) (Kd.V_reads' (vm_ (ok' := (fun a => some a ≠ (.slice P F.length Q : Value).ownBlock ∧ some a ≠ (.slice W I.length X : Value).ownBlock ∧ a ≠ s ∧ a ≠ u)) (x.out) (fun a hk => ⟨hk.1.1.2, ⟨hk.2, ⟨hk.1.1.1.2, hk.1.2⟩⟩⟩))).2.1 (Kd.V_F (vm_ (ok' := (fun a => some a ≠ (.slice P F.length Q : Value).ownBlock ∧ some a ≠ (.slice W I.length X : Value).ownBlock ∧ a ≠ s ∧ a ≠ u)) (x.out) (fun a hk => ⟨hk.1.1.2, ⟨hk.2, ⟨hk.1.1.1.2, hk.1.2⟩⟩⟩))))) (Reps.c5 (show Kd.FK k61 _ _ (⟨B, G, K, O, V⟩ : S61) [.int .i64 B, .slice av G.length aw, .int .i64 K, .int .i64 O, .int .i64 V] from (k61_mkF _ _ (⟨B, G, K, O, V⟩ : S61) (Kd.V_reads' (vm_ (ok' := (fun a => some a ≠ (.slice P F.length Q : Value).ownBlock ∧ some a ≠ (.slice W I.length X : Value).ownBlock ∧ a ≠ s ∧ a ≠ u)) (U.out) (fun a hk => ⟨hk.1.1.1, ⟨hk.2, ⟨hk.1.1.2, hk.1.2⟩⟩⟩))).2.1 (Kd.V_F (vm_ (ok' := (fun a => some a ≠ (.slice P F.length Q : Value).ownBlock ∧ some a ≠ (.slice W I.length X : Value).ownBlock ∧ a ≠ s ∧ a ≠ u)) (U.out) (fun a hk => ⟨hk.1.1.1, ⟨hk.2, ⟨hk.1.1.2, hk.1.2⟩⟩⟩))))) (Reps.none _ _)))); intro cg w32 aD hb hg_ hnew_; clear hg_ hnew_; (first | rw [← bg.out] at aD | (simp only [Int.reduceToNat] at aD; rw [← bg.out] at aD)); replace x := a_ (Kd.V_elder' (vV_ x.out) (Kd.N_base aD) hb); replace d := a_ (rb_ (vR_ d.out) hb); replace U := a_ (Kd.V_elder' (vV_ U.out) (Kd.N_base aD) hb); replace n := a_ (rb_ (vR_ n.out) hb); have ai := a_ (Kd.N_lower aD (bz_ bel_)); replace y := a_ (bb_ (bk_ y.out) hb); replace J := a_ (bb_ (bk_ J.out) hb); replace HB := a_ (bp_ bel_ hb); clear hb aD; obtain ⟨al, am, bK⟩ := Kd.N_slice ai.out; subst bK) | ((with_reducible refine gate_callee (f := 10) rfl ?_); refine goesL_ (some 24) rfl rfl Tryz.func10 (by kernel_rfl) rfl #[.agg #[.int .i64 8, .slice W I.length X, .slice none 0 0, .slice none 0 0, .slice none 0 0, .slice none 0 0, .int .i64 0, .slice none 0 0], .slice al ad.length am] rfl ar_ ?_; (refine (ext_Filter.calls k 8 _ _ I _ _ ([] : List Int) _ _ ([] : List Int) _ _ ([] : List Int) _ _ ([] : List Int) 0 _ _ ([] : List (List Int)) _ _ ad b true _ ?side1 ?side2 ?side3 ?side4 ?side5 ?side6 ?side7 ?side8 ?side9 ?side10 ?side11 ?side12 ?side13 ?side14 ?side15 A3.out).mono ?_); (case side1 => exact ca_ ((rr_ n.out).2.2)); (case side2 => exact (rr_ n.out).2.1); (case side3 => exact Kd.C_nil _ _); (case side4 => exact lr_ _); (case side5 => exact Kd.C_nil _ _); (case side6 => exact lr_ _); (case side7 => exact Kd.C_nil _ _); (case side8 => exact lr_ _); (case side9 => exact Kd.C_nil _ _); (case side10 => exact lr_ _); (case side11 => exact Kd.C_nil _ _); (case side12 => exact lr_ _); (case side13 => exact ca_ ((Kd.N_reads' ai.out).2.2)); (case side14 => exact (Kd.N_reads' ai.out).2.1); (case side15 => exact ca_ ((cb_ HRtab.out HB.out))); rintro e w35 ⟨ar, rfl, E, hb⟩; refine ⟨_, rfl, ?_⟩; replace x := a_ (Kd.V_elder' (vV_ x.out) (Kd.N_base E) hb); replace U := a_ (Kd.V_elder' (vV_ U.out) (Kd.N_base E) hb); have z := a_ (Kd.N_lower (nm_ (ok' := fun a => some a ≠ (.slice P F.length Q : Value).ownBlock ∧ some a ≠ (.slice W I.length X : Value).ownBlock ∧ some a ≠ (.slice al ad.length am : Value).ownBlock ∧ a ≠ s ∧ a ≠ u) E (fun a hk_ => ⟨(fr_ (rl_ (vR_ d.out)) a hk_), (fr_ (rl_ (vR_ n.out)) a hk_), (fr_ (Kd.N_lt (vN_ ai.out)) a hk_), (Kd.freshB (bk_ y.out) a hk_), (Kd.freshB (bk_ J.out) a hk_)⟩)) (bz_ bel_)); replace d := a_ (rb_ (vR_ d.out) hb); replace n := a_ (rb_ (vR_ n.out) hb); replace ai := a_ (Kd.N_elder' (vN_ ai.out) (Kd.N_base E) hb); replace y := a_ (bb_ (bk_ y.out) hb); replace J := a_ (bb_ (bk_ J.out) hb); replace HB := a_ (bp_ bel_ hb); clear hb E) | ((with_reducible refine gate_dst (N := 28) rfl ?_); (try (refine gate_guard (by rfl) ?_; dsimp only)); refine Kd.R_lit (Kd.int .i64) _ 3 ?hg (N := 28) ?hd (xs := ([0, 1, 0] : List Int)) (inner := [.int .i64 0, .int .i64 1, .int .i64 0]) (ok := fun _ => True) (okp := fun _ => True) ?hr ?hp (fun _ hk => hk) trivial (Below.refl _ _) (lr_ _) (by simp) ?_; (case hd => rfl); (case hg => rfl); (case hr => first | (go_simp; done) | (go_simp; rfl)); (case hp => exact (Reps.one (show Kd.M (Kd.int .i64) _ _ _ 0 [.int .i64 0] from rfl) (Reps.one (show Kd.M (Kd.int .i64) _ _ _ 1 [.int .i64 1] from rfl) (Reps.one (show Kd.M (Kd.int .i64) _ _ _ 0 [.int .i64 0] from rfl) (Reps.none _ _))))); intro ch w36 an hb hg_ hnew_; clear hg_ hnew_; (first | rw [← bh.out] at an | (simp only [Int.reduceToNat] at an; rw [← bh.out] at an)); replace x := a_ (Kd.V_elder' (vV_ x.out) (rs_ an) hb); replace U := a_ (Kd.V_elder' (vV_ U.out) (rs_ an) hb); replace ai := a_ (Kd.N_elder' (vN_ ai.out) (rs_ an) hb); replace z := a_ (Kd.N_elder' (vN_ z.out) (rs_ an) hb); have A := a_ (Kd.R_lower (Kd.R_new' (Kd.R_new' an (rl_ (vR_ d.out))) (rl_ (vR_ n.out))) (bz_ bel_)); replace d := a_ (Kd.R_elder' (vR_ d.out) (rs_ an) hb); replace n := a_ (Kd.R_elder' (vR_ n.out) (rs_ an) hb); replace y := a_ (bb_ (bk_ y.out) hb); replace J := a_ (bb_ (bk_ J.out) hb); replace HB := a_ (bp_ bel_ hb); clear hb an; obtain ⟨ao, ap, bL⟩ := Kd.R_slice A.out; subst bL; obtain ⟨_, _, _, _, _, _, _, _, _, _⟩ := cel5_ y.out; obtain ⟨_, _, _, _, _, _, _, _, _, _⟩ := cel5_ J.out) | ((with_reducible refine gate_dst (N := 33) rfl ?_); (try (refine gate_guard (by rfl) ?_; dsimp only)); refine Kd.N_lit k61 _ 61 ?hg (N' := 33) ?hd (xs := ([(⟨l, m, p, q, v⟩ : S61), (⟨l, m, p, q, v⟩ : S61), (⟨B, G, K, O, V⟩ : S61)] : List (S61))) (inner := [.int .i64 l, .slice aj m.length ak, .int .i64 p, .int .i64 q, .int .i64 v, .int .i64 l, .slice aj m.length ak, .int .i64 p, .int .i64 q, .int .i64 v, .int .i64 B, .slice av G.length aw, .int .i64 K, .int .i64 O, .int .i64 V]) (ok := (fun a => some a ≠ (.slice P F.length Q : Value).ownBlock ∧ some a ≠ (.slice W I.length X : Value).ownBlock ∧ some a ≠ (.slice al ad.length am : Value).ownBlock ∧ some a ≠ (ar : Value).ownBlock ∧ some a ≠ (.slice ao ae.length ap : Value).ownBlock ∧ a ≠ s ∧ a ≠ u)) (okp := (fun a => some a ≠ (.slice P F.length Q : Value).ownBlock ∧ some a ≠ (.slice W I.length X : Value).ownBlock ∧ some a ≠ (.slice al ad.length am : Value).ownBlock ∧ some a ≠ (ar : Value).ownBlock ∧ some a ≠ (.slice ao ae.length ap : Value).ownBlock ∧ a ≠ s ∧ a ≠ u)) ?hr ?hp (fun _ hk => hk) ((show ∀ a, w36.heap.size ≤ a → (fun a => some a ≠ (.slice P F.length Q : Value).ownBlock ∧ some a ≠ (.slice W I.length X : Value).ownBlock ∧ some a ≠ (.slice al ad.length am : Value).ownBlock ∧ some a ≠ (ar : Value).ownBlock ∧ some a ≠ (.slice ao ae.length ap : Value).ownBlock ∧ a ≠ s ∧ a ≠ u) a from fun a hk => ⟨fr_ (rl_ (vR_ d.out)) a hk, fr_ (rl_ (vR_ n.out)) a hk, fr_ (Kd.N_lt (vN_ ai.out)) a hk, fr_ (Kd.N_lt (vN_ z.out)) a hk, fr_ (rl_ (vR_ A.out)) a hk, Kd.freshB (bk_ y.out) a hk, Kd.freshB (bk_ J.out) a hk⟩) _ (lr_ _)) (Below.refl _ _) (lr_ _) (by simp) ?_; (case hd => rfl); (case hg => rfl); (case hr => first | (go_simp; done) | (go_simp; rfl)); (case hp => exact (Reps.c5 (show Kd.FK k61 _ _ (⟨l, m, p, q, v⟩ : S61) [.int .i64 l, .slice aj m.length ak, .int .i64 p, .int .i64 q, .int .i64 v] from (k61_mkF _ _ (⟨l, m, p, q, v⟩ : S61) (Kd.V_reads' (vm_ (ok' := (fun a => some a ≠ (.slice P F.length Q : Value).ownBlock ∧ some a ≠ (.slice W I.length X : Value).ownBlock ∧ some a ≠ (.slice al ad.length am : Value).ownBlock ∧ some a ≠ (ar : Value).ownBlock ∧ some a ≠ (.slice ao ae.length ap : Value).ownBlock ∧ a ≠ s ∧ a ≠ u)) (x.out) (fun a hk => ⟨hk.1.1.1.1.1.2, ⟨hk.1.1.1.2, ⟨hk.1.1.2, ⟨hk.1.2, ⟨hk.2, ⟨hk.1.1.1.1.1.1.2, hk.1.1.1.1.2⟩⟩⟩⟩⟩⟩))).2.1 (Kd.V_F (vm_ (ok' := (fun a => some a ≠ (.slice P F.length Q : Value).ownBlock ∧ some a ≠ (.slice W I.length X : Value).ownBlock ∧ some a ≠ (.slice al ad.length am : Value).ownBlock ∧ some a ≠ (ar : Value).ownBlock ∧ some a ≠ (.slice ao ae.length ap : Value).ownBlock ∧ a ≠ s ∧ a ≠ u)) (x.out) (fun a hk => ⟨hk.1.1.1.1.1.2, ⟨hk.1.1.1.2, ⟨hk.1.1.2, ⟨hk.1.2, ⟨hk.2, ⟨hk.1.1.1.1.1.1.2, hk.1.1.1.1.2⟩⟩⟩⟩⟩⟩))))) (Reps.c5 (show Kd.FK k61 _ _ (⟨l, m, p, q, v⟩ : S61) [.int .i64 l, .slice aj m.length ak, .int .i64 p, .int .i64 q, .int .i64 v] from (k61_mkF _ _ (⟨l, m, p, q, v⟩ : S61) (Kd.V_reads' (vm_ (ok' := (fun a => some a ≠ (.slice P F.length Q : Value).ownBlock ∧ some a ≠ (.slice W I.length X : Value).ownBlock ∧ some a ≠ (.slice al ad.length am : Value).ownBlock ∧ some a ≠ (ar : Value).ownBlock ∧ some a ≠ (.slice ao ae.length ap : Value).ownBlock ∧ a ≠ s ∧ a ≠ u)) (x.out) (fun a hk => ⟨hk.1.1.1.1.1.2, ⟨hk.1.1.1.2, ⟨hk.1.1.2, ⟨hk.1.2, ⟨hk.2, ⟨hk.1.1.1.1.1.1.2, hk.1.1.1.1.2⟩⟩⟩⟩⟩⟩))).2.1 (Kd.V_F (vm_ (ok' := (fun a => some a ≠ (.slice P F.length Q : Value).ownBlock ∧ some a ≠ (.slice W I.length X : Value).ownBlock ∧ some a ≠ (.slice al ad.length am : Value).ownBlock ∧ some a ≠ (ar : Value).ownBlock ∧ some a ≠ (.slice ao ae.length ap : Value).ownBlock ∧ a ≠ s ∧ a ≠ u)) (x.out) (fun a hk => ⟨hk.1.1.1.1.1.2, ⟨hk.1.1.1.2, ⟨hk.1.1.2, ⟨hk.1.2, ⟨hk.2, ⟨hk.1.1.1.1.1.1.2, hk.1.1.1.1.2⟩⟩⟩⟩⟩⟩))))) (Reps.c5 (show Kd.FK k61 _ _ (⟨B, G, K, O, V⟩ : S61) [.int .i64 B, .slice av G.length aw, .int .i64 K, .int .i64 O, .int .i64 V] from (k61_mkF _ _ (⟨B, G, K, O, V⟩ : S61) (Kd.V_reads' (vm_ (ok' := (fun a => some a ≠ (.slice P F.length Q : Value).ownBlock ∧ some a ≠ (.slice W I.length X : Value).ownBlock ∧ some a ≠ (.slice al ad.length am : Value).ownBlock ∧ some a ≠ (ar : Value).ownBlock ∧ some a ≠ (.slice ao ae.length ap : Value).ownBlock ∧ a ≠ s ∧ a ≠ u)) (U.out) (fun a hk => ⟨hk.1.1.1.1.1.1, ⟨hk.1.1.1.2, ⟨hk.1.1.2, ⟨hk.1.2, ⟨hk.2, ⟨hk.1.1.1.1.1.2, hk.1.1.1.1.2⟩⟩⟩⟩⟩⟩))).2.1 (Kd.V_F (vm_ (ok' := (fun a => some a ≠ (.slice P F.length Q : Value).ownBlock ∧ some a ≠ (.slice W I.length X : Value).ownBlock ∧ some a ≠ (.slice al ad.length am : Value).ownBlock ∧ some a ≠ (ar : Value).ownBlock ∧ some a ≠ (.slice ao ae.length ap : Value).ownBlock ∧ a ≠ s ∧ a ≠ u)) (U.out) (fun a hk => ⟨hk.1.1.1.1.1.1, ⟨hk.1.1.1.2, ⟨hk.1.1.2, ⟨hk.1.2, ⟨hk.2, ⟨hk.1.1.1.1.1.2, hk.1.1.1.1.2⟩⟩⟩⟩⟩⟩))))) (Reps.none _ _))))); intro ci w41 aM hb hg_ hnew_; clear hg_ hnew_; (first | rw [← bi.out] at aM | (simp only [Int.reduceToNat] at aM; rw [← bi.out] at aM)); replace d := a_ (rb_ (vR_ d.out) hb); replace n := a_ (rb_ (vR_ n.out) hb); replace z := a_ (Kd.N_elder' (vN_ z.out) (Kd.N_base aM) hb); replace A := a_ (rb_ (vR_ A.out) hb); have a6 := a_ (Kd.N_lower aM (bz_ bel_)); replace HB := a_ (bp_ bel_ hb); clear hb aM; obtain ⟨bM, bN, bO⟩ := Kd.N_slice a6.out; subst bO) | ((with_reducible refine gate_callee (f := 10) rfl ?_); refine goesL_ (some 34) rfl rfl Tryz.func10 (by kernel_rfl) rfl #[.agg #[.int .i64 5, .slice ao ae.length ap, .slice none 0 0, .slice none 0 0, .slice none 0 0, .slice none 0 0, .int .i64 0, .slice none 0 0], .slice bM bc.length bN] rfl ar_ ?_; (refine (ext_Filter.calls k 5 _ _ ae _ _ ([] : List Int) _ _ ([] : List Int) _ _ ([] : List Int) _ _ ([] : List Int) 0 _ _ ([] : List (List Int)) _ _ bc bF bd _ ?side1 ?side2 ?side3 ?side4 ?side5 ?side6 ?side7 ?side8 ?side9 ?side10 ?side11 ?side12 ?side13 ?side14 ?side15 A4.out).mono ?_); (case side1 => exact ca_ ((rr_ A.out).2.2)); (case side2 => exact (rr_ A.out).2.1); (case side3 => exact Kd.C_nil _ _); (case side4 => exact lr_ _); (case side5 => exact Kd.C_nil _ _); (case side6 => exact lr_ _); (case side7 => exact Kd.C_nil _ _); (case side8 => exact lr_ _); (case side9 => exact Kd.C_nil _ _); (case side10 => exact lr_ _); (case side11 => exact Kd.C_nil _ _); (case side12 => exact lr_ _); (case side13 => exact ca_ ((Kd.N_reads' a6.out).2.2)); (case side14 => exact (Kd.N_reads' a6.out).2.1); (case side15 => exact ca_ ((cb_ HRtab.out HB.out))); rintro e w44 ⟨cj, rfl, E, hb⟩; refine ⟨_, rfl, ?_⟩; replace d := a_ (rb_ (vR_ d.out) hb); replace n := a_ (rb_ (vR_ n.out) hb); replace z := a_ (Kd.N_elder' (vN_ z.out) (Kd.N_base E) hb); replace A := a_ (rb_ (vR_ A.out) hb); replace HB := a_ (bp_ bel_ hb); clear hb E; obtain ⟨ck, cl, bP⟩ := Kd.N_slice z.out; subst bP; have p621 : 0 ≤ (0 : Int) := (by omega); have a7 : 0 < (b.length : Int) := dq_; obtain ⟨bu, bY, c621_1, bQ, aN, ay, aO, aP, aQ, aW, aX⟩ := at_T61 (Kd.N_reads' z.out).2.2 0 p621 a7; cases bQ; obtain ⟨ce621, hce621, hMe621, hcc621⟩ := Kd.N_get z.out z61 0 p621 (by first | exact a7 | exact dq_ | (have e_ := (Kd.N_reads' z.out).1; omega)); obtain ⟨ua621_1, uc621_1, rfl, aY, aZ⟩ := k61_openF hMe621; have az := hcc621 1 _ rfl; rw [add_field _ _ 1 (by omega)] at az; replace az := si_ (az.symm.trans ay); injection az with hva_ hvn_ hvc_; rw [hva_] at aZ; rw [hvc_] at aY; clear hva_ hvn_ hvc_ aZ aY; clear hcc621 hce621; have b4 : (0 < b.length) = True := et_ (by omega); (try rw [show ((0 : Int)).toNat = 0 from rfl] at aN); (try rw [show 0 * 5 = 0 from rfl] at aN); (try rw [Addr.add_zero'] at aN); (try rw [show ((0 : Int)).toNat = 0 from rfl] at ay); (try rw [show 0 * 5 = 0 from rfl] at ay); (try rw [Addr.add_zero'] at ay); (try rw [show ((0 : Int)).toNat = 0 from rfl] at aO); (try rw [show 0 * 5 = 0 from rfl] at aO); (try rw [Addr.add_zero'] at aO); (try rw [show ((0 : Int)).toNat = 0 from rfl] at aP); (try rw [show 0 * 5 = 0 from rfl] at aP); (try rw [Addr.add_zero'] at aP); (try rw [show ((0 : Int)).toNat = 0 from rfl] at aQ); (try rw [show 0 * 5 = 0 from rfl] at aQ); (try rw [Addr.add_zero'] at aQ); have a0 := a_ aX; have bl := a_ aW; clear aX aW; replace p621 := et_ p621; replace a7 := et_ a7) | (go_at_call 23; (with_reducible refine (dom_Dom_List.calls k ((rd_T61 b 0).f0) _ _ ((rd_T61 b 0).f1) ((rd_T61 b 0).f2) ((rd_T61 b 0).f3) ((rd_T61 b 0).f4) ab _ ?side1 ?side2 ?side3 A8.out).mono ?_); (case side1 => repeat (first | exact (by repeat (first | (with_reducible exact a0.out) | (with_reducible refine Kd.C_alloc ?_ _) | (with_reducible refine Kd.C_drewN ?_ _) | (with_reducible refine Kd.C_drew ?_) | exact a0.out)) | (with_reducible refine Kd.C_alloc ?_ _) | (with_reducible refine Kd.C_drewN ?_ _) | (with_reducible refine Kd.C_drew ?_))); (case side2 => exact bl.out); (case side3 => exact ca_ ((cb_ HRtab.out HB.out))); rintro e w46 ⟨cm, rfl, E, hb⟩; replace z := a_ (Kd.N_elder' (vN_ z.out) (rs_ E) hb); have ag := a_ (Kd.R_lower (Kd.R_new' (Kd.R_new' (Kd.R_new' E (rl_ (vR_ d.out))) (rl_ (vR_ n.out))) (rl_ (vR_ A.out))) (bz_ bel_)); replace d := a_ (Kd.R_elder' (vR_ d.out) (rs_ E) hb); replace n := a_ (Kd.R_elder' (vR_ n.out) (rs_ E) hb); replace A := a_ (Kd.R_elder' (vR_ A.out) (rs_ E) hb); replace HB := a_ (bp_ bel_ hb); clear hb E) | ((with_reducible refine gate_dst (N := 48) rfl ?_); (try (refine gate_guard (by rfl) ?_; dsimp only)); refine Kd.R_lit (Kd.int .i64) _ 3 ?hg (N := 48) ?hd (xs := ([(-3), (-2), 0, 2] : List Int)) (inner := [.int .i64 (-3), .int .i64 (-2), .int .i64 0, .int .i64 2]) (ok := fun _ => True) (okp := fun _ => True) ?hr ?hp (fun _ hk => hk) trivial (Below.refl _ _) (lr_ _) (by simp) ?_; (case hd => rfl); (case hg => rfl); (case hr => first | (go_simp; done) | (go_simp; rfl)); (case hp => exact (Reps.one (show Kd.M (Kd.int .i64) _ _ _ (-3) [.int .i64 (-3)] from rfl) (Reps.one (show Kd.M (Kd.int .i64) _ _ _ (-2) [.int .i64 (-2)] from rfl) (Reps.one (show Kd.M (Kd.int .i64) _ _ _ 0 [.int .i64 0] from rfl) (Reps.one (show Kd.M (Kd.int .i64) _ _ _ 2 [.int .i64 2] from rfl) (Reps.none _ _)))))); intro cn w47 aq hb hg_ hnew_; clear hg_ hnew_; (first | rw [← bj.out] at aq | (simp only [Int.reduceToNat] at aq; rw [← bj.out] at aq)); replace z := a_ (Kd.N_elder' (vN_ z.out) (rs_ aq) hb); have au := a_ (Kd.R_lower (Kd.R_new' (Kd.R_new' (Kd.R_new' (Kd.R_new' aq (rl_ (vR_ d.out))) (rl_ (vR_ n.out))) (rl_ (vR_ A.out))) (rl_ (vR_ ag.out))) (bz_ bel_)); replace d := a_ (Kd.R_elder' (vR_ d.out) (rs_ aq) hb); replace n := a_ (Kd.R_elder' (vR_ n.out) (rs_ aq) hb); replace A := a_ (Kd.R_elder' (vR_ A.out) (rs_ aq) hb); replace ag := a_ (Kd.R_elder' (vR_ ag.out) (rs_ aq) hb); replace HB := a_ (bp_ bel_ hb); clear hb aq; obtain ⟨co, cp, bR⟩ := Kd.R_slice ag.out; subst bR; obtain ⟨cq, cr, bS⟩ := Kd.R_slice au.out; subst bS) | (go_at_call 41; (with_reducible refine (slices_Equal_int_int.calls k _ _ ab _ _ bn true _ ?_ ?_ ?_ ?_ A9.out).mono ?_); exact ca_ ((rr_ ag.out).2.2); exact (rr_ ag.out).2.1; exact ca_ ((rr_ au.out).2.2); exact (rr_ au.out).2.1; rintro e w' ⟨rfl, ⟨nd, rfl⟩⟩; have p629 : 0 ≤ (1 : Int) := (by omega); have a8 : 1 < (b.length : Int) := dq_; obtain ⟨bv, bZ, c629_1, bT, aR, aA, aS, aT, aU, a1, a2⟩ := at_T61 (Kd.N_reads' z.out).2.2 1 p629 a8; obtain rfl : bu = bv := (by injection bT); obtain ⟨ce629, hce629, hMe629, hcc629⟩ := Kd.N_get z.out z61 1 p629 (by first | exact a8 | exact dq_ | (have e_ := (Kd.N_reads' z.out).1; omega)); obtain ⟨ua629_1, uc629_1, rfl, a3, a4⟩ := k61_openF hMe629; have aB := hcc629 1 _ rfl; rw [add_field _ _ 1 (by omega)] at aB; replace aB := si_ (aB.symm.trans aA); injection aB with hva_ hvn_ hvc_; rw [hva_] at a4; rw [hvc_] at a3; clear hva_ hvn_ hvc_ a4 a3; clear hcc629 hce629; (try simp only [show (1 : Int).toNat = 1 from rfl, Nat.reduceMul, Nat.reduceEqDiff, Go.Addr.add, ↓reduceIte] at aR); (try simp only [show (1 : Int).toNat = 1 from rfl, Nat.reduceMul, Nat.reduceEqDiff, Go.Addr.add, ↓reduceIte] at aA); (try simp only [show (1 : Int).toNat = 1 from rfl, Nat.reduceMul, Nat.reduceEqDiff, Go.Addr.add, ↓reduceIte] at aS); (try simp only [show (1 : Int).toNat = 1 from rfl, Nat.reduceMul, Nat.reduceEqDiff, Go.Addr.add, ↓reduceIte] at aT); (try simp only [show (1 : Int).toNat = 1 from rfl, Nat.reduceMul, Nat.reduceEqDiff, Go.Addr.add, ↓reduceIte] at aU); have b5 : (1 < b.length) = True := et_ (by omega); (try rw [show ((1 : Int)).toNat = 1 from rfl] at aR); (try rw [show 1 * 5 = 5 from rfl] at aR); (try rw [show ((1 : Int)).toNat = 1 from rfl] at aA); (try rw [show 1 * 5 = 5 from rfl] at aA); (try rw [show ((1 : Int)).toNat = 1 from rfl] at aS); (try rw [show 1 * 5 = 5 from rfl] at aS); (try rw [show ((1 : Int)).toNat = 1 from rfl] at aT); (try rw [show 1 * 5 = 5 from rfl] at aT); (try rw [show ((1 : Int)).toNat = 1 from rfl] at aU); (try rw [show 1 * 5 = 5 from rfl] at aU); have a5 := a_ a2; have bm := a_ a1; clear a2 a1; replace p629 := et_ p629; replace a8 := et_ a8) | (go_at_call 23; (with_reducible refine (dom_Dom_List.calls k ((rd_T61 b 1).f0) _ _ ((rd_T61 b 1).f1) ((rd_T61 b 1).f2) ((rd_T61 b 1).f3) ((rd_T61 b 1).f4) Y _ ?side1 ?side2 ?side3 bW.out).mono ?_); (case side1 => repeat (first | exact (by repeat (first | (with_reducible exact a5.out) | (with_reducible refine Kd.C_alloc ?_ _) | (with_reducible refine Kd.C_drewN ?_ _) | (with_reducible refine Kd.C_drew ?_) | exact a5.out)) | (with_reducible refine Kd.C_alloc ?_ _) | (with_reducible refine Kd.C_drewN ?_ _) | (with_reducible refine Kd.C_drew ?_))); (case side2 => exact bm.out); (case side3 => repeat (first | exact (cb_ HRtab.out bel_) | (with_reducible refine Kd.C_alloc ?_ _) | (with_reducible refine Kd.C_drewN ?_ _) | (with_reducible refine Kd.C_drew ?_))); rintro e w51 ⟨ct, rfl, E, hb⟩; have aC := a_ (Kd.R_lower (Kd.R_new' (Kd.R_new' (Kd.R_new' (Kd.R_new' (Kd.R_new' E (rl_ (vR_ d.out))) (rl_ (vR_ n.out))) (rl_ (vR_ A.out))) (rl_ (vR_ ag.out))) (rl_ (vR_ au.out))) (bz_ bel_)); replace d := a_ (Kd.R_elder' (vR_ d.out) (rs_ E) hb); replace n := a_ (Kd.R_elder' (vR_ n.out) (rs_ E) hb); replace A := a_ (Kd.R_elder' (vR_ A.out) (rs_ E) hb); replace ag := a_ (Kd.R_elder' (vR_ ag.out) (rs_ E) hb); replace au := a_ (Kd.R_elder' (vR_ au.out) (rs_ E) hb); replace HB := a_ (bp_ bel_ hb); clear hb E) | ((with_reducible refine gate_dst (N := 56) rfl ?_); (try (refine gate_guard (by rfl) ?_; dsimp only)); refine Kd.R_lit (Kd.int .i64) _ 3 ?hg (N := 56) ?hd (xs := ([0, 2, 3] : List Int)) (inner := [.int .i64 0, .int .i64 2, .int .i64 3]) (ok := fun _ => True) (okp := fun _ => True) ?hr ?hp (fun _ hk => hk) trivial (Below.refl _ _) (lr_ _) (by simp) ?_; (case hd => rfl); (case hg => rfl); (case hr => first | (go_simp; done) | (go_simp; rfl)); (case hp => exact (Reps.one (show Kd.M (Kd.int .i64) _ _ _ 0 [.int .i64 0] from rfl) (Reps.one (show Kd.M (Kd.int .i64) _ _ _ 2 [.int .i64 2] from rfl) (Reps.one (show Kd.M (Kd.int .i64) _ _ _ 3 [.int .i64 3] from rfl) (Reps.none _ _))))); intro cu w52 aV hb hg_ hnew_; clear hg_ hnew_; (first | rw [← bk.out] at aV | (simp only [Int.reduceToNat] at aV; rw [← bk.out] at aV)); have a9 := a_ (Kd.R_lower (Kd.R_new' (Kd.R_new' (Kd.R_new' (Kd.R_new' (Kd.R_new' (Kd.R_new' aV (rl_ (vR_ d.out))) (rl_ (vR_ n.out))) (rl_ (vR_ A.out))) (rl_ (vR_ ag.out))) (rl_ (vR_ au.out))) (rl_ (vR_ aC.out))) (bz_ bel_)); replace aC := a_ (Kd.R_elder' (vR_ aC.out) (rs_ aV) hb); replace HB := a_ (bp_ bel_ hb); clear hb aV; obtain ⟨cv, cw, bU⟩ := Kd.R_slice aC.out; subst bU; obtain ⟨cx, cy, bV⟩ := Kd.R_slice a9.out; subst bV) | (go_at_call 41; (with_reducible refine (slices_Equal_int_int.calls k _ _ Y _ _ bp true _ ?_ ?_ ?_ ?_ bX.out).mono ?_); exact ca_ ((rr_ aC.out).2.2); exact (rr_ aC.out).2.1; exact ca_ ((rr_ a9.out).2.2); exact (rr_ a9.out).2.1; rintro e w' ⟨rfl, ⟨nd, rfl⟩⟩))
       go_ret
       exact ⟨by first | rfl | (simp [errW_none, errW_some] <;> rfl) | (simp [*, errW_none, errW_some] <;> rfl), bel_⟩
      ·
       replace c14 := bf_.mpr c14
       subst c14
       have H1 : (none) = some r := by rw [ig_ (show ¬ (false = true) by decide)] at H; exact H
       clear H
       have H := H1
       clear H1
       exact absurd H (by simp)
     ·
      rw [ig_ c11] at H
      exact absurd H (by simp)
    ·
     replace c10 := bf_.mpr c10
     subst c10
     have H1 : (none) = some r := by rw [ig_ (show ¬ (false = true) by decide)] at H; exact H
     clear H
     have H := H1
     clear H1
     exact absurd H (by simp)
   ·
    rw [ig_ c7] at H
    exact absurd H (by simp)
  ·
   rw [ig_ c6] at H
   exact absurd H (by simp)
 ·
  replace c5 := bf_.mpr c5
  subst c5
  have H1 : (none) = some r := by rw [ig_ (show ¬ (false = true) by decide)] at H; exact H
  clear H
  have H := H1
  clear H1
  exact absurd H (by simp)

/-! ### jigsawref10_Same: function 14 -/
mutual
def jigsawref10_Same.l0 : Nat → List (List Int) → List (List Int) → Int → Option (Bool)
 | 0, _, _, _ => none
 | k + 1, b, c, a => if a < (b.length : Int) then (if 0 ≤ a then (if a < (c.length : Int) then (if ((rd_L5 b a).length : Int) = ((rd_L5 c a).length : Int) then (jigsawref10_Same.l1 k b c a 0) else (none)) else (none)) else (none)) else (some true)
def jigsawref10_Same.l1 : Nat → List (List Int) → List (List Int) → Int → Int → Option (Bool)
 | 0, _, _, _, _ => none
 | k + 1, c, d, a, b => if 0 ≤ a then (if a < (c.length : Int) then (if b < ((rd_L5 c a).length : Int) then (if 0 ≤ b then (if a < (d.length : Int) then (if b < ((rd_L5 d a).length : Int) then (if (rd (rd_L5 c a) b) = (rd (rd_L5 d a) b) then (jigsawref10_Same.l1 k c d a (wrap64 (b + 1))) else (none)) else (none)) else (none)) else (none)) else (jigsawref10_Same.l0 k c d (wrap64 (a + 1)))) else (none)) else (none)
end
def jigsawref10_Same.f (k : Nat) (a : List (List Int)) (b : List (List Int)) : Option (Bool) := if (a.length : Int) = (b.length : Int) then (jigsawref10_Same.l0 k a b 0) else (none)
theorem jigsawref10_Same.mono_l : ∀ k, (∀ a b c, LeO (jigsawref10_Same.l0 k a b c) (jigsawref10_Same.l0 (k + 1) a b c)) ∧ (∀ a b c d, LeO (jigsawref10_Same.l1 k a b c d) (jigsawref10_Same.l1 (k + 1) a b c d))
 | 0 => ⟨fun _ _ _ r h => by simp [jigsawref10_Same.l0] at h, fun _ _ _ _ r h => by simp [jigsawref10_Same.l1] at h⟩
 | k + 1 => by
  obtain ⟨ih0, ih1⟩ := jigsawref10_Same.mono_l k
  refine ⟨?_, ?_⟩
  ·
   intro a b c
   unfold jigsawref10_Same.l0
   exact leo_
  ·
   intro a b c d
   unfold jigsawref10_Same.l1
   exact leo_
theorem jigsawref10_Same.mono : ∀ a b k, LeO (jigsawref10_Same.f k a b) (jigsawref10_Same.f (k + 1) a b) := by
 intro a b k
 obtain ⟨ih0, ih1⟩ := jigsawref10_Same.mono_l k
 unfold jigsawref10_Same.f
 exact leo_
set_option maxHeartbeats 8000000 in
set_option maxRecDepth 100000 in
theorem jigsawref10_Same.calls (k : Nat) (A0 : Option Addr) (c0 : Nat) (c : List (List Int)) (A1 : Option Addr) (c1 : Nat) (d : List (List Int)) (r : Bool) (w : World) (ab : Kd.C (Kd.slice 3 (Kd.int .i64)) w A0 c.length c) (ac : c.length ≤ c0) (ad : Kd.C (Kd.slice 3 (Kd.int .i64)) w A1 d.length d) (ae : d.length ≤ c1) (h : jigsawref10_Same.f k c d = some r) :
  Calls Tryz.prog 14 #[.slice A0 c.length c0, .slice A1 d.length c1] w fun e w' => e = .returned (.bool r) ∧ Drawn0 w w' := by
 have I := a_ ab
 have aF := a_ ac
 clear ab ac
 have af := a_ ad
 have aG := a_ ae
 clear ad ae
 unfold jigsawref10_Same.f at h
 have H := h
 clear h
 by_cases c3 : (c.length : Int) = (d.length : Int)
 ·
  rw [ip_ c3] at H
  have c3b0 : ((c.length : Int) == (d.length : Int)) = true := beq_iff_eq.mpr c3
  have c3b1 : ((c.length : Int) != (d.length : Int)) = false := bn_.mpr c3
  have c3b2 : (c.length == d.length) = true := by first | simpa using c3 | (simp at c3 ⊢; omega)
  clear c3
  have H' := a_ H
  clear H
  go_enter Tryz.func14, Tryz.ntmps14
  go_wp2
  repeat (go_quiet (fail); try go_wp2)
  go_loopg [5] k (fun kq v5 w' => ∃ (a : Int), v5 = .int .i64 a ∧ Aside0 (jigsawref10_Same.l0 kq c d a = some r) ∧ Aside0 (kq ≤ k) ∧ Drawn0 w w')
  case atStart => exact ⟨(0), eq_, H', ⟨lr_ _⟩, by repeat (first | exact d0_ _ | apply Drawn0.step)⟩
  case round =>
   clear H'
   try clear c1
   try clear p2
   try clear c3
   try clear c3b0
   try clear c3b1
   try clear c3b2
   obtain ⟨a, rfl, HA, J, ⟨m1, rfl⟩⟩ := hrel
   cases gk with
   | zero => exact absurd HA.out (by simp [jigsawref10_Same.l0])
   | succ k1 =>
    have H := HA.out
    clear HA
    simp only [jigsawref10_Same.l0] at H
    by_cases c4 : a < (c.length : Int)
    ·
     rw [ip_ c4] at H
     have c4b0 : decide (a < (c.length : Int)) = true := dt_ c4
     clear c4
     by_cases c5 : 0 ≤ a
     ·
      rw [ip_ c5] at H
      have c5b0 : decide (0 ≤ a) = true := dt_ c5
      clear c5
      by_cases c6 : a < (d.length : Int)
      ·
       rw [ip_ c6] at H
       have c6b0 : decide (a < (d.length : Int)) = true := dt_ c6
       clear c6
       by_cases c7 : ((rd_L5 c a).length : Int) = ((rd_L5 d a).length : Int)
       ·
        rw [ip_ c7] at H
        have c7b0 : (((rd_L5 c a).length : Int) == ((rd_L5 d a).length : Int)) = true := beq_iff_eq.mpr c7
        have c7b1 : (((rd_L5 c a).length : Int) != ((rd_L5 d a).length : Int)) = false := bn_.mpr c7
        have c7b2 : ((rd_L5 c a).length == (rd_L5 d a).length) = true := by first | simpa using c7 | (simp at c7 ⊢; omega)
        clear c7
        have H' := a_ H
        clear H
        have p637 : 0 ≤ (a : Int) := dq_
        have v : a < (c.length : Int) := dq_
        obtain ⟨x, ax, c637_0, ag, M, n, N⟩ := at_L5 I.out a p637 v
        cases ag
        have am := a_ n
        clear N n
        replace p637 := et_ p637
        replace v := et_ v
        have p638 : 0 ≤ (a : Int) := dq_
        have y : a < (d.length : Int) := dq_
        obtain ⟨Y, ay, c638_0, ah, O, o, P⟩ := at_L5 af.out a p638 y
        cases ah
        have an := a_ o
        clear P o
        replace p638 := et_ p638
        replace y := et_ y
        go_wp2
        repeat (go_quiet (fail); try go_wp2)
        go_loopg [6] k1 (fun kq v6 w' => ∃ (b : Int), v6 = .int .i64 b ∧ Aside0 (jigsawref10_Same.l1 kq c d a b = some r) ∧ Aside0 (kq ≤ k1) ∧ Drawn0 w w')
        case atStart => exact ⟨(0), eq_, H', ⟨lr_ _⟩, by repeat (first | exact d0_ _ | apply Drawn0.step)⟩
        case round =>
         clear H'
         try clear c1
         try clear p2
         try clear c3
         try clear c3b0
         try clear c3b1
         try clear c3b2
         try clear c4
         try clear c4b0
         try clear c5
         try clear c5b0
         try clear c6
         try clear c6b0
         try clear p6
         try clear q6
         try clear aH
         try clear c7
         try clear c7b0
         try clear c7b1
         try clear c7b2
         try clear M
         try clear O
         try clear p2
         try clear p637
         try clear p638
         try clear v
         try clear y
         obtain ⟨b, rfl, HA, K, ⟨m2, rfl⟩⟩ := hrel
         cases gk with
         | zero => exact absurd HA.out (by simp [jigsawref10_Same.l1])
         | succ k2 =>
          have H := HA.out
          clear HA
          simp only [jigsawref10_Same.l1] at H
          by_cases c8 : 0 ≤ a
          ·
           rw [ip_ c8] at H
           have c8b0 : decide (0 ≤ a) = true := dt_ c8
           clear c8
           by_cases c9 : a < (c.length : Int)
           ·
            rw [ip_ c9] at H
            have c9b0 : decide (a < (c.length : Int)) = true := dt_ c9
            clear c9
            by_cases c10 : b < ((rd_L5 c a).length : Int)
            ·
             rw [ip_ c10] at H
             have c10b0 : decide (b < ((rd_L5 c a).length : Int)) = true := dt_ c10
             clear c10
             by_cases c11 : 0 ≤ b
             ·
              rw [ip_ c11] at H
              have c11b0 : decide (0 ≤ b) = true := dt_ c11
              clear c11
              by_cases c12 : a < (d.length : Int)
              ·
               rw [ip_ c12] at H
               have c12b0 : decide (a < (d.length : Int)) = true := dt_ c12
               clear c12
               by_cases c13 : b < ((rd_L5 d a).length : Int)
               ·
                rw [ip_ c13] at H
                have c13b0 : decide (b < ((rd_L5 d a).length : Int)) = true := dt_ c13
                clear c13
                by_cases c14 : (rd (rd_L5 c a) b) = (rd (rd_L5 d a) b)
                ·
                 rw [ip_ c14] at H
                 have c14b0 : ((rd (rd_L5 c a) b) == (rd (rd_L5 d a) b)) = true := beq_iff_eq.mpr c14
                 have c14b1 : ((rd (rd_L5 c a) b) != (rd (rd_L5 d a) b)) = false := bn_.mpr c14
                 clear c14
                 have H' := a_ H
                 clear H
                 have p639 : 0 ≤ (a : Int) := dq_
                 have l : a < (c.length : Int) := dq_
                 obtain ⟨z, X, c639_0, A, p, g, m⟩ := at_L5 I.out a p639 l
                 obtain rfl : x = z := (by injection A)
                 have Q := a_ g
                 clear m g
                 replace p639 := et_ p639
                 replace l := et_ l
                 have p640 : 0 ≤ (a : Int) := dq_
                 have B : a < (c.length : Int) := dq_
                 obtain ⟨Z, az, c640_0, ai, U, q, s⟩ := at_L5 I.out a p640 B
                 obtain rfl : x = Z := (by injection ai)
                 have V := a_ s
                 have ao := a_ q
                 clear s q
                 replace p640 := et_ p640
                 replace B := et_ B
                 have ea_ := si_ (p.symm.trans U)
                 injection ea_ with ea_ en_ ec_
                 subst ea_
                 subst ec_
                 clear en_
                 have p641 : 0 ≤ (b : Int) := dq_
                 have E : b < ((rd_L5 c a).length : Int) := dq_
                 obtain ⟨aB, aj, ap⟩ := ai_ V.out b p641 E
                 cases aj
                 replace p641 := et_ p641
                 replace E := et_ E
                 have p642 : 0 ≤ (a : Int) := dq_
                 have F : a < (d.length : Int) := dq_
                 obtain ⟨aa, aA, c642_0, ak, aq, t, u⟩ := at_L5 af.out a p642 F
                 obtain rfl : Y = aa := (by injection ak)
                 have W := a_ u
                 have ar := a_ t
                 clear u t
                 replace p642 := et_ p642
                 replace F := et_ F
                 have p643 : 0 ≤ (b : Int) := dq_
                 have G : b < ((rd_L5 d a).length : Int) := dq_
                 obtain ⟨aC, al, au⟩ := ai_ W.out b p643 G
                 cases al
                 replace p643 := et_ p643
                 replace G := et_ G
                 go_wp2
                 repeat (go_quiet (fail); try go_wp2)
                 go_roundg k2
                 case measure => have := J.out; have := K.out; omega
                 case rel => exact ⟨(wrap64 (b + 1)), eq_, H', ⟨by have := J.out; have := K.out; omega⟩, by repeat (first | exact d0_ _ | apply Drawn0.step)⟩
                ·
                 rw [ig_ c14] at H
                 exact absurd H (by simp)
               ·
                rw [ig_ c13] at H
                exact absurd H (by simp)
              ·
               rw [ig_ c12] at H
               exact absurd H (by simp)
             ·
              rw [ig_ c11] at H
              exact absurd H (by simp)
            ·
             rw [ig_ c10] at H
             have c10b0 : decide (b < ((rd_L5 c a).length : Int)) = false := df_ c10
             clear c10
             have H' := a_ H
             clear H
             have p639 : 0 ≤ (a : Int) := dq_
             have l : a < (c.length : Int) := dq_
             obtain ⟨z, X, c639_0, A, p, g, m⟩ := at_L5 I.out a p639 l
             obtain rfl : x = z := (by injection A)
             have Q := a_ g
             clear m g
             replace p639 := et_ p639
             replace l := et_ l
             go_wp2
             repeat (go_quiet (fail); try go_wp2)
             go_roundg k2
             case measure => have := J.out; have := K.out; omega
             case rel => exact ⟨(wrap64 (a + 1)), eq_, H', ⟨by have := J.out; have := K.out; omega⟩, by repeat (first | exact d0_ _ | apply Drawn0.step)⟩
           ·
            rw [ig_ c9] at H
            exact absurd H (by simp)
          ·
           rw [ig_ c8] at H
           exact absurd H (by simp)
       ·
        rw [ig_ c7] at H
        exact absurd H (by simp)
      ·
       rw [ig_ c6] at H
       exact absurd H (by simp)
     ·
      rw [ig_ c5] at H
      exact absurd H (by simp)
    ·
     rw [ig_ c4] at H
     have c4b0 : decide (a < (c.length : Int)) = false := df_ c4
     clear c4
     obtain rfl := si_ H
     go_wp2
     repeat (go_quiet (fail); try go_wp2)
     go_ret
     exact ⟨by first | rfl | (simp; done) | (simp [*]; done), by repeat (first | exact d0_ _ | apply Drawn0.step)⟩
 ·
  rw [ig_ c3] at H
  exact absurd H (by simp)

end Go.Proofs.YtiofjnhmogeenaaGreatDoor.XExtFilters
