-- PRINTED BY print.sh 35421559b90ae4d0a3588c463048766b98c2df88dd9212a6774a882060cdf62d: not written by this session
import Derived.Test.YtjboljhglcecpaaPNumBackx0
import Derived.Test.YtjboljhglcecpaaPNumBackx1
namespace Go.Proofs.Ytjboljhglcecpaa.PNumBack
open Go.RowKit Go.Proofs.YtjboljhglcecpaaW.PrintWords Go.Proofs.YtjboljhglcecpaaW.PrintLast Go.Proofs.YtjboljhglcecpaaW.PrintMore
attribute [local go_sem] max2_int min2_int max_two min_two max_three min_three max_four min_four   -- for this text's walks alone
set_option linter.unusedVariables false
set_option linter.unusedSimpArgs false

/-! ### jigsawlaw01_NumBack: function 6 -/
mutual
def jigsawlaw01_NumBack.j0 : Nat → Int → Int → Option (Bool)
  | 0, _, _ => none
  | k + 1, x0, x1 => (num_Mul.f k x0 x1).bind fun bt119 => (if bt119.2 = true then (jigsawlaw01_NumBack.j1 k x0 x1 bt119.1 (x1 != 0)) else (jigsawlaw01_NumBack.j1 k x0 x1 bt119.1 false))
def jigsawlaw01_NumBack.j1 : Nat → Int → Int → Int → Bool → Option (Bool)
  | 0, _, _, _, _ => none
  | k + 1, x0, x1, x9, x52 => if x52 = true then ((num_Quo.f x9 x1).bind fun bt121 => ((num_Floor.f x9 x1).bind fun bt123 => ((num_Rem.f x9 x1).bind fun bt125 => (if (bt121.2 != bt123.2) = true then (some false) else (if (bt121.2 != bt125.2) = true then (some false) else (if bt121.2 = true then (if bt121.1 = x0 then (if bt123.1 = x0 then (if bt125.1 = 0 then (jigsawlaw01_NumBack.j2 k x0 x1) else (some false)) else (some false)) else (some false)) else (jigsawlaw01_NumBack.j2 k x0 x1))))))) else (jigsawlaw01_NumBack.j2 k x0 x1)
def jigsawlaw01_NumBack.j2 : Nat → Int → Int → Option (Bool)
  | 0, _, _ => none
  | k + 1, x0, x1 => (num_Quo.f x0 x1).bind fun bt127 => ((num_Rem.f x0 x1).bind fun bt129 => (if (bt127.2 != bt129.2) = true then (jigsawlaw01_NumBack.j3 k x0 x1 bt127.2 bt129.1 true) else (if bt127.2 = true then (jigsawlaw01_NumBack.j3 k x0 x1 bt127.2 bt129.1 ((wrap64 ((wrap64 (x1 * bt127.1)) + bt129.1)) != x0)) else (jigsawlaw01_NumBack.j3 k x0 x1 bt127.2 bt129.1 false))))
def jigsawlaw01_NumBack.j3 : Nat → Int → Int → Bool → Int → Bool → Option (Bool)
  | 0, _, _, _, _, _ => none
  | k + 1, x0, x1, x18, x19, x122 => if x122 = true then (some false) else (if x18 = true then (jigsawlaw01_NumBack.j4 k x0 x1 x19 (x19 == 0)) else (jigsawlaw01_NumBack.j4 k x0 x1 x19 true))
def jigsawlaw01_NumBack.j4 : Nat → Int → Int → Int → Bool → Option (Bool)
  | 0, _, _, _, _ => none
  | k + 1, x0, x1, x19, x128 => if x128 = true then ((jigsawlaw01_wakes.f).bind fun t131 => (some t131)) else (if x19 > 0 then ((jigsawlaw01_wakes.f).bind fun t132 => (if t132 = true then (if ((decide (x19 < 0)) == (decide (x0 < 0))) = true then (if x1 < 0 then (if (wrap64 (-x19)) > x1 then (some true) else (if x1 > 0 then (some (decide ((wrap64 (-x19)) > (wrap64 (-x1))))) else (some false))) else (if x1 > 0 then (some (decide ((wrap64 (-x19)) > (wrap64 (-x1))))) else (some false))) else (some false)) else (some false))) else ((jigsawlaw01_wakes.f).bind fun t133 => (if t133 = true then (if ((decide (x19 < 0)) == (decide (x0 < 0))) = true then (if x1 < 0 then (if x19 > x1 then (some true) else (if x1 > 0 then (some (decide (x19 > (wrap64 (-x1))))) else (some false))) else (if x1 > 0 then (some (decide (x19 > (wrap64 (-x1))))) else (some false))) else (some false)) else (some false))))
end
def jigsawlaw01_NumBack.f (k : Nat) (a0 : Int) (a1 : Int) : Option (Bool) := (num_Add.f a0 a1).bind fun bt115 => (if bt115.2 = true then ((num_Sub.f bt115.1 a1).bind fun bt117 => (if bt117.2 = true then (if bt117.1 = a0 then (jigsawlaw01_NumBack.j0 k a0 a1) else (some false)) else (some false))) else (jigsawlaw01_NumBack.j0 k a0 a1))
theorem jigsawlaw01_NumBack.mono_l : ∀ k, (∀ y0 y1, LeO (jigsawlaw01_NumBack.j0 k y0 y1) (jigsawlaw01_NumBack.j0 (k + 1) y0 y1)) ∧ (∀ y0 y1 y2 y3, LeO (jigsawlaw01_NumBack.j1 k y0 y1 y2 y3) (jigsawlaw01_NumBack.j1 (k + 1) y0 y1 y2 y3)) ∧ (∀ y0 y1, LeO (jigsawlaw01_NumBack.j2 k y0 y1) (jigsawlaw01_NumBack.j2 (k + 1) y0 y1)) ∧ (∀ y0 y1 y2 y3 y4, LeO (jigsawlaw01_NumBack.j3 k y0 y1 y2 y3 y4) (jigsawlaw01_NumBack.j3 (k + 1) y0 y1 y2 y3 y4)) ∧ (∀ y0 y1 y2 y3, LeO (jigsawlaw01_NumBack.j4 k y0 y1 y2 y3) (jigsawlaw01_NumBack.j4 (k + 1) y0 y1 y2 y3))
  | 0 => ⟨fun _ _ r h => by simp [jigsawlaw01_NumBack.j0] at h, fun _ _ _ _ r h => by simp [jigsawlaw01_NumBack.j1] at h, fun _ _ r h => by simp [jigsawlaw01_NumBack.j2] at h, fun _ _ _ _ _ r h => by simp [jigsawlaw01_NumBack.j3] at h, fun _ _ _ _ r h => by simp [jigsawlaw01_NumBack.j4] at h⟩
  | k + 1 => by
    obtain ⟨ih0, ih1, ih2, ih3, ih4⟩ := jigsawlaw01_NumBack.mono_l k
    refine ⟨?_, ?_, ?_, ?_, ?_⟩
    · intro y0 y1
      unfold jigsawlaw01_NumBack.j0
      repeat' first
      | (with_reducible exact ih0 _ _)
      | (with_reducible exact ih1 _ _ _ _)
      | (with_reducible exact ih2 _ _)
      | (with_reducible exact ih3 _ _ _ _ _)
      | (with_reducible exact ih4 _ _ _ _)
      | (with_reducible exact num_Mul.mono _ _ _)
      | (with_reducible exact LeO.refl _)
      | (with_reducible exact LeO.none _)
      | (with_reducible refine LeO.ite ?_ ?_)
      | (with_reducible refine LeO.bind ?_ (fun _ => ?_))
      | exact ih0 _ _
      | exact ih1 _ _ _ _
      | exact ih2 _ _
      | exact ih3 _ _ _ _ _
      | exact ih4 _ _ _ _
      | exact num_Mul.mono _ _ _
      | exact LeO.none _
      | refine LeO.ite ?_ ?_
      | refine LeO.bind ?_ (fun _ => ?_)
    · intro y0 y1 y2 y3
      unfold jigsawlaw01_NumBack.j1
      repeat' first
      | (with_reducible exact ih0 _ _)
      | (with_reducible exact ih1 _ _ _ _)
      | (with_reducible exact ih2 _ _)
      | (with_reducible exact ih3 _ _ _ _ _)
      | (with_reducible exact ih4 _ _ _ _)
      | (with_reducible exact num_Mul.mono _ _ _)
      | (with_reducible exact LeO.refl _)
      | (with_reducible exact LeO.none _)
      | (with_reducible refine LeO.ite ?_ ?_)
      | (with_reducible refine LeO.bind ?_ (fun _ => ?_))
      | exact ih0 _ _
      | exact ih1 _ _ _ _
      | exact ih2 _ _
      | exact ih3 _ _ _ _ _
      | exact ih4 _ _ _ _
      | exact num_Mul.mono _ _ _
      | exact LeO.none _
      | refine LeO.ite ?_ ?_
      | refine LeO.bind ?_ (fun _ => ?_)
    · intro y0 y1
      unfold jigsawlaw01_NumBack.j2
      repeat' first
      | (with_reducible exact ih0 _ _)
      | (with_reducible exact ih1 _ _ _ _)
      | (with_reducible exact ih2 _ _)
      | (with_reducible exact ih3 _ _ _ _ _)
      | (with_reducible exact ih4 _ _ _ _)
      | (with_reducible exact num_Mul.mono _ _ _)
      | (with_reducible exact LeO.refl _)
      | (with_reducible exact LeO.none _)
      | (with_reducible refine LeO.ite ?_ ?_)
      | (with_reducible refine LeO.bind ?_ (fun _ => ?_))
      | exact ih0 _ _
      | exact ih1 _ _ _ _
      | exact ih2 _ _
      | exact ih3 _ _ _ _ _
      | exact ih4 _ _ _ _
      | exact num_Mul.mono _ _ _
      | exact LeO.none _
      | refine LeO.ite ?_ ?_
      | refine LeO.bind ?_ (fun _ => ?_)
    · intro y0 y1 y2 y3 y4
      unfold jigsawlaw01_NumBack.j3
      repeat' first
      | (with_reducible exact ih0 _ _)
      | (with_reducible exact ih1 _ _ _ _)
      | (with_reducible exact ih2 _ _)
      | (with_reducible exact ih3 _ _ _ _ _)
      | (with_reducible exact ih4 _ _ _ _)
      | (with_reducible exact num_Mul.mono _ _ _)
      | (with_reducible exact LeO.refl _)
      | (with_reducible exact LeO.none _)
      | (with_reducible refine LeO.ite ?_ ?_)
      | (with_reducible refine LeO.bind ?_ (fun _ => ?_))
      | exact ih0 _ _
      | exact ih1 _ _ _ _
      | exact ih2 _ _
      | exact ih3 _ _ _ _ _
      | exact ih4 _ _ _ _
      | exact num_Mul.mono _ _ _
      | exact LeO.none _
      | refine LeO.ite ?_ ?_
      | refine LeO.bind ?_ (fun _ => ?_)
    · intro y0 y1 y2 y3
      unfold jigsawlaw01_NumBack.j4
      repeat' first
      | (with_reducible exact ih0 _ _)
      | (with_reducible exact ih1 _ _ _ _)
      | (with_reducible exact ih2 _ _)
      | (with_reducible exact ih3 _ _ _ _ _)
      | (with_reducible exact ih4 _ _ _ _)
      | (with_reducible exact num_Mul.mono _ _ _)
      | (with_reducible exact LeO.refl _)
      | (with_reducible exact LeO.none _)
      | (with_reducible refine LeO.ite ?_ ?_)
      | (with_reducible refine LeO.bind ?_ (fun _ => ?_))
      | exact ih0 _ _
      | exact ih1 _ _ _ _
      | exact ih2 _ _
      | exact ih3 _ _ _ _ _
      | exact ih4 _ _ _ _
      | exact num_Mul.mono _ _ _
      | exact LeO.none _
      | refine LeO.ite ?_ ?_
      | refine LeO.bind ?_ (fun _ => ?_)
theorem jigsawlaw01_NumBack.mono : ∀ a0 a1 k, LeO (jigsawlaw01_NumBack.f k a0 a1) (jigsawlaw01_NumBack.f (k + 1) a0 a1) := by
  intro a0 a1 k
  obtain ⟨ih0, ih1, ih2, ih3, ih4⟩ := jigsawlaw01_NumBack.mono_l k
  unfold jigsawlaw01_NumBack.f
  repeat' first
      | (with_reducible exact ih0 _ _)
      | (with_reducible exact ih1 _ _ _ _)
      | (with_reducible exact ih2 _ _)
      | (with_reducible exact ih3 _ _ _ _ _)
      | (with_reducible exact ih4 _ _ _ _)
      | (with_reducible exact num_Mul.mono _ _ _)
      | (with_reducible exact LeO.refl _)
      | (with_reducible exact LeO.none _)
      | (with_reducible refine LeO.ite ?_ ?_)
      | (with_reducible refine LeO.bind ?_ (fun _ => ?_))
      | exact ih0 _ _
      | exact ih1 _ _ _ _
      | exact ih2 _ _
      | exact ih3 _ _ _ _ _
      | exact ih4 _ _ _ _
      | exact num_Mul.mono _ _ _
      | exact LeO.none _
      | refine LeO.ite ?_ ?_
      | refine LeO.bind ?_ (fun _ => ?_)
set_option maxHeartbeats 8000000 in
set_option maxRecDepth 100000 in
theorem jigsawlaw01_NumBack.calls (k : Nat) (a0 : Int) (a1 : Int) (r : Bool) (w : World) (h : jigsawlaw01_NumBack.f k a0 a1 = some r) :
    Calls Try.prog 6 #[.int .i64 a0, .int .i64 a1] w fun e w' => e = .returned (.bool r) ∧ Drawn0 w w' := by
  have H : ((num_Add.f a0 a1).bind fun bt115 => (if bt115.2 = true then ((num_Sub.f bt115.1 a1).bind fun bt117 => (if bt117.2 = true then (if bt117.1 = a0 then (jigsawlaw01_NumBack.j0 k a0 a1) else (some false)) else (some false))) else (jigsawlaw01_NumBack.j0 k a0 a1))) = some r := h
  clear h
  replace H := Option.bind_eq_some_iff.mp H
  obtain ⟨⟨t115, t116⟩, A30, H⟩ := H
  replace H : (if t116 = true then ((num_Sub.f t115 a1).bind fun bt117 => (if bt117.2 = true then (if bt117.1 = a0 then (jigsawlaw01_NumBack.j0 k a0 a1) else (some false)) else (some false))) else (jigsawlaw01_NumBack.j0 k a0 a1)) = some r := H
  have A3 := Aside0.mk A30
  clear A30
  have HC4 := Aside0.mk H
  clear H
  go_enter Try.func6, Try.ntmps6
  go_upto_if 28 with (first | ((with_reducible refine gate_callee (f := 16) rfl ?_); refine goesL_ (some 25) rfl rfl Try.func16 (by kernel_rfl) rfl #[.int .i64 a0, .int .i64 a1] rfl (by (try simp only [List.map_toArray, List.map_cons, List.map_nil]); first | done | rfl | (simp only [List.length_drop, List.length_take]; rfl)) ?_; (with_reducible refine (num_Add.calls a0 a1 t115 t116 _ A3.out).mono ?_); rintro e w' ⟨rfl, ⟨nd, rfl⟩⟩; refine ⟨_, rfl, ?_⟩))
  (try simp only [Act.put, List.setIfInBounds_toArray, List.set_cons_zero, List.set_cons_succ])
  go_cut [] (fun wc => ∃ (kq : Nat), Aside0 (jigsawlaw01_NumBack.j0 kq a0 a1 = some r) ∧ Aside0 (kq ≤ k) ∧ Drawn0 w wc)
  case first =>
    have H := HC4.out
    clear HC4
    by_cases c5 : t116 = true
    · subst c5
      have H1 : ((num_Sub.f t115 a1).bind fun bt117 => (if bt117.2 = true then (if bt117.1 = a0 then (jigsawlaw01_NumBack.j0 k a0 a1) else (some false)) else (some false))) = some r := by rw [if_pos rfl] at H; exact H
      clear H
      have H := H1
      clear H1
      replace H := Option.bind_eq_some_iff.mp H
      obtain ⟨⟨t117, t118⟩, A60, H⟩ := H
      replace H : (if t118 = true then (if t117 = a0 then (jigsawlaw01_NumBack.j0 k a0 a1) else (some false)) else (some false)) = some r := H
      have A6 := Aside0.mk A60
      clear A60
      by_cases c7 : t118 = true
      · subst c7
        have H1 : (if t117 = a0 then (jigsawlaw01_NumBack.j0 k a0 a1) else (some false)) = some r := by rw [if_pos rfl] at H; exact H
        clear H
        have H := H1
        clear H1
        by_cases c8 : t117 = a0
        · rw [if_pos c8] at H
          have c8b0 : (t117 == a0) = true := beq_iff_eq.mpr c8
          have c8b1 : (t117 != a0) = false := bne_eq_false_iff_eq.mpr c8
          clear c8
          (first | rw [c8b0] | (simp only [i64_w, i32_w]; rw [c8b0]) | skip)
          have H' := Aside0.mk H
          clear H
          go_wp2_with (first | ((with_reducible refine gate_callee (f := 18) rfl ?_); refine goesL_ (some 32) rfl rfl Try.func18 (by kernel_rfl) rfl #[.int .i64 t115, .int .i64 a1] rfl (by (try simp only [List.map_toArray, List.map_cons, List.map_nil]); first | done | rfl | (simp only [List.length_drop, List.length_take]; rfl)) ?_; (with_reducible refine (num_Sub.calls t115 a1 t117 true _ A6.out).mono ?_); rintro e w' ⟨rfl, ⟨nd, rfl⟩⟩; refine ⟨_, rfl, ?_⟩))
          go_meet
          case rel => exact ⟨_, H', ⟨by first | omega | exact Nat.le_refl _⟩, by repeat (first | exact Drawn0.refl _ | apply Drawn0.step)⟩
        · rw [if_neg c8] at H
          have c8b0 : (t117 == a0) = false := beq_eq_false_iff_ne.mpr c8
          have c8b1 : (t117 != a0) = true := bne_iff_ne.mpr c8
          (first | rw [c8b0] | (simp only [i64_w, i32_w]; rw [c8b0]) | skip)
          obtain rfl := Option.some.inj H
          go_wp2_with (first | ((with_reducible refine gate_callee (f := 18) rfl ?_); refine goesL_ (some 32) rfl rfl Try.func18 (by kernel_rfl) rfl #[.int .i64 t115, .int .i64 a1] rfl (by (try simp only [List.map_toArray, List.map_cons, List.map_nil]); first | done | rfl | (simp only [List.length_drop, List.length_take]; rfl)) ?_; (with_reducible refine (num_Sub.calls t115 a1 t117 true _ A6.out).mono ?_); rintro e w' ⟨rfl, ⟨nd, rfl⟩⟩; refine ⟨_, rfl, ?_⟩))
          go_ret
          exact ⟨by first | rfl | (simp; done) | (simp [*]; done), by repeat (first | exact Drawn0.refl _ | apply Drawn0.step)⟩
      · replace c7 := Bool.eq_false_iff.mpr c7
        subst c7
        have H1 : (some false) = some r := by rw [if_neg (show ¬ (false = true) by decide)] at H; exact H
        clear H
        have H := H1
        clear H1
        obtain rfl := Option.some.inj H
        go_wp2_with (first | ((with_reducible refine gate_callee (f := 18) rfl ?_); refine goesL_ (some 32) rfl rfl Try.func18 (by kernel_rfl) rfl #[.int .i64 t115, .int .i64 a1] rfl (by (try simp only [List.map_toArray, List.map_cons, List.map_nil]); first | done | rfl | (simp only [List.length_drop, List.length_take]; rfl)) ?_; (with_reducible refine (num_Sub.calls t115 a1 t117 false _ A6.out).mono ?_); rintro e w' ⟨rfl, ⟨nd, rfl⟩⟩; refine ⟨_, rfl, ?_⟩))
        go_ret
        exact ⟨by first | rfl | (simp; done) | (simp [*]; done), by repeat (first | exact Drawn0.refl _ | apply Drawn0.step)⟩
    · replace c5 := Bool.eq_false_iff.mpr c5
      subst c5
      have H1 : (jigsawlaw01_NumBack.j0 k a0 a1) = some r := by rw [if_neg (show ¬ (false = true) by decide)] at H; exact H
      clear H
      have H := H1
      clear H1
      have H' := Aside0.mk H
      clear H
      go_wp2
      go_meet
      case rel => exact ⟨_, H', ⟨by first | omega | exact Nat.le_refl _⟩, by repeat (first | exact Drawn0.refl _ | apply Drawn0.step)⟩
  case rest =>
    clear HC4
    try clear c1
    try clear p2
    try clear c5
    try clear c6
    try clear c7
    try clear c8
    try clear c8b0
    try clear c8b1
    obtain ⟨kq, HA, HJ3, ⟨mc3, rfl⟩⟩ := hcut
    cases kq with
    | zero => exact absurd HA.out (by simp [jigsawlaw01_NumBack.j0])
    | succ kj3 =>
      have H := HA.out
      clear HA
      simp only [jigsawlaw01_NumBack.j0] at H
      replace H := Option.bind_eq_some_iff.mp H
      obtain ⟨⟨t119, t120⟩, A90, H⟩ := H
      replace H : (if t120 = true then (jigsawlaw01_NumBack.j1 kj3 a0 a1 t119 (a1 != 0)) else (jigsawlaw01_NumBack.j1 kj3 a0 a1 t119 false)) = some r := H
      have A9 := Aside0.mk A90
      clear A90
      have HC10 := Aside0.mk H
      clear H
      go_upto_region 7 with (first | ((with_reducible refine gate_callee (f := 20) rfl ?_); refine goesL_ (some 45) rfl rfl Try.func20 (by kernel_rfl) rfl #[.int .i64 a0, .int .i64 a1] rfl (by (try simp only [List.map_toArray, List.map_cons, List.map_nil]); first | done | rfl | (simp only [List.length_drop, List.length_take]; rfl)) ?_; (with_reducible refine (num_Mul.calls kj3 a0 a1 t119 t120 _ A9.out).mono ?_); rintro e w' ⟨rfl, ⟨nd, rfl⟩⟩; refine ⟨_, rfl, ?_⟩))
      (try simp only [Act.put, List.setIfInBounds_toArray, List.set_cons_zero, List.set_cons_succ])
      go_cut [52] (fun v52 wc => ∃ (kq : Nat) (x52_9 : Bool), v52 = .bool x52_9 ∧ Aside0 (jigsawlaw01_NumBack.j1 kq a0 a1 t119 x52_9 = some r) ∧ Aside0 (kq ≤ kj3) ∧ Drawn0 w wc)
      case first =>
        have H := HC10.out
        clear HC10
        by_cases c11 : t120 = true
        · subst c11
          have H1 : (jigsawlaw01_NumBack.j1 kj3 a0 a1 t119 (a1 != 0)) = some r := by rw [if_pos rfl] at H; exact H
          clear H
          have H := H1
          clear H1
          have H' := Aside0.mk H
          clear H
          go_wp2
          go_meet
          case rel => exact ⟨_, ((a1 != 0)), (by first | rfl | (simp; done) | (simp [*]; done)), H', ⟨by have := HJ3.out; first | omega | exact Nat.le_refl _⟩, by repeat (first | exact Drawn0.refl _ | apply Drawn0.step)⟩
        · replace c11 := Bool.eq_false_iff.mpr c11
          subst c11
          have H1 : (jigsawlaw01_NumBack.j1 kj3 a0 a1 t119 false) = some r := by rw [if_neg (show ¬ (false = true) by decide)] at H; exact H
          clear H
          have H := H1
          clear H1
          have H' := Aside0.mk H
          clear H
          go_wp2
          go_meet
          case rel => exact ⟨_, (false), (by first | rfl | (simp; done) | (simp [*]; done)), H', ⟨by have := HJ3.out; first | omega | exact Nat.le_refl _⟩, by repeat (first | exact Drawn0.refl _ | apply Drawn0.step)⟩
      case rest =>
        clear HC10
        try clear c1
        try clear c2
        try clear p2
        try clear c3
        try clear c5
        try clear c6
        try clear c7
        try clear c8
        try clear c8b0
        try clear c8b1
        try clear c11
        try clear p2
        obtain ⟨kq, x52_9, rfl, HA, HJ9, ⟨mc9, rfl⟩⟩ := hcut
        cases kq with
        | zero => exact absurd HA.out (by simp [jigsawlaw01_NumBack.j1])
        | succ kj9 =>
          have H := HA.out
          clear HA
          simp only [jigsawlaw01_NumBack.j1] at H
          have HC12 := Aside0.mk H
          clear H
          go_upto_if 52 with (fail)
          go_cut [] (fun wc => ∃ (kq : Nat), Aside0 (jigsawlaw01_NumBack.j2 kq a0 a1 = some r) ∧ Aside0 (kq ≤ kj9) ∧ Drawn0 w wc)
          case first =>
            have H := HC12.out
            clear HC12
            by_cases c13 : x52_9 = true
            · subst c13
              have H1 : ((num_Quo.f t119 a1).bind fun bt121 => ((num_Floor.f t119 a1).bind fun bt123 => ((num_Rem.f t119 a1).bind fun bt125 => (if (bt121.2 != bt123.2) = true then (some false) else (if (bt121.2 != bt125.2) = true then (some false) else (if bt121.2 = true then (if bt121.1 = a0 then (if bt123.1 = a0 then (if bt125.1 = 0 then (jigsawlaw01_NumBack.j2 kj9 a0 a1) else (some false)) else (some false)) else (some false)) else (jigsawlaw01_NumBack.j2 kj9 a0 a1))))))) = some r := by rw [if_pos rfl] at H; exact H
              clear H
              have H := H1
              clear H1
              replace H := Option.bind_eq_some_iff.mp H
              obtain ⟨⟨t121, t122⟩, A140, H⟩ := H
              replace H : ((num_Floor.f t119 a1).bind fun bt123 => ((num_Rem.f t119 a1).bind fun bt125 => (if (t122 != bt123.2) = true then (some false) else (if (t122 != bt125.2) = true then (some false) else (if t122 = true then (if t121 = a0 then (if bt123.1 = a0 then (if bt125.1 = 0 then (jigsawlaw01_NumBack.j2 kj9 a0 a1) else (some false)) else (some false)) else (some false)) else (jigsawlaw01_NumBack.j2 kj9 a0 a1)))))) = some r := H
              have A14 := Aside0.mk A140
              clear A140
              replace H := Option.bind_eq_some_iff.mp H
              obtain ⟨⟨t123, t124⟩, A150, H⟩ := H
              replace H : ((num_Rem.f t119 a1).bind fun bt125 => (if (t122 != t124) = true then (some false) else (if (t122 != bt125.2) = true then (some false) else (if t122 = true then (if t121 = a0 then (if t123 = a0 then (if bt125.1 = 0 then (jigsawlaw01_NumBack.j2 kj9 a0 a1) else (some false)) else (some false)) else (some false)) else (jigsawlaw01_NumBack.j2 kj9 a0 a1))))) = some r := H
              have A15 := Aside0.mk A150
              clear A150
              replace H := Option.bind_eq_some_iff.mp H
              obtain ⟨⟨t125, t126⟩, A160, H⟩ := H
              replace H : (if (t122 != t124) = true then (some false) else (if (t122 != t126) = true then (some false) else (if t122 = true then (if t121 = a0 then (if t123 = a0 then (if t125 = 0 then (jigsawlaw01_NumBack.j2 kj9 a0 a1) else (some false)) else (some false)) else (some false)) else (jigsawlaw01_NumBack.j2 kj9 a0 a1)))) = some r := H
              have A16 := Aside0.mk A160
              clear A160
              by_cases c17 : (t122 != t124) = true
              · rw [if_pos c17] at H
                have c17b0 : (t122 != t124) = true := c17
                (try (have c17b1 : decide (t122 = t124) = false := by simpa using c17))
                (try (have c17b2 : (t122 == t124) = false := by simpa using c17))
                (try (have c17b3 : ¬ (t122 = t124) := by simpa using c17))
                clear c17
                (first | rw [c17b0] | (simp only [i64_w, i32_w]; rw [c17b0]) | skip)
                obtain rfl := Option.some.inj H
                go_wp2_with (first | ((with_reducible refine gate_callee (f := 7) rfl ?_); refine goesL_ (some 56) rfl rfl Try.func7 (by kernel_rfl) rfl #[.int .i64 t119, .int .i64 a1] rfl (by (try simp only [List.map_toArray, List.map_cons, List.map_nil]); first | done | rfl | (simp only [List.length_drop, List.length_take]; rfl)) ?_; (with_reducible refine (num_Quo.calls t119 a1 t121 t122 _ A14.out).mono ?_); rintro e w' ⟨rfl, ⟨nd, rfl⟩⟩; refine ⟨_, rfl, ?_⟩) | ((with_reducible refine gate_callee (f := 11) rfl ?_); refine goesL_ (some 62) rfl rfl Try.func11 (by kernel_rfl) rfl #[.int .i64 t119, .int .i64 a1] rfl (by (try simp only [List.map_toArray, List.map_cons, List.map_nil]); first | done | rfl | (simp only [List.length_drop, List.length_take]; rfl)) ?_; (with_reducible refine (num_Floor.calls t119 a1 t123 t124 _ A15.out).mono ?_); rintro e w' ⟨rfl, ⟨nd, rfl⟩⟩; refine ⟨_, rfl, ?_⟩) | ((with_reducible refine gate_callee (f := 9) rfl ?_); refine goesL_ (some 68) rfl rfl Try.func9 (by kernel_rfl) rfl #[.int .i64 t119, .int .i64 a1] rfl (by (try simp only [List.map_toArray, List.map_cons, List.map_nil]); first | done | rfl | (simp only [List.length_drop, List.length_take]; rfl)) ?_; (with_reducible refine (num_Rem.calls t119 a1 t125 t126 _ A16.out).mono ?_); rintro e w' ⟨rfl, ⟨nd, rfl⟩⟩; refine ⟨_, rfl, ?_⟩))
                go_ret
                exact ⟨by first | rfl | (simp; done) | (simp [*]; done), by repeat (first | exact Drawn0.refl _ | apply Drawn0.step)⟩
              · rw [if_neg c17] at H
                have c17b0 : (t122 != t124) = false := by simpa using c17
                (try (have c17b1 : decide (t122 = t124) = true := by simpa using c17))
                (try (have c17b2 : (t122 == t124) = true := by simpa using c17))
                clear c17
                (first | rw [c17b0] | (simp only [i64_w, i32_w]; rw [c17b0]) | skip)
                by_cases c18 : (t122 != t126) = true
                · rw [if_pos c18] at H
                  have c18b0 : (t122 != t126) = true := c18
                  (try (have c18b1 : decide (t122 = t126) = false := by simpa using c18))
                  (try (have c18b2 : (t122 == t126) = false := by simpa using c18))
                  (try (have c18b3 : ¬ (t122 = t126) := by simpa using c18))
                  clear c18
                  obtain rfl := Option.some.inj H
                  go_wp2_with (first | ((with_reducible refine gate_callee (f := 7) rfl ?_); refine goesL_ (some 56) rfl rfl Try.func7 (by kernel_rfl) rfl #[.int .i64 t119, .int .i64 a1] rfl (by (try simp only [List.map_toArray, List.map_cons, List.map_nil]); first | done | rfl | (simp only [List.length_drop, List.length_take]; rfl)) ?_; (with_reducible refine (num_Quo.calls t119 a1 t121 t122 _ A14.out).mono ?_); rintro e w' ⟨rfl, ⟨nd, rfl⟩⟩; refine ⟨_, rfl, ?_⟩) | ((with_reducible refine gate_callee (f := 11) rfl ?_); refine goesL_ (some 62) rfl rfl Try.func11 (by kernel_rfl) rfl #[.int .i64 t119, .int .i64 a1] rfl (by (try simp only [List.map_toArray, List.map_cons, List.map_nil]); first | done | rfl | (simp only [List.length_drop, List.length_take]; rfl)) ?_; (with_reducible refine (num_Floor.calls t119 a1 t123 t124 _ A15.out).mono ?_); rintro e w' ⟨rfl, ⟨nd, rfl⟩⟩; refine ⟨_, rfl, ?_⟩) | ((with_reducible refine gate_callee (f := 9) rfl ?_); refine goesL_ (some 68) rfl rfl Try.func9 (by kernel_rfl) rfl #[.int .i64 t119, .int .i64 a1] rfl (by (try simp only [List.map_toArray, List.map_cons, List.map_nil]); first | done | rfl | (simp only [List.length_drop, List.length_take]; rfl)) ?_; (with_reducible refine (num_Rem.calls t119 a1 t125 t126 _ A16.out).mono ?_); rintro e w' ⟨rfl, ⟨nd, rfl⟩⟩; refine ⟨_, rfl, ?_⟩))
                  go_ret
                  exact ⟨by first | rfl | (simp; done) | (simp [*]; done), by repeat (first | exact Drawn0.refl _ | apply Drawn0.step)⟩
                · rw [if_neg c18] at H
                  have c18b0 : (t122 != t126) = false := by simpa using c18
                  (try (have c18b1 : decide (t122 = t126) = true := by simpa using c18))
                  (try (have c18b2 : (t122 == t126) = true := by simpa using c18))
                  clear c18
                  by_cases c19 : t122 = true
                  · subst c19
                    have H1 : (if t121 = a0 then (if t123 = a0 then (if t125 = 0 then (jigsawlaw01_NumBack.j2 kj9 a0 a1) else (some false)) else (some false)) else (some false)) = some r := by rw [if_pos rfl] at H; exact H
                    clear H
                    have H := H1
                    clear H1
                    by_cases c20 : t121 = a0
                    · rw [if_pos c20] at H
                      have c20b0 : (t121 == a0) = true := beq_iff_eq.mpr c20
                      have c20b1 : (t121 != a0) = false := bne_eq_false_iff_eq.mpr c20
                      clear c20
                      by_cases c21 : t123 = a0
                      · rw [if_pos c21] at H
                        have c21b0 : (t123 == a0) = true := beq_iff_eq.mpr c21
                        have c21b1 : (t123 != a0) = false := bne_eq_false_iff_eq.mpr c21
                        clear c21
                        by_cases c22 : t125 = 0
                        · rw [if_pos c22] at H
                          have c22b0 : (t125 == 0) = true := beq_iff_eq.mpr c22
                          have c22b1 : (t125 != 0) = false := bne_eq_false_iff_eq.mpr c22
                          clear c22
                          have H' := Aside0.mk H
                          clear H
                          go_wp2_with (first | ((with_reducible refine gate_callee (f := 7) rfl ?_); refine goesL_ (some 56) rfl rfl Try.func7 (by kernel_rfl) rfl #[.int .i64 t119, .int .i64 a1] rfl (by (try simp only [List.map_toArray, List.map_cons, List.map_nil]); first | done | rfl | (simp only [List.length_drop, List.length_take]; rfl)) ?_; (with_reducible refine (num_Quo.calls t119 a1 t121 true _ A14.out).mono ?_); rintro e w' ⟨rfl, ⟨nd, rfl⟩⟩; refine ⟨_, rfl, ?_⟩) | ((with_reducible refine gate_callee (f := 11) rfl ?_); refine goesL_ (some 62) rfl rfl Try.func11 (by kernel_rfl) rfl #[.int .i64 t119, .int .i64 a1] rfl (by (try simp only [List.map_toArray, List.map_cons, List.map_nil]); first | done | rfl | (simp only [List.length_drop, List.length_take]; rfl)) ?_; (with_reducible refine (num_Floor.calls t119 a1 t123 t124 _ A15.out).mono ?_); rintro e w' ⟨rfl, ⟨nd, rfl⟩⟩; refine ⟨_, rfl, ?_⟩) | ((with_reducible refine gate_callee (f := 9) rfl ?_); refine goesL_ (some 68) rfl rfl Try.func9 (by kernel_rfl) rfl #[.int .i64 t119, .int .i64 a1] rfl (by (try simp only [List.map_toArray, List.map_cons, List.map_nil]); first | done | rfl | (simp only [List.length_drop, List.length_take]; rfl)) ?_; (with_reducible refine (num_Rem.calls t119 a1 t125 t126 _ A16.out).mono ?_); rintro e w' ⟨rfl, ⟨nd, rfl⟩⟩; refine ⟨_, rfl, ?_⟩))
                          go_meet
                          case rel => exact ⟨_, H', ⟨by have := HJ3.out; have := HJ9.out; first | omega | exact Nat.le_refl _⟩, by repeat (first | exact Drawn0.refl _ | apply Drawn0.step)⟩
                        · rw [if_neg c22] at H
                          have c22b0 : (t125 == 0) = false := beq_eq_false_iff_ne.mpr c22
                          have c22b1 : (t125 != 0) = true := bne_iff_ne.mpr c22
                          obtain rfl := Option.some.inj H
                          go_wp2_with (first | ((with_reducible refine gate_callee (f := 7) rfl ?_); refine goesL_ (some 56) rfl rfl Try.func7 (by kernel_rfl) rfl #[.int .i64 t119, .int .i64 a1] rfl (by (try simp only [List.map_toArray, List.map_cons, List.map_nil]); first | done | rfl | (simp only [List.length_drop, List.length_take]; rfl)) ?_; (with_reducible refine (num_Quo.calls t119 a1 t121 true _ A14.out).mono ?_); rintro e w' ⟨rfl, ⟨nd, rfl⟩⟩; refine ⟨_, rfl, ?_⟩) | ((with_reducible refine gate_callee (f := 11) rfl ?_); refine goesL_ (some 62) rfl rfl Try.func11 (by kernel_rfl) rfl #[.int .i64 t119, .int .i64 a1] rfl (by (try simp only [List.map_toArray, List.map_cons, List.map_nil]); first | done | rfl | (simp only [List.length_drop, List.length_take]; rfl)) ?_; (with_reducible refine (num_Floor.calls t119 a1 t123 t124 _ A15.out).mono ?_); rintro e w' ⟨rfl, ⟨nd, rfl⟩⟩; refine ⟨_, rfl, ?_⟩) | ((with_reducible refine gate_callee (f := 9) rfl ?_); refine goesL_ (some 68) rfl rfl Try.func9 (by kernel_rfl) rfl #[.int .i64 t119, .int .i64 a1] rfl (by (try simp only [List.map_toArray, List.map_cons, List.map_nil]); first | done | rfl | (simp only [List.length_drop, List.length_take]; rfl)) ?_; (with_reducible refine (num_Rem.calls t119 a1 t125 t126 _ A16.out).mono ?_); rintro e w' ⟨rfl, ⟨nd, rfl⟩⟩; refine ⟨_, rfl, ?_⟩))
                          go_ret
                          exact ⟨by first | rfl | (simp; done) | (simp [*]; done), by repeat (first | exact Drawn0.refl _ | apply Drawn0.step)⟩
                      · rw [if_neg c21] at H
                        have c21b0 : (t123 == a0) = false := beq_eq_false_iff_ne.mpr c21
                        have c21b1 : (t123 != a0) = true := bne_iff_ne.mpr c21
                        obtain rfl := Option.some.inj H
                        go_wp2_with (first | ((with_reducible refine gate_callee (f := 7) rfl ?_); refine goesL_ (some 56) rfl rfl Try.func7 (by kernel_rfl) rfl #[.int .i64 t119, .int .i64 a1] rfl (by (try simp only [List.map_toArray, List.map_cons, List.map_nil]); first | done | rfl | (simp only [List.length_drop, List.length_take]; rfl)) ?_; (with_reducible refine (num_Quo.calls t119 a1 t121 true _ A14.out).mono ?_); rintro e w' ⟨rfl, ⟨nd, rfl⟩⟩; refine ⟨_, rfl, ?_⟩) | ((with_reducible refine gate_callee (f := 11) rfl ?_); refine goesL_ (some 62) rfl rfl Try.func11 (by kernel_rfl) rfl #[.int .i64 t119, .int .i64 a1] rfl (by (try simp only [List.map_toArray, List.map_cons, List.map_nil]); first | done | rfl | (simp only [List.length_drop, List.length_take]; rfl)) ?_; (with_reducible refine (num_Floor.calls t119 a1 t123 t124 _ A15.out).mono ?_); rintro e w' ⟨rfl, ⟨nd, rfl⟩⟩; refine ⟨_, rfl, ?_⟩) | ((with_reducible refine gate_callee (f := 9) rfl ?_); refine goesL_ (some 68) rfl rfl Try.func9 (by kernel_rfl) rfl #[.int .i64 t119, .int .i64 a1] rfl (by (try simp only [List.map_toArray, List.map_cons, List.map_nil]); first | done | rfl | (simp only [List.length_drop, List.length_take]; rfl)) ?_; (with_reducible refine (num_Rem.calls t119 a1 t125 t126 _ A16.out).mono ?_); rintro e w' ⟨rfl, ⟨nd, rfl⟩⟩; refine ⟨_, rfl, ?_⟩))
                        go_ret
                        exact ⟨by first | rfl | (simp; done) | (simp [*]; done), by repeat (first | exact Drawn0.refl _ | apply Drawn0.step)⟩
                    · rw [if_neg c20] at H
                      have c20b0 : (t121 == a0) = false := beq_eq_false_iff_ne.mpr c20
                      have c20b1 : (t121 != a0) = true := bne_iff_ne.mpr c20
                      obtain rfl := Option.some.inj H
                      go_wp2_with (first | ((with_reducible refine gate_callee (f := 7) rfl ?_); refine goesL_ (some 56) rfl rfl Try.func7 (by kernel_rfl) rfl #[.int .i64 t119, .int .i64 a1] rfl (by (try simp only [List.map_toArray, List.map_cons, List.map_nil]); first | done | rfl | (simp only [List.length_drop, List.length_take]; rfl)) ?_; (with_reducible refine (num_Quo.calls t119 a1 t121 true _ A14.out).mono ?_); rintro e w' ⟨rfl, ⟨nd, rfl⟩⟩; refine ⟨_, rfl, ?_⟩) | ((with_reducible refine gate_callee (f := 11) rfl ?_); refine goesL_ (some 62) rfl rfl Try.func11 (by kernel_rfl) rfl #[.int .i64 t119, .int .i64 a1] rfl (by (try simp only [List.map_toArray, List.map_cons, List.map_nil]); first | done | rfl | (simp only [List.length_drop, List.length_take]; rfl)) ?_; (with_reducible refine (num_Floor.calls t119 a1 t123 t124 _ A15.out).mono ?_); rintro e w' ⟨rfl, ⟨nd, rfl⟩⟩; refine ⟨_, rfl, ?_⟩) | ((with_reducible refine gate_callee (f := 9) rfl ?_); refine goesL_ (some 68) rfl rfl Try.func9 (by kernel_rfl) rfl #[.int .i64 t119, .int .i64 a1] rfl (by (try simp only [List.map_toArray, List.map_cons, List.map_nil]); first | done | rfl | (simp only [List.length_drop, List.length_take]; rfl)) ?_; (with_reducible refine (num_Rem.calls t119 a1 t125 t126 _ A16.out).mono ?_); rintro e w' ⟨rfl, ⟨nd, rfl⟩⟩; refine ⟨_, rfl, ?_⟩))
                      go_ret
                      exact ⟨by first | rfl | (simp; done) | (simp [*]; done), by repeat (first | exact Drawn0.refl _ | apply Drawn0.step)⟩
                  · replace c19 := Bool.eq_false_iff.mpr c19
                    subst c19
                    have H1 : (jigsawlaw01_NumBack.j2 kj9 a0 a1) = some r := by rw [if_neg (show ¬ (false = true) by decide)] at H; exact H
                    clear H
                    have H := H1
                    clear H1
                    have H' := Aside0.mk H
                    clear H
                    go_wp2_with (first | ((with_reducible refine gate_callee (f := 7) rfl ?_); refine goesL_ (some 56) rfl rfl Try.func7 (by kernel_rfl) rfl #[.int .i64 t119, .int .i64 a1] rfl (by (try simp only [List.map_toArray, List.map_cons, List.map_nil]); first | done | rfl | (simp only [List.length_drop, List.length_take]; rfl)) ?_; (with_reducible refine (num_Quo.calls t119 a1 t121 false _ A14.out).mono ?_); rintro e w' ⟨rfl, ⟨nd, rfl⟩⟩; refine ⟨_, rfl, ?_⟩) | ((with_reducible refine gate_callee (f := 11) rfl ?_); refine goesL_ (some 62) rfl rfl Try.func11 (by kernel_rfl) rfl #[.int .i64 t119, .int .i64 a1] rfl (by (try simp only [List.map_toArray, List.map_cons, List.map_nil]); first | done | rfl | (simp only [List.length_drop, List.length_take]; rfl)) ?_; (with_reducible refine (num_Floor.calls t119 a1 t123 t124 _ A15.out).mono ?_); rintro e w' ⟨rfl, ⟨nd, rfl⟩⟩; refine ⟨_, rfl, ?_⟩) | ((with_reducible refine gate_callee (f := 9) rfl ?_); refine goesL_ (some 68) rfl rfl Try.func9 (by kernel_rfl) rfl #[.int .i64 t119, .int .i64 a1] rfl (by (try simp only [List.map_toArray, List.map_cons, List.map_nil]); first | done | rfl | (simp only [List.length_drop, List.length_take]; rfl)) ?_; (with_reducible refine (num_Rem.calls t119 a1 t125 t126 _ A16.out).mono ?_); rintro e w' ⟨rfl, ⟨nd, rfl⟩⟩; refine ⟨_, rfl, ?_⟩))
                    go_meet
                    case rel => exact ⟨_, H', ⟨by have := HJ3.out; have := HJ9.out; first | omega | exact Nat.le_refl _⟩, by repeat (first | exact Drawn0.refl _ | apply Drawn0.step)⟩
            · replace c13 := Bool.eq_false_iff.mpr c13
              subst c13
              have H1 : (jigsawlaw01_NumBack.j2 kj9 a0 a1) = some r := by rw [if_neg (show ¬ (false = true) by decide)] at H; exact H
              clear H
              have H := H1
              clear H1
              have H' := Aside0.mk H
              clear H
              go_wp2
              go_meet
              case rel => exact ⟨_, H', ⟨by have := HJ3.out; have := HJ9.out; first | omega | exact Nat.le_refl _⟩, by repeat (first | exact Drawn0.refl _ | apply Drawn0.step)⟩
          case rest =>
            clear HC12
            try clear c1
            try clear c2
            try clear p2
            try clear c3
            try clear c5
            try clear c6
            try clear c7
            try clear c8
            try clear c8b0
            try clear c8b1
            try clear c9
            try clear c11
            try clear c13
            try clear c16
            try clear c17
            try clear c17b0
            try clear c17b1
            try clear c17b2
            try clear c18
            try clear c18b0
            try clear c18b1
            try clear c18b2
            try clear c19
            try clear c20
            try clear c20b0
            try clear c20b1
            try clear c21
            try clear c21b0
            try clear c21b1
            try clear c22
            try clear c22b0
            try clear c22b1
            try clear p2
            obtain ⟨kq, HA, HJ11, ⟨mc11, rfl⟩⟩ := hcut
            cases kq with
            | zero => exact absurd HA.out (by simp [jigsawlaw01_NumBack.j2])
            | succ kj11 =>
              have H := HA.out
              clear HA
              simp only [jigsawlaw01_NumBack.j2] at H
              replace H := Option.bind_eq_some_iff.mp H
              obtain ⟨⟨t127, t128⟩, A230, H⟩ := H
              replace H : ((num_Rem.f a0 a1).bind fun bt129 => (if (t128 != bt129.2) = true then (jigsawlaw01_NumBack.j3 kj11 a0 a1 t128 bt129.1 true) else (if t128 = true then (jigsawlaw01_NumBack.j3 kj11 a0 a1 t128 bt129.1 ((wrap64 ((wrap64 (a1 * t127)) + bt129.1)) != a0)) else (jigsawlaw01_NumBack.j3 kj11 a0 a1 t128 bt129.1 false)))) = some r := H
              have A23 := Aside0.mk A230
              clear A230
              replace H := Option.bind_eq_some_iff.mp H
              obtain ⟨⟨t129, t130⟩, A240, H⟩ := H
              replace H : (if (t128 != t130) = true then (jigsawlaw01_NumBack.j3 kj11 a0 a1 t128 t129 true) else (if t128 = true then (jigsawlaw01_NumBack.j3 kj11 a0 a1 t128 t129 ((wrap64 ((wrap64 (a1 * t127)) + t129)) != a0)) else (jigsawlaw01_NumBack.j3 kj11 a0 a1 t128 t129 false))) = some r := H
              have A24 := Aside0.mk A240
              clear A240
              have HC25 := Aside0.mk H
              clear H
              go_upto_region 15 with (first | ((with_reducible refine gate_callee (f := 7) rfl ?_); refine goesL_ (some 99) rfl rfl Try.func7 (by kernel_rfl) rfl #[.int .i64 a0, .int .i64 a1] rfl (by (try simp only [List.map_toArray, List.map_cons, List.map_nil]); first | done | rfl | (simp only [List.length_drop, List.length_take]; rfl)) ?_; (with_reducible refine (num_Quo.calls a0 a1 t127 t128 _ A23.out).mono ?_); rintro e w' ⟨rfl, ⟨nd, rfl⟩⟩; refine ⟨_, rfl, ?_⟩) | ((with_reducible refine gate_callee (f := 9) rfl ?_); refine goesL_ (some 105) rfl rfl Try.func9 (by kernel_rfl) rfl #[.int .i64 a0, .int .i64 a1] rfl (by (try simp only [List.map_toArray, List.map_cons, List.map_nil]); first | done | rfl | (simp only [List.length_drop, List.length_take]; rfl)) ?_; (with_reducible refine (num_Rem.calls a0 a1 t129 t130 _ A24.out).mono ?_); rintro e w' ⟨rfl, ⟨nd, rfl⟩⟩; refine ⟨_, rfl, ?_⟩))
              (try simp only [Act.put, List.setIfInBounds_toArray, List.set_cons_zero, List.set_cons_succ])
              go_cut [122] (fun v122 wc => ∃ (kq : Nat) (x122_24 : Bool), v122 = .bool x122_24 ∧ Aside0 (jigsawlaw01_NumBack.j3 kq a0 a1 t128 t129 x122_24 = some r) ∧ Aside0 (kq ≤ kj11) ∧ Drawn0 w wc)
              case first =>
                have H := HC25.out
                clear HC25
                by_cases c26 : (t128 != t130) = true
                · rw [if_pos c26] at H
                  have c26b0 : (t128 != t130) = true := c26
                  (try (have c26b1 : decide (t128 = t130) = false := by simpa using c26))
                  (try (have c26b2 : (t128 == t130) = false := by simpa using c26))
                  (try (have c26b3 : ¬ (t128 = t130) := by simpa using c26))
                  clear c26
                  (first | rw [c26b0] | (simp only [i64_w, i32_w]; rw [c26b0]) | skip)
                  have H' := Aside0.mk H
                  clear H
                  go_wp2
                  go_meet
                  case rel => exact ⟨_, (true), (by first | rfl | (simp; done) | (simp [*]; done)), H', ⟨by have := HJ3.out; have := HJ9.out; have := HJ11.out; first | omega | exact Nat.le_refl _⟩, by repeat (first | exact Drawn0.refl _ | apply Drawn0.step)⟩
                · rw [if_neg c26] at H
                  have c26b0 : (t128 != t130) = false := by simpa using c26
                  (try (have c26b1 : decide (t128 = t130) = true := by simpa using c26))
                  (try (have c26b2 : (t128 == t130) = true := by simpa using c26))
                  clear c26
                  (first | rw [c26b0] | (simp only [i64_w, i32_w]; rw [c26b0]) | skip)
                  by_cases c27 : t128 = true
                  · subst c27
                    have H1 : (jigsawlaw01_NumBack.j3 kj11 a0 a1 true t129 ((wrap64 ((wrap64 (a1 * t127)) + t129)) != a0)) = some r := by rw [if_pos rfl] at H; exact H
                    clear H
                    have H := H1
                    clear H1
                    have H' := Aside0.mk H
                    clear H
                    go_wp2
                    go_meet
                    case rel => exact ⟨_, (((wrap64 ((wrap64 (a1 * t127)) + t129)) != a0)), (by first | rfl | (simp; done) | (simp [*]; done)), H', ⟨by have := HJ3.out; have := HJ9.out; have := HJ11.out; first | omega | exact Nat.le_refl _⟩, by repeat (first | exact Drawn0.refl _ | apply Drawn0.step)⟩
                  · replace c27 := Bool.eq_false_iff.mpr c27
                    subst c27
                    have H1 : (jigsawlaw01_NumBack.j3 kj11 a0 a1 false t129 false) = some r := by rw [if_neg (show ¬ (false = true) by decide)] at H; exact H
                    clear H
                    have H := H1
                    clear H1
                    have H' := Aside0.mk H
                    clear H
                    go_wp2
                    go_meet
                    case rel => exact ⟨_, (false), (by first | rfl | (simp; done) | (simp [*]; done)), H', ⟨by have := HJ3.out; have := HJ9.out; have := HJ11.out; first | omega | exact Nat.le_refl _⟩, by repeat (first | exact Drawn0.refl _ | apply Drawn0.step)⟩
              case rest =>
                clear HC25
                try clear c1
                try clear c2
                try clear p2
                try clear c3
                try clear c5
                try clear c6
                try clear p6
                try clear c7
                try clear c8
                try clear c8b0
                try clear c8b1
                try clear c9
                try clear c11
                try clear c13
                try clear c16
                try clear c17
                try clear c17b0
                try clear c17b1
                try clear c17b2
                try clear c18
                try clear c18b0
                try clear c18b1
                try clear c18b2
                try clear c19
                try clear c20
                try clear c20b0
                try clear c20b1
                try clear c21
                try clear c21b0
                try clear c21b1
                try clear c22
                try clear c22b0
                try clear c22b1
                try clear c26
                try clear c26b0
                try clear c26b1
                try clear c26b2
                try clear c27
                try clear p2
                obtain ⟨kq, x122_24, rfl, HA, HJ24, ⟨mc24, rfl⟩⟩ := hcut
                cases kq with
                | zero => exact absurd HA.out (by simp [jigsawlaw01_NumBack.j3])
                | succ kj24 =>
                  have H := HA.out
                  clear HA
                  simp only [jigsawlaw01_NumBack.j3] at H
                  by_cases c28 : x122_24 = true
                  · subst c28
                    have H1 : (some false) = some r := by rw [if_pos rfl] at H; exact H
                    clear H
                    have H := H1
                    clear H1
                    obtain rfl := Option.some.inj H
                    go_wp2
                    go_ret
                    exact ⟨by first | rfl | (simp; done) | (simp [*]; done), by repeat (first | exact Drawn0.refl _ | apply Drawn0.step)⟩
                  · replace c28 := Bool.eq_false_iff.mpr c28
                    subst c28
                    have H1 : (if t128 = true then (jigsawlaw01_NumBack.j4 kj24 a0 a1 t129 (t129 == 0)) else (jigsawlaw01_NumBack.j4 kj24 a0 a1 t129 true)) = some r := by rw [if_neg (show ¬ (false = true) by decide)] at H; exact H
                    clear H
                    have H := H1
                    clear H1
                    have HC29 := Aside0.mk H
                    clear H
                    go_upto_region 17 with (fail)
                    go_cut [128] (fun v128 wc => ∃ (kq : Nat) (x128_28 : Bool), v128 = .bool x128_28 ∧ Aside0 (jigsawlaw01_NumBack.j4 kq a0 a1 t129 x128_28 = some r) ∧ Aside0 (kq ≤ kj24) ∧ Drawn0 w wc)
                    case first =>
                      have H := HC29.out
                      clear HC29
                      by_cases c30 : t128 = true
                      · subst c30
                        have H1 : (jigsawlaw01_NumBack.j4 kj24 a0 a1 t129 (t129 == 0)) = some r := by rw [if_pos rfl] at H; exact H
                        clear H
                        have H := H1
                        clear H1
                        have H' := Aside0.mk H
                        clear H
                        go_wp2
                        go_meet
                        case rel => exact ⟨_, ((t129 == 0)), (by first | rfl | (simp; done) | (simp [*]; done)), H', ⟨by have := HJ3.out; have := HJ9.out; have := HJ11.out; have := HJ24.out; first | omega | exact Nat.le_refl _⟩, by repeat (first | exact Drawn0.refl _ | apply Drawn0.step)⟩
                      · replace c30 := Bool.eq_false_iff.mpr c30
                        subst c30
                        have H1 : (jigsawlaw01_NumBack.j4 kj24 a0 a1 t129 true) = some r := by rw [if_neg (show ¬ (false = true) by decide)] at H; exact H
                        clear H
                        have H := H1
                        clear H1
                        have H' := Aside0.mk H
                        clear H
                        go_wp2
                        go_meet
                        case rel => exact ⟨_, (true), (by first | rfl | (simp; done) | (simp [*]; done)), H', ⟨by have := HJ3.out; have := HJ9.out; have := HJ11.out; have := HJ24.out; first | omega | exact Nat.le_refl _⟩, by repeat (first | exact Drawn0.refl _ | apply Drawn0.step)⟩
                    case rest =>
                      clear HC29
                      try clear c1
                      try clear c2
                      try clear p2
                      try clear c3
                      try clear c5
                      try clear c6
                      try clear p6
                      try clear c7
                      try clear c8
                      try clear c8b0
                      try clear c8b1
                      try clear c9
                      try clear c11
                      try clear c13
                      try clear c16
                      try clear c17
                      try clear c17b0
                      try clear c17b1
                      try clear c17b2
                      try clear c18
                      try clear c18b0
                      try clear c18b1
                      try clear c18b2
                      try clear c19
                      try clear c20
                      try clear c20b0
                      try clear c20b1
                      try clear c21
                      try clear c21b0
                      try clear c21b1
                      try clear c22
                      try clear c22b0
                      try clear c22b1
                      try clear c24
                      try clear c26
                      try clear c26b0
                      try clear c26b1
                      try clear c26b2
                      try clear c27
                      try clear c28
                      try clear c30
                      try clear p2
                      try clear p6
                      obtain ⟨kq, x128_28, rfl, HA, HJ28, ⟨mc28, rfl⟩⟩ := hcut
                      cases kq with
                      | zero => exact absurd HA.out (by simp [jigsawlaw01_NumBack.j4])
                      | succ kj28 =>
                        have H := HA.out
                        clear HA
                        simp only [jigsawlaw01_NumBack.j4] at H
                        by_cases c31 : x128_28 = true
                        · subst c31
                          have H1 : ((jigsawlaw01_wakes.f).bind fun t131 => (some t131)) = some r := by rw [if_pos rfl] at H; exact H
                          clear H
                          have H := H1
                          clear H1
                          replace H := Option.bind_eq_some_iff.mp H
                          obtain ⟨t131, A320, H⟩ := H
                          replace H : (some t131) = some r := H
                          have A32 := Aside0.mk A320
                          clear A320
                          obtain rfl := Option.some.inj H
                          go_wp2_with (first | ((with_reducible refine gate_callee (f := 15) rfl ?_); refine goesL_ (some 129) rfl rfl Try.func15 (by kernel_rfl) rfl #[] rfl (by (try simp only [List.map_toArray, List.map_cons, List.map_nil]); first | done | rfl | (simp only [List.length_drop, List.length_take]; rfl)) ?_; (with_reducible refine (jigsawlaw01_wakes.calls  t131 _ A32.out).mono ?_); rintro e w' ⟨rfl, ⟨nd, rfl⟩⟩; refine ⟨_, rfl, ?_⟩))
                          go_ret
                          exact ⟨by first | rfl | (simp; done) | (simp [*]; done), by repeat (first | exact Drawn0.refl _ | apply Drawn0.step)⟩
                        · replace c31 := Bool.eq_false_iff.mpr c31
                          subst c31
                          have H1 : (if t129 > 0 then ((jigsawlaw01_wakes.f).bind fun t132 => (if t132 = true then (if ((decide (t129 < 0)) == (decide (a0 < 0))) = true then (if a1 < 0 then (if (wrap64 (-t129)) > a1 then (some true) else (if a1 > 0 then (some (decide ((wrap64 (-t129)) > (wrap64 (-a1))))) else (some false))) else (if a1 > 0 then (some (decide ((wrap64 (-t129)) > (wrap64 (-a1))))) else (some false))) else (some false)) else (some false))) else ((jigsawlaw01_wakes.f).bind fun t133 => (if t133 = true then (if ((decide (t129 < 0)) == (decide (a0 < 0))) = true then (if a1 < 0 then (if t129 > a1 then (some true) else (if a1 > 0 then (some (decide (t129 > (wrap64 (-a1))))) else (some false))) else (if a1 > 0 then (some (decide (t129 > (wrap64 (-a1))))) else (some false))) else (some false)) else (some false)))) = some r := by rw [if_neg (show ¬ (false = true) by decide)] at H; exact H
                          clear H
                          have H := H1
                          clear H1
                          by_cases c33 : t129 > 0
                          · rw [if_pos c33] at H
                            have c33b0 : decide (0 < t129) = true := decide_eq_true c33
                            clear c33
                            replace H := Option.bind_eq_some_iff.mp H
                            obtain ⟨t132, A340, H⟩ := H
                            replace H : (if t132 = true then (if ((decide (t129 < 0)) == (decide (a0 < 0))) = true then (if a1 < 0 then (if (wrap64 (-t129)) > a1 then (some true) else (if a1 > 0 then (some (decide ((wrap64 (-t129)) > (wrap64 (-a1))))) else (some false))) else (if a1 > 0 then (some (decide ((wrap64 (-t129)) > (wrap64 (-a1))))) else (some false))) else (some false)) else (some false)) = some r := H
                            have A34 := Aside0.mk A340
                            clear A340
                            by_cases c35 : t132 = true
                            · subst c35
                              have H1 : (if ((decide (t129 < 0)) == (decide (a0 < 0))) = true then (if a1 < 0 then (if (wrap64 (-t129)) > a1 then (some true) else (if a1 > 0 then (some (decide ((wrap64 (-t129)) > (wrap64 (-a1))))) else (some false))) else (if a1 > 0 then (some (decide ((wrap64 (-t129)) > (wrap64 (-a1))))) else (some false))) else (some false)) = some r := by rw [if_pos rfl] at H; exact H
                              clear H
                              have H := H1
                              clear H1
                              by_cases c36 : ((decide (t129 < 0)) == (decide (a0 < 0))) = true
                              · rw [if_pos c36] at H
                                have c36b0 : ((decide (t129 < 0)) == (decide (a0 < 0))) = true := c36
                                (try (have c36b1 : decide ((decide (t129 < 0)) = (decide (a0 < 0))) = true := by simpa using c36))
                                (try (have c36b2 : ((decide (t129 < 0)) == (decide (a0 < 0))) = true := by simpa using c36))
                                clear c36
                                by_cases c37 : a1 < 0
                                · rw [if_pos c37] at H
                                  have c37b0 : decide (a1 < 0) = true := decide_eq_true c37
                                  clear c37
                                  by_cases c38 : (wrap64 (-t129)) > a1
                                  · rw [if_pos c38] at H
                                    have c38b0 : decide (a1 < (wrap64 (-t129))) = true := decide_eq_true c38
                                    clear c38
                                    obtain rfl := Option.some.inj H
                                    go_wp2_with (first | ((with_reducible refine gate_callee (f := 15) rfl ?_); refine goesL_ (some 135) rfl rfl Try.func15 (by kernel_rfl) rfl #[] rfl (by (try simp only [List.map_toArray, List.map_cons, List.map_nil]); first | done | rfl | (simp only [List.length_drop, List.length_take]; rfl)) ?_; (with_reducible refine (jigsawlaw01_wakes.calls  true _ A34.out).mono ?_); rintro e w' ⟨rfl, ⟨nd, rfl⟩⟩; refine ⟨_, rfl, ?_⟩))
                                    go_ret
                                    exact ⟨by first | rfl | (simp; done) | (simp [*]; done), by repeat (first | exact Drawn0.refl _ | apply Drawn0.step)⟩
                                  · rw [if_neg c38] at H
                                    have c38b0 : decide (a1 < (wrap64 (-t129))) = false := decide_eq_false c38
                                    clear c38
                                    by_cases c39 : a1 > 0
                                    · rw [if_pos c39] at H
                                      have c39b0 : decide (0 < a1) = true := decide_eq_true c39
                                      clear c39
                                      obtain rfl := Option.some.inj H
                                      go_wp2_with (first | ((with_reducible refine gate_callee (f := 15) rfl ?_); refine goesL_ (some 135) rfl rfl Try.func15 (by kernel_rfl) rfl #[] rfl (by (try simp only [List.map_toArray, List.map_cons, List.map_nil]); first | done | rfl | (simp only [List.length_drop, List.length_take]; rfl)) ?_; (with_reducible refine (jigsawlaw01_wakes.calls  true _ A34.out).mono ?_); rintro e w' ⟨rfl, ⟨nd, rfl⟩⟩; refine ⟨_, rfl, ?_⟩))
                                      go_ret
                                      exact ⟨by first | rfl | (simp; done) | (simp [*]; done), by repeat (first | exact Drawn0.refl _ | apply Drawn0.step)⟩
                                    · rw [if_neg c39] at H
                                      have c39b0 : decide (0 < a1) = false := decide_eq_false c39
                                      clear c39
                                      obtain rfl := Option.some.inj H
                                      go_wp2_with (first | ((with_reducible refine gate_callee (f := 15) rfl ?_); refine goesL_ (some 135) rfl rfl Try.func15 (by kernel_rfl) rfl #[] rfl (by (try simp only [List.map_toArray, List.map_cons, List.map_nil]); first | done | rfl | (simp only [List.length_drop, List.length_take]; rfl)) ?_; (with_reducible refine (jigsawlaw01_wakes.calls  true _ A34.out).mono ?_); rintro e w' ⟨rfl, ⟨nd, rfl⟩⟩; refine ⟨_, rfl, ?_⟩))
                                      go_ret
                                      exact ⟨by first | rfl | (simp; done) | (simp [*]; done), by repeat (first | exact Drawn0.refl _ | apply Drawn0.step)⟩
                                · rw [if_neg c37] at H
                                  have c37b0 : decide (a1 < 0) = false := decide_eq_false c37
                                  clear c37
                                  by_cases c40 : a1 > 0
                                  · rw [if_pos c40] at H
                                    have c40b0 : decide (0 < a1) = true := decide_eq_true c40
                                    clear c40
                                    obtain rfl := Option.some.inj H
                                    go_wp2_with (first | ((with_reducible refine gate_callee (f := 15) rfl ?_); refine goesL_ (some 135) rfl rfl Try.func15 (by kernel_rfl) rfl #[] rfl (by (try simp only [List.map_toArray, List.map_cons, List.map_nil]); first | done | rfl | (simp only [List.length_drop, List.length_take]; rfl)) ?_; (with_reducible refine (jigsawlaw01_wakes.calls  true _ A34.out).mono ?_); rintro e w' ⟨rfl, ⟨nd, rfl⟩⟩; refine ⟨_, rfl, ?_⟩))
                                    go_ret
                                    exact ⟨by first | rfl | (simp; done) | (simp [*]; done), by repeat (first | exact Drawn0.refl _ | apply Drawn0.step)⟩
                                  · rw [if_neg c40] at H
                                    have c40b0 : decide (0 < a1) = false := decide_eq_false c40
                                    clear c40
                                    obtain rfl := Option.some.inj H
                                    go_wp2_with (first | ((with_reducible refine gate_callee (f := 15) rfl ?_); refine goesL_ (some 135) rfl rfl Try.func15 (by kernel_rfl) rfl #[] rfl (by (try simp only [List.map_toArray, List.map_cons, List.map_nil]); first | done | rfl | (simp only [List.length_drop, List.length_take]; rfl)) ?_; (with_reducible refine (jigsawlaw01_wakes.calls  true _ A34.out).mono ?_); rintro e w' ⟨rfl, ⟨nd, rfl⟩⟩; refine ⟨_, rfl, ?_⟩))
                                    go_ret
                                    exact ⟨by first | rfl | (simp; done) | (simp [*]; done), by repeat (first | exact Drawn0.refl _ | apply Drawn0.step)⟩
                              · rw [if_neg c36] at H
                                have c36b0 : ((decide (t129 < 0)) == (decide (a0 < 0))) = false := by simpa using c36
                                (try (have c36b1 : decide ((decide (t129 < 0)) = (decide (a0 < 0))) = false := by simpa using c36))
                                (try (have c36b2 : ((decide (t129 < 0)) == (decide (a0 < 0))) = false := by simpa using c36))
                                (try (have c36b3 : ¬ ((decide (t129 < 0)) = (decide (a0 < 0))) := by simpa using c36))
                                clear c36
                                obtain rfl := Option.some.inj H
                                go_wp2_with (first | ((with_reducible refine gate_callee (f := 15) rfl ?_); refine goesL_ (some 135) rfl rfl Try.func15 (by kernel_rfl) rfl #[] rfl (by (try simp only [List.map_toArray, List.map_cons, List.map_nil]); first | done | rfl | (simp only [List.length_drop, List.length_take]; rfl)) ?_; (with_reducible refine (jigsawlaw01_wakes.calls  true _ A34.out).mono ?_); rintro e w' ⟨rfl, ⟨nd, rfl⟩⟩; refine ⟨_, rfl, ?_⟩))
                                go_ret
                                exact ⟨by first | rfl | (simp; done) | (simp [*]; done), by repeat (first | exact Drawn0.refl _ | apply Drawn0.step)⟩
                            · replace c35 := Bool.eq_false_iff.mpr c35
                              subst c35
                              have H1 : (some false) = some r := by rw [if_neg (show ¬ (false = true) by decide)] at H; exact H
                              clear H
                              have H := H1
                              clear H1
                              obtain rfl := Option.some.inj H
                              go_wp2_with (first | ((with_reducible refine gate_callee (f := 15) rfl ?_); refine goesL_ (some 135) rfl rfl Try.func15 (by kernel_rfl) rfl #[] rfl (by (try simp only [List.map_toArray, List.map_cons, List.map_nil]); first | done | rfl | (simp only [List.length_drop, List.length_take]; rfl)) ?_; (with_reducible refine (jigsawlaw01_wakes.calls  false _ A34.out).mono ?_); rintro e w' ⟨rfl, ⟨nd, rfl⟩⟩; refine ⟨_, rfl, ?_⟩))
                              go_ret
                              exact ⟨by first | rfl | (simp; done) | (simp [*]; done), by repeat (first | exact Drawn0.refl _ | apply Drawn0.step)⟩
                          · rw [if_neg c33] at H
                            have c33b0 : decide (0 < t129) = false := decide_eq_false c33
                            clear c33
                            replace H := Option.bind_eq_some_iff.mp H
                            obtain ⟨t133, A410, H⟩ := H
                            replace H : (if t133 = true then (if ((decide (t129 < 0)) == (decide (a0 < 0))) = true then (if a1 < 0 then (if t129 > a1 then (some true) else (if a1 > 0 then (some (decide (t129 > (wrap64 (-a1))))) else (some false))) else (if a1 > 0 then (some (decide (t129 > (wrap64 (-a1))))) else (some false))) else (some false)) else (some false)) = some r := H
                            have A41 := Aside0.mk A410
                            clear A410
                            by_cases c42 : t133 = true
                            · subst c42
                              have H1 : (if ((decide (t129 < 0)) == (decide (a0 < 0))) = true then (if a1 < 0 then (if t129 > a1 then (some true) else (if a1 > 0 then (some (decide (t129 > (wrap64 (-a1))))) else (some false))) else (if a1 > 0 then (some (decide (t129 > (wrap64 (-a1))))) else (some false))) else (some false)) = some r := by rw [if_pos rfl] at H; exact H
                              clear H
                              have H := H1
                              clear H1
                              by_cases c43 : ((decide (t129 < 0)) == (decide (a0 < 0))) = true
                              · rw [if_pos c43] at H
                                have c43b0 : ((decide (t129 < 0)) == (decide (a0 < 0))) = true := c43
                                (try (have c43b1 : decide ((decide (t129 < 0)) = (decide (a0 < 0))) = true := by simpa using c43))
                                (try (have c43b2 : ((decide (t129 < 0)) == (decide (a0 < 0))) = true := by simpa using c43))
                                clear c43
                                by_cases c44 : a1 < 0
                                · rw [if_pos c44] at H
                                  have c44b0 : decide (a1 < 0) = true := decide_eq_true c44
                                  clear c44
                                  by_cases c45 : t129 > a1
                                  · rw [if_pos c45] at H
                                    have c45b0 : decide (a1 < t129) = true := decide_eq_true c45
                                    clear c45
                                    obtain rfl := Option.some.inj H
                                    go_wp2_with (first | ((with_reducible refine gate_callee (f := 15) rfl ?_); refine goesL_ (some 135) rfl rfl Try.func15 (by kernel_rfl) rfl #[] rfl (by (try simp only [List.map_toArray, List.map_cons, List.map_nil]); first | done | rfl | (simp only [List.length_drop, List.length_take]; rfl)) ?_; (with_reducible refine (jigsawlaw01_wakes.calls  true _ A41.out).mono ?_); rintro e w' ⟨rfl, ⟨nd, rfl⟩⟩; refine ⟨_, rfl, ?_⟩))
                                    go_ret
                                    exact ⟨by first | rfl | (simp; done) | (simp [*]; done), by repeat (first | exact Drawn0.refl _ | apply Drawn0.step)⟩
                                  · rw [if_neg c45] at H
                                    have c45b0 : decide (a1 < t129) = false := decide_eq_false c45
                                    clear c45
                                    by_cases c46 : a1 > 0
                                    · rw [if_pos c46] at H
                                      have c46b0 : decide (0 < a1) = true := decide_eq_true c46
                                      clear c46
                                      obtain rfl := Option.some.inj H
                                      go_wp2_with (first | ((with_reducible refine gate_callee (f := 15) rfl ?_); refine goesL_ (some 135) rfl rfl Try.func15 (by kernel_rfl) rfl #[] rfl (by (try simp only [List.map_toArray, List.map_cons, List.map_nil]); first | done | rfl | (simp only [List.length_drop, List.length_take]; rfl)) ?_; (with_reducible refine (jigsawlaw01_wakes.calls  true _ A41.out).mono ?_); rintro e w' ⟨rfl, ⟨nd, rfl⟩⟩; refine ⟨_, rfl, ?_⟩))
                                      go_ret
                                      exact ⟨by first | rfl | (simp; done) | (simp [*]; done), by repeat (first | exact Drawn0.refl _ | apply Drawn0.step)⟩
                                    · rw [if_neg c46] at H
                                      have c46b0 : decide (0 < a1) = false := decide_eq_false c46
                                      clear c46
                                      obtain rfl := Option.some.inj H
                                      go_wp2_with (first | ((with_reducible refine gate_callee (f := 15) rfl ?_); refine goesL_ (some 135) rfl rfl Try.func15 (by kernel_rfl) rfl #[] rfl (by (try simp only [List.map_toArray, List.map_cons, List.map_nil]); first | done | rfl | (simp only [List.length_drop, List.length_take]; rfl)) ?_; (with_reducible refine (jigsawlaw01_wakes.calls  true _ A41.out).mono ?_); rintro e w' ⟨rfl, ⟨nd, rfl⟩⟩; refine ⟨_, rfl, ?_⟩))
                                      go_ret
                                      exact ⟨by first | rfl | (simp; done) | (simp [*]; done), by repeat (first | exact Drawn0.refl _ | apply Drawn0.step)⟩
                                · rw [if_neg c44] at H
                                  have c44b0 : decide (a1 < 0) = false := decide_eq_false c44
                                  clear c44
                                  by_cases c47 : a1 > 0
                                  · rw [if_pos c47] at H
                                    have c47b0 : decide (0 < a1) = true := decide_eq_true c47
                                    clear c47
                                    obtain rfl := Option.some.inj H
                                    go_wp2_with (first | ((with_reducible refine gate_callee (f := 15) rfl ?_); refine goesL_ (some 135) rfl rfl Try.func15 (by kernel_rfl) rfl #[] rfl (by (try simp only [List.map_toArray, List.map_cons, List.map_nil]); first | done | rfl | (simp only [List.length_drop, List.length_take]; rfl)) ?_; (with_reducible refine (jigsawlaw01_wakes.calls  true _ A41.out).mono ?_); rintro e w' ⟨rfl, ⟨nd, rfl⟩⟩; refine ⟨_, rfl, ?_⟩))
                                    go_ret
                                    exact ⟨by first | rfl | (simp; done) | (simp [*]; done), by repeat (first | exact Drawn0.refl _ | apply Drawn0.step)⟩
                                  · rw [if_neg c47] at H
                                    have c47b0 : decide (0 < a1) = false := decide_eq_false c47
                                    clear c47
                                    obtain rfl := Option.some.inj H
                                    go_wp2_with (first | ((with_reducible refine gate_callee (f := 15) rfl ?_); refine goesL_ (some 135) rfl rfl Try.func15 (by kernel_rfl) rfl #[] rfl (by (try simp only [List.map_toArray, List.map_cons, List.map_nil]); first | done | rfl | (simp only [List.length_drop, List.length_take]; rfl)) ?_; (with_reducible refine (jigsawlaw01_wakes.calls  true _ A41.out).mono ?_); rintro e w' ⟨rfl, ⟨nd, rfl⟩⟩; refine ⟨_, rfl, ?_⟩))
                                    go_ret
                                    exact ⟨by first | rfl | (simp; done) | (simp [*]; done), by repeat (first | exact Drawn0.refl _ | apply Drawn0.step)⟩
                              · rw [if_neg c43] at H
                                have c43b0 : ((decide (t129 < 0)) == (decide (a0 < 0))) = false := by simpa using c43
                                (try (have c43b1 : decide ((decide (t129 < 0)) = (decide (a0 < 0))) = false := by simpa using c43))
                                (try (have c43b2 : ((decide (t129 < 0)) == (decide (a0 < 0))) = false := by simpa using c43))
                                (try (have c43b3 : ¬ ((decide (t129 < 0)) = (decide (a0 < 0))) := by simpa using c43))
                                clear c43
                                obtain rfl := Option.some.inj H
                                go_wp2_with (first | ((with_reducible refine gate_callee (f := 15) rfl ?_); refine goesL_ (some 135) rfl rfl Try.func15 (by kernel_rfl) rfl #[] rfl (by (try simp only [List.map_toArray, List.map_cons, List.map_nil]); first | done | rfl | (simp only [List.length_drop, List.length_take]; rfl)) ?_; (with_reducible refine (jigsawlaw01_wakes.calls  true _ A41.out).mono ?_); rintro e w' ⟨rfl, ⟨nd, rfl⟩⟩; refine ⟨_, rfl, ?_⟩))
                                go_ret
                                exact ⟨by first | rfl | (simp; done) | (simp [*]; done), by repeat (first | exact Drawn0.refl _ | apply Drawn0.step)⟩
                            · replace c42 := Bool.eq_false_iff.mpr c42
                              subst c42
                              have H1 : (some false) = some r := by rw [if_neg (show ¬ (false = true) by decide)] at H; exact H
                              clear H
                              have H := H1
                              clear H1
                              obtain rfl := Option.some.inj H
                              go_wp2_with (first | ((with_reducible refine gate_callee (f := 15) rfl ?_); refine goesL_ (some 135) rfl rfl Try.func15 (by kernel_rfl) rfl #[] rfl (by (try simp only [List.map_toArray, List.map_cons, List.map_nil]); first | done | rfl | (simp only [List.length_drop, List.length_take]; rfl)) ?_; (with_reducible refine (jigsawlaw01_wakes.calls  false _ A41.out).mono ?_); rintro e w' ⟨rfl, ⟨nd, rfl⟩⟩; refine ⟨_, rfl, ?_⟩))
                              go_ret
                              exact ⟨by first | rfl | (simp; done) | (simp [*]; done), by repeat (first | exact Drawn0.refl _ | apply Drawn0.step)⟩

/-- THE ONE PURE STATEMENT of jigsawlaw01_NumBack: yours. -/
def jigsawlaw01_NumBack.Pure : Prop := ∀ (a0 : Int) (a1 : Int), (Lit.int .i64 a0).wf = true → (Lit.int .i64 a1).wf = true → ∃ k, jigsawlaw01_NumBack.f k a0 a1 = some true
theorem jigsawlaw01_NumBack.walk (P : jigsawlaw01_NumBack.Pure) (a0 : Int) (a1 : Int) (w : World) (w0 : (Lit.int .i64 a0).wf = true) (w1 : (Lit.int .i64 a1).wf = true) :
    Calls Try.prog 6 #[.int .i64 a0, .int .i64 a1] w fun e w' => e = .returned (.bool true) ∧ Below w.heap.size w w' := by
  obtain ⟨k, h⟩ := P a0 a1 w0 w1
  refine (jigsawlaw01_NumBack.calls k a0 a1 true w h).mono ?_
  rintro e w' ⟨rfl, hd⟩
  exact ⟨rfl, hd.below⟩

end Go.Proofs.Ytjboljhglcecpaa.PNumBack
