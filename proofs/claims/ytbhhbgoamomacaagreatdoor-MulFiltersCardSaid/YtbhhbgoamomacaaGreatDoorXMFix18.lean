-- by xprint.py, a program of this session, over the kit's print
import Derived.Test.YtbhhbgoamomacaaGreatDoorXMFix0
import Derived.Test.YtbhhbgoamomacaaGreatDoorXMFix17
import Derived.Test.YtbhhbgoamomacaaGreatDoorSq
namespace Go.Proofs.YtbhhbgoamomacaaGreatDoor.XMulFilters
open Go.RowKit Go.Proofs.YtbhhbgoamomacaaGreatDoor.Sq Go.Proofs.YtbhhbgoamomacaaGreatDoorW.PrintWords Go.Proofs.YtbhhbgoamomacaaGreatDoorW.PrintLast Go.Proofs.YtbhhbgoamomacaaGreatDoorW.PrintMore
attribute [local go_sem] max2_int min2_int max_two min_two max_three min_three max_four min_four   -- for this text's walks alone
set_option linter.unusedVariables false
set_option linter.unusedSimpArgs false

/-! ### jigsawref01_Quo: function 84 -/
def jigsawref01_Quo.j0 : Nat → Int → Int → Bool → Option (Int × Bool)
 | 0, _, _, _ => none
 | k + 1, c, d, e => if e = true then (some (0, false)) else ((jigsawref01_size.f c).bind fun b => ((jigsawref01_size.f d).bind fun a => (if a = 0 then (none) else (if ((decide (c < 0)) != (decide (d < 0))) = true then (some (wrap64 (-(wrap64 (IntKind.u64.wrap (Int.tdiv b a)))), true)) else (some (wrap64 (IntKind.u64.wrap (Int.tdiv b a)), true))))))
def jigsawref01_Quo.f (k : Nat) (b : Int) (a : Int) : Option (Int × Bool) := if a = 0 then (jigsawref01_Quo.j0 k b a true) else (if a = (-1) then (jigsawref01_Quo.j0 k b a (b == (-9223372036854775808))) else (jigsawref01_Quo.j0 k b a false))
theorem jigsawref01_Quo.mono_l : ∀ k, (∀ a b c, LeO (jigsawref01_Quo.j0 k a b c) (jigsawref01_Quo.j0 (k + 1) a b c))
 | 0 => fun _ _ _ r h => by simp [jigsawref01_Quo.j0] at h
 | k + 1 => by
  have ih0 := jigsawref01_Quo.mono_l k
  ·
   intro a b c
   unfold jigsawref01_Quo.j0
   exact leo_
theorem jigsawref01_Quo.mono : ∀ a b k, LeO (jigsawref01_Quo.f k a b) (jigsawref01_Quo.f (k + 1) a b) := by
 intro a b k
 have ih0 := jigsawref01_Quo.mono_l k
 unfold jigsawref01_Quo.f
 exact leo_
set_option maxHeartbeats 8000000 in
set_option maxRecDepth 100000 in
theorem jigsawref01_Quo.calls (k : Nat) (c : Int) (a : Int) (m : Int) (n : Bool) (w : World) (h : jigsawref01_Quo.f k c a = some (m, n)) :
  Calls Tryz.prog 84 #[.int .i64 c, .int .i64 a] w fun e w' => e = .returned (.tuple #[.int .i64 m, .bool n]) ∧ Drawn0 w w' := by
 unfold jigsawref01_Quo.f at h
 have H := h
 clear h
 have l := a_ H
 clear H
 go_enter Tryz.func84, Tryz.ntmps84
 go_upto_region 1 with (fail)
 go_cut [16] (fun o wc => ∃ (kq : Nat) (d : Bool), o = .bool d ∧ Aside0 (jigsawref01_Quo.j0 kq c a d = some (m, n)) ∧ Aside0 (kq ≤ k) ∧ Drawn0 w wc)
 case first =>
  have H := l.out
  clear l
  by_cases c4 : a = 0
  ·
   rw [ip_ c4] at H
   have c4b0 : (a == 0) = true := beq_iff_eq.mpr c4
   have c4b1 : (a != 0) = false := bn_.mpr c4
   clear c4
   (first | rw [c4b0] | (simp only [i64_w, i32_w]; rw [c4b0]) | skip)
   have H' := a_ H
   clear H
   go_wp2
   go_meet
   case rel => exact ⟨_, (true), eq_, H', ⟨by first | omega | exact lr_ _⟩, by repeat (first | exact d0_ _ | apply Drawn0.step)⟩
  ·
   rw [ig_ c4] at H
   have c4b0 : (a == 0) = false := be_.mpr c4
   have c4b1 : (a != 0) = true := ni_.mpr c4
   (first | rw [c4b0] | (simp only [i64_w, i32_w]; rw [c4b0]) | skip)
   by_cases c5 : a = (-1)
   ·
    rw [ip_ c5] at H
    have c5b0 : (a == (-1)) = true := beq_iff_eq.mpr c5
    have c5b1 : (a != (-1)) = false := bn_.mpr c5
    clear c5
    have H' := a_ H
    clear H
    go_wp2
    go_meet
    case rel => exact ⟨_, ((c == (-9223372036854775808))), eq_, H', ⟨by first | omega | exact lr_ _⟩, by repeat (first | exact d0_ _ | apply Drawn0.step)⟩
   ·
    rw [ig_ c5] at H
    have c5b0 : (a == (-1)) = false := be_.mpr c5
    have c5b1 : (a != (-1)) = true := ni_.mpr c5
    have H' := a_ H
    clear H
    go_wp2
    go_meet
    case rel => exact ⟨_, (false), eq_, H', ⟨by first | omega | exact lr_ _⟩, by repeat (first | exact d0_ _ | apply Drawn0.step)⟩
 case rest =>
  clear l
  try clear p2
  try clear c4
  try clear c4b0
  try clear c4b1
  try clear c5
  try clear c5b0
  try clear c5b1
  obtain ⟨kq, d, rfl, HA, r, ⟨mc2, rfl⟩⟩ := hcut
  cases kq with
  | zero => exact absurd HA.out (by simp [jigsawref01_Quo.j0])
  | succ kj2 =>
   have H := HA.out
   clear HA
   simp only [jigsawref01_Quo.j0] at H
   by_cases c6 : d = true
   ·
    subst c6
    rw [ip_ rfl] at H
    simp only [Option.some.injEq, Prod.mk.injEq] at H
    obtain ⟨rfl, rfl⟩ := H
    go_wp2
    go_ret2
    exact ⟨by first | rfl | (simp; done) | (simp [*]; done), by repeat (first | exact d0_ _ | apply Drawn0.step)⟩
   ·
    replace c6 := bf_.mpr c6
    subst c6
    have H1 : ((jigsawref01_size.f c).bind fun g => ((jigsawref01_size.f a).bind fun b => (if b = 0 then (none) else (if ((decide (c < 0)) != (decide (a < 0))) = true then (some (wrap64 (-(wrap64 (IntKind.u64.wrap (Int.tdiv g b)))), true)) else (some (wrap64 (IntKind.u64.wrap (Int.tdiv g b)), true)))))) = some (m, n) := by rw [ig_ (show ¬ (false = true) by decide)] at H; exact H
    clear H
    have H := H1
    clear H1
    replace H := bo_ H
    obtain ⟨g, p, H⟩ := H
    try dsimp only at H
    replace H := bo_ H
    obtain ⟨b, q, H⟩ := H
    try dsimp only at H
    by_cases c9 : b = 0
    ·
     rw [ip_ c9] at H
     exact absurd H (by simp)
    ·
     rw [ig_ c9] at H
     have c9b0 : (b == 0) = false := be_.mpr c9
     have c9b1 : (b != 0) = true := ni_.mpr c9
     by_cases c10 : ((decide (c < 0)) != (decide (a < 0))) = true
     ·
      rw [ip_ c10] at H
      have c10b0 : ((decide (c < 0)) != (decide (a < 0))) = true := c10
      (try (have c10b1 : decide ((decide (c < 0)) = (decide (a < 0))) = false := by simpa using c10))
      (try (have c10b2 : ((decide (c < 0)) == (decide (a < 0))) = false := by simpa using c10))
      (try (have c10b3 : ¬ ((decide (c < 0)) = (decide (a < 0))) := by simpa using c10))
      clear c10
      simp only [Option.some.injEq, Prod.mk.injEq] at H
      obtain ⟨rfl, rfl⟩ := H
      go_wp2_with (first | ((with_reducible refine gate_callee (f := 106) rfl ?_); refine goesL_ (some 18) rfl rfl Tryz.func106 kr_ rfl #[.int .i64 c] rfl ar_ ?_; (with_reducible refine (jigsawref01_size.calls c g _ p.out).mono ?_); rintro e w' ⟨rfl, ⟨nd, rfl⟩⟩; refine ⟨_, rfl, ?_⟩) | ((with_reducible refine gate_callee (f := 106) rfl ?_); refine goesL_ (some 20) rfl rfl Tryz.func106 kr_ rfl #[.int .i64 a] rfl ar_ ?_; (with_reducible refine (jigsawref01_size.calls a b _ q.out).mono ?_); rintro e w' ⟨rfl, ⟨nd, rfl⟩⟩; refine ⟨_, rfl, ?_⟩))
      go_ret2
      exact ⟨by first | rfl | (simp; done) | (simp [*]; done), by repeat (first | exact d0_ _ | apply Drawn0.step)⟩
     ·
      rw [ig_ c10] at H
      have c10b0 : ((decide (c < 0)) != (decide (a < 0))) = false := by simpa using c10
      (try (have c10b1 : decide ((decide (c < 0)) = (decide (a < 0))) = true := by simpa using c10))
      (try (have c10b2 : ((decide (c < 0)) == (decide (a < 0))) = true := by simpa using c10))
      clear c10
      simp only [Option.some.injEq, Prod.mk.injEq] at H
      obtain ⟨rfl, rfl⟩ := H
      go_wp2_with (first | ((with_reducible refine gate_callee (f := 106) rfl ?_); refine goesL_ (some 18) rfl rfl Tryz.func106 kr_ rfl #[.int .i64 c] rfl ar_ ?_; (with_reducible refine (jigsawref01_size.calls c g _ p.out).mono ?_); rintro e w' ⟨rfl, ⟨nd, rfl⟩⟩; refine ⟨_, rfl, ?_⟩) | ((with_reducible refine gate_callee (f := 106) rfl ?_); refine goesL_ (some 20) rfl rfl Tryz.func106 kr_ rfl #[.int .i64 a] rfl ar_ ?_; (with_reducible refine (jigsawref01_size.calls a b _ q.out).mono ?_); rintro e w' ⟨rfl, ⟨nd, rfl⟩⟩; refine ⟨_, rfl, ?_⟩))
      go_ret2
      exact ⟨by first | rfl | (simp; done) | (simp [*]; done), by repeat (first | exact d0_ _ | apply Drawn0.step)⟩

/-! ### jigsawref01_Rem: function 104 -/
def jigsawref01_Rem.f (k : Nat) (b : Int) (c : Int) : Option (Int × Bool) := (jigsawref01_Quo.f k b c).bind fun a => (if a.2 = true then (some (wrap64 (b - (wrap64 (c * a.1))), true)) else (some (0, false)))
theorem jigsawref01_Rem.mono : ∀ a b k, LeO (jigsawref01_Rem.f k a b) (jigsawref01_Rem.f (k + 1) a b) := by
 intro a b k
 unfold jigsawref01_Rem.f
 have m0 := @jigsawref01_Quo.mono
 exact leo_
set_option maxHeartbeats 8000000 in
set_option maxRecDepth 100000 in
theorem jigsawref01_Rem.calls (k : Nat) (a : Int) (b : Int) (g : Int) (l : Bool) (w : World) (h : jigsawref01_Rem.f k a b = some (g, l)) :
  Calls Tryz.prog 104 #[.int .i64 a, .int .i64 b] w fun e w' => e = .returned (.tuple #[.int .i64 g, .bool l]) ∧ Drawn0 w w' := by
 unfold jigsawref01_Rem.f at h
 have H := h
 clear h
 replace H := bs_.mp H
 obtain ⟨⟨c, m⟩, d, H⟩ := H
 try dsimp only at H
 have n := a_ d
 clear d
 by_cases c4 : m = true
 ·
  subst c4
  rw [ip_ rfl] at H
  simp only [Option.some.injEq, Prod.mk.injEq] at H
  obtain ⟨rfl, rfl⟩ := H
  go_enter Tryz.func104, Tryz.ntmps104
  go_wp2_with (first | ((with_reducible refine gate_callee (f := 84) rfl ?_); refine goesL_ (some 11) rfl rfl Tryz.func84 kr_ rfl #[.int .i64 a, .int .i64 b] rfl ar_ ?_; (with_reducible refine (jigsawref01_Quo.calls k a b c true _ n.out).mono ?_); rintro e w' ⟨rfl, ⟨nd, rfl⟩⟩; refine ⟨_, rfl, ?_⟩))
  go_ret2
  exact ⟨by first | rfl | (simp; done) | (simp [*]; done), by repeat (first | exact d0_ _ | apply Drawn0.step)⟩
 ·
  replace c4 := bf_.mpr c4
  subst c4
  have H1 : (some (0, false)) = some (g, l) := by rw [ig_ (show ¬ (false = true) by decide)] at H; exact H
  clear H
  have H := H1
  clear H1
  simp only [Option.some.injEq, Prod.mk.injEq] at H
  obtain ⟨rfl, rfl⟩ := H
  go_enter Tryz.func104, Tryz.ntmps104
  go_wp2_with (first | ((with_reducible refine gate_callee (f := 84) rfl ?_); refine goesL_ (some 11) rfl rfl Tryz.func84 kr_ rfl #[.int .i64 a, .int .i64 b] rfl ar_ ?_; (with_reducible refine (jigsawref01_Quo.calls k a b c false _ n.out).mono ?_); rintro e w' ⟨rfl, ⟨nd, rfl⟩⟩; refine ⟨_, rfl, ?_⟩))
  go_ret2
  exact ⟨by first | rfl | (simp; done) | (simp [*]; done), by repeat (first | exact d0_ _ | apply Drawn0.step)⟩

/-! ### jigsawref11_value: function 76 -/
def jigsawref11_value.f (k : Nat) (c : Int) (d : Int) (e : Int) : Option (Int × Bool) := if c = 5 then (some (wrap64 (d * e), true)) else (if c = 6 then ((jigsawref01_Quo.f k d e).bind fun a => (some (a.1, a.2))) else (if c = 7 then ((jigsawref01_Rem.f k d e).bind fun b => (some (b.1, b.2))) else (none)))
theorem jigsawref11_value.mono : ∀ a b c k, LeO (jigsawref11_value.f k a b c) (jigsawref11_value.f (k + 1) a b c) := by
 intro a b c k
 unfold jigsawref11_value.f
 have m0 := @jigsawref01_Quo.mono
 have m1 := @jigsawref01_Rem.mono
 exact leo_
set_option maxHeartbeats 8000000 in
set_option maxRecDepth 100000 in
theorem jigsawref11_value.calls (k : Nat) (a : Int) (b : Int) (c : Int) (p : Int) (q : Bool) (w : World) (h : jigsawref11_value.f k a b c = some (p, q)) :
  Calls Tryz.prog 76 #[.int .i64 a, .int .i64 b, .int .i64 c] w fun e w' => e = .returned (.tuple #[.int .i64 p, .bool q]) ∧ Drawn0 w w' := by
 unfold jigsawref11_value.f at h
 have H := h
 clear h
 by_cases c4 : a = 5
 ·
  rw [ip_ c4] at H
  have c4b0 : (a == 5) = true := beq_iff_eq.mpr c4
  have c4b1 : (a != 5) = false := bn_.mpr c4
  clear c4
  simp only [Option.some.injEq, Prod.mk.injEq] at H
  obtain ⟨rfl, rfl⟩ := H
  go_enter Tryz.func76, Tryz.ntmps76
  go_wp2
  go_ret2
  exact ⟨by first | rfl | (simp; done) | (simp [*]; done), by repeat (first | exact d0_ _ | apply Drawn0.step)⟩
 ·
  rw [ig_ c4] at H
  have c4b0 : (a == 5) = false := be_.mpr c4
  have c4b1 : (a != 5) = true := ni_.mpr c4
  by_cases c5 : a = 6
  ·
   rw [ip_ c5] at H
   have c5b0 : (a == 6) = true := beq_iff_eq.mpr c5
   have c5b1 : (a != 6) = false := bn_.mpr c5
   clear c5
   replace H := bs_.mp H
   obtain ⟨⟨l, m⟩, d, H⟩ := H
   try dsimp only at H
   have r := a_ d
   clear d
   simp only [Option.some.injEq, Prod.mk.injEq] at H
   obtain ⟨rfl, rfl⟩ := H
   go_enter Tryz.func76, Tryz.ntmps76
   go_wp2_with (first | ((with_reducible refine gate_callee (f := 84) rfl ?_); refine goesL_ (some 18) rfl rfl Tryz.func84 kr_ rfl #[.int .i64 b, .int .i64 c] rfl ar_ ?_; (with_reducible refine (jigsawref01_Quo.calls k b c l m _ r.out).mono ?_); rintro e w' ⟨rfl, ⟨nd, rfl⟩⟩; refine ⟨_, rfl, ?_⟩))
   go_ret2
   exact ⟨by first | rfl | (simp; done) | (simp [*]; done), by repeat (first | exact d0_ _ | apply Drawn0.step)⟩
  ·
   rw [ig_ c5] at H
   have c5b0 : (a == 6) = false := be_.mpr c5
   have c5b1 : (a != 6) = true := ni_.mpr c5
   by_cases c7 : a = 7
   ·
    rw [ip_ c7] at H
    have c7b0 : (a == 7) = true := beq_iff_eq.mpr c7
    have c7b1 : (a != 7) = false := bn_.mpr c7
    clear c7
    replace H := bs_.mp H
    obtain ⟨⟨n, o⟩, g, H⟩ := H
    try dsimp only at H
    have s := a_ g
    clear g
    simp only [Option.some.injEq, Prod.mk.injEq] at H
    obtain ⟨rfl, rfl⟩ := H
    go_enter Tryz.func76, Tryz.ntmps76
    go_wp2_with (first | ((with_reducible refine gate_callee (f := 104) rfl ?_); refine goesL_ (some 25) rfl rfl Tryz.func104 kr_ rfl #[.int .i64 b, .int .i64 c] rfl ar_ ?_; (with_reducible refine (jigsawref01_Rem.calls k b c n o _ s.out).mono ?_); rintro e w' ⟨rfl, ⟨nd, rfl⟩⟩; refine ⟨_, rfl, ?_⟩))
    go_ret2
    exact ⟨by first | rfl | (simp; done) | (simp [*]; done), by repeat (first | exact d0_ _ | apply Drawn0.step)⟩
   ·
    rw [ig_ c7] at H
    exact absurd H (by simp)

/-! ### jigsawref11_Those: function 77 -/
def jigsawref11_Those.l0 : Nat → List Int → List Bool → List Int → Int → Option (List Int)
 | 0, _, _, _, _ => none
 | k + 1, b, c, d, a => if a < (b.length : Int) then (if 0 ≤ a then (if a < (c.length : Int) then (if rdOf false c a = true then (if d.length < 17592186044416 then (jigsawref11_Those.l0 k b c (d ++ [rd b a]) (wrap64 (a + 1))) else (none)) else (jigsawref11_Those.l0 k b c d (wrap64 (a + 1)))) else (none)) else (none)) else (some d)
def jigsawref11_Those.f (k : Nat) (a : List Int) (b : List Bool) : Option (List Int) := jigsawref11_Those.l0 k a b ([] : List Int) 0
theorem jigsawref11_Those.mono_l : ∀ k, (∀ a b c d, LeO (jigsawref11_Those.l0 k a b c d) (jigsawref11_Those.l0 (k + 1) a b c d))
 | 0 => fun _ _ _ _ r h => by simp [jigsawref11_Those.l0] at h
 | k + 1 => by
  have ih0 := jigsawref11_Those.mono_l k
  ·
   intro a b c d
   unfold jigsawref11_Those.l0
   exact leo_
theorem jigsawref11_Those.mono : ∀ a b k, LeO (jigsawref11_Those.f k a b) (jigsawref11_Those.f (k + 1) a b) := by
 intro a b k
 have ih0 := jigsawref11_Those.mono_l k
 unfold jigsawref11_Those.f
 exact leo_
set_option maxHeartbeats 8000000 in
set_option maxRecDepth 100000 in
theorem jigsawref11_Those.calls (k : Nat) (I : Option Addr) (c0 : Nat) (g : List Int) (J : Option Addr) (c1 : Nat) (l : List Bool) (r : List Int) (w : World) (y : Kd.C (Kd.int .i64) w I g.length g) (z : g.length ≤ c0) (A : Kd.C Kd.bool w J l.length l) (B : l.length ≤ c1) (h : jigsawref11_Those.f k g l = some r) :
  Calls Tryz.prog 77 #[.slice I g.length c0, .slice J l.length c1] w fun e w' => ∃ E : Value, e = .returned (E) ∧ Kd.R (Kd.int .i64) 3 w' w.heap.size (fun _ => True) E r ∧ Below w.heap.size w w' := by
 have K := a_ y
 have Q := a_ z
 clear y z
 have F := a_ A
 have U := a_ B
 clear A B
 have HB := a_ (Below.refl w.heap.size w)
 unfold jigsawref11_Those.f at h
 have H := h
 clear h
 have H' := a_ H
 clear H
 go_enter Tryz.func77, Tryz.ntmps77
 go_wp2
 go_loopg [5, 6] k (fun kq N O w' => ∃ (d : List Int) (a : Int), O = .int .i64 a ∧ Aside0 (jigsawref11_Those.l0 kq g l d a = some r) ∧ Aside0 (kq ≤ k) ∧ Aside0 (Kd.R (Kd.int .i64) 3 w' w.heap.size (fun _ => True) N d) ∧ Aside0 (Below w.heap.size w w'))
 case atStart => exact ⟨(([] : List Int)), (0), eq_, H', ⟨lr_ _⟩, ⟨nil_⟩, ⟨bel_⟩⟩
 case round =>
  clear H'
  try clear c1
  try clear p2
  obtain ⟨d, a, rfl, HA, s, HO_5, HB⟩ := hrel
  cases gk with
  | zero => exact absurd HA.out (by simp [jigsawref11_Those.l0])
  | succ k1 =>
   have H := HA.out
   clear HA
   simp only [jigsawref11_Those.l0] at H
   by_cases c3 : a < (g.length : Int)
   ·
    rw [ip_ c3] at H
    have c3b0 : decide (a < (g.length : Int)) = true := dt_ c3
    clear c3
    by_cases c4 : 0 ≤ a
    ·
     rw [ip_ c4] at H
     have c4b0 : decide (0 ≤ a) = true := dt_ c4
     clear c4
     by_cases c5 : a < (l.length : Int)
     ·
      rw [ip_ c5] at H
      have c5b0 : decide (a < (l.length : Int)) = true := dt_ c5
      clear c5
      obtain ⟨bq6, hbq6⟩ : ∃ b_ : Bool, b_ = (rdOf false l a) := ⟨_, rfl⟩
      replace H : (if bq6 = true then (if d.length < 17592186044416 then (jigsawref11_Those.l0 k1 g l (d ++ [rd g a]) (wrap64 (a + 1))) else (none)) else (jigsawref11_Those.l0 k1 g l d (wrap64 (a + 1)))) = some r := by rw [← hbq6] at H; exact H
      have Nbq6 := a_ hbq6
      clear hbq6
      by_cases c7 : bq6 = true
      ·
       subst c7
       rw [ip_ rfl] at H
       by_cases c8 : d.length < 17592186044416
       ·
        rw [ip_ c8] at H
        have LMc8 := a_ c8
        clear c8
        obtain ⟨t, n⟩ : ∃ y_ : List Int, y_ = (d ++ [rd g a]) := ⟨_, rfl⟩
        replace H : (jigsawref11_Those.l0 k1 g l t (wrap64 (a + 1))) = some r := by first | (rw [n]; with_reducible exact H) | (have H2_ := (ob_ _ _).symm.trans H; rw [n]; with_reducible exact H2_) | (have H2_ := (ob_ _ _).symm.trans H; with_reducible exact H2_) | with_reducible exact H | (rw [n]; exact H) | exact H
        have u := a_ n
        clear n
        have H' := a_ H
        clear H
        have p448 : 0 ≤ (a : Int) := dq_
        have m : a < (l.length : Int) := dq_
        obtain ⟨v, p, c⟩ := Kd.at_bool F.out a p448 m
        (try rw [← Nbq6.out] at c)
        cases p
        replace c := (HB.out.cell (wl_ w _ c)).trans c
        replace p448 := et_ p448
        replace m := et_ m
        have p449 : 0 ≤ (a : Int) := dq_
        have q : a < (g.length : Int) := dq_
        obtain ⟨M, G, o⟩ := ai_ K.out a p449 q
        cases G
        replace o := (HB.out.cell (wl_ w _ o)).trans o
        replace p449 := et_ p449
        replace q := et_ q
        go_wp2_with (first | ((with_reducible refine gate_builtin (b := .append) (xs := #[.tmp 17, .tmp 22]) rfl ?_); at_builtin; refine Kd.R_append (Kd.int .i64) (w0 := w) w.heap.size rfl (.tmp 17) (.tmp 22) 30 3 (.int .i64 0) 8 rfl Tryz.underlying30 info3 rfl (by decide) (by omega) u5 d (rd g a) [.int .i64 (rd g a)] (fun _ => True) (fun _ => False) rfl rfl ?aP (fun _ hk => hk.elim) ?aF ?aO ?aB ?aS ?aL ?_; (case aP => exact rfl); (case aB => exact bel_); (case aF => exact (fun _ _ => trivial)); (case aO => exact (vR_ HO_5.out)); (case aS => exact (bz_ bel_)); (case aL => have := LMc8.out; omega); intro P w9 ho hb hg hat; rw [← u.out] at ho; replace HB := a_ (hb); have x := a_ (ho); clear HO_5; clear ho hb hg hat))
        go_roundg k1
        case measure => have := s.out; omega
        case rel => exact ⟨(t), (wrap64 (a + 1)), eq_, H', ⟨by have := s.out; omega⟩, ⟨vR_ x.out⟩, ⟨bel_⟩⟩
       ·
        rw [ig_ c8] at H
        exact absurd H (by simp)
      ·
       replace c7 := bf_.mpr c7
       subst c7
       have H1 : (jigsawref11_Those.l0 k1 g l d (wrap64 (a + 1))) = some r := by rw [ig_ (show ¬ (false = true) by decide)] at H; exact H
       clear H
       have H := H1
       clear H1
       have H' := a_ H
       clear H
       have p448 : 0 ≤ (a : Int) := dq_
       have m : a < (l.length : Int) := dq_
       obtain ⟨v, p, c⟩ := Kd.at_bool F.out a p448 m
       (try rw [← Nbq6.out] at c)
       cases p
       replace c := (HB.out.cell (wl_ w _ c)).trans c
       replace p448 := et_ p448
       replace m := et_ m
       go_wp2
       go_roundg k1
       case measure => have := s.out; omega
       case rel => exact ⟨(d), (wrap64 (a + 1)), eq_, H', ⟨by have := s.out; omega⟩, ⟨vR_ HO_5.out⟩, ⟨bel_⟩⟩
     ·
      rw [ig_ c5] at H
      exact absurd H (by simp)
    ·
     rw [ig_ c4] at H
     exact absurd H (by simp)
   ·
    rw [ig_ c3] at H
    have c3b0 : decide (a < (g.length : Int)) = false := df_ c3
    clear c3
    obtain rfl := si_ H
    go_wp2
    go_ret
    exact ⟨_, er_, vR_ HO_5.out, bel_⟩

end Go.Proofs.YtbhhbgoamomacaaGreatDoor.XMulFilters
