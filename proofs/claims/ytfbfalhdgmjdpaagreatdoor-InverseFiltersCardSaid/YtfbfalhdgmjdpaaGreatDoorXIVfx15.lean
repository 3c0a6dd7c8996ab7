-- by xprint.py, a program of this session, over the kit's print
import Derived.Test.YtfbfalhdgmjdpaaGreatDoorXIVfx0
import Derived.Test.YtfbfalhdgmjdpaaGreatDoorXIVfx1
import Derived.Test.YtfbfalhdgmjdpaaGreatDoorXIVfx14
import Derived.Test.YtfbfalhdgmjdpaaGreatDoorSq
namespace Go.Proofs.YtfbfalhdgmjdpaaGreatDoor.XInverseFilters
open Go.RowKit Go.Proofs.YtfbfalhdgmjdpaaGreatDoor.Sq Go.Proofs.YtfbfalhdgmjdpaaGreatDoorW.PrintWords Go.Proofs.YtfbfalhdgmjdpaaGreatDoorW.PrintLast Go.Proofs.YtfbfalhdgmjdpaaGreatDoorW.PrintMore
attribute [local go_sem] max2_int min2_int max_two min_two max_three min_three max_four min_four   -- for this text's walks alone
set_option linter.unusedVariables false
set_option linter.unusedSimpArgs false

/-! ### jigsawref06_Arity: function 67 -/
mutual
def jigsawref06_Arity.j0 : Nat → Bool → Int → List Int → List Int → List Int → List Int → List Int → Int → List (List Int) → Option (Bool)
 | 0, _, _, _, _, _, _, _, _, _ => none
 | k + 1, m, a, b, c, d, e, f, g, l => if m = true then (none) else (jigsawref06_Arity.l0 k 0 a b c d e f g l)
def jigsawref06_Arity.l0 : Nat → Int → Int → List Int → List Int → List Int → List Int → List Int → Int → List (List Int) → Option (Bool)
 | 0, _, _, _, _, _, _, _, _, _ => none
 | k + 1, m, b, c, d, e, f, g, l, a => if m < (a.length : Int) then (none) else (some true)
end
def jigsawref06_Arity.f (k : Nat) (a : Int) (b : List Int) (c : List Int) (e : List Int) (g : List Int) (l : List Int) (m : Int) (n : List (List Int)) (d : ByteArray) : Option (Bool) := if m = 0 then (if a = 12 then (none) else ((jigsawref06_has.f k d 118).bind fun o => ((jigsawref06_has.f k d 86).bind fun p => ((jigsawref06_list.f (b.length : Int) o p).bind fun q => ((jigsawref06_has.f k d 119).bind fun r => ((jigsawref06_has.f k d 87).bind fun s => ((jigsawref06_list.f (c.length : Int) r s).bind fun t => ((jigsawref06_has.f k d 99).bind fun u => ((jigsawref06_list.f (e.length : Int) 0 u).bind fun v => ((jigsawref06_has.f k d 100).bind fun x => ((jigsawref06_list.f (g.length : Int) 0 x).bind fun y => ((jigsawref06_has.f k d 101).bind fun z => ((jigsawref06_list.f (l.length : Int) 0 z).bind fun A => (if q = true then (if t = true then (if v = true then (if y = true then (if A = true then ((jigsawref06_has.f k d 114).bind fun B => (if B = 0 then (if (n.length : Int) > 0 then (none) else ((jigsawref06_has.f k d 114).bind fun C => (if C > 0 then (none) else (if a ≤ 4 then (none) else (if a = 19 then (none) else (if a = 21 then (none) else (if a ≥ 22 then (jigsawref06_Arity.j0 k ((c.length : Int) != (b.length : Int)) a b c e g l m n) else (jigsawref06_Arity.j0 k false a b c e g l m n)))))))) else (none))) else (none)) else (none)) else (none)) else (none)) else (none))))))))))))))) else (none)
theorem jigsawref06_Arity.mono_l : ∀ k, (∀ a b c d e f g l m, LeO (jigsawref06_Arity.j0 k a b c d e f g l m) (jigsawref06_Arity.j0 (k + 1) a b c d e f g l m)) ∧ (∀ a b c d e f g l m, LeO (jigsawref06_Arity.l0 k a b c d e f g l m) (jigsawref06_Arity.l0 (k + 1) a b c d e f g l m))
 | 0 => by refine ⟨?_, ?_⟩ <;> (intros; exact LeO.none _)
 | k + 1 => by
  obtain ⟨ih0, ih1⟩ := jigsawref06_Arity.mono_l k
  have m0 := @jigsawref06_has.mono
  refine ⟨?_, ?_⟩ <;> intros
  all_goals first | unfold jigsawref06_Arity.j0 | unfold jigsawref06_Arity.l0
  all_goals exact leo_
theorem jigsawref06_Arity.mono : ∀ a b c d e g l m n k, LeO (jigsawref06_Arity.f k a b c d e g l m n) (jigsawref06_Arity.f (k + 1) a b c d e g l m n) := by
 intro a b c d e g l m n k
 obtain ⟨ih0, ih1⟩ := jigsawref06_Arity.mono_l k
 unfold jigsawref06_Arity.f
 have m0 := @jigsawref06_has.mono
 exact leo_
set_option maxHeartbeats 8000000 in
set_option maxRecDepth 100000 in
theorem jigsawref06_Arity.calls (k : Nat) (a : Int) (u : Option Addr) (c0_1 : Nat) (c : List Int) (v : Option Addr) (c0_2 : Nat) (d : List Int) (x : Option Addr) (c0_3 : Nat) (l : List Int) (y : Option Addr) (c0_4 : Nat) (m : List Int) (z : Option Addr) (c0_5 : Nat) (n : List Int) (p : Int) (A : Option Addr) (c0_7 : Nat) (b : List (List Int)) (o : ByteArray) (r : Bool) (w : World) (al : Kd.C (Kd.int .i64) w u c.length c) (V : c.length ≤ c0_1) (am : Kd.C (Kd.int .i64) w v d.length d) (W : d.length ≤ c0_2) (an : Kd.C (Kd.int .i64) w x l.length l) (X : l.length ≤ c0_3) (ao : Kd.C (Kd.int .i64) w y m.length m) (Y : m.length ≤ c0_4) (ap : Kd.C (Kd.int .i64) w z n.length n) (Z : n.length ≤ c0_5) (aq : Kd.C (Kd.slice 3 (Kd.int .i64)) w A b.length b) (aa : b.length ≤ c0_7) (h : jigsawref06_Arity.f k a c d l m n p b o = some r) :
  Calls Tryz.prog 67 #[.agg #[.int .i64 a, .slice u c.length c0_1, .slice v d.length c0_2, .slice x l.length c0_3, .slice y m.length c0_4, .slice z n.length c0_5, .int .i64 p, .slice A b.length c0_7], .string o] w fun e w' => e = .returned (.bool r) ∧ Below w.heap.size w w' := by
 have hu32 := Tryz.underlying32
 have aF := a_ V
 clear al V
 have aG := a_ W
 clear am W
 have aH := a_ X
 clear an X
 have aI := a_ Y
 clear ao Y
 have aJ := a_ Z
 clear ap Z
 have aK := a_ aa
 clear aq aa
 have HB := a_ (Below.refl w.heap.size w)
 unfold jigsawref06_Arity.f at h
 have H := h
 clear h
 by_cases c3 : p = 0
 rotate_left
 ·
  rw [ig_ c3] at H
  exact ab_ H
 rw [ip_ c3] at H
 have c3b0 : (p == 0) = true := beq_iff_eq.mpr c3
 have c3b1 : (p != 0) = false := bn_.mpr c3
 clear c3
 by_cases c4 : a = 12
 ·
  rw [ip_ c4] at H
  exact ab_ H
 rw [ig_ c4] at H
 have c4b0 : (a == 12) = false := be_.mpr c4
 have c4b1 : (a != 12) = true := ni_.mpr c4
 replace H := bo_ H
 obtain ⟨G, A5, H⟩ := H
 try dsimp only at H
 replace H := bo_ H
 obtain ⟨I, A6, H⟩ := H
 try dsimp only at H
 replace H := bo_ H
 obtain ⟨av, A7, H⟩ := H
 try dsimp only at H
 replace H := bo_ H
 obtain ⟨J, A8, H⟩ := H
 try dsimp only at H
 replace H := bo_ H
 obtain ⟨K, A9, H⟩ := H
 try dsimp only at H
 replace H := bo_ H
 obtain ⟨az, ac, H⟩ := H
 try dsimp only at H
 replace H := bo_ H
 obtain ⟨M, ad, H⟩ := H
 try dsimp only at H
 replace H := bo_ H
 obtain ⟨aA, ae, H⟩ := H
 try dsimp only at H
 replace H := bo_ H
 obtain ⟨O, af, H⟩ := H
 try dsimp only at H
 replace H := bo_ H
 obtain ⟨aB, ag, H⟩ := H
 try dsimp only at H
 replace H := bo_ H
 obtain ⟨P, ah, H⟩ := H
 try dsimp only at H
 replace H := bo_ H
 obtain ⟨aC, ai, H⟩ := H
 try dsimp only at H
 by_cases c17 : av = true
 rotate_left
 ·
  replace c17 := bf_.mpr c17
  subst c17
  have H1 : (none) = some r := by rw [ig_ (show ¬ (false = true) by decide)] at H; exact H
  clear H
  have H := H1
  clear H1
  exact ab_ H
 subst c17
 rw [ip_ rfl] at H
 by_cases c18 : az = true
 rotate_left
 ·
  replace c18 := bf_.mpr c18
  subst c18
  have H1 : (none) = some r := by rw [ig_ (show ¬ (false = true) by decide)] at H; exact H
  clear H
  have H := H1
  clear H1
  exact ab_ H
 subst c18
 rw [ip_ rfl] at H
 by_cases c19 : aA = true
 rotate_left
 ·
  replace c19 := bf_.mpr c19
  subst c19
  have H1 : (none) = some r := by rw [ig_ (show ¬ (false = true) by decide)] at H; exact H
  clear H
  have H := H1
  clear H1
  exact ab_ H
 subst c19
 rw [ip_ rfl] at H
 by_cases c20 : aB = true
 rotate_left
 ·
  replace c20 := bf_.mpr c20
  subst c20
  have H1 : (none) = some r := by rw [ig_ (show ¬ (false = true) by decide)] at H; exact H
  clear H
  have H := H1
  clear H1
  exact ab_ H
 subst c20
 rw [ip_ rfl] at H
 by_cases c21 : aC = true
 rotate_left
 ·
  replace c21 := bf_.mpr c21
  subst c21
  have H1 : (none) = some r := by rw [ig_ (show ¬ (false = true) by decide)] at H; exact H
  clear H
  have H := H1
  clear H1
  exact ab_ H
 subst c21
 rw [ip_ rfl] at H
 replace H := bo_ H
 obtain ⟨B, aj, H⟩ := H
 try dsimp only at H
 by_cases c23 : B = 0
 rotate_left
 ·
  rw [ig_ c23] at H
  exact ab_ H
 rw [ip_ c23] at H
 have c23b0 : (B == 0) = true := beq_iff_eq.mpr c23
 have c23b1 : (B != 0) = false := bn_.mpr c23
 have c23b9 : decide (0 < B) = false := df_ (by omega)
 clear c23
 by_cases c24 : (b.length : Int) > 0
 ·
  rw [ip_ c24] at H
  exact ab_ H
 rw [ig_ c24] at H
 have c24b0 : decide (0 < (b.length : Int)) = false := df_ c24
 have c24b1 : decide (0 < b.length) = false := df_ (by omega)
 clear c24
 replace H := bo_ H
 obtain ⟨Q, ak, H⟩ := H
 try dsimp only at H
 by_cases c26 : Q > 0
 ·
  rw [ip_ c26] at H
  exact ab_ H
 rw [ig_ c26] at H
 have c26b0 : decide (0 < Q) = false := df_ c26
 clear c26
 by_cases c27 : a ≤ 4
 ·
  rw [ip_ c27] at H
  exact ab_ H
 rw [ig_ c27] at H
 have c27b0 : decide (a ≤ 4) = false := df_ c27
 clear c27
 have U := a_ H
 clear H
 go_enter Tryz.func67, Tryz.ntmps67
 go_upto_region 18 with (first | ((with_reducible refine gate_dst (N := 2) rfl ?_); (try (refine gate_guard (by rfl) ?_; dsimp only)); refine bxe_ (N := 2) (cs := #[.int .i64 a, .slice u c.length c0_1, .slice v d.length c0_2, .slice x l.length c0_3, .slice y m.length c0_4, .slice z n.length c0_5, .int .i64 p, .slice A b.length c0_7]) (t := 32) ?_; intro q hg w29 hbox hb; have g := a_ (hbox); have E := a_ (by rw [hg]; exact (bz_ bel_) : w.heap.size ≤ q); have ab := E; replace HB := hq_ hb; clear hb hbox hg; obtain ⟨_, _, _, _, _, _, _, _, _, _, _, _, _, _, _, _⟩ := cel8_ g.out) | (go_at_call 37; (with_reducible refine (jigsawref06_has.calls k o 118 G _ A5.out).mono ?_); rintro e w' ⟨rfl, ⟨nd, rfl⟩⟩; (try first | exact ⟨rfl, _, World.drewN_drewN _ _ _⟩ | exact ⟨rfl, _, Eq.trans (World.drewN_drewN _ _ _) (congrArg (World.drewN _) (Nat.add_assoc _ _ _))⟩)) | (go_at_call 37; (with_reducible refine (jigsawref06_has.calls k o 86 I _ A6.out).mono ?_); rintro e w' ⟨rfl, ⟨nd, rfl⟩⟩; (try first | exact ⟨rfl, _, World.drewN_drewN _ _ _⟩ | exact ⟨rfl, _, Eq.trans (World.drewN_drewN _ _ _) (congrArg (World.drewN _) (Nat.add_assoc _ _ _))⟩)) | (go_at_call 87; (with_reducible refine (jigsawref06_list.calls (c.length : Int) G I true _ A7.out).mono ?_); rintro e w' ⟨rfl, ⟨nd, rfl⟩⟩; (try first | exact ⟨rfl, _, World.drewN_drewN _ _ _⟩ | exact ⟨rfl, _, Eq.trans (World.drewN_drewN _ _ _) (congrArg (World.drewN _) (Nat.add_assoc _ _ _))⟩)) | (go_at_call 37; (with_reducible refine (jigsawref06_has.calls k o 119 J _ A8.out).mono ?_); rintro e w' ⟨rfl, ⟨nd, rfl⟩⟩; (try first | exact ⟨rfl, _, World.drewN_drewN _ _ _⟩ | exact ⟨rfl, _, Eq.trans (World.drewN_drewN _ _ _) (congrArg (World.drewN _) (Nat.add_assoc _ _ _))⟩)) | (go_at_call 37; (with_reducible refine (jigsawref06_has.calls k o 87 K _ A9.out).mono ?_); rintro e w' ⟨rfl, ⟨nd, rfl⟩⟩; (try first | exact ⟨rfl, _, World.drewN_drewN _ _ _⟩ | exact ⟨rfl, _, Eq.trans (World.drewN_drewN _ _ _) (congrArg (World.drewN _) (Nat.add_assoc _ _ _))⟩)) | (go_at_call 87; (with_reducible refine (jigsawref06_list.calls (d.length : Int) J K true _ ac.out).mono ?_); rintro e w' ⟨rfl, ⟨nd, rfl⟩⟩; (try first | exact ⟨rfl, _, World.drewN_drewN _ _ _⟩ | exact ⟨rfl, _, Eq.trans (World.drewN_drewN _ _ _) (congrArg (World.drewN _) (Nat.add_assoc _ _ _))⟩)) | (go_at_call 37; (with_reducible refine (jigsawref06_has.calls k o 99 M _ ad.out).mono ?_); rintro e w' ⟨rfl, ⟨nd, rfl⟩⟩; (try first | exact ⟨rfl, _, World.drewN_drewN _ _ _⟩ | exact ⟨rfl, _, Eq.trans (World.drewN_drewN _ _ _) (congrArg (World.drewN _) (Nat.add_assoc _ _ _))⟩)) | (go_at_call 87; (with_reducible refine (jigsawref06_list.calls (l.length : Int) 0 M true _ ae.out).mono ?_); rintro e w' ⟨rfl, ⟨nd, rfl⟩⟩; (try first | exact ⟨rfl, _, World.drewN_drewN _ _ _⟩ | exact ⟨rfl, _, Eq.trans (World.drewN_drewN _ _ _) (congrArg (World.drewN _) (Nat.add_assoc _ _ _))⟩)) | (go_at_call 37; (with_reducible refine (jigsawref06_has.calls k o 100 O _ af.out).mono ?_); rintro e w' ⟨rfl, ⟨nd, rfl⟩⟩; (try first | exact ⟨rfl, _, World.drewN_drewN _ _ _⟩ | exact ⟨rfl, _, Eq.trans (World.drewN_drewN _ _ _) (congrArg (World.drewN _) (Nat.add_assoc _ _ _))⟩)) | (go_at_call 87; (with_reducible refine (jigsawref06_list.calls (m.length : Int) 0 O true _ ag.out).mono ?_); rintro e w' ⟨rfl, ⟨nd, rfl⟩⟩; (try first | exact ⟨rfl, _, World.drewN_drewN _ _ _⟩ | exact ⟨rfl, _, Eq.trans (World.drewN_drewN _ _ _) (congrArg (World.drewN _) (Nat.add_assoc _ _ _))⟩)) | (go_at_call 37; (with_reducible refine (jigsawref06_has.calls k o 101 P _ ah.out).mono ?_); rintro e w' ⟨rfl, ⟨nd, rfl⟩⟩; (try first | exact ⟨rfl, _, World.drewN_drewN _ _ _⟩ | exact ⟨rfl, _, Eq.trans (World.drewN_drewN _ _ _) (congrArg (World.drewN _) (Nat.add_assoc _ _ _))⟩)) | (go_at_call 87; (with_reducible refine (jigsawref06_list.calls (n.length : Int) 0 P true _ ai.out).mono ?_); rintro e w' ⟨rfl, ⟨nd, rfl⟩⟩; (try first | exact ⟨rfl, _, World.drewN_drewN _ _ _⟩ | exact ⟨rfl, _, Eq.trans (World.drewN_drewN _ _ _) (congrArg (World.drewN _) (Nat.add_assoc _ _ _))⟩)) | (go_at_call 37; (with_reducible refine (jigsawref06_has.calls k o 114 B _ aj.out).mono ?_); rintro e w' ⟨rfl, ⟨nd, rfl⟩⟩; (try first | exact ⟨rfl, _, World.drewN_drewN _ _ _⟩ | exact ⟨rfl, _, Eq.trans (World.drewN_drewN _ _ _) (congrArg (World.drewN _) (Nat.add_assoc _ _ _))⟩)) | (go_at_call 37; (with_reducible refine (jigsawref06_has.calls k o 114 Q _ ak.out).mono ?_); rintro e w' ⟨rfl, ⟨nd, rfl⟩⟩; (try first | exact ⟨rfl, _, World.drewN_drewN _ _ _⟩ | exact ⟨rfl, _, Eq.trans (World.drewN_drewN _ _ _) (congrArg (World.drewN _) (Nat.add_assoc _ _ _))⟩)))
 repeat (go_quiet (first | ((with_reducible refine gate_dst (N := 2) rfl ?_); (try (refine gate_guard (by rfl) ?_; dsimp only)); refine bxe_ (N := 2) (cs := #[.int .i64 a, .slice u c.length c0_1, .slice v d.length c0_2, .slice x l.length c0_3, .slice y m.length c0_4, .slice z n.length c0_5, .int .i64 p, .slice A b.length c0_7]) (t := 32) ?_; intro q hg w29 hbox hb; have g := a_ (hbox); have E := a_ (by rw [hg]; exact (bz_ bel_) : w.heap.size ≤ q); have ab := E; replace HB := hq_ hb; clear hb hbox hg; obtain ⟨_, _, _, _, _, _, _, _, _, _, _, _, _, _, _, _⟩ := cel8_ g.out) | (go_at_call 37; (with_reducible refine (jigsawref06_has.calls k o 118 G _ A5.out).mono ?_); rintro e w' ⟨rfl, ⟨nd, rfl⟩⟩; (try first | exact ⟨rfl, _, World.drewN_drewN _ _ _⟩ | exact ⟨rfl, _, Eq.trans (World.drewN_drewN _ _ _) (congrArg (World.drewN _) (Nat.add_assoc _ _ _))⟩)) | (go_at_call 37; (with_reducible refine (jigsawref06_has.calls k o 86 I _ A6.out).mono ?_); rintro e w' ⟨rfl, ⟨nd, rfl⟩⟩; (try first | exact ⟨rfl, _, World.drewN_drewN _ _ _⟩ | exact ⟨rfl, _, Eq.trans (World.drewN_drewN _ _ _) (congrArg (World.drewN _) (Nat.add_assoc _ _ _))⟩)) | (go_at_call 87; (with_reducible refine (jigsawref06_list.calls (c.length : Int) G I true _ A7.out).mono ?_); rintro e w' ⟨rfl, ⟨nd, rfl⟩⟩; (try first | exact ⟨rfl, _, World.drewN_drewN _ _ _⟩ | exact ⟨rfl, _, Eq.trans (World.drewN_drewN _ _ _) (congrArg (World.drewN _) (Nat.add_assoc _ _ _))⟩)) | (go_at_call 37; (with_reducible refine (jigsawref06_has.calls k o 119 J _ A8.out).mono ?_); rintro e w' ⟨rfl, ⟨nd, rfl⟩⟩; (try first | exact ⟨rfl, _, World.drewN_drewN _ _ _⟩ | exact ⟨rfl, _, Eq.trans (World.drewN_drewN _ _ _) (congrArg (World.drewN _) (Nat.add_assoc _ _ _))⟩)) | (go_at_call 37; (with_reducible refine (jigsawref06_has.calls k o 87 K _ A9.out).mono ?_); rintro e w' ⟨rfl, ⟨nd, rfl⟩⟩; (try first | exact ⟨rfl, _, World.drewN_drewN _ _ _⟩ | exact ⟨rfl, _, Eq.trans (World.drewN_drewN _ _ _) (congrArg (World.drewN _) (Nat.add_assoc _ _ _))⟩)) | (go_at_call 87; (with_reducible refine (jigsawref06_list.calls (d.length : Int) J K true _ ac.out).mono ?_); rintro e w' ⟨rfl, ⟨nd, rfl⟩⟩; (try first | exact ⟨rfl, _, World.drewN_drewN _ _ _⟩ | exact ⟨rfl, _, Eq.trans (World.drewN_drewN _ _ _) (congrArg (World.drewN _) (Nat.add_assoc _ _ _))⟩)) | (go_at_call 37; (with_reducible refine (jigsawref06_has.calls k o 99 M _ ad.out).mono ?_); rintro e w' ⟨rfl, ⟨nd, rfl⟩⟩; (try first | exact ⟨rfl, _, World.drewN_drewN _ _ _⟩ | exact ⟨rfl, _, Eq.trans (World.drewN_drewN _ _ _) (congrArg (World.drewN _) (Nat.add_assoc _ _ _))⟩)) | (go_at_call 87; (with_reducible refine (jigsawref06_list.calls (l.length : Int) 0 M true _ ae.out).mono ?_); rintro e w' ⟨rfl, ⟨nd, rfl⟩⟩; (try first | exact ⟨rfl, _, World.drewN_drewN _ _ _⟩ | exact ⟨rfl, _, Eq.trans (World.drewN_drewN _ _ _) (congrArg (World.drewN _) (Nat.add_assoc _ _ _))⟩)) | (go_at_call 37; (with_reducible refine (jigsawref06_has.calls k o 100 O _ af.out).mono ?_); rintro e w' ⟨rfl, ⟨nd, rfl⟩⟩; (try first | exact ⟨rfl, _, World.drewN_drewN _ _ _⟩ | exact ⟨rfl, _, Eq.trans (World.drewN_drewN _ _ _) (congrArg (World.drewN _) (Nat.add_assoc _ _ _))⟩)) | (go_at_call 87; (with_reducible refine (jigsawref06_list.calls (m.length : Int) 0 O true _ ag.out).mono ?_); rintro e w' ⟨rfl, ⟨nd, rfl⟩⟩; (try first | exact ⟨rfl, _, World.drewN_drewN _ _ _⟩ | exact ⟨rfl, _, Eq.trans (World.drewN_drewN _ _ _) (congrArg (World.drewN _) (Nat.add_assoc _ _ _))⟩)) | (go_at_call 37; (with_reducible refine (jigsawref06_has.calls k o 101 P _ ah.out).mono ?_); rintro e w' ⟨rfl, ⟨nd, rfl⟩⟩; (try first | exact ⟨rfl, _, World.drewN_drewN _ _ _⟩ | exact ⟨rfl, _, Eq.trans (World.drewN_drewN _ _ _) (congrArg (World.drewN _) (Nat.add_assoc _ _ _))⟩)) | (go_at_call 87; (with_reducible refine (jigsawref06_list.calls (n.length : Int) 0 P true _ ai.out).mono ?_); rintro e w' ⟨rfl, ⟨nd, rfl⟩⟩; (try first | exact ⟨rfl, _, World.drewN_drewN _ _ _⟩ | exact ⟨rfl, _, Eq.trans (World.drewN_drewN _ _ _) (congrArg (World.drewN _) (Nat.add_assoc _ _ _))⟩)) | (go_at_call 37; (with_reducible refine (jigsawref06_has.calls k o 114 B _ aj.out).mono ?_); rintro e w' ⟨rfl, ⟨nd, rfl⟩⟩; (try first | exact ⟨rfl, _, World.drewN_drewN _ _ _⟩ | exact ⟨rfl, _, Eq.trans (World.drewN_drewN _ _ _) (congrArg (World.drewN _) (Nat.add_assoc _ _ _))⟩)) | (go_at_call 37; (with_reducible refine (jigsawref06_has.calls k o 114 Q _ ak.out).mono ?_); rintro e w' ⟨rfl, ⟨nd, rfl⟩⟩; (try first | exact ⟨rfl, _, World.drewN_drewN _ _ _⟩ | exact ⟨rfl, _, Eq.trans (World.drewN_drewN _ _ _) (congrArg (World.drewN _) (Nat.add_assoc _ _ _))⟩))); go_upto_region 18 with (first | ((with_reducible refine gate_dst (N := 2) rfl ?_); (try (refine gate_guard (by rfl) ?_; dsimp only)); refine bxe_ (N := 2) (cs := #[.int .i64 a, .slice u c.length c0_1, .slice v d.length c0_2, .slice x l.length c0_3, .slice y m.length c0_4, .slice z n.length c0_5, .int .i64 p, .slice A b.length c0_7]) (t := 32) ?_; intro q hg w29 hbox hb; have g := a_ (hbox); have E := a_ (by rw [hg]; exact (bz_ bel_) : w.heap.size ≤ q); have ab := E; replace HB := hq_ hb; clear hb hbox hg; obtain ⟨_, _, _, _, _, _, _, _, _, _, _, _, _, _, _, _⟩ := cel8_ g.out) | (go_at_call 37; (with_reducible refine (jigsawref06_has.calls k o 118 G _ A5.out).mono ?_); rintro e w' ⟨rfl, ⟨nd, rfl⟩⟩; (try first | exact ⟨rfl, _, World.drewN_drewN _ _ _⟩ | exact ⟨rfl, _, Eq.trans (World.drewN_drewN _ _ _) (congrArg (World.drewN _) (Nat.add_assoc _ _ _))⟩)) | (go_at_call 37; (with_reducible refine (jigsawref06_has.calls k o 86 I _ A6.out).mono ?_); rintro e w' ⟨rfl, ⟨nd, rfl⟩⟩; (try first | exact ⟨rfl, _, World.drewN_drewN _ _ _⟩ | exact ⟨rfl, _, Eq.trans (World.drewN_drewN _ _ _) (congrArg (World.drewN _) (Nat.add_assoc _ _ _))⟩)) | (go_at_call 87; (with_reducible refine (jigsawref06_list.calls (c.length : Int) G I true _ A7.out).mono ?_); rintro e w' ⟨rfl, ⟨nd, rfl⟩⟩; (try first | exact ⟨rfl, _, World.drewN_drewN _ _ _⟩ | exact ⟨rfl, _, Eq.trans (World.drewN_drewN _ _ _) (congrArg (World.drewN _) (Nat.add_assoc _ _ _))⟩)) | (go_at_call 37; (with_reducible refine (jigsawref06_has.calls k o 119 J _ A8.out).mono ?_); rintro e w' ⟨rfl, ⟨nd, rfl⟩⟩; (try first | exact ⟨rfl, _, World.drewN_drewN _ _ _⟩ | exact ⟨rfl, _, Eq.trans (World.drewN_drewN _ _ _) (congrArg (World.drewN _) (Nat.add_assoc _ _ _))⟩)) | (go_at_call 37; (with_reducible refine (jigsawref06_has.calls k o 87 K _ A9.out).mono ?_); rintro e w' ⟨rfl, ⟨nd, rfl⟩⟩; (try first | exact ⟨rfl, _, World.drewN_drewN _ _ _⟩ | exact ⟨rfl, _, Eq.trans (World.drewN_drewN _ _ _) (congrArg (World.drewN _) (Nat.add_assoc _ _ _))⟩)) | (go_at_call 87; (with_reducible refine (jigsawref06_list.calls (d.length : Int) J K true _ ac.out).mono ?_); rintro e w' ⟨rfl, ⟨nd, rfl⟩⟩; (try first | exact ⟨rfl, _, World.drewN_drewN _ _ _⟩ | exact ⟨rfl, _, Eq.trans (World.drewN_drewN _ _ _) (congrArg (World.drewN _) (Nat.add_assoc _ _ _))⟩)) | (go_at_call 37; (with_reducible refine (jigsawref06_has.calls k o 99 M _ ad.out).mono ?_); rintro e w' ⟨rfl, ⟨nd, rfl⟩⟩; (try first | exact ⟨rfl, _, World.drewN_drewN _ _ _⟩ | exact ⟨rfl, _, Eq.trans (World.drewN_drewN _ _ _) (congrArg (World.drewN _) (Nat.add_assoc _ _ _))⟩)) | (go_at_call 87; (with_reducible refine (jigsawref06_list.calls (l.length : Int) 0 M true _ ae.out).mono ?_); rintro e w' ⟨rfl, ⟨nd, rfl⟩⟩; (try first | exact ⟨rfl, _, World.drewN_drewN _ _ _⟩ | exact ⟨rfl, _, Eq.trans (World.drewN_drewN _ _ _) (congrArg (World.drewN _) (Nat.add_assoc _ _ _))⟩)) | (go_at_call 37; (with_reducible refine (jigsawref06_has.calls k o 100 O _ af.out).mono ?_); rintro e w' ⟨rfl, ⟨nd, rfl⟩⟩; (try first | exact ⟨rfl, _, World.drewN_drewN _ _ _⟩ | exact ⟨rfl, _, Eq.trans (World.drewN_drewN _ _ _) (congrArg (World.drewN _) (Nat.add_assoc _ _ _))⟩)) | (go_at_call 87; (with_reducible refine (jigsawref06_list.calls (m.length : Int) 0 O true _ ag.out).mono ?_); rintro e w' ⟨rfl, ⟨nd, rfl⟩⟩; (try first | exact ⟨rfl, _, World.drewN_drewN _ _ _⟩ | exact ⟨rfl, _, Eq.trans (World.drewN_drewN _ _ _) (congrArg (World.drewN _) (Nat.add_assoc _ _ _))⟩)) | (go_at_call 37; (with_reducible refine (jigsawref06_has.calls k o 101 P _ ah.out).mono ?_); rintro e w' ⟨rfl, ⟨nd, rfl⟩⟩; (try first | exact ⟨rfl, _, World.drewN_drewN _ _ _⟩ | exact ⟨rfl, _, Eq.trans (World.drewN_drewN _ _ _) (congrArg (World.drewN _) (Nat.add_assoc _ _ _))⟩)) | (go_at_call 87; (with_reducible refine (jigsawref06_list.calls (n.length : Int) 0 P true _ ai.out).mono ?_); rintro e w' ⟨rfl, ⟨nd, rfl⟩⟩; (try first | exact ⟨rfl, _, World.drewN_drewN _ _ _⟩ | exact ⟨rfl, _, Eq.trans (World.drewN_drewN _ _ _) (congrArg (World.drewN _) (Nat.add_assoc _ _ _))⟩)) | (go_at_call 37; (with_reducible refine (jigsawref06_has.calls k o 114 B _ aj.out).mono ?_); rintro e w' ⟨rfl, ⟨nd, rfl⟩⟩; (try first | exact ⟨rfl, _, World.drewN_drewN _ _ _⟩ | exact ⟨rfl, _, Eq.trans (World.drewN_drewN _ _ _) (congrArg (World.drewN _) (Nat.add_assoc _ _ _))⟩)) | (go_at_call 37; (with_reducible refine (jigsawref06_has.calls k o 114 Q _ ak.out).mono ?_); rintro e w' ⟨rfl, ⟨nd, rfl⟩⟩; (try first | exact ⟨rfl, _, World.drewN_drewN _ _ _⟩ | exact ⟨rfl, _, Eq.trans (World.drewN_drewN _ _ _) (congrArg (World.drewN _) (Nat.add_assoc _ _ _))⟩))))
 (try simp only [Act.put, List.setIfInBounds_toArray, List.set_cons_zero, List.set_cons_succ])
 go_cut [199] (fun aD wc => ∃ (kq : Nat) (s : Bool), aD = .bool s ∧ Aside0 (jigsawref06_Arity.j0 kq s a c d l m n p b = some r) ∧ Aside0 (kq ≤ k) ∧ Aside0 (wc.heap[q]? = some (.cells #[.int .i64 a, (.slice u c.length c0_1), (.slice v d.length c0_2), (.slice x l.length c0_3), (.slice y m.length c0_4), (.slice z n.length c0_5), .int .i64 p, (.slice A b.length c0_7)] 32 (0, 0))) ∧ Aside0 (Below w.heap.size w wc))
 case first =>
  have H := U.out
  clear U
  by_cases c31 : a = 19
  ·
   rw [ip_ c31] at H
   exact ab_ H
  rw [ig_ c31] at H
  have c31b0 : (a == 19) = false := be_.mpr c31
  have c31b1 : (a != 19) = true := ni_.mpr c31
  (first | rw [c31b0] | (simp only [i64_w, i32_w]; rw [c31b0]) | skip)
  by_cases c32 : a = 21
  ·
   rw [ip_ c32] at H
   exact ab_ H
  rw [ig_ c32] at H
  have c32b0 : (a == 21) = false := be_.mpr c32
  have c32b1 : (a != 21) = true := ni_.mpr c32
  by_cases c33 : a ≥ 22
  rotate_left
  ·
   rw [ig_ c33] at H
   have c33b0 : decide (22 ≤ a) = false := df_ c33
   clear c33
   have H' := a_ H
   clear H
   obtain ⟨_, _, _, _, _, _, _, _, _, _, _, _, _, _, _, _⟩ := cel8_ g.out
   go_wp2
   repeat (go_quiet (fail); try go_wp2)
   go_meet
   exact ⟨_, (false), eq_, H', ⟨by first | omega | exact lr_ _⟩, ⟨bk_ g.out⟩, ⟨bel_⟩⟩
  rw [ip_ c33] at H
  have c33b0 : decide (22 ≤ a) = true := dt_ c33
  clear c33
  have H' := a_ H
  clear H
  obtain ⟨_, _, _, _, _, _, _, _, _, _, _, _, _, _, _, _⟩ := cel8_ g.out
  go_wp2
  repeat (go_quiet (fail); try go_wp2)
  go_meet
  exact ⟨_, (((d.length : Int) != (c.length : Int))), eq_, H', ⟨by first | omega | exact lr_ _⟩, ⟨bk_ g.out⟩, ⟨bel_⟩⟩
 clear U
 try clear c1
 try clear c2
 try clear p2
 try clear c3
 try clear c3b0
 try clear c3b1
 try clear c4
 try clear c4b0
 try clear c4b1
 try clear c6
 try clear c17
 try clear c18
 try clear c19
 try clear c20
 try clear c21
 try clear c23
 try clear c23b0
 try clear c23b1
 try clear c24
 try clear c24b0
 try clear c24b1
 try clear c26
 try clear c26b0
 try clear c27
 try clear c27b0
 try clear c31
 try clear c31b0
 try clear c31b1
 try clear c32
 try clear c32b0
 try clear c32b1
 try clear c33
 try clear c33b0
 obtain ⟨kq, s, rfl, HA, aL, g, HB⟩ := hcut
 cases kq with
 | zero => exact absurd HA.out (by simp [jigsawref06_Arity.j0])
 | succ kj27 =>
  have H := HA.out
  clear HA
  simp only [jigsawref06_Arity.j0] at H
  by_cases c36 : s = true
  ·
   subst c36
   rw [ip_ rfl] at H
   exact ab_ H
  replace c36 := bf_.mpr c36
  subst c36
  have H1 : (jigsawref06_Arity.l0 kj27 0 a c d l m n p b) = some r := by rw [ig_ (show ¬ (false = true) by decide)] at H; exact H
  clear H
  have H := H1
  clear H1
  have H' := a_ H
  clear H
  go_wp2
  repeat (go_quiet (fail); try go_wp2)
  go_loopg [12] kj27 (fun kq aE w' => ∃ (F : Int), aE = .int .i64 F ∧ Aside0 (jigsawref06_Arity.l0 kq F a c d l m n p b = some r) ∧ Aside0 (kq ≤ kj27) ∧ Aside0 (w'.heap[q]? = some (.cells #[.int .i64 a, (.slice u c.length c0_1), (.slice v d.length c0_2), (.slice x l.length c0_3), (.slice y m.length c0_4), (.slice z n.length c0_5), .int .i64 p, (.slice A b.length c0_7)] 32 (0, 0))) ∧ Aside0 (Below w.heap.size w w'))
  case atStart => exact ⟨(0), eq_, H', ⟨lr_ _⟩, ⟨bk_ g.out⟩, ⟨bel_⟩⟩
  clear H'
  try clear c1
  try clear c2
  try clear p2
  try clear c3
  try clear c3b0
  try clear c3b1
  try clear c4
  try clear c4b0
  try clear c4b1
  try clear c6
  try clear c17
  try clear c18
  try clear c19
  try clear c20
  try clear c21
  try clear c23
  try clear c23b0
  try clear c23b1
  try clear c24
  try clear c24b0
  try clear c24b1
  try clear c26
  try clear c26b0
  try clear c27
  try clear c27b0
  try clear c31
  try clear c31b0
  try clear c31b1
  try clear c32
  try clear c32b0
  try clear c32b1
  try clear c33
  try clear c33b0
  try clear c36
  try clear p2
  obtain ⟨F, rfl, HA, aM, g, HB⟩ := hrel
  cases gk with
  | zero => exact absurd HA.out (by simp [jigsawref06_Arity.l0])
  | succ k2 =>
   have H := HA.out
   clear HA
   simp only [jigsawref06_Arity.l0] at H
   by_cases c37 : F < (b.length : Int)
   ·
    rw [ip_ c37] at H
    exact ab_ H
   rw [ig_ c37] at H
   have c37b0 : decide (F < (b.length : Int)) = false := df_ c37
   clear c37
   obtain rfl := si_ H
   obtain ⟨_, _, _, _, _, _, _, _, _, _, _, _, _, _, _, _⟩ := cel8_ g.out
   go_wp2
   repeat (go_quiet (fail); try go_wp2)
   go_ret
   exact ⟨er_, bel_⟩

/-! ### jigsawref06_in: function 68 -/
def jigsawref06_in.l0 : Nat → List Int → Int → Int → Int → Option (Bool)
 | 0, _, _, _, _ => none
 | k + 1, b, c, d, a => if a < (b.length : Int) then (if 0 ≤ a then (if (rd b a) < c then (some false) else (if (rd b a) > d then (some false) else (jigsawref06_in.l0 k b c d (wrap64 (a + 1))))) else (none)) else (some true)
def jigsawref06_in.f (k : Nat) (a : List Int) (b : Int) (c : Int) : Option (Bool) := jigsawref06_in.l0 k a b c 0
theorem jigsawref06_in.mono_l : ∀ k, (∀ a b c d, LeO (jigsawref06_in.l0 k a b c d) (jigsawref06_in.l0 (k + 1) a b c d))
 | 0 => by intros; exact LeO.none _
 | k + 1 => by
  have ih0 := jigsawref06_in.mono_l k
  intro a b c d
  unfold jigsawref06_in.l0
  exact leo_
theorem jigsawref06_in.mono : ∀ a b c k, LeO (jigsawref06_in.f k a b c) (jigsawref06_in.f (k + 1) a b c) := by
 intro a b c k
 have ih0 := jigsawref06_in.mono_l k
 unfold jigsawref06_in.f
 exact leo_
set_option maxHeartbeats 8000000 in
set_option maxRecDepth 100000 in
theorem jigsawref06_in.calls (k : Nat) (y : Option Addr) (c0 : Nat) (c : List Int) (q : Int) (s : Int) (r : Bool) (w : World) (u : Kd.C (Kd.int .i64) w y c.length c) (v : c.length ≤ c0) (h : jigsawref06_in.f k c q s = some r) :
  Calls Tryz.prog 68 #[.slice y c.length c0, .int .i64 q, .int .i64 s] w fun e w' => e = .returned (.bool r) ∧ Drawn0 w w' := by
 have o := a_ u
 have A := a_ v
 clear u v
 unfold jigsawref06_in.f at h
 have H := h
 clear h
 have H' := a_ H
 clear H
 go_enter Tryz.func68, Tryz.ntmps68
 go_wp2
 go_loopg [7] k (fun kq z w' => ∃ (a : Int), z = .int .i64 a ∧ Aside0 (jigsawref06_in.l0 kq c q s a = some r) ∧ Aside0 (kq ≤ k) ∧ Drawn0 w w')
 case atStart => exact ⟨(0), eq_, H', ⟨lr_ _⟩, by repeat (first | exact d0_ _ | apply Drawn0.step)⟩
 clear H'
 try clear p2
 obtain ⟨a, rfl, HA, x, ⟨m1, rfl⟩⟩ := hrel
 cases gk with
 | zero => exact absurd HA.out (by simp [jigsawref06_in.l0])
 | succ k1 =>
  have H := HA.out
  clear HA
  simp only [jigsawref06_in.l0] at H
  by_cases c4 : a < (c.length : Int)
  rotate_left
  ·
   rw [ig_ c4] at H
   have c4b0 : decide (a < (c.length : Int)) = false := df_ c4
   clear c4
   obtain rfl := si_ H
   go_wp2
   go_ret
   exact ⟨by first | rfl | (simp; done) | (simp [*]; done), by repeat (first | exact d0_ _ | apply Drawn0.step)⟩
  rw [ip_ c4] at H
  have c4b0 : decide (a < (c.length : Int)) = true := dt_ c4
  clear c4
  by_cases c5 : 0 ≤ a
  rotate_left
  ·
   rw [ig_ c5] at H
   exact ab_ H
  rw [ip_ c5] at H
  have c5b0 : decide (0 ≤ a) = true := dt_ c5
  clear c5
  by_cases c6 : (rd c a) < q
  ·
   rw [ip_ c6] at H
   have c6b0 : decide ((rd c a) < q) = true := dt_ c6
   clear c6
   obtain rfl := si_ H
   have p437 : 0 ≤ (a : Int) := dq_
   have b : a < (c.length : Int) := dq_
   obtain ⟨g, l, m⟩ := ai_ o.out a p437 b
   cases l
   replace p437 := et_ p437
   replace b := et_ b
   go_wp2
   go_ret
   exact ⟨by first | rfl | (simp; done) | (simp [*]; done), by repeat (first | exact d0_ _ | apply Drawn0.step)⟩
  rw [ig_ c6] at H
  have c6b0 : decide ((rd c a) < q) = false := df_ c6
  clear c6
  by_cases c7 : (rd c a) > s
  ·
   rw [ip_ c7] at H
   have c7b0 : decide (s < (rd c a)) = true := dt_ c7
   clear c7
   obtain rfl := si_ H
   have p437 : 0 ≤ (a : Int) := dq_
   have b : a < (c.length : Int) := dq_
   obtain ⟨g, l, m⟩ := ai_ o.out a p437 b
   cases l
   replace p437 := et_ p437
   replace b := et_ b
   have p438 : 0 ≤ (a : Int) := dq_
   have d : a < (c.length : Int) := dq_
   obtain ⟨n, p, t⟩ := ai_ o.out a p438 d
   obtain rfl : g = n := (by injection p)
   replace p438 := et_ p438
   replace d := et_ d
   go_wp2
   go_ret
   exact ⟨by first | rfl | (simp; done) | (simp [*]; done), by repeat (first | exact d0_ _ | apply Drawn0.step)⟩
  rw [ig_ c7] at H
  have c7b0 : decide (s < (rd c a)) = false := df_ c7
  clear c7
  have H' := a_ H
  clear H
  have p437 : 0 ≤ (a : Int) := dq_
  have b : a < (c.length : Int) := dq_
  obtain ⟨g, l, m⟩ := ai_ o.out a p437 b
  cases l
  replace p437 := et_ p437
  replace b := et_ b
  have p438 : 0 ≤ (a : Int) := dq_
  have d : a < (c.length : Int) := dq_
  obtain ⟨n, p, t⟩ := ai_ o.out a p438 d
  obtain rfl : g = n := (by injection p)
  replace p438 := et_ p438
  replace d := et_ d
  go_wp2
  go_roundg k1
  case measure => have := x.out; omega
  exact ⟨(wrap64 (a + 1)), eq_, H', ⟨by have := x.out; omega⟩, by repeat (first | exact d0_ _ | apply Drawn0.step)⟩

end Go.Proofs.YtfbfalhdgmjdpaaGreatDoor.XInverseFilters
