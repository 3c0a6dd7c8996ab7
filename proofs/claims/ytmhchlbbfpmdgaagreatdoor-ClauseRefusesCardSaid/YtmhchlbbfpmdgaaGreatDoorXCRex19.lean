-- by xprint.py, a program of this session, over the kit's print
import Derived.Test.YtmhchlbbfpmdgaaGreatDoorXCRex0
import Derived.Test.YtmhchlbbfpmdgaaGreatDoorXCRex1
import Derived.Test.YtmhchlbbfpmdgaaGreatDoorXCRex18
import Derived.Test.YtmhchlbbfpmdgaaGreatDoorSq
namespace Go.Proofs.YtmhchlbbfpmdgaaGreatDoor.XClauseRefuses
open Go.RowKit Go.Proofs.YtmhchlbbfpmdgaaGreatDoor.Sq Go.Proofs.YtmhchlbbfpmdgaaGreatDoorW.PrintWords Go.Proofs.YtmhchlbbfpmdgaaGreatDoorW.PrintLast Go.Proofs.YtmhchlbbfpmdgaaGreatDoorW.PrintMore
attribute [local go_sem] max2_int min2_int max_two min_two max_three min_three max_four min_four   -- for this text's walks alone
set_option linter.unusedVariables false
set_option linter.unusedSimpArgs false

/-! ### jigsawref06_Coefs: function 69 -/
mutual
def jigsawref06_Coefs.l0 : Nat → Int → Int → List Int → List Int → List Int → List Int → List Int → Int → List (List Int) → Option (Bool)
 | 0, _, _, _, _, _, _, _, _, _ => none
 | k + 1, m, b, c, d, e, f, g, l, a => if m < (a.length : Int) then (none) else (jigsawref06_Coefs.l1 k b c d e f g l a)
def jigsawref06_Coefs.l1 : Nat → Int → List Int → List Int → List Int → List Int → List Int → Int → List (List Int) → Option (Bool)
 | 0, _, _, _, _, _, _, _, _ => none
 | k + 1, a, b, c, d, e, f, g, l => if a = 21 then (none) else (some true)
end
def jigsawref06_Coefs.f (k : Nat) (a : Int) (g : List Int) (l : List Int) (c : List Int) (d : List Int) (e : List Int) (b : Int) (m : List (List Int)) : Option (Bool) := if a = 19 then (none) else (if a = 21 then (none) else ((jigsawref06_in.f k c (-1000000) 1000000).bind fun n => ((jigsawref06_in.f k d (-1000000) 1000000).bind fun o => ((jigsawref06_in.f k e (-1000000) 1000000).bind fun p => (if n = true then (if o = true then (if p = true then (if b < (-9999999999) then (none) else (if b > 9999999999 then (none) else (jigsawref06_Coefs.l0 k 0 a g l c d e b m))) else (none)) else (none)) else (none))))))
theorem jigsawref06_Coefs.mono_l : ∀ k, (∀ a b c d e f g l m, LeO (jigsawref06_Coefs.l0 k a b c d e f g l m) (jigsawref06_Coefs.l0 (k + 1) a b c d e f g l m)) ∧ (∀ a b c d e f g l, LeO (jigsawref06_Coefs.l1 k a b c d e f g l) (jigsawref06_Coefs.l1 (k + 1) a b c d e f g l))
 | 0 => by refine ⟨?_, ?_⟩ <;> (intros; exact LeO.none _)
 | k + 1 => by
  obtain ⟨ih0, ih1⟩ := jigsawref06_Coefs.mono_l k
  have m0 := @jigsawref06_in.mono
  refine ⟨?_, ?_⟩ <;> intros
  all_goals first | unfold jigsawref06_Coefs.l0 | unfold jigsawref06_Coefs.l1
  all_goals exact leo_
theorem jigsawref06_Coefs.mono : ∀ a b c d e g l m k, LeO (jigsawref06_Coefs.f k a b c d e g l m) (jigsawref06_Coefs.f (k + 1) a b c d e g l m) := by
 intro a b c d e g l m k
 obtain ⟨ih0, ih1⟩ := jigsawref06_Coefs.mono_l k
 unfold jigsawref06_Coefs.f
 have m0 := @jigsawref06_in.mono
 exact leo_
set_option maxHeartbeats 8000000 in
set_option maxRecDepth 100000 in
theorem jigsawref06_Coefs.calls (k : Nat) (a : Int) (q : Option Addr) (c0_1 : Nat) (n : List Int) (s : Option Addr) (c0_2 : Nat) (o : List Int) (u : Option Addr) (c0_3 : Nat) (b : List Int) (v : Option Addr) (c0_4 : Nat) (c : List Int) (x : Option Addr) (c0_5 : Nat) (d : List Int) (m : Int) (y : Option Addr) (c0_7 : Nat) (g : List (List Int)) (r : Bool) (w : World) (Z : Kd.C (Kd.int .i64) w q n.length n) (K : n.length ≤ c0_1) (aa : Kd.C (Kd.int .i64) w s o.length o) (M : o.length ≤ c0_2) (O : Kd.C (Kd.int .i64) w u b.length b) (P : b.length ≤ c0_3) (Q : Kd.C (Kd.int .i64) w v c.length c) (U : c.length ≤ c0_4) (V : Kd.C (Kd.int .i64) w x d.length d) (W : d.length ≤ c0_5) (ab : Kd.C (Kd.slice 3 (Kd.int .i64)) w y g.length g) (X : g.length ≤ c0_7) (h : jigsawref06_Coefs.f k a n o b c d m g = some r) :
  Calls Tryz.prog 69 #[.agg #[.int .i64 a, .slice q n.length c0_1, .slice s o.length c0_2, .slice u b.length c0_3, .slice v c.length c0_4, .slice x d.length c0_5, .int .i64 m, .slice y g.length c0_7]] w fun e w' => e = .returned (.bool r) ∧ Below w.heap.size w w' := by
 have hu32 := Tryz.underlying32
 have ai := a_ K
 clear Z K
 have aj := a_ M
 clear aa M
 have B := a_ O
 have E := a_ P
 clear O P
 have F := a_ Q
 have G := a_ U
 clear Q U
 have I := a_ V
 have J := a_ W
 clear V W
 have ak := a_ X
 clear ab X
 have HB := a_ (Below.refl w.heap.size w)
 unfold jigsawref06_Coefs.f at h
 have H := h
 clear h
 by_cases c2 : a = 19
 ·
  rw [ip_ c2] at H
  exact absurd H (by simp)
 rw [ig_ c2] at H
 have c2b0 : (a == 19) = false := be_.mpr c2
 have c2b1 : (a != 19) = true := ni_.mpr c2
 by_cases c3 : a = 21
 ·
  rw [ip_ c3] at H
  exact absurd H (by simp)
 rw [ig_ c3] at H
 have c3b0 : (a == 21) = false := be_.mpr c3
 have c3b1 : (a != 21) = true := ni_.mpr c3
 replace H := bo_ H
 obtain ⟨ac, A4, H⟩ := H
 try dsimp only at H
 replace H := bo_ H
 obtain ⟨ae, A5, H⟩ := H
 try dsimp only at H
 replace H := bo_ H
 obtain ⟨ag, A6, H⟩ := H
 try dsimp only at H
 by_cases c7 : ac = true
 rotate_left
 ·
  replace c7 := bf_.mpr c7
  subst c7
  have H1 : (none) = some r := by rw [ig_ (show ¬ (false = true) by decide)] at H; exact H
  clear H
  have H := H1
  clear H1
  exact absurd H (by simp)
 subst c7
 rw [ip_ rfl] at H
 by_cases c8 : ae = true
 rotate_left
 ·
  replace c8 := bf_.mpr c8
  subst c8
  have H1 : (none) = some r := by rw [ig_ (show ¬ (false = true) by decide)] at H; exact H
  clear H
  have H := H1
  clear H1
  exact absurd H (by simp)
 subst c8
 rw [ip_ rfl] at H
 by_cases c9 : ag = true
 rotate_left
 ·
  replace c9 := bf_.mpr c9
  subst c9
  have H1 : (none) = some r := by rw [ig_ (show ¬ (false = true) by decide)] at H; exact H
  clear H
  have H := H1
  clear H1
  exact absurd H (by simp)
 subst c9
 rw [ip_ rfl] at H
 by_cases c10 : m < (-9999999999)
 ·
  rw [ip_ c10] at H
  exact absurd H (by simp)
 rw [ig_ c10] at H
 have c10b0 : decide (m < (-9999999999)) = false := df_ c10
 clear c10
 by_cases c11 : m > 9999999999
 ·
  rw [ip_ c11] at H
  exact absurd H (by simp)
 rw [ig_ c11] at H
 have c11b0 : decide (9999999999 < m) = false := df_ c11
 clear c11
 have H' := a_ H
 clear H
 go_enter Tryz.func69, Tryz.ntmps69
 go_wp2_with (first | ((with_reducible refine gate_dst (N := 1) rfl ?_); (try (refine gate_guard (by rfl) ?_; dsimp only)); refine bxe_ (N := 1) (cs := #[.int .i64 a, .slice q n.length c0_1, .slice s o.length c0_2, .slice u b.length c0_3, .slice v c.length c0_4, .slice x d.length c0_5, .int .i64 m, .slice y g.length c0_7]) (t := 32) ?_; intro p hg w12 hbox hb; have l := a_ (hbox); have z := a_ (by rw [hg]; exact (bz_ bel_) : w.heap.size ≤ p); have Y := z; replace HB := hq_ hb; clear hb hbox hg; obtain ⟨_, _, _, _, _, _, _, _, _, _, _, _, _, _, _, _⟩ := cel8_ l.out) | (go_at_call 68; (with_reducible refine (jigsawref06_in.calls k _ _ b (-1000000) 1000000 true _ ?_ ?_ A4.out).mono ?_); exact ca_ ((cb_ B.out HB.out)); exact E.out; rintro e w' ⟨rfl, ⟨nd, rfl⟩⟩; (try first | exact ⟨rfl, _, World.drewN_drewN _ _ _⟩ | exact ⟨rfl, _, Eq.trans (World.drewN_drewN _ _ _) (congrArg (World.drewN _) (Nat.add_assoc _ _ _))⟩)) | (go_at_call 68; (with_reducible refine (jigsawref06_in.calls k _ _ c (-1000000) 1000000 true _ ?side1 ?side2 A5.out).mono ?_); (case side1 => repeat (first | exact (cb_ F.out bel_) | (with_reducible refine Kd.C_alloc ?_ _) | (with_reducible refine Kd.C_drewN ?_ _) | (with_reducible refine Kd.C_drew ?_))); (case side2 => exact G.out); rintro e w' ⟨rfl, ⟨nd, rfl⟩⟩; (try first | exact ⟨rfl, _, World.drewN_drewN _ _ _⟩ | exact ⟨rfl, _, Eq.trans (World.drewN_drewN _ _ _) (congrArg (World.drewN _) (Nat.add_assoc _ _ _))⟩)) | (go_at_call 68; (with_reducible refine (jigsawref06_in.calls k _ _ d (-1000000) 1000000 true _ ?side1 ?side2 A6.out).mono ?_); (case side1 => repeat (first | exact (cb_ I.out bel_) | (with_reducible refine Kd.C_alloc ?_ _) | (with_reducible refine Kd.C_drewN ?_ _) | (with_reducible refine Kd.C_drew ?_))); (case side2 => exact J.out); rintro e w' ⟨rfl, ⟨nd, rfl⟩⟩; (try first | exact ⟨rfl, _, World.drewN_drewN _ _ _⟩ | exact ⟨rfl, _, Eq.trans (World.drewN_drewN _ _ _) (congrArg (World.drewN _) (Nat.add_assoc _ _ _))⟩)))
 repeat (go_quiet (first | ((with_reducible refine gate_dst (N := 1) rfl ?_); (try (refine gate_guard (by rfl) ?_; dsimp only)); refine bxe_ (N := 1) (cs := #[.int .i64 a, .slice q n.length c0_1, .slice s o.length c0_2, .slice u b.length c0_3, .slice v c.length c0_4, .slice x d.length c0_5, .int .i64 m, .slice y g.length c0_7]) (t := 32) ?_; intro p hg w12 hbox hb; have l := a_ (hbox); have z := a_ (by rw [hg]; exact (bz_ bel_) : w.heap.size ≤ p); have Y := z; replace HB := hq_ hb; clear hb hbox hg; obtain ⟨_, _, _, _, _, _, _, _, _, _, _, _, _, _, _, _⟩ := cel8_ l.out) | (go_at_call 68; (with_reducible refine (jigsawref06_in.calls k _ _ b (-1000000) 1000000 true _ ?_ ?_ A4.out).mono ?_); exact ca_ ((cb_ B.out HB.out)); exact E.out; rintro e w' ⟨rfl, ⟨nd, rfl⟩⟩; (try first | exact ⟨rfl, _, World.drewN_drewN _ _ _⟩ | exact ⟨rfl, _, Eq.trans (World.drewN_drewN _ _ _) (congrArg (World.drewN _) (Nat.add_assoc _ _ _))⟩)) | (go_at_call 68; (with_reducible refine (jigsawref06_in.calls k _ _ c (-1000000) 1000000 true _ ?side1 ?side2 A5.out).mono ?_); (case side1 => repeat (first | exact (cb_ F.out bel_) | (with_reducible refine Kd.C_alloc ?_ _) | (with_reducible refine Kd.C_drewN ?_ _) | (with_reducible refine Kd.C_drew ?_))); (case side2 => exact G.out); rintro e w' ⟨rfl, ⟨nd, rfl⟩⟩; (try first | exact ⟨rfl, _, World.drewN_drewN _ _ _⟩ | exact ⟨rfl, _, Eq.trans (World.drewN_drewN _ _ _) (congrArg (World.drewN _) (Nat.add_assoc _ _ _))⟩)) | (go_at_call 68; (with_reducible refine (jigsawref06_in.calls k _ _ d (-1000000) 1000000 true _ ?side1 ?side2 A6.out).mono ?_); (case side1 => repeat (first | exact (cb_ I.out bel_) | (with_reducible refine Kd.C_alloc ?_ _) | (with_reducible refine Kd.C_drewN ?_ _) | (with_reducible refine Kd.C_drew ?_))); (case side2 => exact J.out); rintro e w' ⟨rfl, ⟨nd, rfl⟩⟩; (try first | exact ⟨rfl, _, World.drewN_drewN _ _ _⟩ | exact ⟨rfl, _, Eq.trans (World.drewN_drewN _ _ _) (congrArg (World.drewN _) (Nat.add_assoc _ _ _))⟩))); try go_wp2_with (first | ((with_reducible refine gate_dst (N := 1) rfl ?_); (try (refine gate_guard (by rfl) ?_; dsimp only)); refine bxe_ (N := 1) (cs := #[.int .i64 a, .slice q n.length c0_1, .slice s o.length c0_2, .slice u b.length c0_3, .slice v c.length c0_4, .slice x d.length c0_5, .int .i64 m, .slice y g.length c0_7]) (t := 32) ?_; intro p hg w12 hbox hb; have l := a_ (hbox); have z := a_ (by rw [hg]; exact (bz_ bel_) : w.heap.size ≤ p); have Y := z; replace HB := hq_ hb; clear hb hbox hg; obtain ⟨_, _, _, _, _, _, _, _, _, _, _, _, _, _, _, _⟩ := cel8_ l.out) | (go_at_call 68; (with_reducible refine (jigsawref06_in.calls k _ _ b (-1000000) 1000000 true _ ?_ ?_ A4.out).mono ?_); exact ca_ ((cb_ B.out HB.out)); exact E.out; rintro e w' ⟨rfl, ⟨nd, rfl⟩⟩; (try first | exact ⟨rfl, _, World.drewN_drewN _ _ _⟩ | exact ⟨rfl, _, Eq.trans (World.drewN_drewN _ _ _) (congrArg (World.drewN _) (Nat.add_assoc _ _ _))⟩)) | (go_at_call 68; (with_reducible refine (jigsawref06_in.calls k _ _ c (-1000000) 1000000 true _ ?side1 ?side2 A5.out).mono ?_); (case side1 => repeat (first | exact (cb_ F.out bel_) | (with_reducible refine Kd.C_alloc ?_ _) | (with_reducible refine Kd.C_drewN ?_ _) | (with_reducible refine Kd.C_drew ?_))); (case side2 => exact G.out); rintro e w' ⟨rfl, ⟨nd, rfl⟩⟩; (try first | exact ⟨rfl, _, World.drewN_drewN _ _ _⟩ | exact ⟨rfl, _, Eq.trans (World.drewN_drewN _ _ _) (congrArg (World.drewN _) (Nat.add_assoc _ _ _))⟩)) | (go_at_call 68; (with_reducible refine (jigsawref06_in.calls k _ _ d (-1000000) 1000000 true _ ?side1 ?side2 A6.out).mono ?_); (case side1 => repeat (first | exact (cb_ I.out bel_) | (with_reducible refine Kd.C_alloc ?_ _) | (with_reducible refine Kd.C_drewN ?_ _) | (with_reducible refine Kd.C_drew ?_))); (case side2 => exact J.out); rintro e w' ⟨rfl, ⟨nd, rfl⟩⟩; (try first | exact ⟨rfl, _, World.drewN_drewN _ _ _⟩ | exact ⟨rfl, _, Eq.trans (World.drewN_drewN _ _ _) (congrArg (World.drewN _) (Nat.add_assoc _ _ _))⟩))))
 go_loopg [9] k (fun kq v9 w' => ∃ (A : Int), v9 = .int .i64 A ∧ Aside0 (jigsawref06_Coefs.l0 kq A a n o b c d m g = some r) ∧ Aside0 (kq ≤ k) ∧ Aside0 (w'.heap[p]? = some (.cells #[.int .i64 a, (.slice q n.length c0_1), (.slice s o.length c0_2), (.slice u b.length c0_3), (.slice v c.length c0_4), (.slice x d.length c0_5), .int .i64 m, (.slice y g.length c0_7)] 32 (0, 0))) ∧ Aside0 (Below w.heap.size w w'))
 case atStart => exact ⟨(0), eq_, H', ⟨lr_ _⟩, ⟨bk_ l.out⟩, ⟨bel_⟩⟩
 clear H'
 try clear c1
 try clear c2
 try clear c2b0
 try clear c2b1
 try clear p2
 try clear c3
 try clear c3b0
 try clear c3b1
 try clear c6
 try clear c7
 try clear c8
 try clear c9
 try clear c10
 try clear c10b0
 try clear c11
 try clear c11b0
 obtain ⟨A, rfl, HA, am, l, HB⟩ := hrel
 cases gk with
 | zero => exact absurd HA.out (by simp [jigsawref06_Coefs.l0])
 | succ k1 =>
  have H := HA.out
  clear HA
  simp only [jigsawref06_Coefs.l0] at H
  by_cases c14 : A < (g.length : Int)
  ·
   rw [ip_ c14] at H
   exact absurd H (by simp)
  rw [ig_ c14] at H
  have c14b0 : decide (A < (g.length : Int)) = false := df_ c14
  clear c14
  have H' := a_ H
  clear H
  obtain ⟨_, _, _, _, _, _, _, _, _, _, _, _, _, _, _, _⟩ := cel8_ l.out
  go_wp2
  repeat (go_quiet (fail); try go_wp2)
  go_loopg [] k1 (fun kq w' => Aside0 (jigsawref06_Coefs.l1 kq a n o b c d m g = some r) ∧ Aside0 (kq ≤ k1) ∧ Aside0 (w'.heap[p]? = some (.cells #[.int .i64 a, (.slice q n.length c0_1), (.slice s o.length c0_2), (.slice u b.length c0_3), (.slice v c.length c0_4), (.slice x d.length c0_5), .int .i64 m, (.slice y g.length c0_7)] 32 (0, 0))) ∧ Aside0 (Below w.heap.size w w'))
  case atStart => exact ⟨H', ⟨lr_ _⟩, ⟨bk_ l.out⟩, ⟨bel_⟩⟩
  clear H'
  try clear c1
  try clear c2
  try clear c2b0
  try clear c2b1
  try clear p2
  try clear c3
  try clear c3b0
  try clear c3b1
  try clear c6
  try clear c7
  try clear c8
  try clear c9
  try clear c10
  try clear c10b0
  try clear c11
  try clear c11b0
  try clear c14
  try clear c14b0
  try clear p2
  obtain ⟨HA, an, l, HB⟩ := hrel
  cases gk with
  | zero => exact absurd HA.out (by simp [jigsawref06_Coefs.l1])
  | succ k2 =>
   have H := HA.out
   clear HA
   simp only [jigsawref06_Coefs.l1] at H
   by_cases c16 : a = 21
   ·
    rw [ip_ c16] at H
    exact absurd H (by simp)
   rw [ig_ c16] at H
   have c16b0 : (a == 21) = false := be_.mpr c16
   have c16b1 : (a != 21) = true := ni_.mpr c16
   obtain rfl := si_ H
   obtain ⟨_, _, _, _, _, _, _, _, _, _, _, _, _, _, _, _⟩ := cel8_ l.out
   go_wp2
   repeat (go_quiet (fail); try go_wp2)
   go_ret
   exact ⟨er_, bel_⟩

/-! ### jigsawref06_Right: function 35 -/
def jigsawref06_Right.j0 : Nat → Bool → Int → List Int → List Int → List Int → List Int → List Int → Int → List (List Int) → Option (Int)
 | 0, _, _, _, _, _, _, _, _, _ => none
 | k + 1, o, a, b, c, d, e, g, l, m => if o = true then (some 7) else ((jigsawref06_Coefs.f k a b c d e g l m).bind fun n => (if n = true then (some 0) else (none)))
def jigsawref06_Right.f (k : Nat) (a : Int) (b : List Int) (c : List Int) (d : List Int) (e : List Int) (g : List Int) (l : Int) (m : List (List Int)) (o : Int) : Option (Int) := if a < 1 then (none) else (if a > 23 then (none) else ((jigsawref06_Shapes.f).bind fun n => (if 0 ≤ a then (if a < (n.length : Int) then ((jigsawref06_Arity.f k a b c d e g l m (rdOf ByteArray.empty n a)).bind fun p => (if p = true then (if o > 0 then ((jigsawref06_in.f k b 0 (wrap64 (o - 1))).bind fun q => ((jigsawref06_in.f k c 0 (wrap64 (o - 1))).bind fun r => (if q = true then (jigsawref06_Right.j0 k (!r) a b c d e g l m) else (jigsawref06_Right.j0 k true a b c d e g l m)))) else (none)) else (some 10))) else (none)) else (none))))
theorem jigsawref06_Right.mono_l : ∀ k, (∀ a b c d e f g l m, LeO (jigsawref06_Right.j0 k a b c d e f g l m) (jigsawref06_Right.j0 (k + 1) a b c d e f g l m))
 | 0 => by intros; exact LeO.none _
 | k + 1 => by
  have ih0 := jigsawref06_Right.mono_l k
  intro a b c d e f g l m
  unfold jigsawref06_Right.j0
  have m0 := @jigsawref06_Arity.mono
  have m1 := @jigsawref06_Coefs.mono
  have m2 := @jigsawref06_in.mono
  exact leo_
theorem jigsawref06_Right.mono : ∀ a b c d e g l m n k, LeO (jigsawref06_Right.f k a b c d e g l m n) (jigsawref06_Right.f (k + 1) a b c d e g l m n) := by
 intro a b c d e g l m n k
 have ih0 := jigsawref06_Right.mono_l k
 unfold jigsawref06_Right.f
 have m0 := @jigsawref06_Arity.mono
 have m1 := @jigsawref06_Coefs.mono
 have m2 := @jigsawref06_in.mono
 exact leo_
def jigsawref06_Right.T4 : Bool × List (List Nat × List Nat) := (true, [([], []), ([], []), ([], []), ([2], [2]), ([1, 3], [1, 3]), ([4], [4]), ([0, 5], [0, 5]), ([6, 6, 0, 1, 2, 3, 4, 5, 6], [6])])
def jigsawref06_Right.B4 : List Nat := [0, 0, 0, 4, 14, 30, 63, 127]
theorem jigsawref06_Right.tab4 : rtab .any (opsOf Tryz.f35 4) = jigsawref06_Right.T4 := by kernel_rfl
theorem jigsawref06_Right.bits4 : waitsOk jigsawref06_Right.T4.2 jigsawref06_Right.B4 = true := by kernel_rfl
set_option maxHeartbeats 8000000 in
set_option maxRecDepth 100000 in
theorem jigsawref06_Right.calls (k : Nat) (a : Int) (x : Option Addr) (c0_1 : Nat) (d : List Int) (y : Option Addr) (c0_2 : Nat) (g : List Int) (z : Option Addr) (c0_3 : Nat) (l : List Int) (A : Option Addr) (c0_4 : Nat) (m : List Int) (B : Option Addr) (c0_5 : Nat) (o : List Int) (q : Int) (E : Option Addr) (c0_7 : Nat) (p : List (List Int)) (a1 : Int) (r : Int) (w : World) (ai : Kd.C (Kd.int .i64) w x d.length d) (aj : d.length ≤ c0_1) (ak : Kd.C (Kd.int .i64) w y g.length g) (al : g.length ≤ c0_2) (am : Kd.C (Kd.int .i64) w z l.length l) (an : l.length ≤ c0_3) (ao : Kd.C (Kd.int .i64) w A m.length m) (ap : m.length ≤ c0_4) (aq : Kd.C (Kd.int .i64) w B o.length o) (ar : o.length ≤ c0_5) (au : Kd.C (Kd.slice 3 (Kd.int .i64)) w E p.length p) (av : p.length ≤ c0_7) (h : jigsawref06_Right.f k a d g l m o q p a1 = some r) :
  Calls Tryz.prog 35 #[.agg #[.int .i64 a, .slice x d.length c0_1, .slice y g.length c0_2, .slice z l.length c0_3, .slice A m.length c0_4, .slice B o.length c0_5, .int .i64 q, .slice E p.length c0_7], .int .i64 a1] w fun e w' => e = .returned (.int .i64 r) ∧ Below w.heap.size w w' := by
 have hu32 := Tryz.underlying32
 have I := a_ ai
 have J := a_ aj
 clear ai aj
 have M := a_ ak
 have O := a_ al
 clear ak al
 have P := a_ am
 have Q := a_ an
 clear am an
 have U := a_ ao
 have V := a_ ap
 clear ao ap
 have W := a_ aq
 have X := a_ ar
 clear aq ar
 have Y := a_ au
 have Z := a_ av
 clear au av
 have HB := a_ (Below.refl w.heap.size w)
 unfold jigsawref06_Right.f at h
 have H := h
 clear h
 by_cases c3 : a < 1
 ·
  rw [ip_ c3] at H
  exact absurd H (by simp)
 rw [ig_ c3] at H
 have c3b0 : decide (a < 1) = false := df_ c3
 clear c3
 by_cases c4 : a > 23
 ·
  rw [ip_ c4] at H
  exact absurd H (by simp)
 rw [ig_ c4] at H
 have c4b0 : decide (23 < a) = false := df_ c4
 clear c4
 replace H := bo_ H
 obtain ⟨u, A5, H⟩ := H
 try dsimp only at H
 by_cases c6 : 0 ≤ a
 rotate_left
 ·
  rw [ig_ c6] at H
  exact absurd H (by simp)
 rw [ip_ c6] at H
 have c6b0 : decide (0 ≤ a) = true := dt_ c6
 clear c6
 by_cases c7 : a < (u.length : Int)
 rotate_left
 ·
  rw [ig_ c7] at H
  exact absurd H (by simp)
 rw [ip_ c7] at H
 have c7b0 : decide (a < (u.length : Int)) = true := dt_ c7
 clear c7
 replace H := bo_ H
 obtain ⟨aB, A8, H⟩ := H
 try dsimp only at H
 by_cases c9 : aB = true
 rotate_left
 ·
  replace c9 := bf_.mpr c9
  subst c9
  have H1 : (some 10) = some r := by rw [ig_ (show ¬ (false = true) by decide)] at H; exact H
  clear H
  have H := H1
  clear H1
  obtain rfl := si_ H
  go_enter Tryz.func35, Tryz.ntmps35
  try go_wp2_with (first | ((with_reducible refine gate_dst (N := 2) rfl ?_); refine bxe_ (N := 2) (cs := #[.int .i64 a, .slice x d.length c0_1, .slice y g.length c0_2, .slice z l.length c0_3, .slice A m.length c0_4, .slice B o.length c0_5, .int .i64 q, .slice E p.length c0_7]) (t := 32) ?_; intro c hg w27 hbox hb; have b := a_ (hbox); have aa := a_ (by rw [hg]; exact (bz_ bel_) : w.heap.size ≤ c); have aA := aa; replace HB := hq_ hb; clear hb hbox hg; obtain ⟨_, _, _, _, _, _, _, _, _, _, _, _, _, _, _, _⟩ := cel8_ b.out) | ((with_reducible refine gate_callee (f := 36) rfl ?_); refine goesL_ (some 18) rfl rfl Tryz.func36 kr_ rfl #[] rfl ar_ ?_; (with_reducible refine (jigsawref06_Shapes.calls u _ A5.out).mono ?_); rintro e w29 ⟨aC, rfl, ad, hb⟩; refine ⟨_, rfl, ?_⟩; have s := a_ (Kd.R_lower ad (bz_ bel_)); replace b := a_ (bq_ b.out hb); replace HB := hq_ hb; clear hb ad))
  replace s := a_ (Kd.R_drew s.out)
  replace b := a_ (blk_drew b.out)
  replace HB := a_ (below_drew1 HB.out)
  obtain ⟨aM, aN, az⟩ := Kd.R_slice s.out
  (first | subst az | (injection az with f1_ f2_ f3_; have f4_ := f1_.symm; have f5_ := f3_.symm; clear f1_ f2_ f3_; subst f4_; subst f5_))
  have p549 : 0 ≤ (a : Int) := dq_
  have F : a < (u.length : Int) := dq_
  obtain ⟨ab, af, v⟩ := Kd.at_string (rr_ s.out).2.2 a p549 F
  cases af
  replace p549 := et_ p549
  replace F := et_ F
  refine start_ (n := 8) (S := fun w' => w'.cell? ⟨c, 0, none⟩ = some (.int .i64 a) ∧ w'.cell? ⟨c, 1, none⟩ = some (.slice x d.length c0_1) ∧ w'.cell? ⟨c, 2, none⟩ = some (.slice y g.length c0_2) ∧ w'.cell? ⟨c, 3, none⟩ = some (.slice z l.length c0_3) ∧ w'.cell? ⟨c, 4, none⟩ = some (.slice A m.length c0_4) ∧ w'.cell? ⟨c, 5, none⟩ = some (.slice B o.length c0_5) ∧ w'.cell? ⟨c, 6, none⟩ = some (.int .i64 q) ∧ w'.cell? ⟨c, 7, none⟩ = some (.slice E p.length c0_7) ∧ w'.cell? (ab.add (a).toNat) = some (.string (rdOf ByteArray.empty u a))) (ds := []) #[false, false, false, false, false, false, false, false] kr_ rfl rfl (cb8_ b.out (v)) (fun hHeld => ?_); refine with_tabW jigsawref06_Right.tab4 jigsawref06_Right.bits4 (fun HT_ HW_ => ?_)
  generalize w29.drew = w30 at s b HB v hHeld ⊢
  refine pu_ (i := 1) (N := some 20) ao_ ?_
  refine pu_ (i := 2) (N := some 21) ao_ ?_
  refine tak_ (i := 0) (N := some 19) tw_ hHeld ?_
  refine tak_ (i := 3) (N := some 22) tw_ hHeld ?_
  refine pu_ (i := 4) (N := some 23) ao_ ?_
  refine tak_ (i := 5) (N := some 24) tw_ hHeld ?_
  refine one_ (i := 6) (N := some 25) #[true, true, true, true, true, true, true, false] rfl rfl on_ (by decide) (fun K hK => ?_)
  refine goes_ Tryz.func67 kr_ rfl #[.agg #[.int .i64 a, .slice x d.length c0_1, .slice y g.length c0_2, .slice z l.length c0_3, .slice A m.length c0_4, .slice B o.length c0_5, .int .i64 q, .slice E p.length c0_7], .string (rdOf ByteArray.empty u a)] (by rfl) rfl rfl ar_ ?_
  with_reducible refine (jigsawref06_Arity.calls k a _ _ d _ _ g _ _ l _ _ m _ _ o q _ _ p (rdOf ByteArray.empty u a) false _ ?_ ?_ ?_ ?_ ?_ ?_ ?_ ?_ ?_ ?_ ?_ ?_ A8.out).mono ?_
  exact ca_ ((cb_ I.out HB.out))
  exact J.out
  exact ca_ ((cb_ M.out HB.out))
  exact O.out
  exact ca_ ((cb_ P.out HB.out))
  exact Q.out
  exact ca_ ((cb_ U.out HB.out))
  exact V.out
  exact ca_ ((cb_ W.out HB.out))
  exact X.out
  exact ca_ ((cb_ Y.out HB.out))
  exact Z.out
  rintro e w32 ⟨rfl, hb⟩
  have ag := (hb.cell (wl_ _ _ (hHeld.2.2.2.2.2.2.2.2))).trans (hHeld.2.2.2.2.2.2.2.2)
  refine ⟨_, rfl, ?_⟩
  replace b := a_ (bq_ b.out hb)
  replace HB := hq_ hb
  clear hb
  refine hK.out _ _ (cb8_ b.out (ag)) (fun hHeld => ?_)
  clear hK K
  refine nor_ (N := some 25) ?_
  refine pu_ (i := 7) (N := some 6) ao_ ?_
  refine done_ dn_ ?_
  try go_wp2
  go_ret
  exact ⟨er_, bel_⟩
 subst c9
 rw [ip_ rfl] at H
 by_cases c10 : a1 > 0
 rotate_left
 ·
  rw [ig_ c10] at H
  exact absurd H (by simp)
 rw [ip_ c10] at H
 have c10b0 : decide (0 < a1) = true := dt_ c10
 clear c10
 replace H := bo_ H
 obtain ⟨aw, aF, H⟩ := H
 try dsimp only at H
 replace H := bo_ H
 obtain ⟨ax, aG, H⟩ := H
 try dsimp only at H
 have ae := a_ H
 clear H
 go_enter Tryz.func35, Tryz.ntmps35
 try go_wp2_with (first | ((with_reducible refine gate_dst (N := 2) rfl ?_); refine bxe_ (N := 2) (cs := #[.int .i64 a, .slice x d.length c0_1, .slice y g.length c0_2, .slice z l.length c0_3, .slice A m.length c0_4, .slice B o.length c0_5, .int .i64 q, .slice E p.length c0_7]) (t := 32) ?_; intro c hg w14 hbox hb; have b := a_ (hbox); have aa := a_ (by rw [hg]; exact (bz_ bel_) : w.heap.size ≤ c); have aA := aa; replace HB := hq_ hb; clear hb hbox hg; obtain ⟨_, _, _, _, _, _, _, _, _, _, _, _, _, _, _, _⟩ := cel8_ b.out) | ((with_reducible refine gate_callee (f := 36) rfl ?_); refine goesL_ (some 18) rfl rfl Tryz.func36 kr_ rfl #[] rfl ar_ ?_; (with_reducible refine (jigsawref06_Shapes.calls u _ A5.out).mono ?_); rintro e w16 ⟨aC, rfl, ad, hb⟩; refine ⟨_, rfl, ?_⟩; have s := a_ (Kd.R_lower ad (bz_ bel_)); replace b := a_ (bq_ b.out hb); replace HB := hq_ hb; clear hb ad))
 replace s := a_ (Kd.R_drew s.out)
 replace b := a_ (blk_drew b.out)
 replace HB := a_ (below_drew1 HB.out)
 obtain ⟨aJ, aK, ay⟩ := Kd.R_slice s.out
 (first | subst ay | (injection ay with f1_ f2_ f3_; have f4_ := f1_.symm; have f5_ := f3_.symm; clear f1_ f2_ f3_; subst f4_; subst f5_))
 have p549 : 0 ≤ (a : Int) := dq_
 have F : a < (u.length : Int) := dq_
 obtain ⟨ab, af, v⟩ := Kd.at_string (rr_ s.out).2.2 a p549 F
 cases af
 replace p549 := et_ p549
 replace F := et_ F
 refine start_ (n := 8) (S := fun w' => w'.cell? ⟨c, 0, none⟩ = some (.int .i64 a) ∧ w'.cell? ⟨c, 1, none⟩ = some (.slice x d.length c0_1) ∧ w'.cell? ⟨c, 2, none⟩ = some (.slice y g.length c0_2) ∧ w'.cell? ⟨c, 3, none⟩ = some (.slice z l.length c0_3) ∧ w'.cell? ⟨c, 4, none⟩ = some (.slice A m.length c0_4) ∧ w'.cell? ⟨c, 5, none⟩ = some (.slice B o.length c0_5) ∧ w'.cell? ⟨c, 6, none⟩ = some (.int .i64 q) ∧ w'.cell? ⟨c, 7, none⟩ = some (.slice E p.length c0_7) ∧ w'.cell? (ab.add (a).toNat) = some (.string (rdOf ByteArray.empty u a))) (ds := []) #[false, false, false, false, false, false, false, false] kr_ rfl rfl (cb8_ b.out (v)) (fun hHeld => ?_); refine with_tabW jigsawref06_Right.tab4 jigsawref06_Right.bits4 (fun HT_ HW_ => ?_)
 generalize w16.drew = w17 at s b HB v hHeld ⊢
 refine pu_ (i := 1) (N := some 20) ao_ ?_
 refine pu_ (i := 2) (N := some 21) ao_ ?_
 refine tak_ (i := 0) (N := some 19) tw_ hHeld ?_
 refine tak_ (i := 3) (N := some 22) tw_ hHeld ?_
 refine pu_ (i := 4) (N := some 23) ao_ ?_
 refine tak_ (i := 5) (N := some 24) tw_ hHeld ?_
 refine one_ (i := 6) (N := some 25) #[true, true, true, true, true, true, true, false] rfl rfl on_ (by decide) (fun K hK => ?_)
 refine goes_ Tryz.func67 kr_ rfl #[.agg #[.int .i64 a, .slice x d.length c0_1, .slice y g.length c0_2, .slice z l.length c0_3, .slice A m.length c0_4, .slice B o.length c0_5, .int .i64 q, .slice E p.length c0_7], .string (rdOf ByteArray.empty u a)] (by rfl) rfl rfl ar_ ?_
 with_reducible refine (jigsawref06_Arity.calls k a _ _ d _ _ g _ _ l _ _ m _ _ o q _ _ p (rdOf ByteArray.empty u a) true _ ?_ ?_ ?_ ?_ ?_ ?_ ?_ ?_ ?_ ?_ ?_ ?_ A8.out).mono ?_
 exact ca_ ((cb_ I.out HB.out))
 exact J.out
 exact ca_ ((cb_ M.out HB.out))
 exact O.out
 exact ca_ ((cb_ P.out HB.out))
 exact Q.out
 exact ca_ ((cb_ U.out HB.out))
 exact V.out
 exact ca_ ((cb_ W.out HB.out))
 exact X.out
 exact ca_ ((cb_ Y.out HB.out))
 exact Z.out
 rintro e w19 ⟨rfl, hb⟩
 have ag := (hb.cell (wl_ _ _ (hHeld.2.2.2.2.2.2.2.2))).trans (hHeld.2.2.2.2.2.2.2.2)
 refine ⟨_, rfl, ?_⟩
 replace b := a_ (bq_ b.out hb)
 replace HB := hq_ hb
 clear hb
 refine hK.out _ _ (cb8_ b.out (ag)) (fun hHeld => ?_)
 clear hK K
 refine nor_ (N := some 25) ?_
 refine pu_ (i := 7) (N := some 6) ao_ ?_
 refine done_ dn_ ?_
 obtain ⟨_, _, _, _, _, _, _, _, _, _, _, _, _, _, _, _⟩ := cel8_ b.out
 go_upto_region 12 with (first | ((with_reducible refine gate_callee (f := 68) rfl ?_); refine goesL_ (some 35) rfl rfl Tryz.func68 kr_ rfl #[.slice x d.length c0_1, .int .i64 0, .int .i64 (wrap64 (a1 - 1))] rfl ar_ ?_; (with_reducible refine (jigsawref06_in.calls k _ _ d 0 (wrap64 (a1 - 1)) aw _ ?_ ?_ aF.out).mono ?_); exact ca_ ((cb_ I.out HB.out)); exact J.out; rintro e w' ⟨rfl, ⟨nd, rfl⟩⟩; refine ⟨_, rfl, ?_⟩) | ((with_reducible refine gate_callee (f := 68) rfl ?_); refine goesL_ (some 39) rfl rfl Tryz.func68 kr_ rfl #[.slice y g.length c0_2, .int .i64 0, .int .i64 (wrap64 (a1 - 1))] rfl ar_ ?_; (with_reducible refine (jigsawref06_in.calls k _ _ g 0 (wrap64 (a1 - 1)) ax _ ?side1 ?side2 aG.out).mono ?_); (case side1 => repeat (first | exact (cb_ M.out bel_) | (with_reducible refine Kd.C_alloc ?_ _) | (with_reducible refine Kd.C_drewN ?_ _) | (with_reducible refine Kd.C_drew ?_))); (case side2 => exact O.out); rintro e w' ⟨rfl, ⟨nd, rfl⟩⟩; refine ⟨_, rfl, ?_⟩))
 (try simp only [Act.put, List.setIfInBounds_toArray, List.set_cons_zero, List.set_cons_succ])
 go_cut [45] (fun aH wc => ∃ (kq : Nat) (G : Bool), aH = .bool G ∧ Aside0 (jigsawref06_Right.j0 kq G a d g l m o q p = some r) ∧ Aside0 (kq ≤ k) ∧ Aside0 (wc.heap[c]? = some (.cells #[.int .i64 a, (.slice x d.length c0_1), (.slice y g.length c0_2), (.slice z l.length c0_3), (.slice A m.length c0_4), (.slice B o.length c0_5), .int .i64 q, (.slice E p.length c0_7)] 32 (0, 0))) ∧ Aside0 (Below w.heap.size w wc))
 case first =>
  have H := ae.out
  clear ae
  by_cases c21 : aw = true
  ·
   subst c21
   rw [ip_ rfl] at H
   have H' := a_ H
   clear H
   go_wp2
   go_meet
   exact ⟨_, (!ax), eq_, H', ⟨by first | omega | exact lr_ _⟩, ⟨bk_ b.out⟩, ⟨bel_⟩⟩
  replace c21 := bf_.mpr c21
  subst c21
  have H1 : (jigsawref06_Right.j0 k true a d g l m o q p) = some r := by rw [ig_ (show ¬ (false = true) by decide)] at H; exact H
  clear H
  have H := H1
  clear H1
  have H' := a_ H
  clear H
  go_wp2
  go_meet
  exact ⟨_, (true), eq_, H', ⟨by first | omega | exact lr_ _⟩, ⟨bk_ b.out⟩, ⟨bel_⟩⟩
 clear ae
 try clear c1
 try clear c2
 try clear p2
 try clear c3
 try clear c3b0
 try clear c4
 try clear c4b0
 try clear p5
 try clear q5
 try clear aO
 try clear c6
 try clear c6b0
 try clear p6
 try clear c7
 try clear c7b0
 try clear c9
 try clear c10
 try clear c10b0
 try clear c21
 try clear v
 try clear p549
 try clear F
 obtain ⟨kq, G, rfl, HA, aL, b, HB⟩ := hcut
 cases kq with
 | zero => exact absurd HA.out (by simp [jigsawref06_Right.j0])
 | succ kj12 =>
  have H := HA.out
  clear HA
  simp only [jigsawref06_Right.j0] at H
  by_cases c22 : G = true
  ·
   subst c22
   rw [ip_ rfl] at H
   obtain rfl := si_ H
   go_wp2
   go_ret
   exact ⟨er_, bel_⟩
  replace c22 := bf_.mpr c22
  subst c22
  have H1 : ((jigsawref06_Coefs.f kj12 a d g l m o q p).bind fun ah => (if ah = true then (some 0) else (none))) = some r := by rw [ig_ (show ¬ (false = true) by decide)] at H; exact H
  clear H
  have H := H1
  clear H1
  replace H := bo_ H
  obtain ⟨ah, aI, H⟩ := H
  try dsimp only at H
  by_cases c24 : ah = true
  rotate_left
  ·
   replace c24 := bf_.mpr c24
   subst c24
   have H1 : (none) = some r := by rw [ig_ (show ¬ (false = true) by decide)] at H; exact H
   clear H
   have H := H1
   clear H1
   exact absurd H (by simp)
  subst c24
  rw [ip_ rfl] at H
  obtain rfl := si_ H
  obtain ⟨_, _, _, _, _, _, _, _, _, _, _, _, _, _, _, _⟩ := cel8_ b.out
  go_wp2_with (first | ((with_reducible refine gate_callee (f := 69) rfl ?_); refine goesL_ (some 47) rfl rfl Tryz.func69 kr_ rfl #[.agg #[.int .i64 a, .slice x d.length c0_1, .slice y g.length c0_2, .slice z l.length c0_3, .slice A m.length c0_4, .slice B o.length c0_5, .int .i64 q, .slice E p.length c0_7]] rfl ar_ ?_; (with_reducible refine (jigsawref06_Coefs.calls kj12 a _ _ d _ _ g _ _ l _ _ m _ _ o q _ _ p true _ ?_ ?_ ?_ ?_ ?_ ?_ ?_ ?_ ?_ ?_ ?_ ?_ aI.out).mono ?_); exact ca_ ((cb_ I.out HB.out)); exact J.out; exact ca_ ((cb_ M.out HB.out)); exact O.out; exact ca_ ((cb_ P.out HB.out)); exact Q.out; exact ca_ ((cb_ U.out HB.out)); exact V.out; exact ca_ ((cb_ W.out HB.out)); exact X.out; exact ca_ ((cb_ Y.out HB.out)); exact Z.out; rintro e w26 ⟨rfl, hb⟩; refine ⟨_, rfl, ?_⟩; replace HB := hq_ hb; clear hb))
  go_ret
  exact ⟨er_, bel_⟩

end Go.Proofs.YtmhchlbbfpmdgaaGreatDoor.XClauseRefuses
