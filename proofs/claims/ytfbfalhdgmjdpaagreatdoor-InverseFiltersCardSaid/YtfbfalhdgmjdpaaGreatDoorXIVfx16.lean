-- by xprint.py, a program of this session, over the kit's print
import Derived.Test.YtfbfalhdgmjdpaaGreatDoorXIVfx0
import Derived.Test.YtfbfalhdgmjdpaaGreatDoorXIVfx1
import Derived.Test.YtfbfalhdgmjdpaaGreatDoorXIVfx15
import Derived.Test.YtfbfalhdgmjdpaaGreatDoorSq
namespace Go.Proofs.YtfbfalhdgmjdpaaGreatDoor.XInverseFilters
open Go.RowKit Go.Proofs.YtfbfalhdgmjdpaaGreatDoor.Sq Go.Proofs.YtfbfalhdgmjdpaaGreatDoorW.PrintWords Go.Proofs.YtfbfalhdgmjdpaaGreatDoorW.PrintLast Go.Proofs.YtfbfalhdgmjdpaaGreatDoorW.PrintMore
attribute [local go_sem] max2_int min2_int max_two min_two max_three min_three max_four min_four   -- for this text's walks alone
set_option linter.unusedVariables false
set_option linter.unusedSimpArgs false

/-! ### jigsawref06_Coefs: function 69 -/
mutual
def jigsawref06_Coefs.l0 : Nat → Int → Int → List Int → List Int → List Int → List Int → List Int → Int → List (List Int) → Option (Bool)
 | 0, _, _, _, _, _, _, _, _, _ => none
 | k + 1, m, b, c, d, e, f, g, l, a => if m < (a.length : Int) then (none) else (jigsawref06_Coefs.l1 k b c d e f g l a)
def jigsawref06_Coefs.l1 : Nat → Int → List Int → List Int → List Int → List Int → List Int → Int → List (List Int) → Option (Bool)
 | 0, _, _, _, _, _, _, _, _ => none
 | k + 1, a, b, c, d, e, f, g, l => if a = 21 then (none) else (some true)
end
def jigsawref06_Coefs.f (k : Nat) (a : Int) (g : List Int) (l : List Int) (c : List Int) (d : List Int) (e : List Int) (b : Int) (m : List (List Int)) : Option (Bool) := if a = 19 then (none) else (if a = 21 then (none) else ((jigsawref06_in.f k c (-1000000) 1000000).bind fun n => ((jigsawref06_in.f k d (-1000000) 1000000).bind fun o => ((jigsawref06_in.f k e (-1000000) 1000000).bind fun p => (if n = true then (if o = true then (if p = true then (if b < (-9999999999) then (none) else (if b > 9999999999 then (none) else (jigsawref06_Coefs.l0 k 0 a g l c d e b m))) else (none)) else (none)) else (none))))))
theorem jigsawref06_Coefs.mono_l : ∀ k, (∀ a b c d e f g l m, LeO (jigsawref06_Coefs.l0 k a b c d e f g l m) (jigsawref06_Coefs.l0 (k + 1) a b c d e f g l m)) ∧ (∀ a b c d e f g l, LeO (jigsawref06_Coefs.l1 k a b c d e f g l) (jigsawref06_Coefs.l1 (k + 1) a b c d e f g l))
 | 0 => by refine ⟨?_, ?_⟩ <;> (intros; exact LeO.none _)
 | k + 1 => by
  obtain ⟨ih0, ih1⟩ := jigsawref06_Coefs.mono_l k
  have m0 := @jigsawref06_in.mono
  refine ⟨?_, ?_⟩ <;> intros
  all_goals first | unfold jigsawref06_Coefs.l0 | unfold jigsawref06_Coefs.l1
  all_goals exact leo_
theorem jigsawref06_Coefs.mono : ∀ a b c d e g l m k, LeO (jigsawref06_Coefs.f k a b c d e g l m) (jigsawref06_Coefs.f (k + 1) a b c d e g l m) := by
 intro a b c d e g l m k
 obtain ⟨ih0, ih1⟩ := jigsawref06_Coefs.mono_l k
 unfold jigsawref06_Coefs.f
 have m0 := @jigsawref06_in.mono
 exact leo_
set_option maxHeartbeats 8000000 in
set_option maxRecDepth 100000 in
theorem jigsawref06_Coefs.calls (k : Nat) (a : Int) (q : Option Addr) (c0_1 : Nat) (n : List Int) (s : Option Addr) (c0_2 : Nat) (o : List Int) (u : Option Addr) (c0_3 : Nat) (b : List Int) (v : Option Addr) (c0_4 : Nat) (c : List Int) (x : Option Addr) (c0_5 : Nat) (d : List Int) (m : Int) (y : Option Addr) (c0_7 : Nat) (g : List (List Int)) (r : Bool) (w : World) (Z : Kd.C (Kd.int .i64) w q n.length n) (K : n.length ≤ c0_1) (aa : Kd.C (Kd.int .i64) w s o.length o) (M : o.length ≤ c0_2) (O : Kd.C (Kd.int .i64) w u b.length b) (P : b.length ≤ c0_3) (Q : Kd.C (Kd.int .i64) w v c.length c) (U : c.length ≤ c0_4) (V : Kd.C (Kd.int .i64) w x d.length d) (W : d.length ≤ c0_5) (ab : Kd.C (Kd.slice 3 (Kd.int .i64)) w y g.length g) (X : g.length ≤ c0_7) (h : jigsawref06_Coefs.f k a n o b c d m g = some r) :
  Calls Tryz.prog 69 #[.agg #[.int .i64 a, .slice q n.length c0_1, .slice s o.length c0_2, .slice u b.length c0_3, .slice v c.length c0_4, .slice x d.length c0_5, .int .i64 m, .slice y g.length c0_7]] w fun e w' => e = .returned (.bool r) ∧ Below w.heap.size w w' := by
 have hu32 := Tryz.underlying32
 have ai := a_ K
 clear Z K
 have aj := a_ M
 clear aa M
 have B := a_ O
 have E := a_ P
 clear O P
 have F := a_ Q
 have G := a_ U
 clear Q U
 have I := a_ V
 have J := a_ W
 clear V W
 have ak := a_ X
 clear ab X
 have HB := a_ (Below.refl w.heap.size w)
 unfold jigsawref06_Coefs.f at h
 have H := h
 clear h
 by_cases c2 : a = 19
 ·
  rw [ip_ c2] at H
  exact ab_ H
 rw [ig_ c2] at H
 have c2b0 : (a == 19) = false := be_.mpr c2
 have c2b1 : (a != 19) = true := ni_.mpr c2
 by_cases c3 : a = 21
 ·
  rw [ip_ c3] at H
  exact ab_ H
 rw [ig_ c3] at H
 have c3b0 : (a == 21) = false := be_.mpr c3
 have c3b1 : (a != 21) = true := ni_.mpr c3
 replace H := bo_ H
 obtain ⟨ac, A4, H⟩ := H
 try dsimp only at H
 replace H := bo_ H
 obtain ⟨ae, A5, H⟩ := H
 try dsimp only at H
 replace H := bo_ H
 obtain ⟨ag, A6, H⟩ := H
 try dsimp only at H
 by_cases c7 : ac = true
 rotate_left
 ·
  replace c7 := bf_.mpr c7
  subst c7
  have H1 : (none) = some r := by rw [ig_ (show ¬ (false = true) by decide)] at H; exact H
  clear H
  have H := H1
  clear H1
  exact ab_ H
 subst c7
 rw [ip_ rfl] at H
 by_cases c8 : ae = true
 rotate_left
 ·
  replace c8 := bf_.mpr c8
  subst c8
  have H1 : (none) = some r := by rw [ig_ (show ¬ (false = true) by decide)] at H; exact H
  clear H
  have H := H1
  clear H1
  exact ab_ H
 subst c8
 rw [ip_ rfl] at H
 by_cases c9 : ag = true
 rotate_left
 ·
  replace c9 := bf_.mpr c9
  subst c9
  have H1 : (none) = some r := by rw [ig_ (show ¬ (false = true) by decide)] at H; exact H
  clear H
  have H := H1
  clear H1
  exact ab_ H
 subst c9
 rw [ip_ rfl] at H
 by_cases c10 : m < (-9999999999)
 ·
  rw [ip_ c10] at H
  exact ab_ H
 rw [ig_ c10] at H
 have c10b0 : decide (m < (-9999999999)) = false := df_ c10
 clear c10
 by_cases c11 : m > 9999999999
 ·
  rw [ip_ c11] at H
  exact ab_ H
 rw [ig_ c11] at H
 have c11b0 : decide (9999999999 < m) = false := df_ c11
 clear c11
 have H' := a_ H
 clear H
 go_enter Tryz.func69, Tryz.ntmps69
 go_wp2_with (first | ((with_reducible refine gate_dst (N := 1) rfl ?_); (try (refine gate_guard (by rfl) ?_; dsimp only)); refine bxe_ (N := 1) (cs := #[.int .i64 a, .slice q n.length c0_1, .slice s o.length c0_2, .slice u b.length c0_3, .slice v c.length c0_4, .slice x d.length c0_5, .int .i64 m, .slice y g.length c0_7]) (t := 32) ?_; intro p hg w12 hbox hb; have l := a_ (hbox); have z := a_ (by rw [hg]; exact (bz_ bel_) : w.heap.size ≤ p); have Y := z; replace HB := hq_ hb; clear hb hbox hg; obtain ⟨_, _, _, _, _, _, _, _, _, _, _, _, _, _, _, _⟩ := cel8_ l.out) | (go_at_call 68; (with_reducible refine (jigsawref06_in.calls k _ _ b (-1000000) 1000000 true _ ?_ ?_ A4.out).mono ?_); exact ca_ ((cb_ B.out HB.out)); exact E.out; rintro e w' ⟨rfl, ⟨nd, rfl⟩⟩; (try first | exact ⟨rfl, _, World.drewN_drewN _ _ _⟩ | exact ⟨rfl, _, Eq.trans (World.drewN_drewN _ _ _) (congrArg (World.drewN _) (Nat.add_assoc _ _ _))⟩)) | (go_at_call 68; (with_reducible refine (jigsawref06_in.calls k _ _ c (-1000000) 1000000 true _ ?side1 ?side2 A5.out).mono ?_); (case side1 => repeat (first | exact (cb_ F.out bel_) | (with_reducible refine Kd.C_alloc ?_ _) | (with_reducible refine Kd.C_drewN ?_ _) | (with_reducible refine Kd.C_drew ?_))); (case side2 => exact G.out); rintro e w' ⟨rfl, ⟨nd, rfl⟩⟩; (try first | exact ⟨rfl, _, World.drewN_drewN _ _ _⟩ | exact ⟨rfl, _, Eq.trans (World.drewN_drewN _ _ _) (congrArg (World.drewN _) (Nat.add_assoc _ _ _))⟩)) | (go_at_call 68; (with_reducible refine (jigsawref06_in.calls k _ _ d (-1000000) 1000000 true _ ?side1 ?side2 A6.out).mono ?_); (case side1 => repeat (first | exact (cb_ I.out bel_) | (with_reducible refine Kd.C_alloc ?_ _) | (with_reducible refine Kd.C_drewN ?_ _) | (with_reducible refine Kd.C_drew ?_))); (case side2 => exact J.out); rintro e w' ⟨rfl, ⟨nd, rfl⟩⟩; (try first | exact ⟨rfl, _, World.drewN_drewN _ _ _⟩ | exact ⟨rfl, _, Eq.trans (World.drewN_drewN _ _ _) (congrArg (World.drewN _) (Nat.add_assoc _ _ _))⟩)))
 repeat (go_quiet (first | ((with_reducible refine gate_dst (N := 1) rfl ?_); (try (refine gate_guard (by rfl) ?_; dsimp only)); refine bxe_ (N := 1) (cs := #[.int .i64 a, .slice q n.length c0_1, .slice s o.length c0_2, .slice u b.length c0_3, .slice v c.length c0_4, .slice x d.length c0_5, .int .i64 m, .slice y g.length c0_7]) (t := 32) ?_; intro p hg w12 hbox hb; have l := a_ (hbox); have z := a_ (by rw [hg]; exact (bz_ bel_) : w.heap.size ≤ p); have Y := z; replace HB := hq_ hb; clear hb hbox hg; obtain ⟨_, _, _, _, _, _, _, _, _, _, _, _, _, _, _, _⟩ := cel8_ l.out) | (go_at_call 68; (with_reducible refine (jigsawref06_in.calls k _ _ b (-1000000) 1000000 true _ ?_ ?_ A4.out).mono ?_); exact ca_ ((cb_ B.out HB.out)); exact E.out; rintro e w' ⟨rfl, ⟨nd, rfl⟩⟩; (try first | exact ⟨rfl, _, World.drewN_drewN _ _ _⟩ | exact ⟨rfl, _, Eq.trans (World.drewN_drewN _ _ _) (congrArg (World.drewN _) (Nat.add_assoc _ _ _))⟩)) | (go_at_call 68; (with_reducible refine (jigsawref06_in.calls k _ _ c (-1000000) 1000000 true _ ?side1 ?side2 A5.out).mono ?_); (case side1 => repeat (first | exact (cb_ F.out bel_) | (with_reducible refine Kd.C_alloc ?_ _) | (with_reducible refine Kd.C_drewN ?_ _) | (with_reducible refine Kd.C_drew ?_))); (case side2 => exact G.out); rintro e w' ⟨rfl, ⟨nd, rfl⟩⟩; (try first | exact ⟨rfl, _, World.drewN_drewN _ _ _⟩ | exact ⟨rfl, _, Eq.trans (World.drewN_drewN _ _ _) (congrArg (World.drewN _) (Nat.add_assoc _ _ _))⟩)) | (go_at_call 68; (with_reducible refine (jigsawref06_in.calls k _ _ d (-1000000) 1000000 true _ ?side1 ?side2 A6.out).mono ?_); (case side1 => repeat (first | exact (cb_ I.out bel_) | (with_reducible refine Kd.C_alloc ?_ _) | (with_reducible refine Kd.C_drewN ?_ _) | (with_reducible refine Kd.C_drew ?_))); (case side2 => exact J.out); rintro e w' ⟨rfl, ⟨nd, rfl⟩⟩; (try first | exact ⟨rfl, _, World.drewN_drewN _ _ _⟩ | exact ⟨rfl, _, Eq.trans (World.drewN_drewN _ _ _) (congrArg (World.drewN _) (Nat.add_assoc _ _ _))⟩))); try go_wp2_with (first | ((with_reducible refine gate_dst (N := 1) rfl ?_); (try (refine gate_guard (by rfl) ?_; dsimp only)); refine bxe_ (N := 1) (cs := #[.int .i64 a, .slice q n.length c0_1, .slice s o.length c0_2, .slice u b.length c0_3, .slice v c.length c0_4, .slice x d.length c0_5, .int .i64 m, .slice y g.length c0_7]) (t := 32) ?_; intro p hg w12 hbox hb; have l := a_ (hbox); have z := a_ (by rw [hg]; exact (bz_ bel_) : w.heap.size ≤ p); have Y := z; replace HB := hq_ hb; clear hb hbox hg; obtain ⟨_, _, _, _, _, _, _, _, _, _, _, _, _, _, _, _⟩ := cel8_ l.out) | (go_at_call 68; (with_reducible refine (jigsawref06_in.calls k _ _ b (-1000000) 1000000 true _ ?_ ?_ A4.out).mono ?_); exact ca_ ((cb_ B.out HB.out)); exact E.out; rintro e w' ⟨rfl, ⟨nd, rfl⟩⟩; (try first | exact ⟨rfl, _, World.drewN_drewN _ _ _⟩ | exact ⟨rfl, _, Eq.trans (World.drewN_drewN _ _ _) (congrArg (World.drewN _) (Nat.add_assoc _ _ _))⟩)) | (go_at_call 68; (with_reducible refine (jigsawref06_in.calls k _ _ c (-1000000) 1000000 true _ ?side1 ?side2 A5.out).mono ?_); (case side1 => repeat (first | exact (cb_ F.out bel_) | (with_reducible refine Kd.C_alloc ?_ _) | (with_reducible refine Kd.C_drewN ?_ _) | (with_reducible refine Kd.C_drew ?_))); (case side2 => exact G.out); rintro e w' ⟨rfl, ⟨nd, rfl⟩⟩; (try first | exact ⟨rfl, _, World.drewN_drewN _ _ _⟩ | exact ⟨rfl, _, Eq.trans (World.drewN_drewN _ _ _) (congrArg (World.drewN _) (Nat.add_assoc _ _ _))⟩)) | (go_at_call 68; (with_reducible refine (jigsawref06_in.calls k _ _ d (-1000000) 1000000 true _ ?side1 ?side2 A6.out).mono ?_); (case side1 => repeat (first | exact (cb_ I.out bel_) | (with_reducible refine Kd.C_alloc ?_ _) | (with_reducible refine Kd.C_drewN ?_ _) | (with_reducible refine Kd.C_drew ?_))); (case side2 => exact J.out); rintro e w' ⟨rfl, ⟨nd, rfl⟩⟩; (try first | exact ⟨rfl, _, World.drewN_drewN _ _ _⟩ | exact ⟨rfl, _, Eq.trans (World.drewN_drewN _ _ _) (congrArg (World.drewN _) (Nat.add_assoc _ _ _))⟩))))
 go_loopg [9] k (fun kq v9 w' => ∃ (A : Int), v9 = .int .i64 A ∧ Aside0 (jigsawref06_Coefs.l0 kq A a n o b c d m g = some r) ∧ Aside0 (kq ≤ k) ∧ Aside0 (w'.heap[p]? = some (.cells #[.int .i64 a, (.slice q n.length c0_1), (.slice s o.length c0_2), (.slice u b.length c0_3), (.slice v c.length c0_4), (.slice x d.length c0_5), .int .i64 m, (.slice y g.length c0_7)] 32 (0, 0))) ∧ Aside0 (Below w.heap.size w w'))
 case atStart => exact ⟨(0), eq_, H', ⟨lr_ _⟩, ⟨bk_ l.out⟩, ⟨bel_⟩⟩
 clear H'
 try clear c1
 try clear c2
 try clear c2b0
 try clear c2b1
 try clear p2
 try clear c3
 try clear c3b0
 try clear c3b1
 try clear c6
 try clear c7
 try clear c8
 try clear c9
 try clear c10
 try clear c10b0
 try clear c11
 try clear c11b0
 obtain ⟨A, rfl, HA, am, l, HB⟩ := hrel
 cases gk with
 | zero => exact absurd HA.out (by simp [jigsawref06_Coefs.l0])
 | succ k1 =>
  have H := HA.out
  clear HA
  simp only [jigsawref06_Coefs.l0] at H
  by_cases c14 : A < (g.length : Int)
  ·
   rw [ip_ c14] at H
   exact ab_ H
  rw [ig_ c14] at H
  have c14b0 : decide (A < (g.length : Int)) = false := df_ c14
  clear c14
  have H' := a_ H
  clear H
  obtain ⟨_, _, _, _, _, _, _, _, _, _, _, _, _, _, _, _⟩ := cel8_ l.out
  go_wp2
  repeat (go_quiet (fail); try go_wp2)
  go_loopg [] k1 (fun kq w' => Aside0 (jigsawref06_Coefs.l1 kq a n o b c d m g = some r) ∧ Aside0 (kq ≤ k1) ∧ Aside0 (w'.heap[p]? = some (.cells #[.int .i64 a, (.slice q n.length c0_1), (.slice s o.length c0_2), (.slice u b.length c0_3), (.slice v c.length c0_4), (.slice x d.length c0_5), .int .i64 m, (.slice y g.length c0_7)] 32 (0, 0))) ∧ Aside0 (Below w.heap.size w w'))
  case atStart => exact ⟨H', ⟨lr_ _⟩, ⟨bk_ l.out⟩, ⟨bel_⟩⟩
  clear H'
  try clear c1
  try clear c2
  try clear c2b0
  try clear c2b1
  try clear p2
  try clear c3
  try clear c3b0
  try clear c3b1
  try clear c6
  try clear c7
  try clear c8
  try clear c9
  try clear c10
  try clear c10b0
  try clear c11
  try clear c11b0
  try clear c14
  try clear c14b0
  try clear p2
  obtain ⟨HA, an, l, HB⟩ := hrel
  cases gk with
  | zero => exact absurd HA.out (by simp [jigsawref06_Coefs.l1])
  | succ k2 =>
   have H := HA.out
   clear HA
   simp only [jigsawref06_Coefs.l1] at H
   by_cases c16 : a = 21
   ·
    rw [ip_ c16] at H
    exact ab_ H
   rw [ig_ c16] at H
   have c16b0 : (a == 21) = false := be_.mpr c16
   have c16b1 : (a != 21) = true := ni_.mpr c16
   obtain rfl := si_ H
   obtain ⟨_, _, _, _, _, _, _, _, _, _, _, _, _, _, _, _⟩ := cel8_ l.out
   go_wp2
   repeat (go_quiet (fail); try go_wp2)
   go_ret
   exact ⟨er_, bel_⟩

/-! ### jigsawref06_Right: function 35 -/
def jigsawref06_Right.f (k : Nat) (a : Int) (b : List Int) (c : List Int) (d : List Int) (e : List Int) (g : List Int) (l : Int) (m : List (List Int)) (o : Int) : Option (Int) := if a < 1 then (none) else (if a > 23 then (none) else ((jigsawref06_Shapes.f).bind fun n => (if 0 ≤ a then (if a < (n.length : Int) then ((jigsawref06_Arity.f k a b c d e g l m (rdOf ByteArray.empty n a)).bind fun p => (if p = true then (if o > 0 then ((jigsawref06_in.f k b 0 (wrap64 (o - 1))).bind fun q => ((jigsawref06_in.f k c 0 (wrap64 (o - 1))).bind fun r => (if q = true then (if r = true then ((jigsawref06_Coefs.f k a b c d e g l m).bind fun s => (if s = true then (some 0) else (none))) else (none)) else (none)))) else (none)) else (none))) else (none)) else (none))))
theorem jigsawref06_Right.mono : ∀ a b c d e g l m n k, LeO (jigsawref06_Right.f k a b c d e g l m n) (jigsawref06_Right.f (k + 1) a b c d e g l m n) := by
 intro a b c d e g l m n k
 unfold jigsawref06_Right.f
 have m0 := @jigsawref06_Arity.mono
 have m1 := @jigsawref06_Coefs.mono
 have m2 := @jigsawref06_in.mono
 exact leo_
def jigsawref06_Right.T4 : Bool × List (List Nat × List Nat) := (true, [([], []), ([], []), ([], []), ([2], [2]), ([1, 3], [1, 3]), ([4], [4]), ([0, 5], [0, 5]), ([6, 6, 0, 1, 2, 3, 4, 5, 6], [6])])
def jigsawref06_Right.B4 : List Nat := [0, 0, 0, 4, 14, 30, 63, 127]
theorem jigsawref06_Right.tab4 : rtab .any (opsOf Tryz.f35 4) = jigsawref06_Right.T4 := by kernel_rfl
theorem jigsawref06_Right.bits4 : waitsOk jigsawref06_Right.T4.2 jigsawref06_Right.B4 = true := by kernel_rfl
set_option maxHeartbeats 8000000 in
set_option maxRecDepth 100000 in
theorem jigsawref06_Right.calls (k : Nat) (a : Int) (s : Option Addr) (c0_1 : Nat) (c : List Int) (u : Option Addr) (c0_2 : Nat) (d : List Int) (y : Option Addr) (c0_3 : Nat) (l : List Int) (z : Option Addr) (c0_4 : Nat) (m : List Int) (A : Option Addr) (c0_5 : Nat) (o : List Int) (q : Int) (B : Option Addr) (c0_7 : Nat) (p : List (List Int)) (M : Int) (r : Int) (w : World) (P : Kd.C (Kd.int .i64) w s c.length c) (Q : c.length ≤ c0_1) (U : Kd.C (Kd.int .i64) w u d.length d) (V : d.length ≤ c0_2) (W : Kd.C (Kd.int .i64) w y l.length l) (X : l.length ≤ c0_3) (Y : Kd.C (Kd.int .i64) w z m.length m) (Z : m.length ≤ c0_4) (aa : Kd.C (Kd.int .i64) w A o.length o) (ab : o.length ≤ c0_5) (ac : Kd.C (Kd.slice 3 (Kd.int .i64)) w B p.length p) (ad : p.length ≤ c0_7) (h : jigsawref06_Right.f k a c d l m o q p M = some r) :
  Calls Tryz.prog 35 #[.agg #[.int .i64 a, .slice s c.length c0_1, .slice u d.length c0_2, .slice y l.length c0_3, .slice z m.length c0_4, .slice A o.length c0_5, .int .i64 q, .slice B p.length c0_7], .int .i64 M] w fun e w' => e = .returned (.int .i64 r) ∧ Below w.heap.size w w' := by
 have hu32 := Tryz.underlying32
 have F := a_ P
 have G := a_ Q
 clear P Q
 have I := a_ U
 have J := a_ V
 clear U V
 have ae := a_ W
 have af := a_ X
 clear W X
 have ag := a_ Y
 have ah := a_ Z
 clear Y Z
 have ai := a_ aa
 have aj := a_ ab
 clear aa ab
 have ak := a_ ac
 have al := a_ ad
 clear ac ad
 have HB := a_ (Below.refl w.heap.size w)
 unfold jigsawref06_Right.f at h
 have H := h
 clear h
 by_cases c3 : a < 1
 ·
  rw [ip_ c3] at H
  exact ab_ H
 rw [ig_ c3] at H
 have c3b0 : decide (a < 1) = false := df_ c3
 clear c3
 by_cases c4 : a > 23
 ·
  rw [ip_ c4] at H
  exact ab_ H
 rw [ig_ c4] at H
 have c4b0 : decide (23 < a) = false := df_ c4
 clear c4
 replace H := bo_ H
 obtain ⟨v, A5, H⟩ := H
 try dsimp only at H
 by_cases c6 : 0 ≤ a
 rotate_left
 ·
  rw [ig_ c6] at H
  exact ab_ H
 rw [ip_ c6] at H
 have c6b0 : decide (0 ≤ a) = true := dt_ c6
 clear c6
 by_cases c7 : a < (v.length : Int)
 rotate_left
 ·
  rw [ig_ c7] at H
  exact ab_ H
 rw [ip_ c7] at H
 have c7b0 : decide (a < (v.length : Int)) = true := dt_ c7
 clear c7
 replace H := bo_ H
 obtain ⟨aq, A8, H⟩ := H
 try dsimp only at H
 by_cases c9 : aq = true
 rotate_left
 ·
  replace c9 := bf_.mpr c9
  subst c9
  have H1 : (none) = some r := by rw [ig_ (show ¬ (false = true) by decide)] at H; exact H
  clear H
  have H := H1
  clear H1
  exact ab_ H
 subst c9
 rw [ip_ rfl] at H
 by_cases c10 : M > 0
 rotate_left
 ·
  rw [ig_ c10] at H
  exact ab_ H
 rw [ip_ c10] at H
 have c10b0 : decide (0 < M) = true := dt_ c10
 clear c10
 replace H := bo_ H
 obtain ⟨ar, ay, H⟩ := H
 try dsimp only at H
 replace H := bo_ H
 obtain ⟨au, az, H⟩ := H
 try dsimp only at H
 by_cases c13 : ar = true
 rotate_left
 ·
  replace c13 := bf_.mpr c13
  subst c13
  have H1 : (none) = some r := by rw [ig_ (show ¬ (false = true) by decide)] at H; exact H
  clear H
  have H := H1
  clear H1
  exact ab_ H
 subst c13
 rw [ip_ rfl] at H
 by_cases c14 : au = true
 rotate_left
 ·
  replace c14 := bf_.mpr c14
  subst c14
  have H1 : (none) = some r := by rw [ig_ (show ¬ (false = true) by decide)] at H; exact H
  clear H
  have H := H1
  clear H1
  exact ab_ H
 subst c14
 rw [ip_ rfl] at H
 replace H := bo_ H
 obtain ⟨av, aA, H⟩ := H
 try dsimp only at H
 by_cases c16 : av = true
 rotate_left
 ·
  replace c16 := bf_.mpr c16
  subst c16
  have H1 : (none) = some r := by rw [ig_ (show ¬ (false = true) by decide)] at H; exact H
  clear H
  have H := H1
  clear H1
  exact ab_ H
 subst c16
 rw [ip_ rfl] at H
 obtain rfl := si_ H
 go_enter Tryz.func35, Tryz.ntmps35
 try go_wp2_with (first | ((with_reducible refine gate_dst (N := 2) rfl ?_); refine bxe_ (N := 2) (cs := #[.int .i64 a, .slice s c.length c0_1, .slice u d.length c0_2, .slice y l.length c0_3, .slice z m.length c0_4, .slice A o.length c0_5, .int .i64 q, .slice B p.length c0_7]) (t := 32) ?_; intro g hg w17 hbox hb; have b := a_ (hbox); have an := a_ (by rw [hg]; exact (bz_ bel_) : w.heap.size ≤ g); have aB := an; replace HB := hq_ hb; clear hb hbox hg; obtain ⟨_, _, _, _, _, _, _, _, _, _, _, _, _, _, _, _⟩ := cel8_ b.out) | ((with_reducible refine gate_callee (f := 36) rfl ?_); refine goesL_ (some 18) rfl rfl Tryz.func36 kr_ rfl #[] rfl ar_ ?_; (with_reducible refine (jigsawref06_Shapes.calls v _ A5.out).mono ?_); rintro e w19 ⟨aE, rfl, ap, hb⟩; refine ⟨_, rfl, ?_⟩; have x := a_ (Kd.R_lower ap (bz_ bel_)); replace b := a_ (bq_ b.out hb); replace HB := hq_ hb; clear hb ap))
 replace x := a_ (Kd.R_drew x.out)
 replace b := a_ (blk_drew b.out)
 replace HB := a_ (below_drew1 HB.out)
 obtain ⟨aF, aG, am⟩ := Kd.R_slice x.out
 (first | subst am | (injection am with f1_ f2_ f3_; have f4_ := f1_.symm; have f5_ := f3_.symm; clear f1_ f2_ f3_; subst f4_; subst f5_))
 have p447 : 0 ≤ (a : Int) := dq_
 have O : a < (v.length : Int) := dq_
 obtain ⟨ao, aw, E⟩ := Kd.at_string (rr_ x.out).2.2 a p447 O
 cases aw
 replace p447 := et_ p447
 replace O := et_ O
 refine start_ (n := 8) (S := fun w' => w'.cell? ⟨g, 0, none⟩ = some (.int .i64 a) ∧ w'.cell? ⟨g, 1, none⟩ = some (.slice s c.length c0_1) ∧ w'.cell? ⟨g, 2, none⟩ = some (.slice u d.length c0_2) ∧ w'.cell? ⟨g, 3, none⟩ = some (.slice y l.length c0_3) ∧ w'.cell? ⟨g, 4, none⟩ = some (.slice z m.length c0_4) ∧ w'.cell? ⟨g, 5, none⟩ = some (.slice A o.length c0_5) ∧ w'.cell? ⟨g, 6, none⟩ = some (.int .i64 q) ∧ w'.cell? ⟨g, 7, none⟩ = some (.slice B p.length c0_7) ∧ w'.cell? (ao.add (a).toNat) = some (.string (rdOf ByteArray.empty v a))) (ds := []) #[false, false, false, false, false, false, false, false] kr_ rfl rfl (cb8_ b.out (E)) (fun hHeld => ?_); refine with_tabW jigsawref06_Right.tab4 jigsawref06_Right.bits4 (fun HT_ HW_ => ?_)
 generalize w19.drew = w20 at x b HB E hHeld ⊢
 refine pn_ 1 20 ao_ ?_
 refine pn_ 2 21 ao_ ?_
 refine tn_ 0 19 tw_ hHeld ?_
 refine tn_ 3 22 tw_ hHeld ?_
 refine pn_ 4 23 ao_ ?_
 refine tn_ 5 24 tw_ hHeld ?_
 refine onn_ 6 25 #[true, true, true, true, true, true, true, false] rfl rfl on_ (by decide) (fun K hK => ?_)
 refine goes_ Tryz.func67 kr_ rfl #[.agg #[.int .i64 a, .slice s c.length c0_1, .slice u d.length c0_2, .slice y l.length c0_3, .slice z m.length c0_4, .slice A o.length c0_5, .int .i64 q, .slice B p.length c0_7], .string (rdOf ByteArray.empty v a)] (by rfl) rfl rfl ar_ ?_
 with_reducible refine (jigsawref06_Arity.calls k a _ _ c _ _ d _ _ l _ _ m _ _ o q _ _ p (rdOf ByteArray.empty v a) true _ ?_ ?_ ?_ ?_ ?_ ?_ ?_ ?_ ?_ ?_ ?_ ?_ A8.out).mono ?_
 exact ca_ ((cb_ F.out HB.out))
 exact G.out
 exact ca_ ((cb_ I.out HB.out))
 exact J.out
 exact ca_ ((cb_ ae.out HB.out))
 exact af.out
 exact ca_ ((cb_ ag.out HB.out))
 exact ah.out
 exact ca_ ((cb_ ai.out HB.out))
 exact aj.out
 exact ca_ ((cb_ ak.out HB.out))
 exact al.out
 rintro e w22 ⟨rfl, hb⟩
 have ax := (hb.cell (wl_ _ _ (hHeld.2.2.2.2.2.2.2.2))).trans (hHeld.2.2.2.2.2.2.2.2)
 refine ⟨_, rfl, ?_⟩
 replace b := a_ (bq_ b.out hb)
 replace HB := hq_ hb
 clear hb
 refine hK.out _ _ (cb8_ b.out (ax)) (fun hHeld => ?_)
 clear hK K
 refine nor_ (N := some 25) ?_
 refine pn_ 7 6 ao_ ?_
 refine done_ dn_ ?_
 obtain ⟨_, _, _, _, _, _, _, _, _, _, _, _, _, _, _, _⟩ := cel8_ b.out
 try go_wp2_with (first | ((with_reducible refine gate_callee (f := 68) rfl ?_); refine goesL_ (some 35) rfl rfl Tryz.func68 kr_ rfl #[.slice s c.length c0_1, .int .i64 0, .int .i64 (wrap64 (M - 1))] rfl ar_ ?_; (with_reducible refine (jigsawref06_in.calls k _ _ c 0 (wrap64 (M - 1)) true _ ?_ ?_ ay.out).mono ?_); exact ca_ ((cb_ F.out HB.out)); exact G.out; rintro e w' ⟨rfl, ⟨nd, rfl⟩⟩; refine ⟨_, rfl, ?_⟩) | ((with_reducible refine gate_callee (f := 68) rfl ?_); refine goesL_ (some 39) rfl rfl Tryz.func68 kr_ rfl #[.slice u d.length c0_2, .int .i64 0, .int .i64 (wrap64 (M - 1))] rfl ar_ ?_; (with_reducible refine (jigsawref06_in.calls k _ _ d 0 (wrap64 (M - 1)) true _ ?side1 ?side2 az.out).mono ?_); (case side1 => repeat (first | exact (cb_ I.out bel_) | (with_reducible refine Kd.C_alloc ?_ _) | (with_reducible refine Kd.C_drewN ?_ _) | (with_reducible refine Kd.C_drew ?_))); (case side2 => exact J.out); rintro e w' ⟨rfl, ⟨nd, rfl⟩⟩; refine ⟨_, rfl, ?_⟩) | ((with_reducible refine gate_callee (f := 69) rfl ?_); refine goesL_ (some 47) rfl rfl Tryz.func69 kr_ rfl #[.agg #[.int .i64 a, .slice s c.length c0_1, .slice u d.length c0_2, .slice y l.length c0_3, .slice z m.length c0_4, .slice A o.length c0_5, .int .i64 q, .slice B p.length c0_7]] rfl ar_ ?_; (with_reducible refine (jigsawref06_Coefs.calls k a _ _ c _ _ d _ _ l _ _ m _ _ o q _ _ p true _ ?side1 ?side2 ?side3 ?side4 ?side5 ?side6 ?side7 ?side8 ?side9 ?side10 ?side11 ?side12 aA.out).mono ?_); (case side1 => repeat (first | exact (cb_ F.out bel_) | (with_reducible refine Kd.C_alloc ?_ _) | (with_reducible refine Kd.C_drewN ?_ _) | (with_reducible refine Kd.C_drew ?_))); (case side2 => exact G.out); (case side3 => repeat (first | exact (cb_ I.out bel_) | (with_reducible refine Kd.C_alloc ?_ _) | (with_reducible refine Kd.C_drewN ?_ _) | (with_reducible refine Kd.C_drew ?_))); (case side4 => exact J.out); (case side5 => repeat (first | exact (cb_ ae.out bel_) | (with_reducible refine Kd.C_alloc ?_ _) | (with_reducible refine Kd.C_drewN ?_ _) | (with_reducible refine Kd.C_drew ?_))); (case side6 => exact af.out); (case side7 => repeat (first | exact (cb_ ag.out bel_) | (with_reducible refine Kd.C_alloc ?_ _) | (with_reducible refine Kd.C_drewN ?_ _) | (with_reducible refine Kd.C_drew ?_))); (case side8 => exact ah.out); (case side9 => repeat (first | exact (cb_ ai.out bel_) | (with_reducible refine Kd.C_alloc ?_ _) | (with_reducible refine Kd.C_drewN ?_ _) | (with_reducible refine Kd.C_drew ?_))); (case side10 => exact aj.out); (case side11 => repeat (first | exact (cb_ ak.out bel_) | (with_reducible refine Kd.C_alloc ?_ _) | (with_reducible refine Kd.C_drewN ?_ _) | (with_reducible refine Kd.C_drew ?_))); (case side12 => exact al.out); rintro e w24 ⟨rfl, hb⟩; refine ⟨_, rfl, ?_⟩; replace HB := hq_ hb; clear hb))
 go_ret
 exact ⟨er_, bel_⟩

/-! ### jigsawref10_Fits: function 17 -/
def jigsawref10_Fits.l0 : Nat → List (List Int) → Int → Option (Bool)
 | 0, _, _ => none
 | k + 1, b, a => if a < (b.length : Int) then (if 0 ≤ a then (if ((rd_L7 b a).length : Int) = 0 then (none) else (jigsawref10_Fits.l0 k b (wrap64 (a + 1)))) else (none)) else (some true)
def jigsawref10_Fits.f (k : Nat) (a : Int) (b : List Int) (c : List Int) (d : List Int) (e : List Int) (g : List Int) (l : Int) (m : List (List Int)) (o : List (List Int)) (p : Int) (q : Int) : Option (Bool) := if a < p then (none) else (if a > q then (none) else (if (o.length : Int) = (wrap64 ((b.length : Int) + (c.length : Int))) then ((jigsawref06_Right.f k a b c d e g l m 256).bind fun n => (if n = 0 then (jigsawref10_Fits.l0 k o 0) else (none))) else (none)))
theorem jigsawref10_Fits.mono_l : ∀ k, (∀ a b, LeO (jigsawref10_Fits.l0 k a b) (jigsawref10_Fits.l0 (k + 1) a b))
 | 0 => by intros; exact LeO.none _
 | k + 1 => by
  have ih0 := jigsawref10_Fits.mono_l k
  intro a b
  unfold jigsawref10_Fits.l0
  have m0 := @jigsawref06_Right.mono
  exact leo_
theorem jigsawref10_Fits.mono : ∀ b c d e g l m n o p a k, LeO (jigsawref10_Fits.f k b c d e g l m n o p a) (jigsawref10_Fits.f (k + 1) b c d e g l m n o p a) := by
 intro b c d e g l m n o p a k
 have ih0 := jigsawref10_Fits.mono_l k
 unfold jigsawref10_Fits.f
 have m0 := @jigsawref06_Right.mono
 exact leo_
set_option maxHeartbeats 8000000 in
set_option maxRecDepth 100000 in
theorem jigsawref10_Fits.calls (k : Nat) (d : Int) (u : Option Addr) (c0_1 : Nat) (b : List Int) (v : Option Addr) (c0_2 : Nat) (c : List Int) (x : Option Addr) (c0_3 : Nat) (g : List Int) (y : Option Addr) (c0_4 : Nat) (l : List Int) (z : Option Addr) (c0_5 : Nat) (m : List Int) (q : Int) (A : Option Addr) (c0_7 : Nat) (n : List (List Int)) (A1 : Option Addr) (c1 : Nat) (o : List (List Int)) (a2 : Int) (a3 : Int) (r : Bool) (w : World) (G : Kd.C (Kd.int .i64) w u b.length b) (I : b.length ≤ c0_1) (J : Kd.C (Kd.int .i64) w v c.length c) (K : c.length ≤ c0_2) (M : Kd.C (Kd.int .i64) w x g.length g) (O : g.length ≤ c0_3) (P : Kd.C (Kd.int .i64) w y l.length l) (Q : l.length ≤ c0_4) (U : Kd.C (Kd.int .i64) w z m.length m) (V : m.length ≤ c0_5) (W : Kd.C (Kd.slice 3 (Kd.int .i64)) w A n.length n) (X : n.length ≤ c0_7) (ap : Kd.C (Kd.slice 3 (Kd.int .i64)) w A1 o.length o) (aq : o.length ≤ c1) (h : jigsawref10_Fits.f k d b c g l m q n o a2 a3 = some r) :
  Calls Tryz.prog 17 #[.agg #[.int .i64 d, .slice u b.length c0_1, .slice v c.length c0_2, .slice x g.length c0_3, .slice y l.length c0_4, .slice z m.length c0_5, .int .i64 q, .slice A n.length c0_7], .slice A1 o.length c1, .int .i64 a2, .int .i64 a3] w fun e w' => e = .returned (.bool r) ∧ Below w.heap.size w w' := by
 have hu32 := Tryz.underlying32
 have ac := a_ G
 have ad := a_ I
 clear G I
 have ae := a_ J
 have af := a_ K
 clear J K
 have ag := a_ M
 have ah := a_ O
 clear M O
 have ai := a_ P
 have aj := a_ Q
 clear P Q
 have ak := a_ U
 have al := a_ V
 clear U V
 have am := a_ W
 have an := a_ X
 clear W X
 have ax := a_ ap
 have aD := a_ aq
 clear ap aq
 have HB := a_ (Below.refl w.heap.size w)
 unfold jigsawref10_Fits.f at h
 have H := h
 clear h
 by_cases c5 : d < a2
 ·
  rw [ip_ c5] at H
  exact ab_ H
 rw [ig_ c5] at H
 have c5b0 : decide (d < a2) = false := df_ c5
 clear c5
 by_cases c6 : d > a3
 ·
  rw [ip_ c6] at H
  exact ab_ H
 rw [ig_ c6] at H
 have c6b0 : decide (a3 < d) = false := df_ c6
 clear c6
 by_cases c7 : (o.length : Int) = (wrap64 ((b.length : Int) + (c.length : Int)))
 rotate_left
 ·
  rw [ig_ c7] at H
  exact ab_ H
 rw [ip_ c7] at H
 have c7b0 : ((o.length : Int) == (wrap64 ((b.length : Int) + (c.length : Int)))) = true := beq_iff_eq.mpr c7
 have c7b1 : ((o.length : Int) != (wrap64 ((b.length : Int) + (c.length : Int)))) = false := bn_.mpr c7
 clear c7
 replace H := bo_ H
 obtain ⟨E, A8, H⟩ := H
 try dsimp only at H
 by_cases c9 : E = 0
 rotate_left
 ·
  rw [ig_ c9] at H
  exact ab_ H
 rw [ip_ c9] at H
 have c9b0 : (E == 0) = true := beq_iff_eq.mpr c9
 have c9b1 : (E != 0) = false := bn_.mpr c9
 clear c9
 have H' := a_ H
 clear H
 go_enter Tryz.func17, Tryz.ntmps17
 go_wp2_with (first | ((with_reducible refine gate_dst (N := 4) rfl ?_); (try (refine gate_guard (by rfl) ?_; dsimp only)); refine bxe_ (N := 4) (cs := #[.int .i64 d, .slice u b.length c0_1, .slice v c.length c0_2, .slice x g.length c0_3, .slice y l.length c0_4, .slice z m.length c0_5, .int .i64 q, .slice A n.length c0_7]) (t := 32) ?_; intro Y hg w10 hbox hb; have p := a_ (hbox); have ao := a_ (by rw [hg]; exact (bz_ bel_) : w.heap.size ≤ Y); have aA := ao; replace HB := hq_ hb; clear hb hbox hg; obtain ⟨_, _, _, _, _, _, _, _, _, _, _, _, _, _, _, _⟩ := cel8_ p.out) | ((with_reducible refine gate_callee (f := 35) rfl ?_); refine goesL_ (some 34) rfl rfl Tryz.func35 kr_ rfl #[.agg #[.int .i64 d, .slice u b.length c0_1, .slice v c.length c0_2, .slice x g.length c0_3, .slice y l.length c0_4, .slice z m.length c0_5, .int .i64 q, .slice A n.length c0_7], .int .i64 256] rfl ar_ ?_; (with_reducible refine (jigsawref06_Right.calls k d _ _ b _ _ c _ _ g _ _ l _ _ m q _ _ n 256 E _ ?_ ?_ ?_ ?_ ?_ ?_ ?_ ?_ ?_ ?_ ?_ ?_ A8.out).mono ?_); exact ca_ ((cb_ ac.out HB.out)); exact ad.out; exact ca_ ((cb_ ae.out HB.out)); exact af.out; exact ca_ ((cb_ ag.out HB.out)); exact ah.out; exact ca_ ((cb_ ai.out HB.out)); exact aj.out; exact ca_ ((cb_ ak.out HB.out)); exact al.out; exact ca_ ((cb_ am.out HB.out)); exact an.out; rintro e w12 ⟨rfl, hb⟩; refine ⟨_, rfl, ?_⟩; replace p := a_ (bq_ p.out hb); replace HB := hq_ hb; clear hb))
 go_loopg [10] k (fun kq ay w' => ∃ (a : Int), ay = .int .i64 a ∧ Aside0 (jigsawref10_Fits.l0 kq o a = some r) ∧ Aside0 (kq ≤ k) ∧ Aside0 (w'.heap[Y]? = some (.cells #[.int .i64 d, (.slice u b.length c0_1), (.slice v c.length c0_2), (.slice x g.length c0_3), (.slice y l.length c0_4), (.slice z m.length c0_5), .int .i64 q, (.slice A n.length c0_7)] 32 (0, 0))) ∧ Aside0 (Below w.heap.size w w'))
 case atStart => exact ⟨(0), eq_, H', ⟨lr_ _⟩, ⟨bk_ p.out⟩, ⟨bel_⟩⟩
 clear H'
 try clear c1
 try clear p2
 try clear c3
 try clear c5
 try clear c5b0
 try clear c6
 try clear c6b0
 try clear p6
 try clear c7
 try clear c7b0
 try clear c7b1
 try clear c9
 try clear c9b0
 try clear c9b1
 obtain ⟨a, rfl, HA, ar, p, HB⟩ := hrel
 cases gk with
 | zero => exact absurd HA.out (by simp [jigsawref10_Fits.l0])
 | succ k1 =>
  have H := HA.out
  clear HA
  simp only [jigsawref10_Fits.l0] at H
  by_cases c13 : a < (o.length : Int)
  rotate_left
  ·
   rw [ig_ c13] at H
   have c13b0 : decide (a < (o.length : Int)) = false := df_ c13
   clear c13
   obtain rfl := si_ H
   go_wp2
   go_ret
   exact ⟨er_, bel_⟩
  rw [ip_ c13] at H
  have c13b0 : decide (a < (o.length : Int)) = true := dt_ c13
  clear c13
  by_cases c14 : 0 ≤ a
  rotate_left
  ·
   rw [ig_ c14] at H
   exact ab_ H
  rw [ip_ c14] at H
  have c14b0 : decide (0 ≤ a) = true := dt_ c14
  clear c14
  by_cases c15 : ((rd_L7 o a).length : Int) = 0
  ·
   rw [ip_ c15] at H
   exact ab_ H
  rw [ig_ c15] at H
  have c15b0 : (((rd_L7 o a).length : Int) == 0) = false := be_.mpr c15
  have c15b1 : (((rd_L7 o a).length : Int) != 0) = true := ni_.mpr c15
  have c15b2 : ¬ ((rd_L7 o a) = []) := fun h_ => c15 (by rw [h_]; rfl)
  have H' := a_ H
  clear H
  have p454 : 0 ≤ (a : Int) := dq_
  have F : a < (o.length : Int) := dq_
  obtain ⟨aB, az, c454_0, au, s, B, Z⟩ := at_L7 ax.out a p454 F
  cases au
  replace s := hx_ HB s
  have av := a_ B
  clear Z B
  replace p454 := et_ p454
  replace F := et_ F
  go_wp2
  go_roundg k1
  case measure => have := ar.out; omega
  exact ⟨(wrap64 (a + 1)), eq_, H', ⟨by have := ar.out; omega⟩, ⟨bk_ p.out⟩, ⟨bel_⟩⟩

end Go.Proofs.YtfbfalhdgmjdpaaGreatDoor.XInverseFilters
