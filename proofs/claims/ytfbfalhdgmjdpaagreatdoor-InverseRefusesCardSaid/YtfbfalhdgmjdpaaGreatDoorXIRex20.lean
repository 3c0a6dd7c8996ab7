-- by xprint.py, a program of this session, over the kit's print
import Derived.Test.YtfbfalhdgmjdpaaGreatDoorXIRex0
import Derived.Test.YtfbfalhdgmjdpaaGreatDoorSq
namespace Go.Proofs.YtfbfalhdgmjdpaaGreatDoor.XInverseRefuses
open Go.RowKit Go.Proofs.YtfbfalhdgmjdpaaGreatDoor.Sq Go.Proofs.YtfbfalhdgmjdpaaGreatDoorW.PrintWords Go.Proofs.YtfbfalhdgmjdpaaGreatDoorW.PrintLast Go.Proofs.YtfbfalhdgmjdpaaGreatDoorW.PrintMore
attribute [local go_sem] max2_int min2_int max_two min_two max_three min_three max_four min_four   -- for this text's walks alone
set_option linter.unusedVariables false
set_option linter.unusedSimpArgs false

/-! ### jigsawref06_in: function 68 -/
def jigsawref06_in.l0 : Nat → List Int → Int → Int → Int → Option (Bool)
 | 0, _, _, _, _ => none
 | k + 1, b, c, d, a => if a < (b.length : Int) then (if 0 ≤ a then (if (rd b a) < c then (some false) else (if (rd b a) > d then (some false) else (jigsawref06_in.l0 k b c d (wrap64 (a + 1))))) else (none)) else (some true)
def jigsawref06_in.f (k : Nat) (a : List Int) (b : Int) (c : Int) : Option (Bool) := jigsawref06_in.l0 k a b c 0
theorem jigsawref06_in.mono_l : ∀ k, (∀ a b c d, LeO (jigsawref06_in.l0 k a b c d) (jigsawref06_in.l0 (k + 1) a b c d))
 | 0 => by intros; exact LeO.none _
 | k + 1 => by
  have ih0 := jigsawref06_in.mono_l k
  intro a b c d
  unfold jigsawref06_in.l0
  exact leo_
theorem jigsawref06_in.mono : ∀ a b c k, LeO (jigsawref06_in.f k a b c) (jigsawref06_in.f (k + 1) a b c) := by
 intro a b c k
 have ih0 := jigsawref06_in.mono_l k
 unfold jigsawref06_in.f
 exact leo_
set_option maxHeartbeats 8000000 in
set_option maxRecDepth 100000 in
theorem jigsawref06_in.calls (k : Nat) (y : Option Addr) (c0 : Nat) (c : List Int) (q : Int) (s : Int) (r : Bool) (w : World) (u : Kd.C (Kd.int .i64) w y c.length c) (v : c.length ≤ c0) (h : jigsawref06_in.f k c q s = some r) :
  Calls Tryz.prog 68 #[.slice y c.length c0, .int .i64 q, .int .i64 s] w fun e w' => e = .returned (.bool r) ∧ Drawn0 w w' := by
 have o := a_ u
 have A := a_ v
 clear u v
 unfold jigsawref06_in.f at h
 have H := h
 clear h
 have H' := a_ H
 clear H
 go_enter Tryz.func68, Tryz.ntmps68
 go_wp2
 go_loopg [7] k (fun kq z w' => ∃ (a : Int), z = .int .i64 a ∧ Aside0 (jigsawref06_in.l0 kq c q s a = some r) ∧ Aside0 (kq ≤ k) ∧ Drawn0 w w')
 case atStart => exact ⟨(0), eq_, H', ⟨lr_ _⟩, by repeat (first | exact d0_ _ | apply Drawn0.step)⟩
 clear H'
 try clear p2
 obtain ⟨a, rfl, HA, x, ⟨m1, rfl⟩⟩ := hrel
 cases gk with
 | zero => exact absurd HA.out (by simp [jigsawref06_in.l0])
 | succ k1 =>
  have H := HA.out
  clear HA
  simp only [jigsawref06_in.l0] at H
  by_cases c4 : a < (c.length : Int)
  rotate_left
  ·
   rw [ig_ c4] at H
   have c4b0 : decide (a < (c.length : Int)) = false := df_ c4
   clear c4
   obtain rfl := si_ H
   go_wp2
   go_ret
   exact ⟨by first | rfl | (simp; done) | (simp [*]; done), by repeat (first | exact d0_ _ | apply Drawn0.step)⟩
  rw [ip_ c4] at H
  have c4b0 : decide (a < (c.length : Int)) = true := dt_ c4
  clear c4
  by_cases c5 : 0 ≤ a
  rotate_left
  ·
   rw [ig_ c5] at H
   exact ab_ H
  rw [ip_ c5] at H
  have c5b0 : decide (0 ≤ a) = true := dt_ c5
  clear c5
  by_cases c6 : (rd c a) < q
  ·
   rw [ip_ c6] at H
   have c6b0 : decide ((rd c a) < q) = true := dt_ c6
   clear c6
   obtain rfl := si_ H
   have p581 : 0 ≤ (a : Int) := dq_
   have b : a < (c.length : Int) := dq_
   obtain ⟨g, l, m⟩ := ai_ o.out a p581 b
   cases l
   replace p581 := et_ p581
   replace b := et_ b
   go_wp2
   go_ret
   exact ⟨by first | rfl | (simp; done) | (simp [*]; done), by repeat (first | exact d0_ _ | apply Drawn0.step)⟩
  rw [ig_ c6] at H
  have c6b0 : decide ((rd c a) < q) = false := df_ c6
  clear c6
  by_cases c7 : (rd c a) > s
  ·
   rw [ip_ c7] at H
   have c7b0 : decide (s < (rd c a)) = true := dt_ c7
   clear c7
   obtain rfl := si_ H
   have p581 : 0 ≤ (a : Int) := dq_
   have b : a < (c.length : Int) := dq_
   obtain ⟨g, l, m⟩ := ai_ o.out a p581 b
   cases l
   replace p581 := et_ p581
   replace b := et_ b
   have p582 : 0 ≤ (a : Int) := dq_
   have d : a < (c.length : Int) := dq_
   obtain ⟨n, p, t⟩ := ai_ o.out a p582 d
   obtain rfl : g = n := (by injection p)
   replace p582 := et_ p582
   replace d := et_ d
   go_wp2
   go_ret
   exact ⟨by first | rfl | (simp; done) | (simp [*]; done), by repeat (first | exact d0_ _ | apply Drawn0.step)⟩
  rw [ig_ c7] at H
  have c7b0 : decide (s < (rd c a)) = false := df_ c7
  clear c7
  have H' := a_ H
  clear H
  have p581 : 0 ≤ (a : Int) := dq_
  have b : a < (c.length : Int) := dq_
  obtain ⟨g, l, m⟩ := ai_ o.out a p581 b
  cases l
  replace p581 := et_ p581
  replace b := et_ b
  have p582 : 0 ≤ (a : Int) := dq_
  have d : a < (c.length : Int) := dq_
  obtain ⟨n, p, t⟩ := ai_ o.out a p582 d
  obtain rfl : g = n := (by injection p)
  replace p582 := et_ p582
  replace d := et_ d
  go_wp2
  go_roundg k1
  case measure => have := x.out; omega
  exact ⟨(wrap64 (a + 1)), eq_, H', ⟨by have := x.out; omega⟩, by repeat (first | exact d0_ _ | apply Drawn0.step)⟩

/-! ### jigsawref06_Coefs: function 69 -/
mutual
def jigsawref06_Coefs.l0 : Nat → Int → Int → List Int → List Int → List Int → List Int → List Int → Int → List (List Int) → Option (Bool)
 | 0, _, _, _, _, _, _, _, _, _ => none
 | k + 1, m, b, c, d, e, f, g, l, a => if m < (a.length : Int) then (none) else (jigsawref06_Coefs.l1 k b c d e f g l a)
def jigsawref06_Coefs.l1 : Nat → Int → List Int → List Int → List Int → List Int → List Int → Int → List (List Int) → Option (Bool)
 | 0, _, _, _, _, _, _, _, _ => none
 | k + 1, a, b, c, d, e, f, g, l => if a = 21 then (none) else (some true)
end
def jigsawref06_Coefs.f (k : Nat) (a : Int) (g : List Int) (l : List Int) (c : List Int) (d : List Int) (e : List Int) (b : Int) (m : List (List Int)) : Option (Bool) := if a = 19 then (none) else (if a = 21 then (none) else ((jigsawref06_in.f k c (-1000000) 1000000).bind fun n => ((jigsawref06_in.f k d (-1000000) 1000000).bind fun o => ((jigsawref06_in.f k e (-1000000) 1000000).bind fun p => (if n = true then (if o = true then (if p = true then (if b < (-9999999999) then (none) else (if b > 9999999999 then (none) else (jigsawref06_Coefs.l0 k 0 a g l c d e b m))) else (none)) else (none)) else (none))))))
theorem jigsawref06_Coefs.mono_l : ∀ k, (∀ a b c d e f g l m, LeO (jigsawref06_Coefs.l0 k a b c d e f g l m) (jigsawref06_Coefs.l0 (k + 1) a b c d e f g l m)) ∧ (∀ a b c d e f g l, LeO (jigsawref06_Coefs.l1 k a b c d e f g l) (jigsawref06_Coefs.l1 (k + 1) a b c d e f g l))
 | 0 => by refine ⟨?_, ?_⟩ <;> (intros; exact LeO.none _)
 | k + 1 => by
  obtain ⟨ih0, ih1⟩ := jigsawref06_Coefs.mono_l k
  have m0 := @jigsawref06_in.mono
  refine ⟨?_, ?_⟩ <;> intros
  all_goals first | unfold jigsawref06_Coefs.l0 | unfold jigsawref06_Coefs.l1
  all_goals exact leo_
theorem jigsawref06_Coefs.mono : ∀ a b c d e g l m k, LeO (jigsawref06_Coefs.f k a b c d e g l m) (jigsawref06_Coefs.f (k + 1) a b c d e g l m) := by
 intro a b c d e g l m k
 obtain ⟨ih0, ih1⟩ := jigsawref06_Coefs.mono_l k
 unfold jigsawref06_Coefs.f
 have m0 := @jigsawref06_in.mono
 exact leo_
set_option maxHeartbeats 8000000 in
set_option maxRecDepth 100000 in
theorem jigsawref06_Coefs.calls (k : Nat) (a : Int) (q : Option Addr) (c0_1 : Nat) (n : List Int) (s : Option Addr) (c0_2 : Nat) (o : List Int) (u : Option Addr) (c0_3 : Nat) (b : List Int) (v : Option Addr) (c0_4 : Nat) (c : List Int) (x : Option Addr) (c0_5 : Nat) (d : List Int) (m : Int) (y : Option Addr) (c0_7 : Nat) (g : List (List Int)) (r : Bool) (w : World) (Z : Kd.C (Kd.int .i64) w q n.length n) (K : n.length ≤ c0_1) (aa : Kd.C (Kd.int .i64) w s o.length o) (M : o.length ≤ c0_2) (O : Kd.C (Kd.int .i64) w u b.length b) (P : b.length ≤ c0_3) (Q : Kd.C (Kd.int .i64) w v c.length c) (U : c.length ≤ c0_4) (V : Kd.C (Kd.int .i64) w x d.length d) (W : d.length ≤ c0_5) (ab : Kd.C (Kd.slice 3 (Kd.int .i64)) w y g.length g) (X : g.length ≤ c0_7) (h : jigsawref06_Coefs.f k a n o b c d m g = some r) :
  Calls Tryz.prog 69 #[.agg #[.int .i64 a, .slice q n.length c0_1, .slice s o.length c0_2, .slice u b.length c0_3, .slice v c.length c0_4, .slice x d.length c0_5, .int .i64 m, .slice y g.length c0_7]] w fun e w' => e = .returned (.bool r) ∧ Below w.heap.size w w' := by
 have hu32 := Tryz.underlying32
 have ai := a_ K
 clear Z K
 have aj := a_ M
 clear aa M
 have B := a_ O
 have E := a_ P
 clear O P
 have F := a_ Q
 have G := a_ U
 clear Q U
 have I := a_ V
 have J := a_ W
 clear V W
 have ak := a_ X
 clear ab X
 have HB := a_ (Below.refl w.heap.size w)
 unfold jigsawref06_Coefs.f at h
 have H := h
 clear h
 by_cases c2 : a = 19
 ·
  rw [ip_ c2] at H
  exact ab_ H
 rw [ig_ c2] at H
 have c2b0 : (a == 19) = false := be_.mpr c2
 have c2b1 : (a != 19) = true := ni_.mpr c2
 by_cases c3 : a = 21
 ·
  rw [ip_ c3] at H
  exact ab_ H
 rw [ig_ c3] at H
 have c3b0 : (a == 21) = false := be_.mpr c3
 have c3b1 : (a != 21) = true := ni_.mpr c3
 replace H := bo_ H
 obtain ⟨ac, A4, H⟩ := H
 try dsimp only at H
 replace H := bo_ H
 obtain ⟨ae, A5, H⟩ := H
 try dsimp only at H
 replace H := bo_ H
 obtain ⟨ag, A6, H⟩ := H
 try dsimp only at H
 by_cases c7 : ac = true
 rotate_left
 ·
  replace c7 := bf_.mpr c7
  subst c7
  have H1 : (none) = some r := by rw [ig_ (show ¬ (false = true) by decide)] at H; exact H
  clear H
  have H := H1
  clear H1
  exact ab_ H
 subst c7
 rw [ip_ rfl] at H
 by_cases c8 : ae = true
 rotate_left
 ·
  replace c8 := bf_.mpr c8
  subst c8
  have H1 : (none) = some r := by rw [ig_ (show ¬ (false = true) by decide)] at H; exact H
  clear H
  have H := H1
  clear H1
  exact ab_ H
 subst c8
 rw [ip_ rfl] at H
 by_cases c9 : ag = true
 rotate_left
 ·
  replace c9 := bf_.mpr c9
  subst c9
  have H1 : (none) = some r := by rw [ig_ (show ¬ (false = true) by decide)] at H; exact H
  clear H
  have H := H1
  clear H1
  exact ab_ H
 subst c9
 rw [ip_ rfl] at H
 by_cases c10 : m < (-9999999999)
 ·
  rw [ip_ c10] at H
  exact ab_ H
 rw [ig_ c10] at H
 have c10b0 : decide (m < (-9999999999)) = false := df_ c10
 clear c10
 by_cases c11 : m > 9999999999
 ·
  rw [ip_ c11] at H
  exact ab_ H
 rw [ig_ c11] at H
 have c11b0 : decide (9999999999 < m) = false := df_ c11
 clear c11
 have H' := a_ H
 clear H
 go_enter Tryz.func69, Tryz.ntmps69
 go_wp2_with (first | ((with_reducible refine gate_dst (N := 1) rfl ?_); (try (refine gate_guard (by rfl) ?_; dsimp only)); refine bxe_ (N := 1) (cs := #[.int .i64 a, .slice q n.length c0_1, .slice s o.length c0_2, .slice u b.length c0_3, .slice v c.length c0_4, .slice x d.length c0_5, .int .i64 m, .slice y g.length c0_7]) (t := 32) ?_; intro p hg w12 hbox hb; have l := a_ (hbox); have z := a_ (by rw [hg]; exact (bz_ bel_) : w.heap.size ≤ p); have Y := z; replace HB := hq_ hb; clear hb hbox hg; obtain ⟨_, _, _, _, _, _, _, _, _, _, _, _, _, _, _, _⟩ := cel8_ l.out) | (go_at_call 68; (with_reducible refine (jigsawref06_in.calls k _ _ b (-1000000) 1000000 true _ ?_ ?_ A4.out).mono ?_); exact ca_ ((cb_ B.out HB.out)); exact E.out; rintro e w' ⟨rfl, ⟨nd, rfl⟩⟩; (try first | exact ⟨rfl, _, World.drewN_drewN _ _ _⟩ | exact ⟨rfl, _, Eq.trans (World.drewN_drewN _ _ _) (congrArg (World.drewN _) (Nat.add_assoc _ _ _))⟩)) | (go_at_call 68; (with_reducible refine (jigsawref06_in.calls k _ _ c (-1000000) 1000000 true _ ?side1 ?side2 A5.out).mono ?_); (case side1 => repeat (first | exact (cb_ F.out bel_) | (with_reducible refine Kd.C_alloc ?_ _) | (with_reducible refine Kd.C_drewN ?_ _) | (with_reducible refine Kd.C_drew ?_))); (case side2 => exact G.out); rintro e w' ⟨rfl, ⟨nd, rfl⟩⟩; (try first | exact ⟨rfl, _, World.drewN_drewN _ _ _⟩ | exact ⟨rfl, _, Eq.trans (World.drewN_drewN _ _ _) (congrArg (World.drewN _) (Nat.add_assoc _ _ _))⟩)) | (go_at_call 68; (with_reducible refine (jigsawref06_in.calls k _ _ d (-1000000) 1000000 true _ ?side1 ?side2 A6.out).mono ?_); (case side1 => repeat (first | exact (cb_ I.out bel_) | (with_reducible refine Kd.C_alloc ?_ _) | (with_reducible refine Kd.C_drewN ?_ _) | (with_reducible refine Kd.C_drew ?_))); (case side2 => exact J.out); rintro e w' ⟨rfl, ⟨nd, rfl⟩⟩; (try first | exact ⟨rfl, _, World.drewN_drewN _ _ _⟩ | exact ⟨rfl, _, Eq.trans (World.drewN_drewN _ _ _) (congrArg (World.drewN _) (Nat.add_assoc _ _ _))⟩)))
 repeat (go_quiet (first | ((with_reducible refine gate_dst (N := 1) rfl ?_); (try (refine gate_guard (by rfl) ?_; dsimp only)); refine bxe_ (N := 1) (cs := #[.int .i64 a, .slice q n.length c0_1, .slice s o.length c0_2, .slice u b.length c0_3, .slice v c.length c0_4, .slice x d.length c0_5, .int .i64 m, .slice y g.length c0_7]) (t := 32) ?_; intro p hg w12 hbox hb; have l := a_ (hbox); have z := a_ (by rw [hg]; exact (bz_ bel_) : w.heap.size ≤ p); have Y := z; replace HB := hq_ hb; clear hb hbox hg; obtain ⟨_, _, _, _, _, _, _, _, _, _, _, _, _, _, _, _⟩ := cel8_ l.out) | (go_at_call 68; (with_reducible refine (jigsawref06_in.calls k _ _ b (-1000000) 1000000 true _ ?_ ?_ A4.out).mono ?_); exact ca_ ((cb_ B.out HB.out)); exact E.out; rintro e w' ⟨rfl, ⟨nd, rfl⟩⟩; (try first | exact ⟨rfl, _, World.drewN_drewN _ _ _⟩ | exact ⟨rfl, _, Eq.trans (World.drewN_drewN _ _ _) (congrArg (World.drewN _) (Nat.add_assoc _ _ _))⟩)) | (go_at_call 68; (with_reducible refine (jigsawref06_in.calls k _ _ c (-1000000) 1000000 true _ ?side1 ?side2 A5.out).mono ?_); (case side1 => repeat (first | exact (cb_ F.out bel_) | (with_reducible refine Kd.C_alloc ?_ _) | (with_reducible refine Kd.C_drewN ?_ _) | (with_reducible refine Kd.C_drew ?_))); (case side2 => exact G.out); rintro e w' ⟨rfl, ⟨nd, rfl⟩⟩; (try first | exact ⟨rfl, _, World.drewN_drewN _ _ _⟩ | exact ⟨rfl, _, Eq.trans (World.drewN_drewN _ _ _) (congrArg (World.drewN _) (Nat.add_assoc _ _ _))⟩)) | (go_at_call 68; (with_reducible refine (jigsawref06_in.calls k _ _ d (-1000000) 1000000 true _ ?side1 ?side2 A6.out).mono ?_); (case side1 => repeat (first | exact (cb_ I.out bel_) | (with_reducible refine Kd.C_alloc ?_ _) | (with_reducible refine Kd.C_drewN ?_ _) | (with_reducible refine Kd.C_drew ?_))); (case side2 => exact J.out); rintro e w' ⟨rfl, ⟨nd, rfl⟩⟩; (try first | exact ⟨rfl, _, World.drewN_drewN _ _ _⟩ | exact ⟨rfl, _, Eq.trans (World.drewN_drewN _ _ _) (congrArg (World.drewN _) (Nat.add_assoc _ _ _))⟩))); try go_wp2_with (first | ((with_reducible refine gate_dst (N := 1) rfl ?_); (try (refine gate_guard (by rfl) ?_; dsimp only)); refine bxe_ (N := 1) (cs := #[.int .i64 a, .slice q n.length c0_1, .slice s o.length c0_2, .slice u b.length c0_3, .slice v c.length c0_4, .slice x d.length c0_5, .int .i64 m, .slice y g.length c0_7]) (t := 32) ?_; intro p hg w12 hbox hb; have l := a_ (hbox); have z := a_ (by rw [hg]; exact (bz_ bel_) : w.heap.size ≤ p); have Y := z; replace HB := hq_ hb; clear hb hbox hg; obtain ⟨_, _, _, _, _, _, _, _, _, _, _, _, _, _, _, _⟩ := cel8_ l.out) | (go_at_call 68; (with_reducible refine (jigsawref06_in.calls k _ _ b (-1000000) 1000000 true _ ?_ ?_ A4.out).mono ?_); exact ca_ ((cb_ B.out HB.out)); exact E.out; rintro e w' ⟨rfl, ⟨nd, rfl⟩⟩; (try first | exact ⟨rfl, _, World.drewN_drewN _ _ _⟩ | exact ⟨rfl, _, Eq.trans (World.drewN_drewN _ _ _) (congrArg (World.drewN _) (Nat.add_assoc _ _ _))⟩)) | (go_at_call 68; (with_reducible refine (jigsawref06_in.calls k _ _ c (-1000000) 1000000 true _ ?side1 ?side2 A5.out).mono ?_); (case side1 => repeat (first | exact (cb_ F.out bel_) | (with_reducible refine Kd.C_alloc ?_ _) | (with_reducible refine Kd.C_drewN ?_ _) | (with_reducible refine Kd.C_drew ?_))); (case side2 => exact G.out); rintro e w' ⟨rfl, ⟨nd, rfl⟩⟩; (try first | exact ⟨rfl, _, World.drewN_drewN _ _ _⟩ | exact ⟨rfl, _, Eq.trans (World.drewN_drewN _ _ _) (congrArg (World.drewN _) (Nat.add_assoc _ _ _))⟩)) | (go_at_call 68; (with_reducible refine (jigsawref06_in.calls k _ _ d (-1000000) 1000000 true _ ?side1 ?side2 A6.out).mono ?_); (case side1 => repeat (first | exact (cb_ I.out bel_) | (with_reducible refine Kd.C_alloc ?_ _) | (with_reducible refine Kd.C_drewN ?_ _) | (with_reducible refine Kd.C_drew ?_))); (case side2 => exact J.out); rintro e w' ⟨rfl, ⟨nd, rfl⟩⟩; (try first | exact ⟨rfl, _, World.drewN_drewN _ _ _⟩ | exact ⟨rfl, _, Eq.trans (World.drewN_drewN _ _ _) (congrArg (World.drewN _) (Nat.add_assoc _ _ _))⟩))))
 go_loopg [9] k (fun kq v9 w' => ∃ (A : Int), v9 = .int .i64 A ∧ Aside0 (jigsawref06_Coefs.l0 kq A a n o b c d m g = some r) ∧ Aside0 (kq ≤ k) ∧ Aside0 (w'.heap[p]? = some (.cells #[.int .i64 a, (.slice q n.length c0_1), (.slice s o.length c0_2), (.slice u b.length c0_3), (.slice v c.length c0_4), (.slice x d.length c0_5), .int .i64 m, (.slice y g.length c0_7)] 32 (0, 0))) ∧ Aside0 (Below w.heap.size w w'))
 case atStart => exact ⟨(0), eq_, H', ⟨lr_ _⟩, ⟨bk_ l.out⟩, ⟨bel_⟩⟩
 clear H'
 try clear c1
 try clear c2
 try clear c2b0
 try clear c2b1
 try clear p2
 try clear c3
 try clear c3b0
 try clear c3b1
 try clear c6
 try clear c7
 try clear c8
 try clear c9
 try clear c10
 try clear c10b0
 try clear c11
 try clear c11b0
 obtain ⟨A, rfl, HA, am, l, HB⟩ := hrel
 cases gk with
 | zero => exact absurd HA.out (by simp [jigsawref06_Coefs.l0])
 | succ k1 =>
  have H := HA.out
  clear HA
  simp only [jigsawref06_Coefs.l0] at H
  by_cases c14 : A < (g.length : Int)
  ·
   rw [ip_ c14] at H
   exact ab_ H
  rw [ig_ c14] at H
  have c14b0 : decide (A < (g.length : Int)) = false := df_ c14
  clear c14
  have H' := a_ H
  clear H
  obtain ⟨_, _, _, _, _, _, _, _, _, _, _, _, _, _, _, _⟩ := cel8_ l.out
  go_wp2
  repeat (go_quiet (fail); try go_wp2)
  go_loopg [] k1 (fun kq w' => Aside0 (jigsawref06_Coefs.l1 kq a n o b c d m g = some r) ∧ Aside0 (kq ≤ k1) ∧ Aside0 (w'.heap[p]? = some (.cells #[.int .i64 a, (.slice q n.length c0_1), (.slice s o.length c0_2), (.slice u b.length c0_3), (.slice v c.length c0_4), (.slice x d.length c0_5), .int .i64 m, (.slice y g.length c0_7)] 32 (0, 0))) ∧ Aside0 (Below w.heap.size w w'))
  case atStart => exact ⟨H', ⟨lr_ _⟩, ⟨bk_ l.out⟩, ⟨bel_⟩⟩
  clear H'
  try clear c1
  try clear c2
  try clear c2b0
  try clear c2b1
  try clear p2
  try clear c3
  try clear c3b0
  try clear c3b1
  try clear c6
  try clear c7
  try clear c8
  try clear c9
  try clear c10
  try clear c10b0
  try clear c11
  try clear c11b0
  try clear c14
  try clear c14b0
  try clear p2
  obtain ⟨HA, an, l, HB⟩ := hrel
  cases gk with
  | zero => exact absurd HA.out (by simp [jigsawref06_Coefs.l1])
  | succ k2 =>
   have H := HA.out
   clear HA
   simp only [jigsawref06_Coefs.l1] at H
   by_cases c16 : a = 21
   ·
    rw [ip_ c16] at H
    exact ab_ H
   rw [ig_ c16] at H
   have c16b0 : (a == 21) = false := be_.mpr c16
   have c16b1 : (a != 21) = true := ni_.mpr c16
   obtain rfl := si_ H
   obtain ⟨_, _, _, _, _, _, _, _, _, _, _, _, _, _, _, _⟩ := cel8_ l.out
   go_wp2
   repeat (go_quiet (fail); try go_wp2)
   go_ret
   exact ⟨er_, bel_⟩

end Go.Proofs.YtfbfalhdgmjdpaaGreatDoor.XInverseRefuses
