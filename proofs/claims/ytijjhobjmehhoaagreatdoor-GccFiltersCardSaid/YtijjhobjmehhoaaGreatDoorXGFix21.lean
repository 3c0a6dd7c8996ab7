-- by xprint.py, a program of this session, over the kit's print
import Derived.Test.YtijjhobjmehhoaaGreatDoorXGFix0
import Derived.Test.YtijjhobjmehhoaaGreatDoorSq
namespace Go.Proofs.YtijjhobjmehhoaaGreatDoor.XGccFilters
open Go.RowKit Go.Proofs.YtijjhobjmehhoaaGreatDoor.Sq Go.Proofs.YtijjhobjmehhoaaGreatDoorW.PrintWords Go.Proofs.YtijjhobjmehhoaaGreatDoorW.PrintLast Go.Proofs.YtijjhobjmehhoaaGreatDoorW.PrintMore
attribute [local go_sem] max2_int min2_int max_two min_two max_three min_three max_four min_four   -- for this text's walks alone
set_option linter.unusedVariables false
set_option linter.unusedSimpArgs false

/-! ### jigsawref06_in: function 70 -/
def jigsawref06_in.l0 : Nat → List Int → Int → Int → Int → Option (Bool)
 | 0, _, _, _, _ => none
 | k + 1, b, c, d, a => if a < (b.length : Int) then (if 0 ≤ a then (if (rd b a) < c then (some false) else (if (rd b a) > d then (some false) else (jigsawref06_in.l0 k b c d (wrap64 (a + 1))))) else (none)) else (some true)
def jigsawref06_in.f (k : Nat) (a : List Int) (b : Int) (c : Int) : Option (Bool) := jigsawref06_in.l0 k a b c 0
theorem jigsawref06_in.mono_l : ∀ k, (∀ a b c d, LeO (jigsawref06_in.l0 k a b c d) (jigsawref06_in.l0 (k + 1) a b c d))
 | 0 => by intros; exact LeO.none _
 | k + 1 => by
  have ih0 := jigsawref06_in.mono_l k
  intro a b c d
  unfold jigsawref06_in.l0
  exact leo_
theorem jigsawref06_in.mono : ∀ a b c k, LeO (jigsawref06_in.f k a b c) (jigsawref06_in.f (k + 1) a b c) := by
 intro a b c k
 have ih0 := jigsawref06_in.mono_l k
 unfold jigsawref06_in.f
 exact leo_
set_option maxHeartbeats 8000000 in
set_option maxRecDepth 100000 in
theorem jigsawref06_in.calls (k : Nat) (y : Option Addr) (c0 : Nat) (c : List Int) (q : Int) (s : Int) (r : Bool) (w : World) (u : Kd.C (Kd.int .i64) w y c.length c) (v : c.length ≤ c0) (h : jigsawref06_in.f k c q s = some r) :
  Calls Tryz.prog 70 #[.slice y c.length c0, .int .i64 q, .int .i64 s] w fun e w' => e = .returned (.bool r) ∧ Drawn0 w w' := by
 have o := a_ u
 have A := a_ v
 clear u v
 unfold jigsawref06_in.f at h
 have H := h
 clear h
 have H' := a_ H
 clear H
 go_enter Tryz.func70, Tryz.ntmps70
 go_wp2
 go_loopg [7] k (fun kq z w' => ∃ (a : Int), z = .int .i64 a ∧ Aside0 (jigsawref06_in.l0 kq c q s a = some r) ∧ Aside0 (kq ≤ k) ∧ Drawn0 w w')
 case atStart => exact ⟨(0), eq_, H', ⟨lr_ _⟩, by repeat (first | exact d0_ _ | apply Drawn0.step)⟩
 clear H'
 try clear p2
 obtain ⟨a, rfl, HA, x, ⟨m1, rfl⟩⟩ := hrel
 cases gk with
 | zero => exact absurd HA.out (by simp [jigsawref06_in.l0])
 | succ k1 =>
  have H := HA.out
  clear HA
  simp only [jigsawref06_in.l0] at H
  by_cases c4 : a < (c.length : Int)
  rotate_left
  ·
   rw [ig_ c4] at H
   have c4b0 : decide (a < (c.length : Int)) = false := df_ c4
   clear c4
   obtain rfl := si_ H
   go_wp2
   go_ret
   exact ⟨by first | rfl | (simp; done) | (simp [*]; done), by repeat (first | exact d0_ _ | apply Drawn0.step)⟩
  rw [ip_ c4] at H
  have c4b0 : decide (a < (c.length : Int)) = true := dt_ c4
  clear c4
  by_cases c5 : 0 ≤ a
  rotate_left
  ·
   rw [ig_ c5] at H
   exact ab_ H
  rw [ip_ c5] at H
  have c5b0 : decide (0 ≤ a) = true := dt_ c5
  clear c5
  by_cases c6 : (rd c a) < q
  ·
   rw [ip_ c6] at H
   have c6b0 : decide ((rd c a) < q) = true := dt_ c6
   clear c6
   obtain rfl := si_ H
   have p524 : 0 ≤ (a : Int) := dq_
   have b : a < (c.length : Int) := dq_
   obtain ⟨g, l, m⟩ := ai_ o.out a p524 b
   cases l
   replace p524 := et_ p524
   replace b := et_ b
   go_wp2
   go_ret
   exact ⟨by first | rfl | (simp; done) | (simp [*]; done), by repeat (first | exact d0_ _ | apply Drawn0.step)⟩
  rw [ig_ c6] at H
  have c6b0 : decide ((rd c a) < q) = false := df_ c6
  clear c6
  by_cases c7 : (rd c a) > s
  ·
   rw [ip_ c7] at H
   have c7b0 : decide (s < (rd c a)) = true := dt_ c7
   clear c7
   obtain rfl := si_ H
   have p524 : 0 ≤ (a : Int) := dq_
   have b : a < (c.length : Int) := dq_
   obtain ⟨g, l, m⟩ := ai_ o.out a p524 b
   cases l
   replace p524 := et_ p524
   replace b := et_ b
   have p525 : 0 ≤ (a : Int) := dq_
   have d : a < (c.length : Int) := dq_
   obtain ⟨n, p, t⟩ := ai_ o.out a p525 d
   obtain rfl : g = n := (by injection p)
   replace p525 := et_ p525
   replace d := et_ d
   go_wp2
   go_ret
   exact ⟨by first | rfl | (simp; done) | (simp [*]; done), by repeat (first | exact d0_ _ | apply Drawn0.step)⟩
  rw [ig_ c7] at H
  have c7b0 : decide (s < (rd c a)) = false := df_ c7
  clear c7
  have H' := a_ H
  clear H
  have p524 : 0 ≤ (a : Int) := dq_
  have b : a < (c.length : Int) := dq_
  obtain ⟨g, l, m⟩ := ai_ o.out a p524 b
  cases l
  replace p524 := et_ p524
  replace b := et_ b
  have p525 : 0 ≤ (a : Int) := dq_
  have d : a < (c.length : Int) := dq_
  obtain ⟨n, p, t⟩ := ai_ o.out a p525 d
  obtain rfl : g = n := (by injection p)
  replace p525 := et_ p525
  replace d := et_ d
  go_wp2
  go_roundg k1
  case measure => have := x.out; omega
  exact ⟨(wrap64 (a + 1)), eq_, H', ⟨by have := x.out; omega⟩, by repeat (first | exact d0_ _ | apply Drawn0.step)⟩

/-! ### jigsawref06_Coefs: function 71 -/
mutual
def jigsawref06_Coefs.l0 : Nat → Int → Int → List Int → List Int → List Int → List Int → List Int → Int → List (List Int) → Option (Bool)
 | 0, _, _, _, _, _, _, _, _, _ => none
 | k + 1, m, b, c, d, e, f, g, l, a => if m < (a.length : Int) then (none) else (jigsawref06_Coefs.l1 k 0 b c d e f g l a)
def jigsawref06_Coefs.l1 : Nat → Int → Int → List Int → List Int → List Int → List Int → List Int → Int → List (List Int) → Option (Bool)
 | 0, _, _, _, _, _, _, _, _, _ => none
 | k + 1, c, d, f, g, e, a, b, l, m => if d = 21 then (if c < (e.length : Int) then (if 0 ≤ c then (if c < (a.length : Int) then (if c < (b.length : Int) then (if (rd a c) > (rd b c) then (none) else (jigsawref06_Coefs.l2 k c 0 d f g e a b l m)) else (none)) else (none)) else (none)) else (some true)) else (none)
def jigsawref06_Coefs.l2 : Nat → Int → Int → Int → List Int → List Int → List Int → List Int → List Int → Int → List (List Int) → Option (Bool)
 | 0, _, _, _, _, _, _, _, _, _, _ => none
 | k + 1, b, n, c, d, e, a, f, g, l, m => if n < b then (if 0 ≤ b then (if b < (a.length : Int) then (if 0 ≤ n then (if n < (a.length : Int) then (if (rd a b) = (rd a n) then (none) else (jigsawref06_Coefs.l2 k b (wrap64 (n + 1)) c d e a f g l m)) else (none)) else (none)) else (none)) else (none)) else (jigsawref06_Coefs.l1 k (wrap64 (b + 1)) c d e a f g l m)
end
def jigsawref06_Coefs.f (k : Nat) (a : Int) (g : List Int) (l : List Int) (c : List Int) (d : List Int) (e : List Int) (b : Int) (m : List (List Int)) : Option (Bool) := if a = 19 then (none) else (if a = 21 then ((jigsawref06_in.f k c (-1000000) 1000000).bind fun n => ((jigsawref06_in.f k d 0 1000000).bind fun o => ((jigsawref06_in.f k e 0 1000000).bind fun p => (if n = true then (if o = true then (if p = true then (if b < (-9999999999) then (none) else (if b > 9999999999 then (none) else (jigsawref06_Coefs.l0 k 0 a g l c d e b m))) else (none)) else (none)) else (none))))) else (none))
theorem jigsawref06_Coefs.mono_l : ∀ k, (∀ a b c d e f g l m, LeO (jigsawref06_Coefs.l0 k a b c d e f g l m) (jigsawref06_Coefs.l0 (k + 1) a b c d e f g l m)) ∧ (∀ a b c d e f g l m, LeO (jigsawref06_Coefs.l1 k a b c d e f g l m) (jigsawref06_Coefs.l1 (k + 1) a b c d e f g l m)) ∧ (∀ a b c d e f g l m n, LeO (jigsawref06_Coefs.l2 k a b c d e f g l m n) (jigsawref06_Coefs.l2 (k + 1) a b c d e f g l m n))
 | 0 => by refine ⟨?_, ?_, ?_⟩ <;> (intros; exact LeO.none _)
 | k + 1 => by
  obtain ⟨ih0, ih1, ih2⟩ := jigsawref06_Coefs.mono_l k
  have m0 := @jigsawref06_in.mono
  refine ⟨?_, ?_, ?_⟩ <;> intros
  all_goals first | unfold jigsawref06_Coefs.l0 | unfold jigsawref06_Coefs.l1 | unfold jigsawref06_Coefs.l2
  all_goals exact leo_
theorem jigsawref06_Coefs.mono : ∀ a b c d e g l m k, LeO (jigsawref06_Coefs.f k a b c d e g l m) (jigsawref06_Coefs.f (k + 1) a b c d e g l m) := by
 intro a b c d e g l m k
 obtain ⟨ih0, ih1, ih2⟩ := jigsawref06_Coefs.mono_l k
 unfold jigsawref06_Coefs.f
 have m0 := @jigsawref06_in.mono
 exact leo_
set_option maxHeartbeats 8000000 in
set_option maxRecDepth 100000 in
theorem jigsawref06_Coefs.calls (k : Nat) (m : Int) (u : Option Addr) (c0_1 : Nat) (p : List Int) (v : Option Addr) (c0_2 : Nat) (q : List Int) (x : Option Addr) (c0_3 : Nat) (b : List Int) (B : Option Addr) (c0_4 : Nat) (c : List Int) (E : Option Addr) (c0_5 : Nat) (d : List Int) (o : Int) (y : Option Addr) (c0_7 : Nat) (n : List (List Int)) (r : Bool) (w : World) (am : Kd.C (Kd.int .i64) w u p.length p) (Z : p.length ≤ c0_1) (an : Kd.C (Kd.int .i64) w v q.length q) (aa : q.length ≤ c0_2) (ab : Kd.C (Kd.int .i64) w x b.length b) (ac : b.length ≤ c0_3) (ad : Kd.C (Kd.int .i64) w B c.length c) (ae : c.length ≤ c0_4) (af : Kd.C (Kd.int .i64) w E d.length d) (ag : d.length ≤ c0_5) (ao : Kd.C (Kd.slice 3 (Kd.int .i64)) w y n.length n) (ah : n.length ≤ c0_7) (h : jigsawref06_Coefs.f k m p q b c d o n = some r) :
  Calls Tryz.prog 71 #[.agg #[.int .i64 m, .slice u p.length c0_1, .slice v q.length c0_2, .slice x b.length c0_3, .slice B c.length c0_4, .slice E d.length c0_5, .int .i64 o, .slice y n.length c0_7]] w fun e w' => e = .returned (.bool r) ∧ Below w.heap.size w w' := by
 have hu32 := Tryz.underlying32
 have aH := a_ Z
 clear am Z
 have aI := a_ aa
 clear an aa
 have F := a_ ab
 have P := a_ ac
 clear ab ac
 have K := a_ ad
 have Q := a_ ae
 clear ad ae
 have M := a_ af
 have U := a_ ag
 clear af ag
 have aJ := a_ ah
 clear ao ah
 have HB := a_ (Below.refl w.heap.size w)
 unfold jigsawref06_Coefs.f at h
 have H := h
 clear h
 by_cases c2 : m = 19
 ·
  rw [ip_ c2] at H
  exact ab_ H
 rw [ig_ c2] at H
 have c2b0 : (m == 19) = false := be_.mpr c2
 have c2b1 : (m != 19) = true := ni_.mpr c2
 by_cases c3 : m = 21
 rotate_left
 ·
  rw [ig_ c3] at H
  exact ab_ H
 rw [ip_ c3] at H
 have c3b0 : (m == 21) = true := beq_iff_eq.mpr c3
 have c3b1 : (m != 21) = false := bn_.mpr c3
 clear c3
 replace H := bo_ H
 obtain ⟨av, A4, H⟩ := H
 try dsimp only at H
 replace H := bo_ H
 obtain ⟨ax, A5, H⟩ := H
 try dsimp only at H
 replace H := bo_ H
 obtain ⟨az, A6, H⟩ := H
 try dsimp only at H
 by_cases c7 : av = true
 rotate_left
 ·
  replace c7 := bf_.mpr c7
  subst c7
  have H1 : (none) = some r := by rw [ig_ (show ¬ (false = true) by decide)] at H; exact H
  clear H
  have H := H1
  clear H1
  exact ab_ H
 subst c7
 rw [ip_ rfl] at H
 by_cases c8 : ax = true
 rotate_left
 ·
  replace c8 := bf_.mpr c8
  subst c8
  have H1 : (none) = some r := by rw [ig_ (show ¬ (false = true) by decide)] at H; exact H
  clear H
  have H := H1
  clear H1
  exact ab_ H
 subst c8
 rw [ip_ rfl] at H
 by_cases c9 : az = true
 rotate_left
 ·
  replace c9 := bf_.mpr c9
  subst c9
  have H1 : (none) = some r := by rw [ig_ (show ¬ (false = true) by decide)] at H; exact H
  clear H
  have H := H1
  clear H1
  exact ab_ H
 subst c9
 rw [ip_ rfl] at H
 by_cases c10 : o < (-9999999999)
 ·
  rw [ip_ c10] at H
  exact ab_ H
 rw [ig_ c10] at H
 have c10b0 : decide (o < (-9999999999)) = false := df_ c10
 clear c10
 by_cases c11 : o > 9999999999
 ·
  rw [ip_ c11] at H
  exact ab_ H
 rw [ig_ c11] at H
 have c11b0 : decide (9999999999 < o) = false := df_ c11
 clear c11
 have H' := a_ H
 clear H
 go_enter Tryz.func71, Tryz.ntmps71
 go_wp2_with (first | ((with_reducible refine gate_dst (N := 1) rfl ?_); (try (refine gate_guard (by rfl) ?_; dsimp only)); refine bxe_ (N := 1) (cs := #[.int .i64 m, .slice u p.length c0_1, .slice v q.length c0_2, .slice x b.length c0_3, .slice B c.length c0_4, .slice E d.length c0_5, .int .i64 o, .slice y n.length c0_7]) (t := 32) ?_; intro s hg w12 hbox hb; have g := a_ (hbox); have G := a_ (by rw [hg]; exact (bz_ bel_) : w.heap.size ≤ s); have ai := G; replace HB := hq_ hb; clear hb hbox hg; obtain ⟨_, _, _, _, _, _, _, _, _, _, _, _, _, _, _, _⟩ := cel8_ g.out) | (go_at_call 70; (with_reducible refine (jigsawref06_in.calls k _ _ b (-1000000) 1000000 true _ ?_ ?_ A4.out).mono ?_); exact ca_ ((cb_ F.out HB.out)); exact P.out; rintro e w' ⟨rfl, ⟨nd, rfl⟩⟩; (try first | exact ⟨rfl, _, World.drewN_drewN _ _ _⟩ | exact ⟨rfl, _, Eq.trans (World.drewN_drewN _ _ _) (congrArg (World.drewN _) (Nat.add_assoc _ _ _))⟩)) | (go_at_call 70; (with_reducible refine (jigsawref06_in.calls k _ _ c 0 1000000 true _ ?side1 ?side2 A5.out).mono ?_); (case side1 => repeat (first | exact (cb_ K.out bel_) | (with_reducible refine Kd.C_alloc ?_ _) | (with_reducible refine Kd.C_drewN ?_ _) | (with_reducible refine Kd.C_drew ?_))); (case side2 => exact Q.out); rintro e w' ⟨rfl, ⟨nd, rfl⟩⟩; (try first | exact ⟨rfl, _, World.drewN_drewN _ _ _⟩ | exact ⟨rfl, _, Eq.trans (World.drewN_drewN _ _ _) (congrArg (World.drewN _) (Nat.add_assoc _ _ _))⟩)) | (go_at_call 70; (with_reducible refine (jigsawref06_in.calls k _ _ d 0 1000000 true _ ?side1 ?side2 A6.out).mono ?_); (case side1 => repeat (first | exact (cb_ M.out bel_) | (with_reducible refine Kd.C_alloc ?_ _) | (with_reducible refine Kd.C_drewN ?_ _) | (with_reducible refine Kd.C_drew ?_))); (case side2 => exact U.out); rintro e w' ⟨rfl, ⟨nd, rfl⟩⟩; (try first | exact ⟨rfl, _, World.drewN_drewN _ _ _⟩ | exact ⟨rfl, _, Eq.trans (World.drewN_drewN _ _ _) (congrArg (World.drewN _) (Nat.add_assoc _ _ _))⟩)))
 repeat (go_quiet (first | ((with_reducible refine gate_dst (N := 1) rfl ?_); (try (refine gate_guard (by rfl) ?_; dsimp only)); refine bxe_ (N := 1) (cs := #[.int .i64 m, .slice u p.length c0_1, .slice v q.length c0_2, .slice x b.length c0_3, .slice B c.length c0_4, .slice E d.length c0_5, .int .i64 o, .slice y n.length c0_7]) (t := 32) ?_; intro s hg w12 hbox hb; have g := a_ (hbox); have G := a_ (by rw [hg]; exact (bz_ bel_) : w.heap.size ≤ s); have ai := G; replace HB := hq_ hb; clear hb hbox hg; obtain ⟨_, _, _, _, _, _, _, _, _, _, _, _, _, _, _, _⟩ := cel8_ g.out) | (go_at_call 70; (with_reducible refine (jigsawref06_in.calls k _ _ b (-1000000) 1000000 true _ ?_ ?_ A4.out).mono ?_); exact ca_ ((cb_ F.out HB.out)); exact P.out; rintro e w' ⟨rfl, ⟨nd, rfl⟩⟩; (try first | exact ⟨rfl, _, World.drewN_drewN _ _ _⟩ | exact ⟨rfl, _, Eq.trans (World.drewN_drewN _ _ _) (congrArg (World.drewN _) (Nat.add_assoc _ _ _))⟩)) | (go_at_call 70; (with_reducible refine (jigsawref06_in.calls k _ _ c 0 1000000 true _ ?side1 ?side2 A5.out).mono ?_); (case side1 => repeat (first | exact (cb_ K.out bel_) | (with_reducible refine Kd.C_alloc ?_ _) | (with_reducible refine Kd.C_drewN ?_ _) | (with_reducible refine Kd.C_drew ?_))); (case side2 => exact Q.out); rintro e w' ⟨rfl, ⟨nd, rfl⟩⟩; (try first | exact ⟨rfl, _, World.drewN_drewN _ _ _⟩ | exact ⟨rfl, _, Eq.trans (World.drewN_drewN _ _ _) (congrArg (World.drewN _) (Nat.add_assoc _ _ _))⟩)) | (go_at_call 70; (with_reducible refine (jigsawref06_in.calls k _ _ d 0 1000000 true _ ?side1 ?side2 A6.out).mono ?_); (case side1 => repeat (first | exact (cb_ M.out bel_) | (with_reducible refine Kd.C_alloc ?_ _) | (with_reducible refine Kd.C_drewN ?_ _) | (with_reducible refine Kd.C_drew ?_))); (case side2 => exact U.out); rintro e w' ⟨rfl, ⟨nd, rfl⟩⟩; (try first | exact ⟨rfl, _, World.drewN_drewN _ _ _⟩ | exact ⟨rfl, _, Eq.trans (World.drewN_drewN _ _ _) (congrArg (World.drewN _) (Nat.add_assoc _ _ _))⟩))); try go_wp2_with (first | ((with_reducible refine gate_dst (N := 1) rfl ?_); (try (refine gate_guard (by rfl) ?_; dsimp only)); refine bxe_ (N := 1) (cs := #[.int .i64 m, .slice u p.length c0_1, .slice v q.length c0_2, .slice x b.length c0_3, .slice B c.length c0_4, .slice E d.length c0_5, .int .i64 o, .slice y n.length c0_7]) (t := 32) ?_; intro s hg w12 hbox hb; have g := a_ (hbox); have G := a_ (by rw [hg]; exact (bz_ bel_) : w.heap.size ≤ s); have ai := G; replace HB := hq_ hb; clear hb hbox hg; obtain ⟨_, _, _, _, _, _, _, _, _, _, _, _, _, _, _, _⟩ := cel8_ g.out) | (go_at_call 70; (with_reducible refine (jigsawref06_in.calls k _ _ b (-1000000) 1000000 true _ ?_ ?_ A4.out).mono ?_); exact ca_ ((cb_ F.out HB.out)); exact P.out; rintro e w' ⟨rfl, ⟨nd, rfl⟩⟩; (try first | exact ⟨rfl, _, World.drewN_drewN _ _ _⟩ | exact ⟨rfl, _, Eq.trans (World.drewN_drewN _ _ _) (congrArg (World.drewN _) (Nat.add_assoc _ _ _))⟩)) | (go_at_call 70; (with_reducible refine (jigsawref06_in.calls k _ _ c 0 1000000 true _ ?side1 ?side2 A5.out).mono ?_); (case side1 => repeat (first | exact (cb_ K.out bel_) | (with_reducible refine Kd.C_alloc ?_ _) | (with_reducible refine Kd.C_drewN ?_ _) | (with_reducible refine Kd.C_drew ?_))); (case side2 => exact Q.out); rintro e w' ⟨rfl, ⟨nd, rfl⟩⟩; (try first | exact ⟨rfl, _, World.drewN_drewN _ _ _⟩ | exact ⟨rfl, _, Eq.trans (World.drewN_drewN _ _ _) (congrArg (World.drewN _) (Nat.add_assoc _ _ _))⟩)) | (go_at_call 70; (with_reducible refine (jigsawref06_in.calls k _ _ d 0 1000000 true _ ?side1 ?side2 A6.out).mono ?_); (case side1 => repeat (first | exact (cb_ M.out bel_) | (with_reducible refine Kd.C_alloc ?_ _) | (with_reducible refine Kd.C_drewN ?_ _) | (with_reducible refine Kd.C_drew ?_))); (case side2 => exact U.out); rintro e w' ⟨rfl, ⟨nd, rfl⟩⟩; (try first | exact ⟨rfl, _, World.drewN_drewN _ _ _⟩ | exact ⟨rfl, _, Eq.trans (World.drewN_drewN _ _ _) (congrArg (World.drewN _) (Nat.add_assoc _ _ _))⟩))))
 go_loopg [9] k (fun kq v9 w' => ∃ (O : Int), v9 = .int .i64 O ∧ Aside0 (jigsawref06_Coefs.l0 kq O m p q b c d o n = some r) ∧ Aside0 (kq ≤ k) ∧ Aside0 (w'.heap[s]? = some (.cells #[.int .i64 m, (.slice u p.length c0_1), (.slice v q.length c0_2), (.slice x b.length c0_3), (.slice B c.length c0_4), (.slice E d.length c0_5), .int .i64 o, (.slice y n.length c0_7)] 32 (0, 0))) ∧ Aside0 (Below w.heap.size w w'))
 case atStart => exact ⟨(0), eq_, H', ⟨lr_ _⟩, ⟨bk_ g.out⟩, ⟨bel_⟩⟩
 clear H'
 try clear c1
 try clear c2
 try clear c2b0
 try clear c2b1
 try clear p2
 try clear c3
 try clear c3b0
 try clear c3b1
 try clear c7
 try clear c8
 try clear c9
 try clear c10
 try clear c10b0
 try clear c11
 try clear c11b0
 obtain ⟨O, rfl, HA, aj, g, HB⟩ := hrel
 cases gk with
 | zero => exact absurd HA.out (by simp [jigsawref06_Coefs.l0])
 | succ k1 =>
  have H := HA.out
  clear HA
  simp only [jigsawref06_Coefs.l0] at H
  by_cases c14 : O < (n.length : Int)
  ·
   rw [ip_ c14] at H
   exact ab_ H
  rw [ig_ c14] at H
  have c14b0 : decide (O < (n.length : Int)) = false := df_ c14
  clear c14
  have H' := a_ H
  clear H
  obtain ⟨_, _, _, _, _, _, _, _, _, _, _, _, _, _, _, _⟩ := cel8_ g.out
  go_wp2
  repeat (go_quiet (fail); try go_wp2)
  go_loopg [11] k1 (fun kq aF w' => ∃ (a : Int), aF = .int .i64 a ∧ Aside0 (jigsawref06_Coefs.l1 kq a m p q b c d o n = some r) ∧ Aside0 (kq ≤ k1) ∧ Aside0 (w'.heap[s]? = some (.cells #[.int .i64 m, (.slice u p.length c0_1), (.slice v q.length c0_2), (.slice x b.length c0_3), (.slice B c.length c0_4), (.slice E d.length c0_5), .int .i64 o, (.slice y n.length c0_7)] 32 (0, 0))) ∧ Aside0 (Below w.heap.size w w'))
  case atStart => exact ⟨(0), eq_, H', ⟨lr_ _⟩, ⟨bk_ g.out⟩, ⟨bel_⟩⟩
  clear H'
  try clear c1
  try clear c2
  try clear c2b0
  try clear c2b1
  try clear p2
  try clear c3
  try clear c3b0
  try clear c3b1
  try clear c7
  try clear c8
  try clear c9
  try clear c10
  try clear c10b0
  try clear c11
  try clear c11b0
  try clear c14
  try clear c14b0
  try clear p2
  obtain ⟨a, rfl, HA, ak, g, HB⟩ := hrel
  cases gk with
  | zero => exact absurd HA.out (by simp [jigsawref06_Coefs.l1])
  | succ k2 =>
   have H := HA.out
   clear HA
   simp only [jigsawref06_Coefs.l1] at H
   by_cases c16 : m = 21
   rotate_left
   ·
    rw [ig_ c16] at H
    exact ab_ H
   rw [ip_ c16] at H
   have c16b0 : (m == 21) = true := beq_iff_eq.mpr c16
   have c16b1 : (m != 21) = false := bn_.mpr c16
   clear c16
   by_cases c17 : a < (b.length : Int)
   rotate_left
   ·
    rw [ig_ c17] at H
    have c17b0 : decide (a < (b.length : Int)) = false := df_ c17
    clear c17
    obtain rfl := si_ H
    obtain ⟨_, _, _, _, _, _, _, _, _, _, _, _, _, _, _, _⟩ := cel8_ g.out
    go_wp2
    repeat (go_quiet (fail); try go_wp2)
    go_ret
    exact ⟨er_, bel_⟩
   rw [ip_ c17] at H
   have c17b0 : decide (a < (b.length : Int)) = true := dt_ c17
   clear c17
   by_cases c18 : 0 ≤ a
   rotate_left
   ·
    rw [ig_ c18] at H
    exact ab_ H
   rw [ip_ c18] at H
   have c18b0 : decide (0 ≤ a) = true := dt_ c18
   clear c18
   by_cases c19 : a < (c.length : Int)
   rotate_left
   ·
    rw [ig_ c19] at H
    exact ab_ H
   rw [ip_ c19] at H
   have c19b0 : decide (a < (c.length : Int)) = true := dt_ c19
   clear c19
   by_cases c20 : a < (d.length : Int)
   rotate_left
   ·
    rw [ig_ c20] at H
    exact ab_ H
   rw [ip_ c20] at H
   have c20b0 : decide (a < (d.length : Int)) = true := dt_ c20
   clear c20
   by_cases c21 : (rd c a) > (rd d a)
   ·
    rw [ip_ c21] at H
    exact ab_ H
   rw [ig_ c21] at H
   have c21b0 : decide ((rd d a) < (rd c a)) = false := df_ c21
   clear c21
   have H' := a_ H
   clear H
   obtain ⟨_, _, _, _, _, _, _, _, _, _, _, _, _, _, _, _⟩ := cel8_ g.out
   have p530 : 0 ≤ (a : Int) := dq_
   have V : a < (c.length : Int) := dq_
   obtain ⟨ap, aB, z⟩ := ai_ K.out a p530 V
   cases aB
   replace z := hx_ HB z
   replace p530 := et_ p530
   replace V := et_ V
   have p531 : 0 ≤ (a : Int) := dq_
   have W : a < (d.length : Int) := dq_
   obtain ⟨aq, aC, A⟩ := ai_ M.out a p531 W
   cases aC
   replace A := hx_ HB A
   replace p531 := et_ p531
   replace W := et_ W
   go_wp2
   repeat (go_quiet (fail); try go_wp2)
   go_loopg [12] k2 (fun kq aG w' => ∃ (l : Int), aG = .int .i64 l ∧ Aside0 (jigsawref06_Coefs.l2 kq a l m p q b c d o n = some r) ∧ Aside0 (kq ≤ k2) ∧ Aside0 (w'.heap[s]? = some (.cells #[.int .i64 m, (.slice u p.length c0_1), (.slice v q.length c0_2), (.slice x b.length c0_3), (.slice (some ap) c.length c0_4), (.slice (some aq) d.length c0_5), .int .i64 o, (.slice y n.length c0_7)] 32 (0, 0))) ∧ Aside0 (Below w.heap.size w w'))
   case atStart => exact ⟨(0), eq_, H', ⟨lr_ _⟩, ⟨bk_ g.out⟩, ⟨bel_⟩⟩
   clear H'
   try clear c1
   try clear c2
   try clear c2b0
   try clear c2b1
   try clear p2
   try clear c3
   try clear c3b0
   try clear c3b1
   try clear p5
   try clear q5
   try clear aL
   try clear c7
   try clear c8
   try clear c9
   try clear c10
   try clear c10b0
   try clear c11
   try clear c11b0
   try clear c14
   try clear c14b0
   try clear c16
   try clear c16b0
   try clear c16b1
   try clear c17
   try clear c17b0
   try clear c18
   try clear c18b0
   try clear c19
   try clear c19b0
   try clear c20
   try clear c20b0
   try clear c21
   try clear c21b0
   try clear z
   try clear A
   try clear p2
   try clear p530
   try clear p531
   try clear V
   try clear W
   obtain ⟨l, rfl, HA, al, g, HB⟩ := hrel
   cases gk with
   | zero => exact absurd HA.out (by simp [jigsawref06_Coefs.l2])
   | succ k3 =>
    have H := HA.out
    clear HA
    simp only [jigsawref06_Coefs.l2] at H
    by_cases c23 : l < a
    rotate_left
    ·
     rw [ig_ c23] at H
     have c23b0 : decide (l < a) = false := df_ c23
     clear c23
     have H' := a_ H
     clear H
     go_wp2
     repeat (go_quiet (fail); try go_wp2)
     go_roundg k3
     case measure => have := aj.out; have := ak.out; have := al.out; omega
     exact ⟨(wrap64 (a + 1)), eq_, H', ⟨by have := aj.out; have := ak.out; have := al.out; omega⟩, ⟨bk_ g.out⟩, ⟨bel_⟩⟩
    rw [ip_ c23] at H
    have c23b0 : decide (l < a) = true := dt_ c23
    clear c23
    by_cases c24 : 0 ≤ a
    rotate_left
    ·
     rw [ig_ c24] at H
     exact ab_ H
    rw [ip_ c24] at H
    have c24b0 : decide (0 ≤ a) = true := dt_ c24
    clear c24
    by_cases c25 : a < (b.length : Int)
    rotate_left
    ·
     rw [ig_ c25] at H
     exact ab_ H
    rw [ip_ c25] at H
    have c25b0 : decide (a < (b.length : Int)) = true := dt_ c25
    clear c25
    by_cases c26 : 0 ≤ l
    rotate_left
    ·
     rw [ig_ c26] at H
     exact ab_ H
    rw [ip_ c26] at H
    have c26b0 : decide (0 ≤ l) = true := dt_ c26
    clear c26
    by_cases c27 : l < (b.length : Int)
    rotate_left
    ·
     rw [ig_ c27] at H
     exact ab_ H
    rw [ip_ c27] at H
    have c27b0 : decide (l < (b.length : Int)) = true := dt_ c27
    clear c27
    by_cases c28 : (rd b a) = (rd b l)
    ·
     rw [ip_ c28] at H
     exact ab_ H
    rw [ig_ c28] at H
    have c28b0 : ((rd b a) == (rd b l)) = false := be_.mpr c28
    have c28b1 : ((rd b a) != (rd b l)) = true := ni_.mpr c28
    have H' := a_ H
    clear H
    obtain ⟨_, _, _, _, _, _, _, _, _, _, _, _, _, _, _, _⟩ := cel8_ g.out
    have p532 : 0 ≤ (a : Int) := dq_
    have X : a < (b.length : Int) := dq_
    obtain ⟨ar, aD, I⟩ := ai_ F.out a p532 X
    cases aD
    replace I := hx_ HB I
    replace p532 := et_ p532
    replace X := et_ X
    have p533 : 0 ≤ (l : Int) := dq_
    have Y : l < (b.length : Int) := dq_
    obtain ⟨au, aE, J⟩ := ai_ F.out l p533 Y
    obtain rfl : ar = au := (by injection aE)
    replace J := hx_ HB J
    replace p533 := et_ p533
    replace Y := et_ Y
    go_wp2
    repeat (go_quiet (fail); try go_wp2)
    go_roundg k3
    case measure => have := aj.out; have := ak.out; have := al.out; omega
    exact ⟨(wrap64 (l + 1)), eq_, H', ⟨by have := aj.out; have := ak.out; have := al.out; omega⟩, ⟨bk_ g.out⟩, ⟨bel_⟩⟩

end Go.Proofs.YtijjhobjmehhoaaGreatDoor.XGccFilters
