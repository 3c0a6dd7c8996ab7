-- by xprint.py, a program of this session, over the kit's print
import Derived.Test.YtmhchlbbfpmdgaaGreatDoorXCRex0
import Derived.Test.YtmhchlbbfpmdgaaGreatDoorXCRex1
import Derived.Test.YtmhchlbbfpmdgaaGreatDoorSq
namespace Go.Proofs.YtmhchlbbfpmdgaaGreatDoor.XClauseRefuses
open Go.RowKit Go.Proofs.YtmhchlbbfpmdgaaGreatDoor.Sq Go.Proofs.YtmhchlbbfpmdgaaGreatDoorW.PrintWords Go.Proofs.YtmhchlbbfpmdgaaGreatDoorW.PrintLast Go.Proofs.YtmhchlbbfpmdgaaGreatDoorW.PrintMore
attribute [local go_sem] max2_int min2_int max_two min_two max_three min_three max_four min_four   -- for this text's walks alone
set_option linter.unusedVariables false
set_option linter.unusedSimpArgs false

/-! ### jigsawlaw14_ClauseRefuses_1: function 17 -/
def jigsawlaw14_ClauseRefuses_1.f (a : List Int) : Option (List Int) := if 0 ≤ (mn (a.length : Int) 5) then (if (mn (a.length : Int) 5) ≤ (a.length : Int) then (some (a.take ((mn (a.length : Int) 5) : Int).toNat)) else (none)) else (none)
set_option maxHeartbeats 8000000 in
set_option maxRecDepth 100000 in
theorem jigsawlaw14_ClauseRefuses_1.calls (P0_ : Nat → Prop) (o : Option Addr) (c0 : Nat) (b : List Int) (r : List Int) (w : World) (y : Kd.V (Kd.int .i64) 3 w w.heap.size (fun l => P0_ l) (.slice o b.length c0) b) (h : jigsawlaw14_ClauseRefuses_1.f b = some r) :
  Calls Tryz.prog 17 #[.slice o b.length c0] w fun e w' => ∃ u : Value, e = .returned (u) ∧ Kd.V (Kd.int .i64) 3 w' w.heap.size (fun l => (P0_ l ∨ w.heap.size ≤ l)) u r ∧ Below w.heap.size w w' := by
 have v := a_ (show Kd.V (Kd.int .i64) 3 w w.heap.size (fun l => (P0_ l ∨ w.heap.size ≤ l)) (.slice o b.length c0) b from vm_ y (fun l hk => .inl hk))
 have HB := a_ (Below.refl w.heap.size w)
 unfold jigsawlaw14_ClauseRefuses_1.f at h
 have H := h
 clear h
 obtain ⟨a, d⟩ : ∃ j_ : Int, (mn (b.length : Int) 5) = j_ := ⟨_, rfl⟩
 replace H : (if 0 ≤ (a) then (if (a) ≤ (b.length : Int) then (some (b.take ((a) : Int).toNat)) else (none)) else (none)) = some r := by first | (rw [d] at H; exact H) | (simp only [d] at H ⊢; exact H)
 (try (have hji2h : a ≤ 5 := by (rw [← d]; unfold mn; (repeat' split) <;> omega)))
 (try (have hji2g : a ≤ 64 := by omega))
 (try (have hji2l : 0 ≤ a := by (rw [← d]; unfold mn; (repeat' split) <;> omega)))
 (try (have hji2m : 0 ≤ a := by omega))
 have z : (if 5 < (b.length : Int) then 5 else (b.length : Int)) = a := d
 by_cases c3 : 0 ≤ (a)
 rotate_left
 ·
  rw [ig_ c3] at H
  exact absurd H (by simp)
 rw [ip_ c3] at H
 have c3b0 := et_ c3
 have c3b1 : decide (0 ≤ (a)) = true := dt_ c3
 clear c3
 by_cases c4 : (a) ≤ (b.length : Int)
 rotate_left
 ·
  rw [ig_ c4] at H
  exact absurd H (by simp)
 rw [ip_ c4] at H
 have c4b0 := et_ c4
 have c4b1 : decide ((a) ≤ (b.length : Int)) = true := dt_ c4
 clear c4
 obtain ⟨g, c⟩ : ∃ y_ : List Int, y_ = (b.take ((a) : Int).toNat) := ⟨_, rfl⟩
 replace H : (some g) = some r := by first | (rw [c]; with_reducible exact H) | (have H2_ := (ob_ _ _).symm.trans H; rw [c]; with_reducible exact H2_) | (have H2_ := (ob_ _ _).symm.trans H; with_reducible exact H2_) | with_reducible exact H | (rw [c]; exact H) | exact H
 have n := a_ c
 clear c
 obtain rfl := si_ H
 have x : ((a) : Int) ≤ ((b.length : Int) : Int) := dq_
 obtain ⟨i05, p, _, hsz5, _⟩ := info_parts info3
 have hroom5 : b.length ≤ c0 := (Kd.V_reads' v.out).2.1
 have hC5 : Kd.F (Kd.int .i64) _ _ o b.length b := (Kd.V_at (base := w.heap.size) v.out).2.2
 have hcut5 := cut_to (P := Tryz.prog) 30 3 .i64 Tryz.underlying30 p o b.length c0 (a) (dq_) x hroom5
 have q := Kd.F_take (m := ((a) : Int).toNat) hC5 (by omega)
 have s : g.length = ((a) : Int).toNat := (by rw [n.out, List.length_take]; omega)
 rw [← n.out] at q
 rw [← s] at hcut5
 have t := a_ (show Kd.V (Kd.int .i64) 3 _ w.heap.size _ (.slice o g.length c0) g from Kd.V_mk (by omega) q)
 have A := a_ (show g.length ≤ c0 from by omega)
 clear q hC5 hroom5 p hsz5
 have KY5 := a_ s
 clear s
 replace x := et_ x
 go_enter Tryz.func17, Tryz.ntmps17
 go_wp2
 go_ret
 exact ⟨_, by first | rfl | (simp [errW_none, errW_some] <;> rfl) | (simp only [← d]; first | rfl | (simp [errW_none, errW_some] <;> rfl)) | (simp [*, errW_none, errW_some] <;> rfl), vV_ t.out, bel_⟩

/-! ### jigsawref06_Arity: function 67 -/
def jigsawref06_Arity.j0 : Nat → Int → Int → Bool → Int → List Int → List Int → List Int → List Int → List Int → Int → List (List Int) → Option (Bool)
 | 0, _, _, _, _, _, _, _, _, _, _, _ => none
 | k + 1, m, n, o, a, f, g, b, c, d, l, e => if o = true then (some false) else (if a = 12 then (if (wrap64 (m + n)) ≥ 1 then (if m ≤ 64 then (if n ≤ 64 then (if (b.length : Int) = 0 then (if (c.length : Int) = 0 then (if (d.length : Int) = 0 then (some ((e.length : Int) == 0)) else (some false)) else (some false)) else (some false)) else (some false)) else (some false)) else (some false)) else (none))
def jigsawref06_Arity.f (k : Nat) (d : Int) (a : List Int) (b : List Int) (e : List Int) (g : List Int) (l : List Int) (c : Int) (m : List (List Int)) (o : ByteArray) : Option (Bool) := if c = 0 then (jigsawref06_Arity.j0 k (a.length : Int) (b.length : Int) false d a b e g l c m) else ((jigsawref06_has.f k o 107).bind fun n => (jigsawref06_Arity.j0 k (a.length : Int) (b.length : Int) (n == 0) d a b e g l c m))
theorem jigsawref06_Arity.mono_l : ∀ k, (∀ b c d e f g l m n o a, LeO (jigsawref06_Arity.j0 k b c d e f g l m n o a) (jigsawref06_Arity.j0 (k + 1) b c d e f g l m n o a))
 | 0 => by intros; exact LeO.none _
 | k + 1 => by
  have ih0 := jigsawref06_Arity.mono_l k
  intro b c d e f g l m n o a
  unfold jigsawref06_Arity.j0
  have m0 := @jigsawref06_has.mono
  exact leo_
theorem jigsawref06_Arity.mono : ∀ a b c d e g l m n k, LeO (jigsawref06_Arity.f k a b c d e g l m n) (jigsawref06_Arity.f (k + 1) a b c d e g l m n) := by
 intro a b c d e g l m n k
 have ih0 := jigsawref06_Arity.mono_l k
 unfold jigsawref06_Arity.f
 have m0 := @jigsawref06_has.mono
 exact leo_
set_option maxHeartbeats 8000000 in
set_option maxRecDepth 100000 in
theorem jigsawref06_Arity.calls (k : Nat) (n : Int) (s : Option Addr) (c0_1 : Nat) (b : List Int) (u : Option Addr) (c0_2 : Nat) (c : List Int) (v : Option Addr) (c0_3 : Nat) (d : List Int) (x : Option Addr) (c0_4 : Nat) (g : List Int) (y : Option Addr) (c0_5 : Nat) (l : List Int) (m : Int) (z : Option Addr) (c0_7 : Nat) (o : List (List Int)) (O : ByteArray) (r : Bool) (w : World) (Q : Kd.C (Kd.int .i64) w s b.length b) (E : b.length ≤ c0_1) (U : Kd.C (Kd.int .i64) w u c.length c) (F : c.length ≤ c0_2) (V : Kd.C (Kd.int .i64) w v d.length d) (G : d.length ≤ c0_3) (W : Kd.C (Kd.int .i64) w x g.length g) (I : g.length ≤ c0_4) (X : Kd.C (Kd.int .i64) w y l.length l) (J : l.length ≤ c0_5) (Y : Kd.C (Kd.slice 3 (Kd.int .i64)) w z o.length o) (K : o.length ≤ c0_7) (h : jigsawref06_Arity.f k n b c d g l m o O = some r) :
  Calls Tryz.prog 67 #[.agg #[.int .i64 n, .slice s b.length c0_1, .slice u c.length c0_2, .slice v d.length c0_3, .slice x g.length c0_4, .slice y l.length c0_5, .int .i64 m, .slice z o.length c0_7], .string O] w fun e w' => e = .returned (.bool r) ∧ Below w.heap.size w w' := by
 have hu32 := Tryz.underlying32
 have ab := a_ E
 clear Q E
 have ac := a_ F
 clear U F
 have ad := a_ G
 clear V G
 have ae := a_ I
 clear W I
 have af := a_ J
 clear X J
 have ag := a_ K
 clear Y K
 have HB := a_ (Below.refl w.heap.size w)
 unfold jigsawref06_Arity.f at h
 have H := h
 clear h
 have P := a_ H
 clear H
 go_enter Tryz.func67, Tryz.ntmps67
 go_upto_region 3 with (first | ((with_reducible refine gate_dst (N := 2) rfl ?_); (try (refine gate_guard (by rfl) ?_; dsimp only)); refine bxe_ (N := 2) (cs := #[.int .i64 n, .slice s b.length c0_1, .slice u c.length c0_2, .slice v d.length c0_3, .slice x g.length c0_4, .slice y l.length c0_5, .int .i64 m, .slice z o.length c0_7]) (t := 32) ?_; intro p hg w4 hbox hb; have a := a_ (hbox); have q := a_ (by rw [hg]; exact (bz_ bel_) : w.heap.size ≤ p); have M := q; replace HB := hq_ hb; clear hb hbox hg; obtain ⟨_, _, _, _, _, _, _, _, _, _, _, _, _, _, _, _⟩ := cel8_ a.out))
 repeat (go_quiet (first | ((with_reducible refine gate_dst (N := 2) rfl ?_); (try (refine gate_guard (by rfl) ?_; dsimp only)); refine bxe_ (N := 2) (cs := #[.int .i64 n, .slice s b.length c0_1, .slice u c.length c0_2, .slice v d.length c0_3, .slice x g.length c0_4, .slice y l.length c0_5, .int .i64 m, .slice z o.length c0_7]) (t := 32) ?_; intro p hg w4 hbox hb; have a := a_ (hbox); have q := a_ (by rw [hg]; exact (bz_ bel_) : w.heap.size ≤ p); have M := q; replace HB := hq_ hb; clear hb hbox hg; obtain ⟨_, _, _, _, _, _, _, _, _, _, _, _, _, _, _, _⟩ := cel8_ a.out)); go_upto_region 3 with (first | ((with_reducible refine gate_dst (N := 2) rfl ?_); (try (refine gate_guard (by rfl) ?_; dsimp only)); refine bxe_ (N := 2) (cs := #[.int .i64 n, .slice s b.length c0_1, .slice u c.length c0_2, .slice v d.length c0_3, .slice x g.length c0_4, .slice y l.length c0_5, .int .i64 m, .slice z o.length c0_7]) (t := 32) ?_; intro p hg w4 hbox hb; have a := a_ (hbox); have q := a_ (by rw [hg]; exact (bz_ bel_) : w.heap.size ≤ p); have M := q; replace HB := hq_ hb; clear hb hbox hg; obtain ⟨_, _, _, _, _, _, _, _, _, _, _, _, _, _, _, _⟩ := cel8_ a.out)))
 (try simp only [Act.put, List.setIfInBounds_toArray, List.set_cons_zero, List.set_cons_succ])
 go_cut [26] (fun aa wc => ∃ (kq : Nat) (A : Bool), aa = .bool A ∧ Aside0 (jigsawref06_Arity.j0 kq (b.length : Int) (c.length : Int) A n b c d g l m o = some r) ∧ Aside0 (kq ≤ k) ∧ Aside0 (wc.heap[p]? = some (.cells #[.int .i64 n, (.slice s b.length c0_1), (.slice u c.length c0_2), (.slice v d.length c0_3), (.slice x g.length c0_4), (.slice y l.length c0_5), .int .i64 m, (.slice z o.length c0_7)] 32 (0, 0))) ∧ Aside0 (Below w.heap.size w wc))
 case first =>
  have H := P.out
  clear P
  by_cases c6 : m = 0
  ·
   rw [ip_ c6] at H
   have c6b0 : (m == 0) = true := beq_iff_eq.mpr c6
   have c6b1 : (m != 0) = false := bn_.mpr c6
   clear c6
   (first | rw [c6b0] | (simp only [i64_w, i32_w]; rw [c6b0]) | skip)
   have H' := a_ H
   clear H
   obtain ⟨_, _, _, _, _, _, _, _, _, _, _, _, _, _, _, _⟩ := cel8_ a.out
   go_wp2
   repeat (go_quiet (fail); try go_wp2)
   go_meet
   exact ⟨_, (false), eq_, H', ⟨by first | omega | exact lr_ _⟩, ⟨bk_ a.out⟩, ⟨bel_⟩⟩
  rw [ig_ c6] at H
  have c6b0 : (m == 0) = false := be_.mpr c6
  have c6b1 : (m != 0) = true := ni_.mpr c6
  (first | rw [c6b0] | (simp only [i64_w, i32_w]; rw [c6b0]) | skip)
  replace H := bo_ H
  obtain ⟨B, Z, H⟩ := H
  try dsimp only at H
  have H' := a_ H
  clear H
  obtain ⟨_, _, _, _, _, _, _, _, _, _, _, _, _, _, _, _⟩ := cel8_ a.out
  go_wp2_with (first | (go_at_call 37; (with_reducible refine (jigsawref06_has.calls k O 107 B _ Z.out).mono ?_); rintro e w' ⟨rfl, ⟨nd, rfl⟩⟩; (try first | exact ⟨rfl, _, World.drewN_drewN _ _ _⟩ | exact ⟨rfl, _, Eq.trans (World.drewN_drewN _ _ _) (congrArg (World.drewN _) (Nat.add_assoc _ _ _))⟩)))
  repeat (go_quiet (first | (go_at_call 37; (with_reducible refine (jigsawref06_has.calls k O 107 B _ Z.out).mono ?_); rintro e w' ⟨rfl, ⟨nd, rfl⟩⟩; (try first | exact ⟨rfl, _, World.drewN_drewN _ _ _⟩ | exact ⟨rfl, _, Eq.trans (World.drewN_drewN _ _ _) (congrArg (World.drewN _) (Nat.add_assoc _ _ _))⟩))); try go_wp2_with (first | (go_at_call 37; (with_reducible refine (jigsawref06_has.calls k O 107 B _ Z.out).mono ?_); rintro e w' ⟨rfl, ⟨nd, rfl⟩⟩; (try first | exact ⟨rfl, _, World.drewN_drewN _ _ _⟩ | exact ⟨rfl, _, Eq.trans (World.drewN_drewN _ _ _) (congrArg (World.drewN _) (Nat.add_assoc _ _ _))⟩))))
  go_meet
  exact ⟨_, ((B == 0)), eq_, H', ⟨by first | omega | exact lr_ _⟩, ⟨bk_ a.out⟩, ⟨bel_⟩⟩
 clear P
 try clear p2
 try clear c6
 try clear c6b0
 try clear c6b1
 obtain ⟨kq, A, rfl, HA, ah, a, HB⟩ := hcut
 cases kq with
 | zero => exact absurd HA.out (by simp [jigsawref06_Arity.j0])
 | succ kj2 =>
  have H := HA.out
  clear HA
  simp only [jigsawref06_Arity.j0] at H
  by_cases c10 : A = true
  ·
   subst c10
   rw [ip_ rfl] at H
   obtain rfl := si_ H
   go_wp2
   repeat (go_quiet (fail); try go_wp2)
   go_ret
   exact ⟨er_, bel_⟩
  replace c10 := bf_.mpr c10
  subst c10
  have H1 : (if n = 12 then (if (wrap64 ((b.length : Int) + (c.length : Int))) ≥ 1 then (if (b.length : Int) ≤ 64 then (if (c.length : Int) ≤ 64 then (if (d.length : Int) = 0 then (if (g.length : Int) = 0 then (if (l.length : Int) = 0 then (some ((o.length : Int) == 0)) else (some false)) else (some false)) else (some false)) else (some false)) else (some false)) else (some false)) else (none)) = some r := by rw [ig_ (show ¬ (false = true) by decide)] at H; exact H
  clear H
  have H := H1
  clear H1
  by_cases c11 : n = 12
  rotate_left
  ·
   rw [ig_ c11] at H
   exact absurd H (by simp)
  rw [ip_ c11] at H
  have c11b0 : (n == 12) = true := beq_iff_eq.mpr c11
  have c11b1 : (n != 12) = false := bn_.mpr c11
  clear c11
  by_cases c12 : (wrap64 ((b.length : Int) + (c.length : Int))) ≥ 1
  rotate_left
  ·
   rw [ig_ c12] at H
   have c12b0 : decide (1 ≤ (wrap64 ((b.length : Int) + (c.length : Int)))) = false := df_ c12
   clear c12
   obtain rfl := si_ H
   obtain ⟨_, _, _, _, _, _, _, _, _, _, _, _, _, _, _, _⟩ := cel8_ a.out
   go_wp2
   repeat (go_quiet (fail); try go_wp2)
   go_ret
   exact ⟨er_, bel_⟩
  rw [ip_ c12] at H
  have c12b0 : decide (1 ≤ (wrap64 ((b.length : Int) + (c.length : Int)))) = true := dt_ c12
  clear c12
  by_cases c13 : (b.length : Int) ≤ 64
  rotate_left
  ·
   rw [ig_ c13] at H
   have c13b0 : decide ((b.length : Int) ≤ 64) = false := df_ c13
   have c13b1 : decide (b.length ≤ 64) = false := df_ (by omega)
   clear c13
   obtain rfl := si_ H
   obtain ⟨_, _, _, _, _, _, _, _, _, _, _, _, _, _, _, _⟩ := cel8_ a.out
   go_wp2
   repeat (go_quiet (fail); try go_wp2)
   go_ret
   exact ⟨er_, bel_⟩
  rw [ip_ c13] at H
  have c13b0 : decide ((b.length : Int) ≤ 64) = true := dt_ c13
  have c13b1 : decide (b.length ≤ 64) = true := dt_ (by omega)
  clear c13
  by_cases c14 : (c.length : Int) ≤ 64
  rotate_left
  ·
   rw [ig_ c14] at H
   have c14b0 : decide ((c.length : Int) ≤ 64) = false := df_ c14
   have c14b1 : decide (c.length ≤ 64) = false := df_ (by omega)
   clear c14
   obtain rfl := si_ H
   obtain ⟨_, _, _, _, _, _, _, _, _, _, _, _, _, _, _, _⟩ := cel8_ a.out
   go_wp2
   repeat (go_quiet (fail); try go_wp2)
   go_ret
   exact ⟨er_, bel_⟩
  rw [ip_ c14] at H
  have c14b0 : decide ((c.length : Int) ≤ 64) = true := dt_ c14
  have c14b1 : decide (c.length ≤ 64) = true := dt_ (by omega)
  clear c14
  by_cases c15 : (d.length : Int) = 0
  rotate_left
  ·
   rw [ig_ c15] at H
   have c15b0 : ((d.length : Int) == 0) = false := be_.mpr c15
   have c15b1 : ((d.length : Int) != 0) = true := ni_.mpr c15
   have c15b2 : ¬ (d = []) := fun h_ => c15 (by rw [h_]; rfl)
   obtain rfl := si_ H
   obtain ⟨_, _, _, _, _, _, _, _, _, _, _, _, _, _, _, _⟩ := cel8_ a.out
   go_wp2
   repeat (go_quiet (fail); try go_wp2)
   go_ret
   exact ⟨er_, bel_⟩
  rw [ip_ c15] at H
  have c15b0 : ((d.length : Int) == 0) = true := beq_iff_eq.mpr c15
  have c15b1 : ((d.length : Int) != 0) = false := bn_.mpr c15
  clear c15
  by_cases c16 : (g.length : Int) = 0
  rotate_left
  ·
   rw [ig_ c16] at H
   have c16b0 : ((g.length : Int) == 0) = false := be_.mpr c16
   have c16b1 : ((g.length : Int) != 0) = true := ni_.mpr c16
   have c16b2 : ¬ (g = []) := fun h_ => c16 (by rw [h_]; rfl)
   obtain rfl := si_ H
   obtain ⟨_, _, _, _, _, _, _, _, _, _, _, _, _, _, _, _⟩ := cel8_ a.out
   go_wp2
   repeat (go_quiet (fail); try go_wp2)
   go_ret
   exact ⟨er_, bel_⟩
  rw [ip_ c16] at H
  have c16b0 : ((g.length : Int) == 0) = true := beq_iff_eq.mpr c16
  have c16b1 : ((g.length : Int) != 0) = false := bn_.mpr c16
  clear c16
  by_cases c17 : (l.length : Int) = 0
  ·
   rw [ip_ c17] at H
   have c17b0 : ((l.length : Int) == 0) = true := beq_iff_eq.mpr c17
   have c17b1 : ((l.length : Int) != 0) = false := bn_.mpr c17
   clear c17
   obtain rfl := si_ H
   obtain ⟨_, _, _, _, _, _, _, _, _, _, _, _, _, _, _, _⟩ := cel8_ a.out
   go_wp2
   repeat (go_quiet (fail); try go_wp2)
   go_ret
   exact ⟨er_, bel_⟩
  rw [ig_ c17] at H
  have c17b0 : ((l.length : Int) == 0) = false := be_.mpr c17
  have c17b1 : ((l.length : Int) != 0) = true := ni_.mpr c17
  have c17b2 : ¬ (l = []) := fun h_ => c17 (by rw [h_]; rfl)
  obtain rfl := si_ H
  obtain ⟨_, _, _, _, _, _, _, _, _, _, _, _, _, _, _, _⟩ := cel8_ a.out
  go_wp2
  repeat (go_quiet (fail); try go_wp2)
  go_ret
  exact ⟨er_, bel_⟩

/-! ### jigsawref06_in: function 68 -/
def jigsawref06_in.l0 : Nat → List Int → Int → Int → Int → Option (Bool)
 | 0, _, _, _, _ => none
 | k + 1, b, c, d, a => if a < (b.length : Int) then (if 0 ≤ a then (if (rd b a) < c then (some false) else (if (rd b a) > d then (some false) else (jigsawref06_in.l0 k b c d (wrap64 (a + 1))))) else (none)) else (some true)
def jigsawref06_in.f (k : Nat) (a : List Int) (b : Int) (c : Int) : Option (Bool) := jigsawref06_in.l0 k a b c 0
theorem jigsawref06_in.mono_l : ∀ k, (∀ a b c d, LeO (jigsawref06_in.l0 k a b c d) (jigsawref06_in.l0 (k + 1) a b c d))
 | 0 => by intros; exact LeO.none _
 | k + 1 => by
  have ih0 := jigsawref06_in.mono_l k
  intro a b c d
  unfold jigsawref06_in.l0
  exact leo_
theorem jigsawref06_in.mono : ∀ a b c k, LeO (jigsawref06_in.f k a b c) (jigsawref06_in.f (k + 1) a b c) := by
 intro a b c k
 have ih0 := jigsawref06_in.mono_l k
 unfold jigsawref06_in.f
 exact leo_
set_option maxHeartbeats 8000000 in
set_option maxRecDepth 100000 in
theorem jigsawref06_in.calls (k : Nat) (y : Option Addr) (c0 : Nat) (c : List Int) (q : Int) (s : Int) (r : Bool) (w : World) (u : Kd.C (Kd.int .i64) w y c.length c) (v : c.length ≤ c0) (h : jigsawref06_in.f k c q s = some r) :
  Calls Tryz.prog 68 #[.slice y c.length c0, .int .i64 q, .int .i64 s] w fun e w' => e = .returned (.bool r) ∧ Drawn0 w w' := by
 have o := a_ u
 have A := a_ v
 clear u v
 unfold jigsawref06_in.f at h
 have H := h
 clear h
 have H' := a_ H
 clear H
 go_enter Tryz.func68, Tryz.ntmps68
 go_wp2
 go_loopg [7] k (fun kq z w' => ∃ (a : Int), z = .int .i64 a ∧ Aside0 (jigsawref06_in.l0 kq c q s a = some r) ∧ Aside0 (kq ≤ k) ∧ Drawn0 w w')
 case atStart => exact ⟨(0), eq_, H', ⟨lr_ _⟩, by repeat (first | exact d0_ _ | apply Drawn0.step)⟩
 clear H'
 try clear p2
 obtain ⟨a, rfl, HA, x, ⟨m1, rfl⟩⟩ := hrel
 cases gk with
 | zero => exact absurd HA.out (by simp [jigsawref06_in.l0])
 | succ k1 =>
  have H := HA.out
  clear HA
  simp only [jigsawref06_in.l0] at H
  by_cases c4 : a < (c.length : Int)
  rotate_left
  ·
   rw [ig_ c4] at H
   have c4b0 : decide (a < (c.length : Int)) = false := df_ c4
   clear c4
   obtain rfl := si_ H
   go_wp2
   go_ret
   exact ⟨by first | rfl | (simp; done) | (simp [*]; done), by repeat (first | exact d0_ _ | apply Drawn0.step)⟩
  rw [ip_ c4] at H
  have c4b0 : decide (a < (c.length : Int)) = true := dt_ c4
  clear c4
  by_cases c5 : 0 ≤ a
  rotate_left
  ·
   rw [ig_ c5] at H
   exact absurd H (by simp)
  rw [ip_ c5] at H
  have c5b0 : decide (0 ≤ a) = true := dt_ c5
  clear c5
  by_cases c6 : (rd c a) < q
  ·
   rw [ip_ c6] at H
   have c6b0 : decide ((rd c a) < q) = true := dt_ c6
   clear c6
   obtain rfl := si_ H
   have p539 : 0 ≤ (a : Int) := dq_
   have b : a < (c.length : Int) := dq_
   obtain ⟨g, l, m⟩ := ai_ o.out a p539 b
   cases l
   replace p539 := et_ p539
   replace b := et_ b
   go_wp2
   go_ret
   exact ⟨by first | rfl | (simp; done) | (simp [*]; done), by repeat (first | exact d0_ _ | apply Drawn0.step)⟩
  rw [ig_ c6] at H
  have c6b0 : decide ((rd c a) < q) = false := df_ c6
  clear c6
  by_cases c7 : (rd c a) > s
  ·
   rw [ip_ c7] at H
   have c7b0 : decide (s < (rd c a)) = true := dt_ c7
   clear c7
   obtain rfl := si_ H
   have p539 : 0 ≤ (a : Int) := dq_
   have b : a < (c.length : Int) := dq_
   obtain ⟨g, l, m⟩ := ai_ o.out a p539 b
   cases l
   replace p539 := et_ p539
   replace b := et_ b
   have p540 : 0 ≤ (a : Int) := dq_
   have d : a < (c.length : Int) := dq_
   obtain ⟨n, p, t⟩ := ai_ o.out a p540 d
   obtain rfl : g = n := (by injection p)
   replace p540 := et_ p540
   replace d := et_ d
   go_wp2
   go_ret
   exact ⟨by first | rfl | (simp; done) | (simp [*]; done), by repeat (first | exact d0_ _ | apply Drawn0.step)⟩
  rw [ig_ c7] at H
  have c7b0 : decide (s < (rd c a)) = false := df_ c7
  clear c7
  have H' := a_ H
  clear H
  have p539 : 0 ≤ (a : Int) := dq_
  have b : a < (c.length : Int) := dq_
  obtain ⟨g, l, m⟩ := ai_ o.out a p539 b
  cases l
  replace p539 := et_ p539
  replace b := et_ b
  have p540 : 0 ≤ (a : Int) := dq_
  have d : a < (c.length : Int) := dq_
  obtain ⟨n, p, t⟩ := ai_ o.out a p540 d
  obtain rfl : g = n := (by injection p)
  replace p540 := et_ p540
  replace d := et_ d
  go_wp2
  go_roundg k1
  case measure => have := x.out; omega
  exact ⟨(wrap64 (a + 1)), eq_, H', ⟨by have := x.out; omega⟩, by repeat (first | exact d0_ _ | apply Drawn0.step)⟩

end Go.Proofs.YtmhchlbbfpmdgaaGreatDoor.XClauseRefuses
