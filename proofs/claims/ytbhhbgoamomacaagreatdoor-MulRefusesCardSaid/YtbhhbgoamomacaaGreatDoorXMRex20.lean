-- by xprint.py, a program of this session, over the kit's print
import Derived.Test.YtbhhbgoamomacaaGreatDoorXMRex0
import Derived.Test.YtbhhbgoamomacaaGreatDoorXMRex1
import Derived.Test.YtbhhbgoamomacaaGreatDoorSq
namespace Go.Proofs.YtbhhbgoamomacaaGreatDoor.XMulRefuses
open Go.RowKit Go.Proofs.YtbhhbgoamomacaaGreatDoor.Sq Go.Proofs.YtbhhbgoamomacaaGreatDoorW.PrintWords Go.Proofs.YtbhhbgoamomacaaGreatDoorW.PrintLast Go.Proofs.YtbhhbgoamomacaaGreatDoorW.PrintMore
attribute [local go_sem] max2_int min2_int max_two min_two max_three min_three max_four min_four   -- for this text's walks alone
set_option linter.unusedVariables false
set_option linter.unusedSimpArgs false

/-! ### jigsawlaw11_MulRefuses_1: function 16 -/
def jigsawlaw11_MulRefuses_1.f (a : List Int) : Option (List Int) := if 0 ≤ (mn (a.length : Int) 5) then (if (mn (a.length : Int) 5) ≤ (a.length : Int) then (some (a.take ((mn (a.length : Int) 5) : Int).toNat)) else (none)) else (none)
set_option maxHeartbeats 8000000 in
set_option maxRecDepth 100000 in
theorem jigsawlaw11_MulRefuses_1.calls (P0_ : Nat → Prop) (o : Option Addr) (c0 : Nat) (b : List Int) (r : List Int) (w : World) (y : Kd.V (Kd.int .i64) 3 w w.heap.size (fun l => P0_ l) (.slice o b.length c0) b) (h : jigsawlaw11_MulRefuses_1.f b = some r) :
  Calls Tryz.prog 16 #[.slice o b.length c0] w fun e w' => ∃ u : Value, e = .returned (u) ∧ Kd.V (Kd.int .i64) 3 w' w.heap.size (fun l => (P0_ l ∨ w.heap.size ≤ l)) u r ∧ Below w.heap.size w w' := by
 have v := a_ (show Kd.V (Kd.int .i64) 3 w w.heap.size (fun l => (P0_ l ∨ w.heap.size ≤ l)) (.slice o b.length c0) b from vm_ y (fun l hk => .inl hk))
 have HB := a_ (Below.refl w.heap.size w)
 unfold jigsawlaw11_MulRefuses_1.f at h
 have H := h
 clear h
 obtain ⟨a, d⟩ : ∃ j_ : Int, (mn (b.length : Int) 5) = j_ := ⟨_, rfl⟩
 replace H : (if 0 ≤ (a) then (if (a) ≤ (b.length : Int) then (some (b.take ((a) : Int).toNat)) else (none)) else (none)) = some r := by first | (rw [d] at H; exact H) | (simp only [d] at H ⊢; exact H)
 (try (have hji2h : a ≤ 5 := by (rw [← d]; unfold mn; (repeat' split) <;> omega)))
 (try (have hji2g : a ≤ 64 := by omega))
 (try (have hji2l : 0 ≤ a := by (rw [← d]; unfold mn; (repeat' split) <;> omega)))
 (try (have hji2m : 0 ≤ a := by omega))
 have z : (if 5 < (b.length : Int) then 5 else (b.length : Int)) = a := d
 by_cases c3 : 0 ≤ (a)
 rotate_left
 ·
  rw [ig_ c3] at H
  exact ab_ H
 rw [ip_ c3] at H
 have c3b0 := et_ c3
 have c3b1 : decide (0 ≤ (a)) = true := dt_ c3
 clear c3
 by_cases c4 : (a) ≤ (b.length : Int)
 rotate_left
 ·
  rw [ig_ c4] at H
  exact ab_ H
 rw [ip_ c4] at H
 have c4b0 := et_ c4
 have c4b1 : decide ((a) ≤ (b.length : Int)) = true := dt_ c4
 clear c4
 obtain ⟨g, c⟩ : ∃ y_ : List Int, y_ = (b.take ((a) : Int).toNat) := ⟨_, rfl⟩
 replace H : (some g) = some r := h2_ H c
 have n := a_ c
 clear c
 obtain rfl := si_ H
 have x : ((a) : Int) ≤ ((b.length : Int) : Int) := dq_
 obtain ⟨i05, p, _, hsz5, _⟩ := info_parts info3
 have hroom5 : b.length ≤ c0 := (Kd.V_reads' v.out).2.1
 have hC5 : Kd.F (Kd.int .i64) _ _ o b.length b := (Kd.V_at (base := w.heap.size) v.out).2.2
 have hcut5 := cut_to (P := Tryz.prog) 30 3 .i64 Tryz.underlying30 p o b.length c0 (a) (dq_) x hroom5
 have q := Kd.F_take (m := ((a) : Int).toNat) hC5 (by omega)
 have s : g.length = ((a) : Int).toNat := (by rw [n.out, List.length_take]; omega)
 rw [← n.out] at q
 rw [← s] at hcut5
 have t := a_ (show Kd.V (Kd.int .i64) 3 _ w.heap.size _ (.slice o g.length c0) g from Kd.V_mk (by omega) q)
 have A := a_ (show g.length ≤ c0 from by omega)
 clear q hC5 hroom5 p hsz5
 have KY5 := a_ s
 clear s
 replace x := et_ x
 go_enter Tryz.func16, Tryz.ntmps16
 go_wp2
 go_ret
 exact ⟨_, by first | rfl | (simp [errW_none, errW_some] <;> rfl) | (simp only [← d]; first | rfl | (simp [errW_none, errW_some] <;> rfl)) | (simp [*, errW_none, errW_some] <;> rfl), vV_ t.out, bel_⟩

/-! ### jigsawref06_list: function 105 -/
def jigsawref06_list.f (a : Int) (b : Int) (c : Int) : Option (Bool) := if c > 0 then (none) else (some (a == b))
set_option maxHeartbeats 8000000 in
set_option maxRecDepth 100000 in
theorem jigsawref06_list.calls (b : Int) (c : Int) (a : Int) (r : Bool) (w : World) (h : jigsawref06_list.f b c a = some r) :
  Calls Tryz.prog 105 #[.int .i64 b, .int .i64 c, .int .i64 a] w fun e w' => e = .returned (.bool r) ∧ Drawn0 w w' := by
 unfold jigsawref06_list.f at h
 have H := h
 clear h
 by_cases c4 : a > 0
 ·
  rw [ip_ c4] at H
  exact ab_ H
 rw [ig_ c4] at H
 have c4b0 : decide (0 < a) = false := df_ c4
 clear c4
 obtain rfl := si_ H
 go_enter Tryz.func105, Tryz.ntmps105
 go_wp2
 go_ret
 exact ⟨by first | rfl | (simp; done) | (simp [*]; done), by repeat (first | exact d0_ _ | apply Drawn0.step)⟩

/-! ### jigsawref06_Arity: function 80 -/
mutual
def jigsawref06_Arity.j0 : Nat → ByteArray → Int → Int → Bool → Int → List Int → List Int → List Int → List Int → List Int → Int → List (List Int) → Option (Bool)
 | 0, _, _, _, _, _, _, _, _, _, _, _, _ => none
 | k + 1, n, C, E, B, a, e, g, b, c, d, l, m => if B = true then (some false) else (if a = 12 then (none) else ((jigsawref06_has.f k n 118).bind fun o => ((jigsawref06_has.f k n 86).bind fun p => ((jigsawref06_list.f C o p).bind fun q => ((jigsawref06_has.f k n 119).bind fun r => ((jigsawref06_has.f k n 87).bind fun s => ((jigsawref06_list.f E r s).bind fun t => ((jigsawref06_has.f k n 99).bind fun u => ((jigsawref06_list.f (b.length : Int) 0 u).bind fun v => ((jigsawref06_has.f k n 100).bind fun x => ((jigsawref06_list.f (c.length : Int) 0 x).bind fun y => ((jigsawref06_has.f k n 101).bind fun z => ((jigsawref06_list.f (d.length : Int) 0 z).bind fun A => (if q = true then (if t = true then (if v = true then (if y = true then (jigsawref06_Arity.j1 k n (!A) a e g b c d l m) else (jigsawref06_Arity.j1 k n true a e g b c d l m)) else (jigsawref06_Arity.j1 k n true a e g b c d l m)) else (jigsawref06_Arity.j1 k n true a e g b c d l m)) else (jigsawref06_Arity.j1 k n true a e g b c d l m)))))))))))))))
def jigsawref06_Arity.j1 : Nat → ByteArray → Bool → Int → List Int → List Int → List Int → List Int → List Int → Int → List (List Int) → Option (Bool)
 | 0, _, _, _, _, _, _, _, _, _, _ => none
 | k + 1, q, n, a, c, d, e, g, l, m, b => if n = true then (some false) else ((jigsawref06_has.f k q 114).bind fun o => (if o = 0 then (if (b.length : Int) > 0 then (none) else ((jigsawref06_has.f k q 114).bind fun p => (if p > 0 then (none) else (if a ≤ 4 then (none) else (if a = 19 then (none) else (if a = 21 then (none) else (if a ≥ 22 then (none) else (jigsawref06_Arity.l0 k 0 a c d e g l m b)))))))) else (none)))
def jigsawref06_Arity.l0 : Nat → Int → Int → List Int → List Int → List Int → List Int → List Int → Int → List (List Int) → Option (Bool)
 | 0, _, _, _, _, _, _, _, _, _ => none
 | k + 1, m, b, c, d, e, f, g, l, a => if m < (a.length : Int) then (none) else (some true)
end
def jigsawref06_Arity.f (k : Nat) (d : Int) (a : List Int) (b : List Int) (e : List Int) (g : List Int) (l : List Int) (c : Int) (m : List (List Int)) (n : ByteArray) : Option (Bool) := if c = 0 then (jigsawref06_Arity.j0 k n (a.length : Int) (b.length : Int) false d a b e g l c m) else ((jigsawref06_has.f k n 107).bind fun o => (jigsawref06_Arity.j0 k n (a.length : Int) (b.length : Int) (o == 0) d a b e g l c m))
theorem jigsawref06_Arity.mono_l : ∀ k, (∀ a b c d e f g l m n o p, LeO (jigsawref06_Arity.j0 k a b c d e f g l m n o p) (jigsawref06_Arity.j0 (k + 1) a b c d e f g l m n o p)) ∧ (∀ a b c d e f g l m n, LeO (jigsawref06_Arity.j1 k a b c d e f g l m n) (jigsawref06_Arity.j1 (k + 1) a b c d e f g l m n)) ∧ (∀ a b c d e f g l m, LeO (jigsawref06_Arity.l0 k a b c d e f g l m) (jigsawref06_Arity.l0 (k + 1) a b c d e f g l m))
 | 0 => by refine ⟨?_, ?_, ?_⟩ <;> (intros; exact LeO.none _)
 | k + 1 => by
  obtain ⟨ih0, ih1, ih2⟩ := jigsawref06_Arity.mono_l k
  have m0 := @jigsawref06_has.mono
  refine ⟨?_, ?_, ?_⟩ <;> intros
  all_goals first | unfold jigsawref06_Arity.j0 | unfold jigsawref06_Arity.j1 | unfold jigsawref06_Arity.l0
  all_goals exact leo_
theorem jigsawref06_Arity.mono : ∀ a b c d e g l m n k, LeO (jigsawref06_Arity.f k a b c d e g l m n) (jigsawref06_Arity.f (k + 1) a b c d e g l m n) := by
 intro a b c d e g l m n k
 obtain ⟨ih0, ih1, ih2⟩ := jigsawref06_Arity.mono_l k
 unfold jigsawref06_Arity.f
 have m0 := @jigsawref06_has.mono
 exact leo_
set_option maxHeartbeats 8000000 in
set_option maxRecDepth 100000 in
theorem jigsawref06_Arity.calls (k : Nat) (a : Int) (u : Option Addr) (c0_1 : Nat) (c : List Int) (v : Option Addr) (c0_2 : Nat) (d : List Int) (x : Option Addr) (c0_3 : Nat) (l : List Int) (y : Option Addr) (c0_4 : Nat) (m : List Int) (z : Option Addr) (c0_5 : Nat) (n : List Int) (o : Int) (A : Option Addr) (c0_7 : Nat) (b : List (List Int)) (p : ByteArray) (r : Bool) (w : World) (aB : Kd.C (Kd.int .i64) w u c.length c) (ad : c.length ≤ c0_1) (aC : Kd.C (Kd.int .i64) w v d.length d) (ae : d.length ≤ c0_2) (aD : Kd.C (Kd.int .i64) w x l.length l) (af : l.length ≤ c0_3) (aE : Kd.C (Kd.int .i64) w y m.length m) (ag : m.length ≤ c0_4) (aF : Kd.C (Kd.int .i64) w z n.length n) (ah : n.length ≤ c0_5) (aG : Kd.C (Kd.slice 3 (Kd.int .i64)) w A b.length b) (ai : b.length ≤ c0_7) (h : jigsawref06_Arity.f k a c d l m n o b p = some r) :
  Calls Tryz.prog 80 #[.agg #[.int .i64 a, .slice u c.length c0_1, .slice v d.length c0_2, .slice x l.length c0_3, .slice y m.length c0_4, .slice z n.length c0_5, .int .i64 o, .slice A b.length c0_7], .string p] w fun e w' => e = .returned (.bool r) ∧ Below w.heap.size w w' := by
 have hu32 := Tryz.underlying32
 have aL := a_ ad
 clear aB ad
 have aM := a_ ae
 clear aC ae
 have aN := a_ af
 clear aD af
 have aO := a_ ag
 clear aE ag
 have aP := a_ ah
 clear aF ah
 have aQ := a_ ai
 clear aG ai
 have HB := a_ (Below.refl w.heap.size w)
 unfold jigsawref06_Arity.f at h
 have H := h
 clear h
 have ak := a_ H
 clear H
 go_enter Tryz.func80, Tryz.ntmps80
 go_upto_region 3 with (first | ((with_reducible refine gate_dst (N := 2) rfl ?_); (try (refine gate_guard (by rfl) ?_; dsimp only)); refine bxe_ (N := 2) (cs := #[.int .i64 a, .slice u c.length c0_1, .slice v d.length c0_2, .slice x l.length c0_3, .slice y m.length c0_4, .slice z n.length c0_5, .int .i64 o, .slice A b.length c0_7]) (t := 32) ?_; intro q hg w4 hbox hb; have g := a_ (hbox); have P := a_ (by rw [hg]; exact (bz_ bel_) : w.heap.size ≤ q); have aj := P; replace HB := hq_ hb; clear hb hbox hg; obtain ⟨_, _, _, _, _, _, _, _, _, _, _, _, _, _, _, _⟩ := cel8_ g.out))
 repeat (go_quiet (first | ((with_reducible refine gate_dst (N := 2) rfl ?_); (try (refine gate_guard (by rfl) ?_; dsimp only)); refine bxe_ (N := 2) (cs := #[.int .i64 a, .slice u c.length c0_1, .slice v d.length c0_2, .slice x l.length c0_3, .slice y m.length c0_4, .slice z n.length c0_5, .int .i64 o, .slice A b.length c0_7]) (t := 32) ?_; intro q hg w4 hbox hb; have g := a_ (hbox); have P := a_ (by rw [hg]; exact (bz_ bel_) : w.heap.size ≤ q); have aj := P; replace HB := hq_ hb; clear hb hbox hg; obtain ⟨_, _, _, _, _, _, _, _, _, _, _, _, _, _, _, _⟩ := cel8_ g.out)); go_upto_region 3 with (first | ((with_reducible refine gate_dst (N := 2) rfl ?_); (try (refine gate_guard (by rfl) ?_; dsimp only)); refine bxe_ (N := 2) (cs := #[.int .i64 a, .slice u c.length c0_1, .slice v d.length c0_2, .slice x l.length c0_3, .slice y m.length c0_4, .slice z n.length c0_5, .int .i64 o, .slice A b.length c0_7]) (t := 32) ?_; intro q hg w4 hbox hb; have g := a_ (hbox); have P := a_ (by rw [hg]; exact (bz_ bel_) : w.heap.size ≤ q); have aj := P; replace HB := hq_ hb; clear hb hbox hg; obtain ⟨_, _, _, _, _, _, _, _, _, _, _, _, _, _, _, _⟩ := cel8_ g.out)))
 (try simp only [Act.put, List.setIfInBounds_toArray, List.set_cons_zero, List.set_cons_succ])
 go_cut [26] (fun aJ wc => ∃ (kq : Nat) (Z : Bool), aJ = .bool Z ∧ Aside0 (jigsawref06_Arity.j0 kq p (c.length : Int) (d.length : Int) Z a c d l m n o b = some r) ∧ Aside0 (kq ≤ k) ∧ Aside0 (wc.heap[q]? = some (.cells #[.int .i64 a, (.slice u c.length c0_1), (.slice v d.length c0_2), (.slice x l.length c0_3), (.slice y m.length c0_4), (.slice z n.length c0_5), .int .i64 o, (.slice A b.length c0_7)] 32 (0, 0))) ∧ Aside0 (Below w.heap.size w wc))
 case first =>
  have H := ak.out
  clear ak
  by_cases c6 : o = 0
  ·
   rw [ip_ c6] at H
   have c6b0 : (o == 0) = true := beq_iff_eq.mpr c6
   have c6b1 : (o != 0) = false := bn_.mpr c6
   clear c6
   (first | rw [c6b0] | (simp only [i64_w, i32_w]; rw [c6b0]) | skip)
   have H' := a_ H
   clear H
   obtain ⟨_, _, _, _, _, _, _, _, _, _, _, _, _, _, _, _⟩ := cel8_ g.out
   go_wp2
   repeat (go_quiet (fail); try go_wp2)
   go_meet
   exact ⟨_, (false), eq_, H', ⟨by first | omega | exact lr_ _⟩, ⟨bk_ g.out⟩, ⟨bel_⟩⟩
  rw [ig_ c6] at H
  have c6b0 : (o == 0) = false := be_.mpr c6
  have c6b1 : (o != 0) = true := ni_.mpr c6
  (first | rw [c6b0] | (simp only [i64_w, i32_w]; rw [c6b0]) | skip)
  replace H := bo_ H
  obtain ⟨aa, A8, H⟩ := H
  try dsimp only at H
  have H' := a_ H
  clear H
  obtain ⟨_, _, _, _, _, _, _, _, _, _, _, _, _, _, _, _⟩ := cel8_ g.out
  go_wp2_with (first | (go_at_call 43; (with_reducible refine (jigsawref06_has.calls k p 107 aa _ A8.out).mono ?_); rintro e w' ⟨rfl, ⟨nd, rfl⟩⟩; (try first | exact ⟨rfl, _, World.drewN_drewN _ _ _⟩ | exact ⟨rfl, _, Eq.trans (World.drewN_drewN _ _ _) (congrArg (World.drewN _) (Nat.add_assoc _ _ _))⟩)))
  repeat (go_quiet (first | (go_at_call 43; (with_reducible refine (jigsawref06_has.calls k p 107 aa _ A8.out).mono ?_); rintro e w' ⟨rfl, ⟨nd, rfl⟩⟩; (try first | exact ⟨rfl, _, World.drewN_drewN _ _ _⟩ | exact ⟨rfl, _, Eq.trans (World.drewN_drewN _ _ _) (congrArg (World.drewN _) (Nat.add_assoc _ _ _))⟩))); try go_wp2_with (first | (go_at_call 43; (with_reducible refine (jigsawref06_has.calls k p 107 aa _ A8.out).mono ?_); rintro e w' ⟨rfl, ⟨nd, rfl⟩⟩; (try first | exact ⟨rfl, _, World.drewN_drewN _ _ _⟩ | exact ⟨rfl, _, Eq.trans (World.drewN_drewN _ _ _) (congrArg (World.drewN _) (Nat.add_assoc _ _ _))⟩))))
  go_meet
  exact ⟨_, ((aa == 0)), eq_, H', ⟨by first | omega | exact lr_ _⟩, ⟨bk_ g.out⟩, ⟨bel_⟩⟩
 clear ak
 try clear p2
 try clear c6
 try clear c6b0
 try clear c6b1
 try clear c8
 obtain ⟨kq, Z, rfl, HA, ab, g, HB⟩ := hcut
 cases kq with
 | zero => exact absurd HA.out (by simp [jigsawref06_Arity.j0])
 | succ kj2 =>
  have H := HA.out
  clear HA
  simp only [jigsawref06_Arity.j0] at H
  by_cases c10 : Z = true
  ·
   subst c10
   rw [ip_ rfl] at H
   obtain rfl := si_ H
   go_wp2
   repeat (go_quiet (fail); try go_wp2)
   go_ret
   exact ⟨er_, bel_⟩
  replace c10 := bf_.mpr c10
  subst c10
  have H1 : (if a = 12 then (none) else ((jigsawref06_has.f kj2 p 118).bind fun B => ((jigsawref06_has.f kj2 p 86).bind fun E => ((jigsawref06_list.f (c.length : Int) B E).bind fun U => ((jigsawref06_has.f kj2 p 119).bind fun F => ((jigsawref06_has.f kj2 p 87).bind fun G => ((jigsawref06_list.f (d.length : Int) F G).bind fun V => ((jigsawref06_has.f kj2 p 99).bind fun I => ((jigsawref06_list.f (l.length : Int) 0 I).bind fun W => ((jigsawref06_has.f kj2 p 100).bind fun J => ((jigsawref06_list.f (m.length : Int) 0 J).bind fun X => ((jigsawref06_has.f kj2 p 101).bind fun K => ((jigsawref06_list.f (n.length : Int) 0 K).bind fun Y => (if U = true then (if V = true then (if W = true then (if X = true then (jigsawref06_Arity.j1 kj2 p (!Y) a c d l m n o b) else (jigsawref06_Arity.j1 kj2 p true a c d l m n o b)) else (jigsawref06_Arity.j1 kj2 p true a c d l m n o b)) else (jigsawref06_Arity.j1 kj2 p true a c d l m n o b)) else (jigsawref06_Arity.j1 kj2 p true a c d l m n o b))))))))))))))) = some r := by rw [ig_ (show ¬ (false = true) by decide)] at H; exact H
  clear H
  have H := H1
  clear H1
  by_cases c11 : a = 12
  ·
   rw [ip_ c11] at H
   exact ab_ H
  rw [ig_ c11] at H
  have c11b0 : (a == 12) = false := be_.mpr c11
  have c11b1 : (a != 12) = true := ni_.mpr c11
  replace H := bo_ H
  obtain ⟨B, al, H⟩ := H
  try dsimp only at H
  replace H := bo_ H
  obtain ⟨E, am, H⟩ := H
  try dsimp only at H
  replace H := bo_ H
  obtain ⟨U, an, H⟩ := H
  try dsimp only at H
  replace H := bo_ H
  obtain ⟨F, ao, H⟩ := H
  try dsimp only at H
  replace H := bo_ H
  obtain ⟨G, ap, H⟩ := H
  try dsimp only at H
  replace H := bo_ H
  obtain ⟨V, aq, H⟩ := H
  try dsimp only at H
  replace H := bo_ H
  obtain ⟨I, ar, H⟩ := H
  try dsimp only at H
  replace H := bo_ H
  obtain ⟨W, au, H⟩ := H
  try dsimp only at H
  replace H := bo_ H
  obtain ⟨J, av, H⟩ := H
  try dsimp only at H
  replace H := bo_ H
  obtain ⟨X, aw, H⟩ := H
  try dsimp only at H
  replace H := bo_ H
  obtain ⟨K, ax, H⟩ := H
  try dsimp only at H
  replace H := bo_ H
  obtain ⟨Y, ay, H⟩ := H
  try dsimp only at H
  have ac := a_ H
  clear H
  obtain ⟨_, _, _, _, _, _, _, _, _, _, _, _, _, _, _, _⟩ := cel8_ g.out
  go_upto_region 12 with (first | (go_at_call 43; (with_reducible refine (jigsawref06_has.calls kj2 p 118 B _ al.out).mono ?_); rintro e w' ⟨rfl, ⟨nd, rfl⟩⟩; (try first | exact ⟨rfl, _, World.drewN_drewN _ _ _⟩ | exact ⟨rfl, _, Eq.trans (World.drewN_drewN _ _ _) (congrArg (World.drewN _) (Nat.add_assoc _ _ _))⟩)) | (go_at_call 43; (with_reducible refine (jigsawref06_has.calls kj2 p 86 E _ am.out).mono ?_); rintro e w' ⟨rfl, ⟨nd, rfl⟩⟩; (try first | exact ⟨rfl, _, World.drewN_drewN _ _ _⟩ | exact ⟨rfl, _, Eq.trans (World.drewN_drewN _ _ _) (congrArg (World.drewN _) (Nat.add_assoc _ _ _))⟩)) | (go_at_call 105; (with_reducible refine (jigsawref06_list.calls (c.length : Int) B E U _ an.out).mono ?_); rintro e w' ⟨rfl, ⟨nd, rfl⟩⟩; (try first | exact ⟨rfl, _, World.drewN_drewN _ _ _⟩ | exact ⟨rfl, _, Eq.trans (World.drewN_drewN _ _ _) (congrArg (World.drewN _) (Nat.add_assoc _ _ _))⟩)) | (go_at_call 43; (with_reducible refine (jigsawref06_has.calls kj2 p 119 F _ ao.out).mono ?_); rintro e w' ⟨rfl, ⟨nd, rfl⟩⟩; (try first | exact ⟨rfl, _, World.drewN_drewN _ _ _⟩ | exact ⟨rfl, _, Eq.trans (World.drewN_drewN _ _ _) (congrArg (World.drewN _) (Nat.add_assoc _ _ _))⟩)) | (go_at_call 43; (with_reducible refine (jigsawref06_has.calls kj2 p 87 G _ ap.out).mono ?_); rintro e w' ⟨rfl, ⟨nd, rfl⟩⟩; (try first | exact ⟨rfl, _, World.drewN_drewN _ _ _⟩ | exact ⟨rfl, _, Eq.trans (World.drewN_drewN _ _ _) (congrArg (World.drewN _) (Nat.add_assoc _ _ _))⟩)) | (go_at_call 105; (with_reducible refine (jigsawref06_list.calls (d.length : Int) F G V _ aq.out).mono ?_); rintro e w' ⟨rfl, ⟨nd, rfl⟩⟩; (try first | exact ⟨rfl, _, World.drewN_drewN _ _ _⟩ | exact ⟨rfl, _, Eq.trans (World.drewN_drewN _ _ _) (congrArg (World.drewN _) (Nat.add_assoc _ _ _))⟩)) | (go_at_call 43; (with_reducible refine (jigsawref06_has.calls kj2 p 99 I _ ar.out).mono ?_); rintro e w' ⟨rfl, ⟨nd, rfl⟩⟩; (try first | exact ⟨rfl, _, World.drewN_drewN _ _ _⟩ | exact ⟨rfl, _, Eq.trans (World.drewN_drewN _ _ _) (congrArg (World.drewN _) (Nat.add_assoc _ _ _))⟩)) | (go_at_call 105; (with_reducible refine (jigsawref06_list.calls (l.length : Int) 0 I W _ au.out).mono ?_); rintro e w' ⟨rfl, ⟨nd, rfl⟩⟩; (try first | exact ⟨rfl, _, World.drewN_drewN _ _ _⟩ | exact ⟨rfl, _, Eq.trans (World.drewN_drewN _ _ _) (congrArg (World.drewN _) (Nat.add_assoc _ _ _))⟩)) | (go_at_call 43; (with_reducible refine (jigsawref06_has.calls kj2 p 100 J _ av.out).mono ?_); rintro e w' ⟨rfl, ⟨nd, rfl⟩⟩; (try first | exact ⟨rfl, _, World.drewN_drewN _ _ _⟩ | exact ⟨rfl, _, Eq.trans (World.drewN_drewN _ _ _) (congrArg (World.drewN _) (Nat.add_assoc _ _ _))⟩)) | (go_at_call 105; (with_reducible refine (jigsawref06_list.calls (m.length : Int) 0 J X _ aw.out).mono ?_); rintro e w' ⟨rfl, ⟨nd, rfl⟩⟩; (try first | exact ⟨rfl, _, World.drewN_drewN _ _ _⟩ | exact ⟨rfl, _, Eq.trans (World.drewN_drewN _ _ _) (congrArg (World.drewN _) (Nat.add_assoc _ _ _))⟩)) | (go_at_call 43; (with_reducible refine (jigsawref06_has.calls kj2 p 101 K _ ax.out).mono ?_); rintro e w' ⟨rfl, ⟨nd, rfl⟩⟩; (try first | exact ⟨rfl, _, World.drewN_drewN _ _ _⟩ | exact ⟨rfl, _, Eq.trans (World.drewN_drewN _ _ _) (congrArg (World.drewN _) (Nat.add_assoc _ _ _))⟩)) | (go_at_call 105; (with_reducible refine (jigsawref06_list.calls (n.length : Int) 0 K Y _ ay.out).mono ?_); rintro e w' ⟨rfl, ⟨nd, rfl⟩⟩; (try first | exact ⟨rfl, _, World.drewN_drewN _ _ _⟩ | exact ⟨rfl, _, Eq.trans (World.drewN_drewN _ _ _) (congrArg (World.drewN _) (Nat.add_assoc _ _ _))⟩)))
  repeat (go_quiet (first | (go_at_call 43; (with_reducible refine (jigsawref06_has.calls kj2 p 118 B _ al.out).mono ?_); rintro e w' ⟨rfl, ⟨nd, rfl⟩⟩; (try first | exact ⟨rfl, _, World.drewN_drewN _ _ _⟩ | exact ⟨rfl, _, Eq.trans (World.drewN_drewN _ _ _) (congrArg (World.drewN _) (Nat.add_assoc _ _ _))⟩)) | (go_at_call 43; (with_reducible refine (jigsawref06_has.calls kj2 p 86 E _ am.out).mono ?_); rintro e w' ⟨rfl, ⟨nd, rfl⟩⟩; (try first | exact ⟨rfl, _, World.drewN_drewN _ _ _⟩ | exact ⟨rfl, _, Eq.trans (World.drewN_drewN _ _ _) (congrArg (World.drewN _) (Nat.add_assoc _ _ _))⟩)) | (go_at_call 105; (with_reducible refine (jigsawref06_list.calls (c.length : Int) B E U _ an.out).mono ?_); rintro e w' ⟨rfl, ⟨nd, rfl⟩⟩; (try first | exact ⟨rfl, _, World.drewN_drewN _ _ _⟩ | exact ⟨rfl, _, Eq.trans (World.drewN_drewN _ _ _) (congrArg (World.drewN _) (Nat.add_assoc _ _ _))⟩)) | (go_at_call 43; (with_reducible refine (jigsawref06_has.calls kj2 p 119 F _ ao.out).mono ?_); rintro e w' ⟨rfl, ⟨nd, rfl⟩⟩; (try first | exact ⟨rfl, _, World.drewN_drewN _ _ _⟩ | exact ⟨rfl, _, Eq.trans (World.drewN_drewN _ _ _) (congrArg (World.drewN _) (Nat.add_assoc _ _ _))⟩)) | (go_at_call 43; (with_reducible refine (jigsawref06_has.calls kj2 p 87 G _ ap.out).mono ?_); rintro e w' ⟨rfl, ⟨nd, rfl⟩⟩; (try first | exact ⟨rfl, _, World.drewN_drewN _ _ _⟩ | exact ⟨rfl, _, Eq.trans (World.drewN_drewN _ _ _) (congrArg (World.drewN _) (Nat.add_assoc _ _ _))⟩)) | (go_at_call 105; (with_reducible refine (jigsawref06_list.calls (d.length : Int) F G V _ aq.out).mono ?_); rintro e w' ⟨rfl, ⟨nd, rfl⟩⟩; (try first | exact ⟨rfl, _, World.drewN_drewN _ _ _⟩ | exact ⟨rfl, _, Eq.trans (World.drewN_drewN _ _ _) (congrArg (World.drewN _) (Nat.add_assoc _ _ _))⟩)) | (go_at_call 43; (with_reducible refine (jigsawref06_has.calls kj2 p 99 I _ ar.out).mono ?_); rintro e w' ⟨rfl, ⟨nd, rfl⟩⟩; (try first | exact ⟨rfl, _, World.drewN_drewN _ _ _⟩ | exact ⟨rfl, _, Eq.trans (World.drewN_drewN _ _ _) (congrArg (World.drewN _) (Nat.add_assoc _ _ _))⟩)) | (go_at_call 105; (with_reducible refine (jigsawref06_list.calls (l.length : Int) 0 I W _ au.out).mono ?_); rintro e w' ⟨rfl, ⟨nd, rfl⟩⟩; (try first | exact ⟨rfl, _, World.drewN_drewN _ _ _⟩ | exact ⟨rfl, _, Eq.trans (World.drewN_drewN _ _ _) (congrArg (World.drewN _) (Nat.add_assoc _ _ _))⟩)) | (go_at_call 43; (with_reducible refine (jigsawref06_has.calls kj2 p 100 J _ av.out).mono ?_); rintro e w' ⟨rfl, ⟨nd, rfl⟩⟩; (try first | exact ⟨rfl, _, World.drewN_drewN _ _ _⟩ | exact ⟨rfl, _, Eq.trans (World.drewN_drewN _ _ _) (congrArg (World.drewN _) (Nat.add_assoc _ _ _))⟩)) | (go_at_call 105; (with_reducible refine (jigsawref06_list.calls (m.length : Int) 0 J X _ aw.out).mono ?_); rintro e w' ⟨rfl, ⟨nd, rfl⟩⟩; (try first | exact ⟨rfl, _, World.drewN_drewN _ _ _⟩ | exact ⟨rfl, _, Eq.trans (World.drewN_drewN _ _ _) (congrArg (World.drewN _) (Nat.add_assoc _ _ _))⟩)) | (go_at_call 43; (with_reducible refine (jigsawref06_has.calls kj2 p 101 K _ ax.out).mono ?_); rintro e w' ⟨rfl, ⟨nd, rfl⟩⟩; (try first | exact ⟨rfl, _, World.drewN_drewN _ _ _⟩ | exact ⟨rfl, _, Eq.trans (World.drewN_drewN _ _ _) (congrArg (World.drewN _) (Nat.add_assoc _ _ _))⟩)) | (go_at_call 105; (with_reducible refine (jigsawref06_list.calls (n.length : Int) 0 K Y _ ay.out).mono ?_); rintro e w' ⟨rfl, ⟨nd, rfl⟩⟩; (try first | exact ⟨rfl, _, World.drewN_drewN _ _ _⟩ | exact ⟨rfl, _, Eq.trans (World.drewN_drewN _ _ _) (congrArg (World.drewN _) (Nat.add_assoc _ _ _))⟩))); go_upto_region 12 with (first | (go_at_call 43; (with_reducible refine (jigsawref06_has.calls kj2 p 118 B _ al.out).mono ?_); rintro e w' ⟨rfl, ⟨nd, rfl⟩⟩; (try first | exact ⟨rfl, _, World.drewN_drewN _ _ _⟩ | exact ⟨rfl, _, Eq.trans (World.drewN_drewN _ _ _) (congrArg (World.drewN _) (Nat.add_assoc _ _ _))⟩)) | (go_at_call 43; (with_reducible refine (jigsawref06_has.calls kj2 p 86 E _ am.out).mono ?_); rintro e w' ⟨rfl, ⟨nd, rfl⟩⟩; (try first | exact ⟨rfl, _, World.drewN_drewN _ _ _⟩ | exact ⟨rfl, _, Eq.trans (World.drewN_drewN _ _ _) (congrArg (World.drewN _) (Nat.add_assoc _ _ _))⟩)) | (go_at_call 105; (with_reducible refine (jigsawref06_list.calls (c.length : Int) B E U _ an.out).mono ?_); rintro e w' ⟨rfl, ⟨nd, rfl⟩⟩; (try first | exact ⟨rfl, _, World.drewN_drewN _ _ _⟩ | exact ⟨rfl, _, Eq.trans (World.drewN_drewN _ _ _) (congrArg (World.drewN _) (Nat.add_assoc _ _ _))⟩)) | (go_at_call 43; (with_reducible refine (jigsawref06_has.calls kj2 p 119 F _ ao.out).mono ?_); rintro e w' ⟨rfl, ⟨nd, rfl⟩⟩; (try first | exact ⟨rfl, _, World.drewN_drewN _ _ _⟩ | exact ⟨rfl, _, Eq.trans (World.drewN_drewN _ _ _) (congrArg (World.drewN _) (Nat.add_assoc _ _ _))⟩)) | (go_at_call 43; (with_reducible refine (jigsawref06_has.calls kj2 p 87 G _ ap.out).mono ?_); rintro e w' ⟨rfl, ⟨nd, rfl⟩⟩; (try first | exact ⟨rfl, _, World.drewN_drewN _ _ _⟩ | exact ⟨rfl, _, Eq.trans (World.drewN_drewN _ _ _) (congrArg (World.drewN _) (Nat.add_assoc _ _ _))⟩)) | (go_at_call 105; (with_reducible refine (jigsawref06_list.calls (d.length : Int) F G V _ aq.out).mono ?_); rintro e w' ⟨rfl, ⟨nd, rfl⟩⟩; (try first | exact ⟨rfl, _, World.drewN_drewN _ _ _⟩ | exact ⟨rfl, _, Eq.trans (World.drewN_drewN _ _ _) (congrArg (World.drewN _) (Nat.add_assoc _ _ _))⟩)) | (go_at_call 43; (with_reducible refine (jigsawref06_has.calls kj2 p 99 I _ ar.out).mono ?_); rintro e w' ⟨rfl, ⟨nd, rfl⟩⟩; (try first | exact ⟨rfl, _, World.drewN_drewN _ _ _⟩ | exact ⟨rfl, _, Eq.trans (World.drewN_drewN _ _ _) (congrArg (World.drewN _) (Nat.add_assoc _ _ _))⟩)) | (go_at_call 105; (with_reducible refine (jigsawref06_list.calls (l.length : Int) 0 I W _ au.out).mono ?_); rintro e w' ⟨rfl, ⟨nd, rfl⟩⟩; (try first | exact ⟨rfl, _, World.drewN_drewN _ _ _⟩ | exact ⟨rfl, _, Eq.trans (World.drewN_drewN _ _ _) (congrArg (World.drewN _) (Nat.add_assoc _ _ _))⟩)) | (go_at_call 43; (with_reducible refine (jigsawref06_has.calls kj2 p 100 J _ av.out).mono ?_); rintro e w' ⟨rfl, ⟨nd, rfl⟩⟩; (try first | exact ⟨rfl, _, World.drewN_drewN _ _ _⟩ | exact ⟨rfl, _, Eq.trans (World.drewN_drewN _ _ _) (congrArg (World.drewN _) (Nat.add_assoc _ _ _))⟩)) | (go_at_call 105; (with_reducible refine (jigsawref06_list.calls (m.length : Int) 0 J X _ aw.out).mono ?_); rintro e w' ⟨rfl, ⟨nd, rfl⟩⟩; (try first | exact ⟨rfl, _, World.drewN_drewN _ _ _⟩ | exact ⟨rfl, _, Eq.trans (World.drewN_drewN _ _ _) (congrArg (World.drewN _) (Nat.add_assoc _ _ _))⟩)) | (go_at_call 43; (with_reducible refine (jigsawref06_has.calls kj2 p 101 K _ ax.out).mono ?_); rintro e w' ⟨rfl, ⟨nd, rfl⟩⟩; (try first | exact ⟨rfl, _, World.drewN_drewN _ _ _⟩ | exact ⟨rfl, _, Eq.trans (World.drewN_drewN _ _ _) (congrArg (World.drewN _) (Nat.add_assoc _ _ _))⟩)) | (go_at_call 105; (with_reducible refine (jigsawref06_list.calls (n.length : Int) 0 K Y _ ay.out).mono ?_); rintro e w' ⟨rfl, ⟨nd, rfl⟩⟩; (try first | exact ⟨rfl, _, World.drewN_drewN _ _ _⟩ | exact ⟨rfl, _, Eq.trans (World.drewN_drewN _ _ _) (congrArg (World.drewN _) (Nat.add_assoc _ _ _))⟩))))
  (try simp only [Act.put, List.setIfInBounds_toArray, List.set_cons_zero, List.set_cons_succ])
  go_cut [113] (fun aI wc => ∃ (kq : Nat) (M : Bool), aI = .bool M ∧ Aside0 (jigsawref06_Arity.j1 kq p M a c d l m n o b = some r) ∧ Aside0 (kq ≤ kj2) ∧ Aside0 (wc.heap[q]? = some (.cells #[.int .i64 a, (.slice u c.length c0_1), (.slice v d.length c0_2), (.slice x l.length c0_3), (.slice y m.length c0_4), (.slice z n.length c0_5), .int .i64 o, (.slice A b.length c0_7)] 32 (0, 0))) ∧ Aside0 (Below w.heap.size w wc))
  case first =>
   have H := ac.out
   clear ac
   by_cases c26 : U = true
   rotate_left
   ·
    replace c26 := bf_.mpr c26
    subst c26
    have H1 : (jigsawref06_Arity.j1 kj2 p true a c d l m n o b) = some r := by rw [ig_ (show ¬ (false = true) by decide)] at H; exact H
    clear H
    have H := H1
    clear H1
    have H' := a_ H
    clear H
    go_wp2
    repeat (go_quiet (fail); try go_wp2)
    go_meet
    exact ⟨_, (true), eq_, H', ⟨by have := ab.out; first | omega | exact lr_ _⟩, ⟨bk_ g.out⟩, ⟨bel_⟩⟩
   subst c26
   rw [ip_ rfl] at H
   by_cases c27 : V = true
   rotate_left
   ·
    replace c27 := bf_.mpr c27
    subst c27
    have H1 : (jigsawref06_Arity.j1 kj2 p true a c d l m n o b) = some r := by rw [ig_ (show ¬ (false = true) by decide)] at H; exact H
    clear H
    have H := H1
    clear H1
    have H' := a_ H
    clear H
    go_wp2
    repeat (go_quiet (fail); try go_wp2)
    go_meet
    exact ⟨_, (true), eq_, H', ⟨by have := ab.out; first | omega | exact lr_ _⟩, ⟨bk_ g.out⟩, ⟨bel_⟩⟩
   subst c27
   rw [ip_ rfl] at H
   by_cases c28 : W = true
   rotate_left
   ·
    replace c28 := bf_.mpr c28
    subst c28
    have H1 : (jigsawref06_Arity.j1 kj2 p true a c d l m n o b) = some r := by rw [ig_ (show ¬ (false = true) by decide)] at H; exact H
    clear H
    have H := H1
    clear H1
    have H' := a_ H
    clear H
    go_wp2
    repeat (go_quiet (fail); try go_wp2)
    go_meet
    exact ⟨_, (true), eq_, H', ⟨by have := ab.out; first | omega | exact lr_ _⟩, ⟨bk_ g.out⟩, ⟨bel_⟩⟩
   subst c28
   rw [ip_ rfl] at H
   by_cases c29 : X = true
   ·
    subst c29
    rw [ip_ rfl] at H
    have H' := a_ H
    clear H
    go_wp2
    repeat (go_quiet (fail); try go_wp2)
    go_meet
    exact ⟨_, (!Y), eq_, H', ⟨by have := ab.out; first | omega | exact lr_ _⟩, ⟨bk_ g.out⟩, ⟨bel_⟩⟩
   replace c29 := bf_.mpr c29
   subst c29
   have H1 : (jigsawref06_Arity.j1 kj2 p true a c d l m n o b) = some r := by rw [ig_ (show ¬ (false = true) by decide)] at H; exact H
   clear H
   have H := H1
   clear H1
   have H' := a_ H
   clear H
   go_wp2
   repeat (go_quiet (fail); try go_wp2)
   go_meet
   exact ⟨_, (true), eq_, H', ⟨by have := ab.out; first | omega | exact lr_ _⟩, ⟨bk_ g.out⟩, ⟨bel_⟩⟩
  clear ac
  try clear c1
  try clear c2
  try clear p2
  try clear c6
  try clear c6b0
  try clear c6b1
  try clear c8
  try clear c10
  try clear c11
  try clear c11b0
  try clear c11b1
  try clear c26
  try clear c27
  try clear c28
  try clear c29
  try clear p2
  obtain ⟨kq, M, rfl, HA, aR, g, HB⟩ := hcut
  cases kq with
  | zero => exact absurd HA.out (by simp [jigsawref06_Arity.j1])
  | succ kj23 =>
   have H := HA.out
   clear HA
   simp only [jigsawref06_Arity.j1] at H
   by_cases c30 : M = true
   ·
    subst c30
    rw [ip_ rfl] at H
    obtain rfl := si_ H
    go_wp2
    repeat (go_quiet (fail); try go_wp2)
    go_ret
    exact ⟨er_, bel_⟩
   replace c30 := bf_.mpr c30
   subst c30
   have H1 : ((jigsawref06_has.f kj23 p 114).bind fun s => (if s = 0 then (if (b.length : Int) > 0 then (none) else ((jigsawref06_has.f kj23 p 114).bind fun O => (if O > 0 then (none) else (if a ≤ 4 then (none) else (if a = 19 then (none) else (if a = 21 then (none) else (if a ≥ 22 then (none) else (jigsawref06_Arity.l0 kj23 0 a c d l m n o b)))))))) else (none))) = some r := by rw [ig_ (show ¬ (false = true) by decide)] at H; exact H
   clear H
   have H := H1
   clear H1
   replace H := bo_ H
   obtain ⟨s, az, H⟩ := H
   try dsimp only at H
   by_cases c32 : s = 0
   rotate_left
   ·
    rw [ig_ c32] at H
    exact ab_ H
   rw [ip_ c32] at H
   have c32b0 : (s == 0) = true := beq_iff_eq.mpr c32
   have c32b1 : (s != 0) = false := bn_.mpr c32
   have c32b9 : decide (0 < s) = false := df_ (by omega)
   clear c32
   by_cases c33 : (b.length : Int) > 0
   ·
    rw [ip_ c33] at H
    exact ab_ H
   rw [ig_ c33] at H
   have c33b0 : decide (0 < (b.length : Int)) = false := df_ c33
   have c33b1 : decide (0 < b.length) = false := df_ (by omega)
   clear c33
   replace H := bo_ H
   obtain ⟨O, aA, H⟩ := H
   try dsimp only at H
   by_cases c35 : O > 0
   ·
    rw [ip_ c35] at H
    exact ab_ H
   rw [ig_ c35] at H
   have c35b0 : decide (0 < O) = false := df_ c35
   clear c35
   by_cases c36 : a ≤ 4
   ·
    rw [ip_ c36] at H
    exact ab_ H
   rw [ig_ c36] at H
   have c36b0 : decide (a ≤ 4) = false := df_ c36
   clear c36
   by_cases c37 : a = 19
   ·
    rw [ip_ c37] at H
    exact ab_ H
   rw [ig_ c37] at H
   have c37b0 : (a == 19) = false := be_.mpr c37
   have c37b1 : (a != 19) = true := ni_.mpr c37
   by_cases c38 : a = 21
   ·
    rw [ip_ c38] at H
    exact ab_ H
   rw [ig_ c38] at H
   have c38b0 : (a == 21) = false := be_.mpr c38
   have c38b1 : (a != 21) = true := ni_.mpr c38
   by_cases c39 : a ≥ 22
   ·
    rw [ip_ c39] at H
    exact ab_ H
   rw [ig_ c39] at H
   have c39b0 : decide (22 ≤ a) = false := df_ c39
   clear c39
   have H' := a_ H
   clear H
   go_wp2_with (first | (go_at_call 43; (with_reducible refine (jigsawref06_has.calls kj23 p 114 s _ az.out).mono ?_); rintro e w' ⟨rfl, ⟨nd, rfl⟩⟩; (try first | exact ⟨rfl, _, World.drewN_drewN _ _ _⟩ | exact ⟨rfl, _, Eq.trans (World.drewN_drewN _ _ _) (congrArg (World.drewN _) (Nat.add_assoc _ _ _))⟩); obtain ⟨_, _, _, _, _, _, _, _, _, _, _, _, _, _, _, _⟩ := cel8_ g.out) | (go_at_call 43; (with_reducible refine (jigsawref06_has.calls kj23 p 114 O _ aA.out).mono ?_); rintro e w' ⟨rfl, ⟨nd, rfl⟩⟩; (try first | exact ⟨rfl, _, World.drewN_drewN _ _ _⟩ | exact ⟨rfl, _, Eq.trans (World.drewN_drewN _ _ _) (congrArg (World.drewN _) (Nat.add_assoc _ _ _))⟩)))
   repeat (go_quiet (first | (go_at_call 43; (with_reducible refine (jigsawref06_has.calls kj23 p 114 s _ az.out).mono ?_); rintro e w' ⟨rfl, ⟨nd, rfl⟩⟩; (try first | exact ⟨rfl, _, World.drewN_drewN _ _ _⟩ | exact ⟨rfl, _, Eq.trans (World.drewN_drewN _ _ _) (congrArg (World.drewN _) (Nat.add_assoc _ _ _))⟩); obtain ⟨_, _, _, _, _, _, _, _, _, _, _, _, _, _, _, _⟩ := cel8_ g.out) | (go_at_call 43; (with_reducible refine (jigsawref06_has.calls kj23 p 114 O _ aA.out).mono ?_); rintro e w' ⟨rfl, ⟨nd, rfl⟩⟩; (try first | exact ⟨rfl, _, World.drewN_drewN _ _ _⟩ | exact ⟨rfl, _, Eq.trans (World.drewN_drewN _ _ _) (congrArg (World.drewN _) (Nat.add_assoc _ _ _))⟩))); try go_wp2_with (first | (go_at_call 43; (with_reducible refine (jigsawref06_has.calls kj23 p 114 s _ az.out).mono ?_); rintro e w' ⟨rfl, ⟨nd, rfl⟩⟩; (try first | exact ⟨rfl, _, World.drewN_drewN _ _ _⟩ | exact ⟨rfl, _, Eq.trans (World.drewN_drewN _ _ _) (congrArg (World.drewN _) (Nat.add_assoc _ _ _))⟩); obtain ⟨_, _, _, _, _, _, _, _, _, _, _, _, _, _, _, _⟩ := cel8_ g.out) | (go_at_call 43; (with_reducible refine (jigsawref06_has.calls kj23 p 114 O _ aA.out).mono ?_); rintro e w' ⟨rfl, ⟨nd, rfl⟩⟩; (try first | exact ⟨rfl, _, World.drewN_drewN _ _ _⟩ | exact ⟨rfl, _, Eq.trans (World.drewN_drewN _ _ _) (congrArg (World.drewN _) (Nat.add_assoc _ _ _))⟩))))
   go_loopg [12] kj23 (fun kq aK w' => ∃ (Q : Int), aK = .int .i64 Q ∧ Aside0 (jigsawref06_Arity.l0 kq Q a c d l m n o b = some r) ∧ Aside0 (kq ≤ kj23) ∧ Aside0 (w'.heap[q]? = some (.cells #[.int .i64 a, (.slice u c.length c0_1), (.slice v d.length c0_2), (.slice x l.length c0_3), (.slice y m.length c0_4), (.slice z n.length c0_5), .int .i64 o, (.slice A b.length c0_7)] 32 (0, 0))) ∧ Aside0 (Below w.heap.size w w'))
   case atStart => exact ⟨(0), eq_, H', ⟨lr_ _⟩, ⟨bk_ g.out⟩, ⟨bel_⟩⟩
   clear H'
   try clear c1
   try clear c2
   try clear p2
   try clear c3
   try clear c6
   try clear c6b0
   try clear c6b1
   try clear c8
   try clear c10
   try clear c11
   try clear c11b0
   try clear c11b1
   try clear c26
   try clear c27
   try clear c28
   try clear c29
   try clear c30
   try clear c32
   try clear c32b0
   try clear c32b1
   try clear c33
   try clear c33b0
   try clear c33b1
   try clear c35
   try clear c35b0
   try clear c36
   try clear c36b0
   try clear c37
   try clear c37b0
   try clear c37b1
   try clear c38
   try clear c38b0
   try clear c38b1
   try clear c39
   try clear c39b0
   try clear p2
   obtain ⟨Q, rfl, HA, aS, g, HB⟩ := hrel
   cases gk with
   | zero => exact absurd HA.out (by simp [jigsawref06_Arity.l0])
   | succ k3 =>
    have H := HA.out
    clear HA
    simp only [jigsawref06_Arity.l0] at H
    by_cases c41 : Q < (b.length : Int)
    ·
     rw [ip_ c41] at H
     exact ab_ H
    rw [ig_ c41] at H
    have c41b0 : decide (Q < (b.length : Int)) = false := df_ c41
    clear c41
    obtain rfl := si_ H
    obtain ⟨_, _, _, _, _, _, _, _, _, _, _, _, _, _, _, _⟩ := cel8_ g.out
    go_wp2
    repeat (go_quiet (fail); try go_wp2)
    go_ret
    exact ⟨er_, bel_⟩

end Go.Proofs.YtbhhbgoamomacaaGreatDoor.XMulRefuses
