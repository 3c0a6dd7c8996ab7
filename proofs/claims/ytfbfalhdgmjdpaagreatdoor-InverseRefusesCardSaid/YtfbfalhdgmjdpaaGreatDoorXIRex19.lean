-- by xprint.py, a program of this session, over the kit's print
import Derived.Test.YtfbfalhdgmjdpaaGreatDoorXIRex0
import Derived.Test.YtfbfalhdgmjdpaaGreatDoorXIRex1
import Derived.Test.YtfbfalhdgmjdpaaGreatDoorXIRex18
import Derived.Test.YtfbfalhdgmjdpaaGreatDoorSq
namespace Go.Proofs.YtfbfalhdgmjdpaaGreatDoor.XInverseRefuses
open Go.RowKit Go.Proofs.YtfbfalhdgmjdpaaGreatDoor.Sq Go.Proofs.YtfbfalhdgmjdpaaGreatDoorW.PrintWords Go.Proofs.YtfbfalhdgmjdpaaGreatDoorW.PrintLast Go.Proofs.YtfbfalhdgmjdpaaGreatDoorW.PrintMore
attribute [local go_sem] max2_int min2_int max_two min_two max_three min_three max_four min_four   -- for this text's walks alone
set_option linter.unusedVariables false
set_option linter.unusedSimpArgs false

/-! ### jigsawref06_Arity: function 67 -/
mutual
def jigsawref06_Arity.j0 : Nat → ByteArray → Int → Int → Bool → Int → List Int → List Int → List Int → List Int → List Int → Int → List (List Int) → Option (Bool)
 | 0, _, _, _, _, _, _, _, _, _, _, _, _ => none
 | k + 1, n, o, p, E, a, e, g, b, c, d, l, m => if E = true then (some false) else (if a = 12 then (none) else ((jigsawref06_has.f k n 118).bind fun q => ((jigsawref06_has.f k n 86).bind fun r => ((jigsawref06_list.f o q r).bind fun s => ((jigsawref06_has.f k n 119).bind fun t => ((jigsawref06_has.f k n 87).bind fun u => ((jigsawref06_list.f p t u).bind fun v => ((jigsawref06_has.f k n 99).bind fun x => ((jigsawref06_list.f (b.length : Int) 0 x).bind fun y => ((jigsawref06_has.f k n 100).bind fun z => ((jigsawref06_list.f (c.length : Int) 0 z).bind fun A => ((jigsawref06_has.f k n 101).bind fun B => ((jigsawref06_list.f (d.length : Int) 0 B).bind fun C => (if s = true then (if v = true then (if y = true then (if A = true then (jigsawref06_Arity.j1 k n o p (!C) a e g b c d l m) else (jigsawref06_Arity.j1 k n o p true a e g b c d l m)) else (jigsawref06_Arity.j1 k n o p true a e g b c d l m)) else (jigsawref06_Arity.j1 k n o p true a e g b c d l m)) else (jigsawref06_Arity.j1 k n o p true a e g b c d l m)))))))))))))))
def jigsawref06_Arity.j1 : Nat → ByteArray → Int → Int → Bool → Int → List Int → List Int → List Int → List Int → List Int → Int → List (List Int) → Option (Bool)
 | 0, _, _, _, _, _, _, _, _, _, _, _, _ => none
 | k + 1, q, r, s, n, a, c, d, e, g, l, m, b => if n = true then (some false) else ((jigsawref06_has.f k q 114).bind fun o => (if o = 0 then (if (b.length : Int) > 0 then (none) else ((jigsawref06_has.f k q 114).bind fun p => (if p > 0 then (none) else (if a ≤ 4 then (none) else (if a = 19 then (none) else (if a = 21 then (none) else (if a ≥ 22 then (jigsawref06_Arity.j2 k (s != r) a c d e g l m b) else (jigsawref06_Arity.j2 k false a c d e g l m b)))))))) else (none)))
def jigsawref06_Arity.j2 : Nat → Bool → Int → List Int → List Int → List Int → List Int → List Int → Int → List (List Int) → Option (Bool)
 | 0, _, _, _, _, _, _, _, _, _ => none
 | k + 1, m, a, b, c, d, e, f, g, l => if m = true then (some false) else (jigsawref06_Arity.l0 k 0 a b c d e f g l)
def jigsawref06_Arity.l0 : Nat → Int → Int → List Int → List Int → List Int → List Int → List Int → Int → List (List Int) → Option (Bool)
 | 0, _, _, _, _, _, _, _, _, _ => none
 | k + 1, m, b, c, d, e, f, g, l, a => if m < (a.length : Int) then (none) else (some true)
end
def jigsawref06_Arity.f (k : Nat) (d : Int) (a : List Int) (b : List Int) (e : List Int) (g : List Int) (l : List Int) (c : Int) (m : List (List Int)) (n : ByteArray) : Option (Bool) := if c = 0 then (jigsawref06_Arity.j0 k n (a.length : Int) (b.length : Int) false d a b e g l c m) else ((jigsawref06_has.f k n 107).bind fun o => (jigsawref06_Arity.j0 k n (a.length : Int) (b.length : Int) (o == 0) d a b e g l c m))
theorem jigsawref06_Arity.mono_l : ∀ k, (∀ a b c d e f g l m p n o, LeO (jigsawref06_Arity.j0 k a b c d e f g l m p n o) (jigsawref06_Arity.j0 (k + 1) a b c d e f g l m p n o)) ∧ (∀ a b c d e f g l m p n o, LeO (jigsawref06_Arity.j1 k a b c d e f g l m p n o) (jigsawref06_Arity.j1 (k + 1) a b c d e f g l m p n o)) ∧ (∀ a b c d e f g l m, LeO (jigsawref06_Arity.j2 k a b c d e f g l m) (jigsawref06_Arity.j2 (k + 1) a b c d e f g l m)) ∧ (∀ a b c d e f g l m, LeO (jigsawref06_Arity.l0 k a b c d e f g l m) (jigsawref06_Arity.l0 (k + 1) a b c d e f g l m))
 | 0 => by refine ⟨?_, ?_, ?_, ?_⟩ <;> (intros; exact LeO.none _)
 | k + 1 => by
  obtain ⟨ih0, ih1, ih2, ih3⟩ := jigsawref06_Arity.mono_l k
  have m0 := @jigsawref06_has.mono
  refine ⟨?_, ?_, ?_, ?_⟩ <;> intros
  all_goals first | unfold jigsawref06_Arity.j0 | unfold jigsawref06_Arity.j1 | unfold jigsawref06_Arity.j2 | unfold jigsawref06_Arity.l0
  all_goals exact leo_
theorem jigsawref06_Arity.mono : ∀ a b c d e g l m n k, LeO (jigsawref06_Arity.f k a b c d e g l m n) (jigsawref06_Arity.f (k + 1) a b c d e g l m n) := by
 intro a b c d e g l m n k
 obtain ⟨ih0, ih1, ih2, ih3⟩ := jigsawref06_Arity.mono_l k
 unfold jigsawref06_Arity.f
 have m0 := @jigsawref06_has.mono
 exact leo_
set_option maxHeartbeats 8000000 in
set_option maxRecDepth 100000 in
theorem jigsawref06_Arity.calls (k : Nat) (c : Int) (s : Option Addr) (c0_1 : Nat) (a : List Int) (u : Option Addr) (c0_2 : Nat) (b : List Int) (v : Option Addr) (c0_3 : Nat) (l : List Int) (x : Option Addr) (c0_4 : Nat) (m : List Int) (y : Option Addr) (c0_5 : Nat) (n : List Int) (o : Int) (z : Option Addr) (c0_7 : Nat) (g : List (List Int)) (p : ByteArray) (r : Bool) (w : World) (aE : Kd.C (Kd.int .i64) w s a.length a) (af : a.length ≤ c0_1) (aF : Kd.C (Kd.int .i64) w u b.length b) (ag : b.length ≤ c0_2) (aG : Kd.C (Kd.int .i64) w v l.length l) (ah : l.length ≤ c0_3) (aH : Kd.C (Kd.int .i64) w x m.length m) (ai : m.length ≤ c0_4) (aI : Kd.C (Kd.int .i64) w y n.length n) (aj : n.length ≤ c0_5) (aJ : Kd.C (Kd.slice 3 (Kd.int .i64)) w z g.length g) (ak : g.length ≤ c0_7) (h : jigsawref06_Arity.f k c a b l m n o g p = some r) :
  Calls Tryz.prog 67 #[.agg #[.int .i64 c, .slice s a.length c0_1, .slice u b.length c0_2, .slice v l.length c0_3, .slice x m.length c0_4, .slice y n.length c0_5, .int .i64 o, .slice z g.length c0_7], .string p] w fun e w' => e = .returned (.bool r) ∧ Below w.heap.size w w' := by
 have hu32 := Tryz.underlying32
 have aP := a_ af
 clear aE af
 have aQ := a_ ag
 clear aF ag
 have aR := a_ ah
 clear aG ah
 have aS := a_ ai
 clear aH ai
 have aT := a_ aj
 clear aI aj
 have aU := a_ ak
 clear aJ ak
 have HB := a_ (Below.refl w.heap.size w)
 unfold jigsawref06_Arity.f at h
 have H := h
 clear h
 have am := a_ H
 clear H
 go_enter Tryz.func67, Tryz.ntmps67
 go_upto_region 3 with (first | ((with_reducible refine gate_dst (N := 2) rfl ?_); (try (refine gate_guard (by rfl) ?_; dsimp only)); refine bxe_ (N := 2) (cs := #[.int .i64 c, .slice s a.length c0_1, .slice u b.length c0_2, .slice v l.length c0_3, .slice x m.length c0_4, .slice y n.length c0_5, .int .i64 o, .slice z g.length c0_7]) (t := 32) ?_; intro q hg w4 hbox hb; have d := a_ (hbox); have Q := a_ (by rw [hg]; exact (bz_ bel_) : w.heap.size ≤ q); have al := Q; replace HB := hq_ hb; clear hb hbox hg; obtain ⟨_, _, _, _, _, _, _, _, _, _, _, _, _, _, _, _⟩ := cel8_ d.out))
 repeat (go_quiet (first | ((with_reducible refine gate_dst (N := 2) rfl ?_); (try (refine gate_guard (by rfl) ?_; dsimp only)); refine bxe_ (N := 2) (cs := #[.int .i64 c, .slice s a.length c0_1, .slice u b.length c0_2, .slice v l.length c0_3, .slice x m.length c0_4, .slice y n.length c0_5, .int .i64 o, .slice z g.length c0_7]) (t := 32) ?_; intro q hg w4 hbox hb; have d := a_ (hbox); have Q := a_ (by rw [hg]; exact (bz_ bel_) : w.heap.size ≤ q); have al := Q; replace HB := hq_ hb; clear hb hbox hg; obtain ⟨_, _, _, _, _, _, _, _, _, _, _, _, _, _, _, _⟩ := cel8_ d.out)); go_upto_region 3 with (first | ((with_reducible refine gate_dst (N := 2) rfl ?_); (try (refine gate_guard (by rfl) ?_; dsimp only)); refine bxe_ (N := 2) (cs := #[.int .i64 c, .slice s a.length c0_1, .slice u b.length c0_2, .slice v l.length c0_3, .slice x m.length c0_4, .slice y n.length c0_5, .int .i64 o, .slice z g.length c0_7]) (t := 32) ?_; intro q hg w4 hbox hb; have d := a_ (hbox); have Q := a_ (by rw [hg]; exact (bz_ bel_) : w.heap.size ≤ q); have al := Q; replace HB := hq_ hb; clear hb hbox hg; obtain ⟨_, _, _, _, _, _, _, _, _, _, _, _, _, _, _, _⟩ := cel8_ d.out)))
 (try simp only [Act.put, List.setIfInBounds_toArray, List.set_cons_zero, List.set_cons_succ])
 go_cut [26] (fun aN wc => ∃ (kq : Nat) (aa : Bool), aN = .bool aa ∧ Aside0 (jigsawref06_Arity.j0 kq p (a.length : Int) (b.length : Int) aa c a b l m n o g = some r) ∧ Aside0 (kq ≤ k) ∧ Aside0 (wc.heap[q]? = some (.cells #[.int .i64 c, (.slice s a.length c0_1), (.slice u b.length c0_2), (.slice v l.length c0_3), (.slice x m.length c0_4), (.slice y n.length c0_5), .int .i64 o, (.slice z g.length c0_7)] 32 (0, 0))) ∧ Aside0 (Below w.heap.size w wc))
 case first =>
  have H := am.out
  clear am
  by_cases c6 : o = 0
  ·
   rw [ip_ c6] at H
   have c6b0 : (o == 0) = true := beq_iff_eq.mpr c6
   have c6b1 : (o != 0) = false := bn_.mpr c6
   clear c6
   (first | rw [c6b0] | (simp only [i64_w, i32_w]; rw [c6b0]) | skip)
   have H' := a_ H
   clear H
   obtain ⟨_, _, _, _, _, _, _, _, _, _, _, _, _, _, _, _⟩ := cel8_ d.out
   go_wp2
   repeat (go_quiet (fail); try go_wp2)
   go_meet
   exact ⟨_, (false), eq_, H', ⟨by first | omega | exact lr_ _⟩, ⟨bk_ d.out⟩, ⟨bel_⟩⟩
  rw [ig_ c6] at H
  have c6b0 : (o == 0) = false := be_.mpr c6
  have c6b1 : (o != 0) = true := ni_.mpr c6
  (first | rw [c6b0] | (simp only [i64_w, i32_w]; rw [c6b0]) | skip)
  replace H := bo_ H
  obtain ⟨ac, A8, H⟩ := H
  try dsimp only at H
  have H' := a_ H
  clear H
  obtain ⟨_, _, _, _, _, _, _, _, _, _, _, _, _, _, _, _⟩ := cel8_ d.out
  go_wp2_with (first | (go_at_call 37; (with_reducible refine (jigsawref06_has.calls k p 107 ac _ A8.out).mono ?_); rintro e w' ⟨rfl, ⟨nd, rfl⟩⟩; (try first | exact ⟨rfl, _, World.drewN_drewN _ _ _⟩ | exact ⟨rfl, _, Eq.trans (World.drewN_drewN _ _ _) (congrArg (World.drewN _) (Nat.add_assoc _ _ _))⟩)))
  repeat (go_quiet (first | (go_at_call 37; (with_reducible refine (jigsawref06_has.calls k p 107 ac _ A8.out).mono ?_); rintro e w' ⟨rfl, ⟨nd, rfl⟩⟩; (try first | exact ⟨rfl, _, World.drewN_drewN _ _ _⟩ | exact ⟨rfl, _, Eq.trans (World.drewN_drewN _ _ _) (congrArg (World.drewN _) (Nat.add_assoc _ _ _))⟩))); try go_wp2_with (first | (go_at_call 37; (with_reducible refine (jigsawref06_has.calls k p 107 ac _ A8.out).mono ?_); rintro e w' ⟨rfl, ⟨nd, rfl⟩⟩; (try first | exact ⟨rfl, _, World.drewN_drewN _ _ _⟩ | exact ⟨rfl, _, Eq.trans (World.drewN_drewN _ _ _) (congrArg (World.drewN _) (Nat.add_assoc _ _ _))⟩))))
  go_meet
  exact ⟨_, ((ac == 0)), eq_, H', ⟨by first | omega | exact lr_ _⟩, ⟨bk_ d.out⟩, ⟨bel_⟩⟩
 clear am
 try clear p2
 try clear c6
 try clear c6b0
 try clear c6b1
 obtain ⟨kq, aa, rfl, HA, ab, d, HB⟩ := hcut
 cases kq with
 | zero => exact absurd HA.out (by simp [jigsawref06_Arity.j0])
 | succ kj2 =>
  have H := HA.out
  clear HA
  simp only [jigsawref06_Arity.j0] at H
  by_cases c10 : aa = true
  ·
   subst c10
   rw [ip_ rfl] at H
   obtain rfl := si_ H
   go_wp2
   repeat (go_quiet (fail); try go_wp2)
   go_ret
   exact ⟨er_, bel_⟩
  replace c10 := bf_.mpr c10
  subst c10
  have H1 : (if c = 12 then (none) else ((jigsawref06_has.f kj2 p 118).bind fun B => ((jigsawref06_has.f kj2 p 86).bind fun E => ((jigsawref06_list.f (a.length : Int) B E).bind fun V => ((jigsawref06_has.f kj2 p 119).bind fun F => ((jigsawref06_has.f kj2 p 87).bind fun G => ((jigsawref06_list.f (b.length : Int) F G).bind fun W => ((jigsawref06_has.f kj2 p 99).bind fun I => ((jigsawref06_list.f (l.length : Int) 0 I).bind fun X => ((jigsawref06_has.f kj2 p 100).bind fun J => ((jigsawref06_list.f (m.length : Int) 0 J).bind fun Y => ((jigsawref06_has.f kj2 p 101).bind fun K => ((jigsawref06_list.f (n.length : Int) 0 K).bind fun Z => (if V = true then (if W = true then (if X = true then (if Y = true then (jigsawref06_Arity.j1 kj2 p (a.length : Int) (b.length : Int) (!Z) c a b l m n o g) else (jigsawref06_Arity.j1 kj2 p (a.length : Int) (b.length : Int) true c a b l m n o g)) else (jigsawref06_Arity.j1 kj2 p (a.length : Int) (b.length : Int) true c a b l m n o g)) else (jigsawref06_Arity.j1 kj2 p (a.length : Int) (b.length : Int) true c a b l m n o g)) else (jigsawref06_Arity.j1 kj2 p (a.length : Int) (b.length : Int) true c a b l m n o g))))))))))))))) = some r := by rw [ig_ (show ¬ (false = true) by decide)] at H; exact H
  clear H
  have H := H1
  clear H1
  by_cases c11 : c = 12
  ·
   rw [ip_ c11] at H
   exact ab_ H
  rw [ig_ c11] at H
  have c11b0 : (c == 12) = false := be_.mpr c11
  have c11b1 : (c != 12) = true := ni_.mpr c11
  replace H := bo_ H
  obtain ⟨B, an, H⟩ := H
  try dsimp only at H
  replace H := bo_ H
  obtain ⟨E, ao, H⟩ := H
  try dsimp only at H
  replace H := bo_ H
  obtain ⟨V, ap, H⟩ := H
  try dsimp only at H
  replace H := bo_ H
  obtain ⟨F, aq, H⟩ := H
  try dsimp only at H
  replace H := bo_ H
  obtain ⟨G, ar, H⟩ := H
  try dsimp only at H
  replace H := bo_ H
  obtain ⟨W, au, H⟩ := H
  try dsimp only at H
  replace H := bo_ H
  obtain ⟨I, av, H⟩ := H
  try dsimp only at H
  replace H := bo_ H
  obtain ⟨X, aw, H⟩ := H
  try dsimp only at H
  replace H := bo_ H
  obtain ⟨J, ax, H⟩ := H
  try dsimp only at H
  replace H := bo_ H
  obtain ⟨Y, ay, H⟩ := H
  try dsimp only at H
  replace H := bo_ H
  obtain ⟨K, az, H⟩ := H
  try dsimp only at H
  replace H := bo_ H
  obtain ⟨Z, aA, H⟩ := H
  try dsimp only at H
  have ad := a_ H
  clear H
  obtain ⟨_, _, _, _, _, _, _, _, _, _, _, _, _, _, _, _⟩ := cel8_ d.out
  go_upto_region 12 with (first | (go_at_call 37; (with_reducible refine (jigsawref06_has.calls kj2 p 118 B _ an.out).mono ?_); rintro e w' ⟨rfl, ⟨nd, rfl⟩⟩; (try first | exact ⟨rfl, _, World.drewN_drewN _ _ _⟩ | exact ⟨rfl, _, Eq.trans (World.drewN_drewN _ _ _) (congrArg (World.drewN _) (Nat.add_assoc _ _ _))⟩)) | (go_at_call 37; (with_reducible refine (jigsawref06_has.calls kj2 p 86 E _ ao.out).mono ?_); rintro e w' ⟨rfl, ⟨nd, rfl⟩⟩; (try first | exact ⟨rfl, _, World.drewN_drewN _ _ _⟩ | exact ⟨rfl, _, Eq.trans (World.drewN_drewN _ _ _) (congrArg (World.drewN _) (Nat.add_assoc _ _ _))⟩)) | (go_at_call 87; (with_reducible refine (jigsawref06_list.calls (a.length : Int) B E V _ ap.out).mono ?_); rintro e w' ⟨rfl, ⟨nd, rfl⟩⟩; (try first | exact ⟨rfl, _, World.drewN_drewN _ _ _⟩ | exact ⟨rfl, _, Eq.trans (World.drewN_drewN _ _ _) (congrArg (World.drewN _) (Nat.add_assoc _ _ _))⟩)) | (go_at_call 37; (with_reducible refine (jigsawref06_has.calls kj2 p 119 F _ aq.out).mono ?_); rintro e w' ⟨rfl, ⟨nd, rfl⟩⟩; (try first | exact ⟨rfl, _, World.drewN_drewN _ _ _⟩ | exact ⟨rfl, _, Eq.trans (World.drewN_drewN _ _ _) (congrArg (World.drewN _) (Nat.add_assoc _ _ _))⟩)) | (go_at_call 37; (with_reducible refine (jigsawref06_has.calls kj2 p 87 G _ ar.out).mono ?_); rintro e w' ⟨rfl, ⟨nd, rfl⟩⟩; (try first | exact ⟨rfl, _, World.drewN_drewN _ _ _⟩ | exact ⟨rfl, _, Eq.trans (World.drewN_drewN _ _ _) (congrArg (World.drewN _) (Nat.add_assoc _ _ _))⟩)) | (go_at_call 87; (with_reducible refine (jigsawref06_list.calls (b.length : Int) F G W _ au.out).mono ?_); rintro e w' ⟨rfl, ⟨nd, rfl⟩⟩; (try first | exact ⟨rfl, _, World.drewN_drewN _ _ _⟩ | exact ⟨rfl, _, Eq.trans (World.drewN_drewN _ _ _) (congrArg (World.drewN _) (Nat.add_assoc _ _ _))⟩)) | (go_at_call 37; (with_reducible refine (jigsawref06_has.calls kj2 p 99 I _ av.out).mono ?_); rintro e w' ⟨rfl, ⟨nd, rfl⟩⟩; (try first | exact ⟨rfl, _, World.drewN_drewN _ _ _⟩ | exact ⟨rfl, _, Eq.trans (World.drewN_drewN _ _ _) (congrArg (World.drewN _) (Nat.add_assoc _ _ _))⟩)) | (go_at_call 87; (with_reducible refine (jigsawref06_list.calls (l.length : Int) 0 I X _ aw.out).mono ?_); rintro e w' ⟨rfl, ⟨nd, rfl⟩⟩; (try first | exact ⟨rfl, _, World.drewN_drewN _ _ _⟩ | exact ⟨rfl, _, Eq.trans (World.drewN_drewN _ _ _) (congrArg (World.drewN _) (Nat.add_assoc _ _ _))⟩)) | (go_at_call 37; (with_reducible refine (jigsawref06_has.calls kj2 p 100 J _ ax.out).mono ?_); rintro e w' ⟨rfl, ⟨nd, rfl⟩⟩; (try first | exact ⟨rfl, _, World.drewN_drewN _ _ _⟩ | exact ⟨rfl, _, Eq.trans (World.drewN_drewN _ _ _) (congrArg (World.drewN _) (Nat.add_assoc _ _ _))⟩)) | (go_at_call 87; (with_reducible refine (jigsawref06_list.calls (m.length : Int) 0 J Y _ ay.out).mono ?_); rintro e w' ⟨rfl, ⟨nd, rfl⟩⟩; (try first | exact ⟨rfl, _, World.drewN_drewN _ _ _⟩ | exact ⟨rfl, _, Eq.trans (World.drewN_drewN _ _ _) (congrArg (World.drewN _) (Nat.add_assoc _ _ _))⟩)) | (go_at_call 37; (with_reducible refine (jigsawref06_has.calls kj2 p 101 K _ az.out).mono ?_); rintro e w' ⟨rfl, ⟨nd, rfl⟩⟩; (try first | exact ⟨rfl, _, World.drewN_drewN _ _ _⟩ | exact ⟨rfl, _, Eq.trans (World.drewN_drewN _ _ _) (congrArg (World.drewN _) (Nat.add_assoc _ _ _))⟩)) | (go_at_call 87; (with_reducible refine (jigsawref06_list.calls (n.length : Int) 0 K Z _ aA.out).mono ?_); rintro e w' ⟨rfl, ⟨nd, rfl⟩⟩; (try first | exact ⟨rfl, _, World.drewN_drewN _ _ _⟩ | exact ⟨rfl, _, Eq.trans (World.drewN_drewN _ _ _) (congrArg (World.drewN _) (Nat.add_assoc _ _ _))⟩)))
  repeat (go_quiet (first | (go_at_call 37; (with_reducible refine (jigsawref06_has.calls kj2 p 118 B _ an.out).mono ?_); rintro e w' ⟨rfl, ⟨nd, rfl⟩⟩; (try first | exact ⟨rfl, _, World.drewN_drewN _ _ _⟩ | exact ⟨rfl, _, Eq.trans (World.drewN_drewN _ _ _) (congrArg (World.drewN _) (Nat.add_assoc _ _ _))⟩)) | (go_at_call 37; (with_reducible refine (jigsawref06_has.calls kj2 p 86 E _ ao.out).mono ?_); rintro e w' ⟨rfl, ⟨nd, rfl⟩⟩; (try first | exact ⟨rfl, _, World.drewN_drewN _ _ _⟩ | exact ⟨rfl, _, Eq.trans (World.drewN_drewN _ _ _) (congrArg (World.drewN _) (Nat.add_assoc _ _ _))⟩)) | (go_at_call 87; (with_reducible refine (jigsawref06_list.calls (a.length : Int) B E V _ ap.out).mono ?_); rintro e w' ⟨rfl, ⟨nd, rfl⟩⟩; (try first | exact ⟨rfl, _, World.drewN_drewN _ _ _⟩ | exact ⟨rfl, _, Eq.trans (World.drewN_drewN _ _ _) (congrArg (World.drewN _) (Nat.add_assoc _ _ _))⟩)) | (go_at_call 37; (with_reducible refine (jigsawref06_has.calls kj2 p 119 F _ aq.out).mono ?_); rintro e w' ⟨rfl, ⟨nd, rfl⟩⟩; (try first | exact ⟨rfl, _, World.drewN_drewN _ _ _⟩ | exact ⟨rfl, _, Eq.trans (World.drewN_drewN _ _ _) (congrArg (World.drewN _) (Nat.add_assoc _ _ _))⟩)) | (go_at_call 37; (with_reducible refine (jigsawref06_has.calls kj2 p 87 G _ ar.out).mono ?_); rintro e w' ⟨rfl, ⟨nd, rfl⟩⟩; (try first | exact ⟨rfl, _, World.drewN_drewN _ _ _⟩ | exact ⟨rfl, _, Eq.trans (World.drewN_drewN _ _ _) (congrArg (World.drewN _) (Nat.add_assoc _ _ _))⟩)) | (go_at_call 87; (with_reducible refine (jigsawref06_list.calls (b.length : Int) F G W _ au.out).mono ?_); rintro e w' ⟨rfl, ⟨nd, rfl⟩⟩; (try first | exact ⟨rfl, _, World.drewN_drewN _ _ _⟩ | exact ⟨rfl, _, Eq.trans (World.drewN_drewN _ _ _) (congrArg (World.drewN _) (Nat.add_assoc _ _ _))⟩)) | (go_at_call 37; (with_reducible refine (jigsawref06_has.calls kj2 p 99 I _ av.out).mono ?_); rintro e w' ⟨rfl, ⟨nd, rfl⟩⟩; (try first | exact ⟨rfl, _, World.drewN_drewN _ _ _⟩ | exact ⟨rfl, _, Eq.trans (World.drewN_drewN _ _ _) (congrArg (World.drewN _) (Nat.add_assoc _ _ _))⟩)) | (go_at_call 87; (with_reducible refine (jigsawref06_list.calls (l.length : Int) 0 I X _ aw.out).mono ?_); rintro e w' ⟨rfl, ⟨nd, rfl⟩⟩; (try first | exact ⟨rfl, _, World.drewN_drewN _ _ _⟩ | exact ⟨rfl, _, Eq.trans (World.drewN_drewN _ _ _) (congrArg (World.drewN _) (Nat.add_assoc _ _ _))⟩)) | (go_at_call 37; (with_reducible refine (jigsawref06_has.calls kj2 p 100 J _ ax.out).mono ?_); rintro e w' ⟨rfl, ⟨nd, rfl⟩⟩; (try first | exact ⟨rfl, _, World.drewN_drewN _ _ _⟩ | exact ⟨rfl, _, Eq.trans (World.drewN_drewN _ _ _) (congrArg (World.drewN _) (Nat.add_assoc _ _ _))⟩)) | (go_at_call 87; (with_reducible refine (jigsawref06_list.calls (m.length : Int) 0 J Y _ ay.out).mono ?_); rintro e w' ⟨rfl, ⟨nd, rfl⟩⟩; (try first | exact ⟨rfl, _, World.drewN_drewN _ _ _⟩ | exact ⟨rfl, _, Eq.trans (World.drewN_drewN _ _ _) (congrArg (World.drewN _) (Nat.add_assoc _ _ _))⟩)) | (go_at_call 37; (with_reducible refine (jigsawref06_has.calls kj2 p 101 K _ az.out).mono ?_); rintro e w' ⟨rfl, ⟨nd, rfl⟩⟩; (try first | exact ⟨rfl, _, World.drewN_drewN _ _ _⟩ | exact ⟨rfl, _, Eq.trans (World.drewN_drewN _ _ _) (congrArg (World.drewN _) (Nat.add_assoc _ _ _))⟩)) | (go_at_call 87; (with_reducible refine (jigsawref06_list.calls (n.length : Int) 0 K Z _ aA.out).mono ?_); rintro e w' ⟨rfl, ⟨nd, rfl⟩⟩; (try first | exact ⟨rfl, _, World.drewN_drewN _ _ _⟩ | exact ⟨rfl, _, Eq.trans (World.drewN_drewN _ _ _) (congrArg (World.drewN _) (Nat.add_assoc _ _ _))⟩))); go_upto_region 12 with (first | (go_at_call 37; (with_reducible refine (jigsawref06_has.calls kj2 p 118 B _ an.out).mono ?_); rintro e w' ⟨rfl, ⟨nd, rfl⟩⟩; (try first | exact ⟨rfl, _, World.drewN_drewN _ _ _⟩ | exact ⟨rfl, _, Eq.trans (World.drewN_drewN _ _ _) (congrArg (World.drewN _) (Nat.add_assoc _ _ _))⟩)) | (go_at_call 37; (with_reducible refine (jigsawref06_has.calls kj2 p 86 E _ ao.out).mono ?_); rintro e w' ⟨rfl, ⟨nd, rfl⟩⟩; (try first | exact ⟨rfl, _, World.drewN_drewN _ _ _⟩ | exact ⟨rfl, _, Eq.trans (World.drewN_drewN _ _ _) (congrArg (World.drewN _) (Nat.add_assoc _ _ _))⟩)) | (go_at_call 87; (with_reducible refine (jigsawref06_list.calls (a.length : Int) B E V _ ap.out).mono ?_); rintro e w' ⟨rfl, ⟨nd, rfl⟩⟩; (try first | exact ⟨rfl, _, World.drewN_drewN _ _ _⟩ | exact ⟨rfl, _, Eq.trans (World.drewN_drewN _ _ _) (congrArg (World.drewN _) (Nat.add_assoc _ _ _))⟩)) | (go_at_call 37; (with_reducible refine (jigsawref06_has.calls kj2 p 119 F _ aq.out).mono ?_); rintro e w' ⟨rfl, ⟨nd, rfl⟩⟩; (try first | exact ⟨rfl, _, World.drewN_drewN _ _ _⟩ | exact ⟨rfl, _, Eq.trans (World.drewN_drewN _ _ _) (congrArg (World.drewN _) (Nat.add_assoc _ _ _))⟩)) | (go_at_call 37; (with_reducible refine (jigsawref06_has.calls kj2 p 87 G _ ar.out).mono ?_); rintro e w' ⟨rfl, ⟨nd, rfl⟩⟩; (try first | exact ⟨rfl, _, World.drewN_drewN _ _ _⟩ | exact ⟨rfl, _, Eq.trans (World.drewN_drewN _ _ _) (congrArg (World.drewN _) (Nat.add_assoc _ _ _))⟩)) | (go_at_call 87; (with_reducible refine (jigsawref06_list.calls (b.length : Int) F G W _ au.out).mono ?_); rintro e w' ⟨rfl, ⟨nd, rfl⟩⟩; (try first | exact ⟨rfl, _, World.drewN_drewN _ _ _⟩ | exact ⟨rfl, _, Eq.trans (World.drewN_drewN _ _ _) (congrArg (World.drewN _) (Nat.add_assoc _ _ _))⟩)) | (go_at_call 37; (with_reducible refine (jigsawref06_has.calls kj2 p 99 I _ av.out).mono ?_); rintro e w' ⟨rfl, ⟨nd, rfl⟩⟩; (try first | exact ⟨rfl, _, World.drewN_drewN _ _ _⟩ | exact ⟨rfl, _, Eq.trans (World.drewN_drewN _ _ _) (congrArg (World.drewN _) (Nat.add_assoc _ _ _))⟩)) | (go_at_call 87; (with_reducible refine (jigsawref06_list.calls (l.length : Int) 0 I X _ aw.out).mono ?_); rintro e w' ⟨rfl, ⟨nd, rfl⟩⟩; (try first | exact ⟨rfl, _, World.drewN_drewN _ _ _⟩ | exact ⟨rfl, _, Eq.trans (World.drewN_drewN _ _ _) (congrArg (World.drewN _) (Nat.add_assoc _ _ _))⟩)) | (go_at_call 37; (with_reducible refine (jigsawref06_has.calls kj2 p 100 J _ ax.out).mono ?_); rintro e w' ⟨rfl, ⟨nd, rfl⟩⟩; (try first | exact ⟨rfl, _, World.drewN_drewN _ _ _⟩ | exact ⟨rfl, _, Eq.trans (World.drewN_drewN _ _ _) (congrArg (World.drewN _) (Nat.add_assoc _ _ _))⟩)) | (go_at_call 87; (with_reducible refine (jigsawref06_list.calls (m.length : Int) 0 J Y _ ay.out).mono ?_); rintro e w' ⟨rfl, ⟨nd, rfl⟩⟩; (try first | exact ⟨rfl, _, World.drewN_drewN _ _ _⟩ | exact ⟨rfl, _, Eq.trans (World.drewN_drewN _ _ _) (congrArg (World.drewN _) (Nat.add_assoc _ _ _))⟩)) | (go_at_call 37; (with_reducible refine (jigsawref06_has.calls kj2 p 101 K _ az.out).mono ?_); rintro e w' ⟨rfl, ⟨nd, rfl⟩⟩; (try first | exact ⟨rfl, _, World.drewN_drewN _ _ _⟩ | exact ⟨rfl, _, Eq.trans (World.drewN_drewN _ _ _) (congrArg (World.drewN _) (Nat.add_assoc _ _ _))⟩)) | (go_at_call 87; (with_reducible refine (jigsawref06_list.calls (n.length : Int) 0 K Z _ aA.out).mono ?_); rintro e w' ⟨rfl, ⟨nd, rfl⟩⟩; (try first | exact ⟨rfl, _, World.drewN_drewN _ _ _⟩ | exact ⟨rfl, _, Eq.trans (World.drewN_drewN _ _ _) (congrArg (World.drewN _) (Nat.add_assoc _ _ _))⟩))))
  (try simp only [Act.put, List.setIfInBounds_toArray, List.set_cons_zero, List.set_cons_succ])
  go_cut [113] (fun aL wc => ∃ (kq : Nat) (M : Bool), aL = .bool M ∧ Aside0 (jigsawref06_Arity.j1 kq p (a.length : Int) (b.length : Int) M c a b l m n o g = some r) ∧ Aside0 (kq ≤ kj2) ∧ Aside0 (wc.heap[q]? = some (.cells #[.int .i64 c, (.slice s a.length c0_1), (.slice u b.length c0_2), (.slice v l.length c0_3), (.slice x m.length c0_4), (.slice y n.length c0_5), .int .i64 o, (.slice z g.length c0_7)] 32 (0, 0))) ∧ Aside0 (Below w.heap.size w wc))
  case first =>
   have H := ad.out
   clear ad
   by_cases c26 : V = true
   rotate_left
   ·
    replace c26 := bf_.mpr c26
    subst c26
    have H1 : (jigsawref06_Arity.j1 kj2 p (a.length : Int) (b.length : Int) true c a b l m n o g) = some r := by rw [ig_ (show ¬ (false = true) by decide)] at H; exact H
    clear H
    have H := H1
    clear H1
    have H' := a_ H
    clear H
    go_wp2
    repeat (go_quiet (fail); try go_wp2)
    go_meet
    exact ⟨_, (true), eq_, H', ⟨by have := ab.out; first | omega | exact lr_ _⟩, ⟨bk_ d.out⟩, ⟨bel_⟩⟩
   subst c26
   rw [ip_ rfl] at H
   by_cases c27 : W = true
   rotate_left
   ·
    replace c27 := bf_.mpr c27
    subst c27
    have H1 : (jigsawref06_Arity.j1 kj2 p (a.length : Int) (b.length : Int) true c a b l m n o g) = some r := by rw [ig_ (show ¬ (false = true) by decide)] at H; exact H
    clear H
    have H := H1
    clear H1
    have H' := a_ H
    clear H
    go_wp2
    repeat (go_quiet (fail); try go_wp2)
    go_meet
    exact ⟨_, (true), eq_, H', ⟨by have := ab.out; first | omega | exact lr_ _⟩, ⟨bk_ d.out⟩, ⟨bel_⟩⟩
   subst c27
   rw [ip_ rfl] at H
   by_cases c28 : X = true
   rotate_left
   ·
    replace c28 := bf_.mpr c28
    subst c28
    have H1 : (jigsawref06_Arity.j1 kj2 p (a.length : Int) (b.length : Int) true c a b l m n o g) = some r := by rw [ig_ (show ¬ (false = true) by decide)] at H; exact H
    clear H
    have H := H1
    clear H1
    have H' := a_ H
    clear H
    go_wp2
    repeat (go_quiet (fail); try go_wp2)
    go_meet
    exact ⟨_, (true), eq_, H', ⟨by have := ab.out; first | omega | exact lr_ _⟩, ⟨bk_ d.out⟩, ⟨bel_⟩⟩
   subst c28
   rw [ip_ rfl] at H
   by_cases c29 : Y = true
   ·
    subst c29
    rw [ip_ rfl] at H
    have H' := a_ H
    clear H
    go_wp2
    repeat (go_quiet (fail); try go_wp2)
    go_meet
    exact ⟨_, (!Z), eq_, H', ⟨by have := ab.out; first | omega | exact lr_ _⟩, ⟨bk_ d.out⟩, ⟨bel_⟩⟩
   replace c29 := bf_.mpr c29
   subst c29
   have H1 : (jigsawref06_Arity.j1 kj2 p (a.length : Int) (b.length : Int) true c a b l m n o g) = some r := by rw [ig_ (show ¬ (false = true) by decide)] at H; exact H
   clear H
   have H := H1
   clear H1
   have H' := a_ H
   clear H
   go_wp2
   repeat (go_quiet (fail); try go_wp2)
   go_meet
   exact ⟨_, (true), eq_, H', ⟨by have := ab.out; first | omega | exact lr_ _⟩, ⟨bk_ d.out⟩, ⟨bel_⟩⟩
  clear ad
  try clear c1
  try clear c2
  try clear p2
  try clear c6
  try clear c6b0
  try clear c6b1
  try clear c10
  try clear c11
  try clear c11b0
  try clear c11b1
  try clear c26
  try clear c27
  try clear c28
  try clear c29
  try clear p2
  obtain ⟨kq, M, rfl, HA, aB, d, HB⟩ := hcut
  cases kq with
  | zero => exact absurd HA.out (by simp [jigsawref06_Arity.j1])
  | succ kj23 =>
   have H := HA.out
   clear HA
   simp only [jigsawref06_Arity.j1] at H
   by_cases c30 : M = true
   ·
    subst c30
    rw [ip_ rfl] at H
    obtain rfl := si_ H
    go_wp2
    repeat (go_quiet (fail); try go_wp2)
    go_ret
    exact ⟨er_, bel_⟩
   replace c30 := bf_.mpr c30
   subst c30
   have H1 : ((jigsawref06_has.f kj23 p 114).bind fun A => (if A = 0 then (if (g.length : Int) > 0 then (none) else ((jigsawref06_has.f kj23 p 114).bind fun P => (if P > 0 then (none) else (if c ≤ 4 then (none) else (if c = 19 then (none) else (if c = 21 then (none) else (if c ≥ 22 then (jigsawref06_Arity.j2 kj23 ((b.length : Int) != (a.length : Int)) c a b l m n o g) else (jigsawref06_Arity.j2 kj23 false c a b l m n o g)))))))) else (none))) = some r := by rw [ig_ (show ¬ (false = true) by decide)] at H; exact H
   clear H
   have H := H1
   clear H1
   replace H := bo_ H
   obtain ⟨A, aC, H⟩ := H
   try dsimp only at H
   by_cases c32 : A = 0
   rotate_left
   ·
    rw [ig_ c32] at H
    exact ab_ H
   rw [ip_ c32] at H
   have c32b0 : (A == 0) = true := beq_iff_eq.mpr c32
   have c32b1 : (A != 0) = false := bn_.mpr c32
   have c32b9 : decide (0 < A) = false := df_ (by omega)
   clear c32
   by_cases c33 : (g.length : Int) > 0
   ·
    rw [ip_ c33] at H
    exact ab_ H
   rw [ig_ c33] at H
   have c33b0 : decide (0 < (g.length : Int)) = false := df_ c33
   have c33b1 : decide (0 < g.length) = false := df_ (by omega)
   clear c33
   replace H := bo_ H
   obtain ⟨P, aD, H⟩ := H
   try dsimp only at H
   by_cases c35 : P > 0
   ·
    rw [ip_ c35] at H
    exact ab_ H
   rw [ig_ c35] at H
   have c35b0 : decide (0 < P) = false := df_ c35
   clear c35
   by_cases c36 : c ≤ 4
   ·
    rw [ip_ c36] at H
    exact ab_ H
   rw [ig_ c36] at H
   have c36b0 : decide (c ≤ 4) = false := df_ c36
   clear c36
   have ae := a_ H
   clear H
   go_upto_region 18 with (first | (go_at_call 37; (with_reducible refine (jigsawref06_has.calls kj23 p 114 A _ aC.out).mono ?_); rintro e w' ⟨rfl, ⟨nd, rfl⟩⟩; (try first | exact ⟨rfl, _, World.drewN_drewN _ _ _⟩ | exact ⟨rfl, _, Eq.trans (World.drewN_drewN _ _ _) (congrArg (World.drewN _) (Nat.add_assoc _ _ _))⟩); obtain ⟨_, _, _, _, _, _, _, _, _, _, _, _, _, _, _, _⟩ := cel8_ d.out) | (go_at_call 37; (with_reducible refine (jigsawref06_has.calls kj23 p 114 P _ aD.out).mono ?_); rintro e w' ⟨rfl, ⟨nd, rfl⟩⟩; (try first | exact ⟨rfl, _, World.drewN_drewN _ _ _⟩ | exact ⟨rfl, _, Eq.trans (World.drewN_drewN _ _ _) (congrArg (World.drewN _) (Nat.add_assoc _ _ _))⟩)))
   repeat (go_quiet (first | (go_at_call 37; (with_reducible refine (jigsawref06_has.calls kj23 p 114 A _ aC.out).mono ?_); rintro e w' ⟨rfl, ⟨nd, rfl⟩⟩; (try first | exact ⟨rfl, _, World.drewN_drewN _ _ _⟩ | exact ⟨rfl, _, Eq.trans (World.drewN_drewN _ _ _) (congrArg (World.drewN _) (Nat.add_assoc _ _ _))⟩); obtain ⟨_, _, _, _, _, _, _, _, _, _, _, _, _, _, _, _⟩ := cel8_ d.out) | (go_at_call 37; (with_reducible refine (jigsawref06_has.calls kj23 p 114 P _ aD.out).mono ?_); rintro e w' ⟨rfl, ⟨nd, rfl⟩⟩; (try first | exact ⟨rfl, _, World.drewN_drewN _ _ _⟩ | exact ⟨rfl, _, Eq.trans (World.drewN_drewN _ _ _) (congrArg (World.drewN _) (Nat.add_assoc _ _ _))⟩))); go_upto_region 18 with (first | (go_at_call 37; (with_reducible refine (jigsawref06_has.calls kj23 p 114 A _ aC.out).mono ?_); rintro e w' ⟨rfl, ⟨nd, rfl⟩⟩; (try first | exact ⟨rfl, _, World.drewN_drewN _ _ _⟩ | exact ⟨rfl, _, Eq.trans (World.drewN_drewN _ _ _) (congrArg (World.drewN _) (Nat.add_assoc _ _ _))⟩); obtain ⟨_, _, _, _, _, _, _, _, _, _, _, _, _, _, _, _⟩ := cel8_ d.out) | (go_at_call 37; (with_reducible refine (jigsawref06_has.calls kj23 p 114 P _ aD.out).mono ?_); rintro e w' ⟨rfl, ⟨nd, rfl⟩⟩; (try first | exact ⟨rfl, _, World.drewN_drewN _ _ _⟩ | exact ⟨rfl, _, Eq.trans (World.drewN_drewN _ _ _) (congrArg (World.drewN _) (Nat.add_assoc _ _ _))⟩))))
   (try simp only [Act.put, List.setIfInBounds_toArray, List.set_cons_zero, List.set_cons_succ])
   go_cut [199] (fun aM wc => ∃ (kq : Nat) (O : Bool), aM = .bool O ∧ Aside0 (jigsawref06_Arity.j2 kq O c a b l m n o g = some r) ∧ Aside0 (kq ≤ kj23) ∧ Aside0 (wc.heap[q]? = some (.cells #[.int .i64 c, (.slice s a.length c0_1), (.slice u b.length c0_2), (.slice v l.length c0_3), (.slice x m.length c0_4), (.slice y n.length c0_5), .int .i64 o, (.slice z g.length c0_7)] 32 (0, 0))) ∧ Aside0 (Below w.heap.size w wc))
   case first =>
    have H := ae.out
    clear ae
    by_cases c39 : c = 19
    ·
     rw [ip_ c39] at H
     exact ab_ H
    rw [ig_ c39] at H
    have c39b0 : (c == 19) = false := be_.mpr c39
    have c39b1 : (c != 19) = true := ni_.mpr c39
    (first | rw [c39b0] | (simp only [i64_w, i32_w]; rw [c39b0]) | skip)
    by_cases c40 : c = 21
    ·
     rw [ip_ c40] at H
     exact ab_ H
    rw [ig_ c40] at H
    have c40b0 : (c == 21) = false := be_.mpr c40
    have c40b1 : (c != 21) = true := ni_.mpr c40
    by_cases c41 : c ≥ 22
    rotate_left
    ·
     rw [ig_ c41] at H
     have c41b0 : decide (22 ≤ c) = false := df_ c41
     clear c41
     have H' := a_ H
     clear H
     obtain ⟨_, _, _, _, _, _, _, _, _, _, _, _, _, _, _, _⟩ := cel8_ d.out
     go_wp2
     repeat (go_quiet (fail); try go_wp2)
     go_meet
     exact ⟨_, (false), eq_, H', ⟨by have := ab.out; have := aB.out; first | omega | exact lr_ _⟩, ⟨bk_ d.out⟩, ⟨bel_⟩⟩
    rw [ip_ c41] at H
    have c41b0 : decide (22 ≤ c) = true := dt_ c41
    clear c41
    have H' := a_ H
    clear H
    obtain ⟨_, _, _, _, _, _, _, _, _, _, _, _, _, _, _, _⟩ := cel8_ d.out
    go_wp2
    repeat (go_quiet (fail); try go_wp2)
    go_meet
    exact ⟨_, (((b.length : Int) != (a.length : Int))), eq_, H', ⟨by have := ab.out; have := aB.out; first | omega | exact lr_ _⟩, ⟨bk_ d.out⟩, ⟨bel_⟩⟩
   clear ae
   try clear c1
   try clear c2
   try clear p2
   try clear c3
   try clear c4
   try clear c6
   try clear c6b0
   try clear c6b1
   try clear c10
   try clear c11
   try clear c11b0
   try clear c11b1
   try clear c26
   try clear c27
   try clear c28
   try clear c29
   try clear c30
   try clear c32
   try clear c32b0
   try clear c32b1
   try clear c33
   try clear c33b0
   try clear c33b1
   try clear c35
   try clear c35b0
   try clear c36
   try clear c36b0
   try clear c39
   try clear c39b0
   try clear c39b1
   try clear c40
   try clear c40b0
   try clear c40b1
   try clear c41
   try clear c41b0
   try clear p2
   obtain ⟨kq, O, rfl, HA, aV, d, HB⟩ := hcut
   cases kq with
   | zero => exact absurd HA.out (by simp [jigsawref06_Arity.j2])
   | succ kj36 =>
    have H := HA.out
    clear HA
    simp only [jigsawref06_Arity.j2] at H
    by_cases c44 : O = true
    ·
     subst c44
     rw [ip_ rfl] at H
     obtain rfl := si_ H
     go_wp2
     repeat (go_quiet (fail); try go_wp2)
     go_ret
     exact ⟨er_, bel_⟩
    replace c44 := bf_.mpr c44
    subst c44
    have H1 : (jigsawref06_Arity.l0 kj36 0 c a b l m n o g) = some r := by rw [ig_ (show ¬ (false = true) by decide)] at H; exact H
    clear H
    have H := H1
    clear H1
    have H' := a_ H
    clear H
    go_wp2
    repeat (go_quiet (fail); try go_wp2)
    go_loopg [12] kj36 (fun kq aO w' => ∃ (U : Int), aO = .int .i64 U ∧ Aside0 (jigsawref06_Arity.l0 kq U c a b l m n o g = some r) ∧ Aside0 (kq ≤ kj36) ∧ Aside0 (w'.heap[q]? = some (.cells #[.int .i64 c, (.slice s a.length c0_1), (.slice u b.length c0_2), (.slice v l.length c0_3), (.slice x m.length c0_4), (.slice y n.length c0_5), .int .i64 o, (.slice z g.length c0_7)] 32 (0, 0))) ∧ Aside0 (Below w.heap.size w w'))
    case atStart => exact ⟨(0), eq_, H', ⟨lr_ _⟩, ⟨bk_ d.out⟩, ⟨bel_⟩⟩
    clear H'
    try clear c1
    try clear c2
    try clear p2
    try clear c3
    try clear c4
    try clear c6
    try clear c6b0
    try clear c6b1
    try clear c10
    try clear c11
    try clear c11b0
    try clear c11b1
    try clear c26
    try clear c27
    try clear c28
    try clear c29
    try clear c30
    try clear c32
    try clear c32b0
    try clear c32b1
    try clear c33
    try clear c33b0
    try clear c33b1
    try clear c35
    try clear c35b0
    try clear c36
    try clear c36b0
    try clear c39
    try clear c39b0
    try clear c39b1
    try clear c40
    try clear c40b0
    try clear c40b1
    try clear c41
    try clear c41b0
    try clear c44
    try clear p2
    obtain ⟨U, rfl, HA, aW, d, HB⟩ := hrel
    cases gk with
    | zero => exact absurd HA.out (by simp [jigsawref06_Arity.l0])
    | succ k4 =>
     have H := HA.out
     clear HA
     simp only [jigsawref06_Arity.l0] at H
     by_cases c45 : U < (g.length : Int)
     ·
      rw [ip_ c45] at H
      exact ab_ H
     rw [ig_ c45] at H
     have c45b0 : decide (U < (g.length : Int)) = false := df_ c45
     clear c45
     obtain rfl := si_ H
     obtain ⟨_, _, _, _, _, _, _, _, _, _, _, _, _, _, _, _⟩ := cel8_ d.out
     go_wp2
     repeat (go_quiet (fail); try go_wp2)
     go_ret
     exact ⟨er_, bel_⟩

end Go.Proofs.YtfbfalhdgmjdpaaGreatDoor.XInverseRefuses
