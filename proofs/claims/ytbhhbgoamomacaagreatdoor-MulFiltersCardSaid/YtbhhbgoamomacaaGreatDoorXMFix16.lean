-- by xprint.py, a program of this session, over the kit's print
import Derived.Test.YtbhhbgoamomacaaGreatDoorXMFix0
import Derived.Test.YtbhhbgoamomacaaGreatDoorXMFix1
import Derived.Test.YtbhhbgoamomacaaGreatDoorXMFix8
import Derived.Test.YtbhhbgoamomacaaGreatDoorXMFix11
import Derived.Test.YtbhhbgoamomacaaGreatDoorSq
namespace Go.Proofs.YtbhhbgoamomacaaGreatDoor.XMulFilters
open Go.RowKit Go.Proofs.YtbhhbgoamomacaaGreatDoor.Sq Go.Proofs.YtbhhbgoamomacaaGreatDoorW.PrintWords Go.Proofs.YtbhhbgoamomacaaGreatDoorW.PrintLast Go.Proofs.YtbhhbgoamomacaaGreatDoorW.PrintMore
attribute [local go_sem] max2_int min2_int max_two min_two max_three min_three max_four min_four   -- for this text's walks alone
set_option linter.unusedVariables false
set_option linter.unusedSimpArgs false

/-! ### jigsawlaw11_doms: function 11 -/
def jigsawlaw11_doms.l0 : Nat → List (S61) → List (List Int) → Int → Int → Option ((List (S61)))
 | 0, _, _, _, _ => none
 | k + 1, c, d, e, b => if b < e then (if 0 ≤ b then (if b < (d.length : Int) then ((dom_Of.f k (rd_L7 d b)).bind fun a => (if c.length < 2513169434916 then (jigsawlaw11_doms.l0 k (c ++ [(⟨a.1, a.2.1, a.2.2.1, a.2.2.2.1, a.2.2.2.2.1⟩ : S61)]) d e (wrap64 (b + 1))) else (none))) else (none)) else (none)) else (some c)
def jigsawlaw11_doms.f (k : Nat) (a : List (List Int)) : Option ((List (S61))) := jigsawlaw11_doms.l0 k ([] : List (S61)) a (a.length : Int) 0
theorem jigsawlaw11_doms.mono_l : ∀ k, (∀ a b c d, LeO (jigsawlaw11_doms.l0 k a b c d) (jigsawlaw11_doms.l0 (k + 1) a b c d))
 | 0 => fun _ _ _ _ r h => by simp [jigsawlaw11_doms.l0] at h
 | k + 1 => by
  have ih0 := jigsawlaw11_doms.mono_l k
  ·
   intro a b c d
   unfold jigsawlaw11_doms.l0
   have m0 := @dom_Of.mono
   exact leo_
theorem jigsawlaw11_doms.mono : ∀ a k, LeO (jigsawlaw11_doms.f k a) (jigsawlaw11_doms.f (k + 1) a) := by
 intro a k
 have ih0 := jigsawlaw11_doms.mono_l k
 unfold jigsawlaw11_doms.f
 have m0 := @dom_Of.mono
 exact leo_
set_option maxHeartbeats 8000000 in
set_option maxRecDepth 100000 in
theorem jigsawlaw11_doms.calls (k : Nat) (A0 : Option Addr) (c0 : Nat) (o : List (List Int)) (r : List (S61)) (w : World) (U : Kd.C (Kd.slice 3 (Kd.int .i64)) w A0 o.length o) (W : o.length ≤ c0) (hrtab : Kd.C (Kd.int .u8) w (some ⟨0, 0, none⟩) tabL.length tabL) (h : jigsawlaw11_doms.f k o = some r) :
  Calls Tryz.prog 11 #[.slice A0 o.length c0] w fun e w' => ∃ X : Value, e = .returned (X) ∧ Kd.N k61 61 w' w.heap.size (fun a => (w.heap.size ≤ a)) X r ∧ Below w.heap.size w w' := by
 have hu61 := Tryz.underlying61
 have af := a_ U
 have an := a_ W
 clear U W
 have HRtab := a_ hrtab
 clear hrtab
 have HB := a_ (Below.refl w.heap.size w)
 unfold jigsawlaw11_doms.f at h
 have H := h
 clear h
 have H' := a_ H
 clear H
 go_enter Tryz.func11, Tryz.ntmps11
 go_wp2
 go_loopg [3, 10] k (fun kq v3 ag w' => ∃ (s : List (S61)) (c : Int), ag = .int .i64 c ∧ Aside0 (jigsawlaw11_doms.l0 kq s o (o.length : Int) c = some r) ∧ Aside0 (kq ≤ k) ∧ Aside0 (Kd.N k61 61 w' w.heap.size (fun a => (w.heap.size ≤ a)) v3 s) ∧ Aside0 (Below w.heap.size w w'))
 case atStart => exact ⟨(([] : List (S61))), (0), eq_, H', ⟨lr_ _⟩, ⟨nil_⟩, ⟨bel_⟩⟩
 case round =>
  clear H'
  try clear c1
  obtain ⟨s, c, rfl, HA, Y, HO_3, HB⟩ := hrel
  cases gk with
  | zero => exact absurd HA.out (by simp [jigsawlaw11_doms.l0])
  | succ k1 =>
   have H := HA.out
   clear HA
   simp only [jigsawlaw11_doms.l0] at H
   by_cases c2 : c < (o.length : Int)
   ·
    rw [ip_ c2] at H
    have c2b0 : decide (c < (o.length : Int)) = true := dt_ c2
    clear c2
    by_cases c3 : 0 ≤ c
    ·
     rw [ip_ c3] at H
     have c3b0 : decide (0 ≤ c) = true := dt_ c3
     clear c3
     by_cases c4 : c < (o.length : Int)
     ·
      rw [ip_ c4] at H
      have c4b0 : decide (c < (o.length : Int)) = true := dt_ c4
      clear c4
      replace H := bs_.mp H
      obtain ⟨⟨l, g, m, q, u, ab⟩, Z, H⟩ := H
      try dsimp only at H
      have A5 := a_ Z
      clear Z
      by_cases c6 : s.length < 2513169434916
      ·
       rw [ip_ c6] at H
       have LMc6 := a_ c6
       clear c6
       obtain ⟨K, z⟩ : ∃ y_ : List (S61), y_ = (s ++ [(⟨l, g, m, q, u⟩ : S61)]) := ⟨_, rfl⟩
       replace H : (jigsawlaw11_doms.l0 k1 K o (o.length : Int) (wrap64 (c + 1))) = some r := by first | (rw [z]; with_reducible exact H) | (have H2_ := (ob_ _ _).symm.trans H; rw [z]; with_reducible exact H2_) | (have H2_ := (ob_ _ _).symm.trans H; with_reducible exact H2_) | with_reducible exact H | (rw [z]; exact H) | exact H
       have O := a_ z
       clear z
       have H' := a_ H
       clear H
       have p394 : 0 ≤ (c : Int) := dq_
       have G : c < (o.length : Int) := dq_
       obtain ⟨ah, M, c394_0, ac, B, E, F⟩ := at_L7 af.out c p394 G
       cases ac
       replace B := (HB.out.cell (wl_ w _ B)).trans B
       have I := a_ F
       have J := a_ E
       clear F E
       replace p394 := et_ p394
       replace G := et_ G
       go_wp2_with (first | ((with_reducible refine gate_callee (f := 34) rfl ?_); refine goesL_ (some 16) rfl rfl Tryz.func34 kr_ rfl #[.slice M (rd_L7 o c).length c394_0] rfl ar_ ?_; (with_reducible refine (dom_Of.calls k1 _ _ (rd_L7 o c) l g m q u ab _ ?_ ?_ ?_ A5.out).mono ?_); exact ca_ ((cb_ I.out HB.out)); exact J.out; exact ca_ ((cb_ HRtab.out HB.out)); rintro e w7 ⟨al, rfl, aa, hb⟩; refine ⟨_, rfl, ?_⟩; have n := a_ (Kd.V_lower (vm_ (ok' := fun a => (w.heap.size ≤ a) ∧ some a ≠ (u3 : Value).ownBlock) aa (fun a hk_ => ⟨(Nat.le_trans (bz_ bel_) hk_), (fr_ (Kd.N_lt (vN_ HO_3.out)) a hk_)⟩)) (bz_ bel_)); replace HO_3 := a_ (Kd.N_below (vN_ HO_3.out) hb); replace HB := hq_ hb; clear hb aa) | ((with_reducible refine gate_dst (N := 6) rfl ?_); refine bxe_ (N := 6) (cs := #[.int .i64 0, .slice none 0 0, .int .i64 0, .int .i64 0, .int .i64 0]) (t := 61) ?_; intro d hg w8 hbox hb; replace HO_3 := a_ (Kd.N_below (Kd.N_elderB (vN_ HO_3.out) d (Nat.le_of_eq hg.symm)) hb); replace n := a_ (vb_ (Kd.V_elderB (vV_ n.out) d (Nat.le_of_eq hg.symm)) hb); have A := a_ (hbox); have P := a_ (by rw [hg]; exact (bz_ bel_) : w.heap.size ≤ d); have ai := P; replace HB := hq_ hb; clear hb hbox hg; obtain ⟨_, _, _, _, _, _, _, _, _, _⟩ := cel5_ A.out; obtain ⟨x, y, ad⟩ := Kd.V_slice n.out; subst ad) | ((with_reducible refine gate_store (t := 61) (p := 6) rfl ?_); refine store_event (t := 61) (p := 6) (v := ?vo_w11) (w1 := (((((w8.setCell ⟨d, 0, none⟩ (.int .i64 l)).setCell ⟨d, 1, none⟩ (.slice x g.length y)).setCell ⟨d, 2, none⟩ (.int .i64 m)).setCell ⟨d, 3, none⟩ (.int .i64 q)).setCell ⟨d, 4, none⟩ (.int .i64 u))) ?hg ?ho ?hn ?hr ?_; (case ho => rfl); (case hg => rfl); (case hn => rfl); (case hr => first | (go_simp; done) | (go_simp; rfl)); intro w11 hw; replace HO_3 : Aside0 (Kd.N k61 61 w11 w.heap.size (fun a => (w.heap.size ≤ a) ∧ a ≠ d) u3 s) := ⟨(by rw [hw]; exact (by refine vN_ ?_; exact nm_ (fN_ (fN_ (fN_ (fN_ (fN_ (nm_ HO_3.out (fun a hk => (⟨hk, hk.2⟩ : _ ∧ a ≠ d)))))))) (fun _ hk => ⟨hk.1.1, hk.1.2⟩)))⟩; replace n : Aside0 (Kd.V (Kd.int .u64) 87 w11 w.heap.size (fun a => (w.heap.size ≤ a) ∧ some a ≠ (u3 : Value).ownBlock ∧ a ≠ d) (.slice x g.length y) g) := ⟨(by rw [hw]; exact (by refine vV_ ?_; exact vm_ (fV_ (fV_ (fV_ (fV_ (fV_ (vm_ n.out (fun a hk => (⟨hk, hk.2⟩ : _ ∧ a ≠ d)))))))) (fun _ hk => ⟨hk.1.1.1, ⟨hk.1.1.2, hk.1.2⟩⟩)))⟩; replace A : Aside0 (w11.heap[d]? = some (.cells #[.int .i64 l, .slice x g.length y, .int .i64 m, .int .i64 q, .int .i64 u] 61 (0, 0))) := ⟨(by rw [hw]; exact (by refine bk_ ?_; refine bu_ (cs := #[.int .i64 l, .slice x g.length y, .int .i64 m, .int .i64 q, .int .i64 0]) ?_ 4 _ rfl; refine bk_ ?_; refine bu_ (cs := #[.int .i64 l, .slice x g.length y, .int .i64 m, .int .i64 0, .int .i64 0]) ?_ 3 _ rfl; refine bk_ ?_; refine bu_ (cs := #[.int .i64 l, .slice x g.length y, .int .i64 0, .int .i64 0, .int .i64 0]) ?_ 2 _ rfl; refine bk_ ?_; refine bu_ (cs := #[.int .i64 l, .slice none 0 0, .int .i64 0, .int .i64 0, .int .i64 0]) ?_ 1 _ rfl; refine bk_ ?_; refine bu_ (cs := #[.int .i64 0, .slice none 0 0, .int .i64 0, .int .i64 0, .int .i64 0]) ?_ 0 _ rfl; refine bk_ ?_; exact A.out))⟩; replace HB : Aside0 (Below w.heap.size w w11) := ⟨(by rw [hw]; exact bel_)⟩; clear hw; obtain ⟨_, _, _, _, _, _, _, _, _, _⟩ := cel5_ A.out) | ((with_reducible refine gate_builtin (b := .append) (xs := #[.tmp 19, .tmp 21]) rfl ?_); at_builtin; refine Kd.N_append k61 (w0 := w) w.heap.size rfl (.tmp 19) (.tmp 21) 36 61 (.agg #[(.int .i64 0), (.slice none 0 0), (.int .i64 0), (.int .i64 0), (.int .i64 0)]) 56 rfl Tryz.underlying36 info61 rfl (by decide) (by omega) u3 s (⟨l, g, m, q, u⟩ : S61) [.int .i64 l, .slice x g.length y, .int .i64 m, .int .i64 q, .int .i64 u] (fun a => (w.heap.size ≤ a) ∧ a ≠ d) (fun a => ((fun a => (w.heap.size ≤ a) ∧ a ≠ d)) a ∧ some a ≠ (u3 : Value).ownBlock) rfl rfl ?aP (fun _ hk => hk) ?aF ?aO ?aB ?aS ?aL ?_; (case aP => exact (k61_mkF _ _ (⟨l, g, m, q, u⟩ : S61) (Kd.V_reads' (vm_ (ok' := (fun a => ((fun a => (w.heap.size ≤ a) ∧ a ≠ d)) a ∧ some a ≠ (u3 : Value).ownBlock)) (n.out) (fun a hk => ⟨⟨hk.1, hk.2.2⟩, hk.2.1⟩))).2.1 (Kd.V_F (vm_ (ok' := (fun a => ((fun a => (w.heap.size ≤ a) ∧ a ≠ d)) a ∧ some a ≠ (u3 : Value).ownBlock)) (n.out) (fun a hk => ⟨⟨hk.1, hk.2.2⟩, hk.2.1⟩))))); (case aB => exact bel_); (case aF => exact (fun a hk => ⟨(Nat.le_trans (bz_ bel_) hk), Kd.freshB (bk_ A.out) a hk⟩)); (case aO => exact (vN_ HO_3.out)); (case aS => exact (bz_ bel_)); (case aL => have := LMc6.out; omega); intro am w13 ho hb hg hat; rw [← O.out] at ho; replace HB := a_ (hb); have Q := a_ (ho); clear HO_3; clear ho hb hg hat))
       go_roundg k1
       case measure => have := Y.out; omega
       case rel => exact ⟨(K), (wrap64 (c + 1)), eq_, H', ⟨by have := Y.out; omega⟩, ⟨by refine vN_ ?_; exact nm_ Q.out (fun _ hk => hk.1)⟩, ⟨bel_⟩⟩
      ·
       rw [ig_ c6] at H
       exact absurd H (by simp)
     ·
      rw [ig_ c4] at H
      exact absurd H (by simp)
    ·
     rw [ig_ c3] at H
     exact absurd H (by simp)
   ·
    rw [ig_ c2] at H
    have c2b0 : decide (c < (o.length : Int)) = false := df_ c2
    clear c2
    obtain rfl := si_ H
    go_wp2
    go_ret
    exact ⟨_, er_, vN_ HO_3.out, bel_⟩

/-! ### jigsawref06_list: function 105 -/
def jigsawref06_list.f (a : Int) (b : Int) (c : Int) : Option (Bool) := if c > 0 then (none) else (some (a == b))
set_option maxHeartbeats 8000000 in
set_option maxRecDepth 100000 in
theorem jigsawref06_list.calls (b : Int) (c : Int) (a : Int) (r : Bool) (w : World) (h : jigsawref06_list.f b c a = some r) :
  Calls Tryz.prog 105 #[.int .i64 b, .int .i64 c, .int .i64 a] w fun e w' => e = .returned (.bool r) ∧ Drawn0 w w' := by
 unfold jigsawref06_list.f at h
 have H := h
 clear h
 by_cases c4 : a > 0
 ·
  rw [ip_ c4] at H
  exact absurd H (by simp)
 ·
  rw [ig_ c4] at H
  have c4b0 : decide (0 < a) = false := df_ c4
  clear c4
  obtain rfl := si_ H
  go_enter Tryz.func105, Tryz.ntmps105
  go_wp2
  go_ret
  exact ⟨by first | rfl | (simp; done) | (simp [*]; done), by repeat (first | exact d0_ _ | apply Drawn0.step)⟩

/-! ### jigsawref06_Arity: function 80 -/
def jigsawref06_Arity.l0 : Nat → Int → Int → List Int → List Int → List Int → List Int → List Int → Int → List (List Int) → Option (Bool)
 | 0, _, _, _, _, _, _, _, _, _ => none
 | k + 1, m, b, c, d, e, f, g, l, a => if m < (a.length : Int) then (none) else (some true)
def jigsawref06_Arity.f (k : Nat) (a : Int) (c : List Int) (d : List Int) (e : List Int) (g : List Int) (l : List Int) (m : Int) (n : List (List Int)) (b : ByteArray) : Option (Bool) := if m = 0 then (if a = 12 then (none) else ((jigsawref06_has.f k b 118).bind fun o => ((jigsawref06_has.f k b 86).bind fun p => ((jigsawref06_list.f (c.length : Int) o p).bind fun q => ((jigsawref06_has.f k b 119).bind fun r => ((jigsawref06_has.f k b 87).bind fun s => ((jigsawref06_list.f (d.length : Int) r s).bind fun t => ((jigsawref06_has.f k b 99).bind fun u => ((jigsawref06_list.f (e.length : Int) 0 u).bind fun v => ((jigsawref06_has.f k b 100).bind fun x => ((jigsawref06_list.f (g.length : Int) 0 x).bind fun y => ((jigsawref06_has.f k b 101).bind fun z => ((jigsawref06_list.f (l.length : Int) 0 z).bind fun A => (if q = true then (if t = true then (if v = true then (if y = true then (if A = true then ((jigsawref06_has.f k b 114).bind fun B => (if B = 0 then (if (n.length : Int) > 0 then (none) else ((jigsawref06_has.f k b 114).bind fun C => (if C > 0 then (none) else (if a ≤ 4 then (none) else (if a = 19 then (none) else (if a = 21 then (none) else (if a ≥ 22 then (none) else (jigsawref06_Arity.l0 k 0 a c d e g l m n)))))))) else (none))) else (none)) else (none)) else (none)) else (none)) else (none))))))))))))))) else (none)
theorem jigsawref06_Arity.mono_l : ∀ k, (∀ a b c d e f g l m, LeO (jigsawref06_Arity.l0 k a b c d e f g l m) (jigsawref06_Arity.l0 (k + 1) a b c d e f g l m))
 | 0 => fun _ _ _ _ _ _ _ _ _ r h => by simp [jigsawref06_Arity.l0] at h
 | k + 1 => by
  have ih0 := jigsawref06_Arity.mono_l k
  ·
   intro a b c d e f g l m
   unfold jigsawref06_Arity.l0
   have m0 := @jigsawref06_has.mono
   exact leo_
theorem jigsawref06_Arity.mono : ∀ a b c d e g l m n k, LeO (jigsawref06_Arity.f k a b c d e g l m n) (jigsawref06_Arity.f (k + 1) a b c d e g l m n) := by
 intro a b c d e g l m n k
 have ih0 := jigsawref06_Arity.mono_l k
 unfold jigsawref06_Arity.f
 have m0 := @jigsawref06_has.mono
 exact leo_
set_option maxHeartbeats 8000000 in
set_option maxRecDepth 100000 in
theorem jigsawref06_Arity.calls (k : Nat) (a : Int) (x : Option Addr) (c0_1 : Nat) (d : List Int) (y : Option Addr) (c0_2 : Nat) (g : List Int) (z : Option Addr) (c0_3 : Nat) (l : List Int) (A : Option Addr) (c0_4 : Nat) (m : List Int) (B : Option Addr) (c0_5 : Nat) (n : List Int) (p : Int) (E : Option Addr) (c0_7 : Nat) (b : List (List Int)) (c : ByteArray) (r : Bool) (w : World) (aj : Kd.C (Kd.int .i64) w x d.length d) (Q : d.length ≤ c0_1) (ak : Kd.C (Kd.int .i64) w y g.length g) (U : g.length ≤ c0_2) (al : Kd.C (Kd.int .i64) w z l.length l) (V : l.length ≤ c0_3) (am : Kd.C (Kd.int .i64) w A m.length m) (W : m.length ≤ c0_4) (an : Kd.C (Kd.int .i64) w B n.length n) (X : n.length ≤ c0_5) (ao : Kd.C (Kd.slice 3 (Kd.int .i64)) w E b.length b) (Y : b.length ≤ c0_7) (h : jigsawref06_Arity.f k a d g l m n p b c = some r) :
  Calls Tryz.prog 80 #[.agg #[.int .i64 a, .slice x d.length c0_1, .slice y g.length c0_2, .slice z l.length c0_3, .slice A m.length c0_4, .slice B n.length c0_5, .int .i64 p, .slice E b.length c0_7], .string c] w fun e w' => e = .returned (.bool r) ∧ Below w.heap.size w w' := by
 have hu32 := Tryz.underlying32
 have aC := a_ Q
 clear aj Q
 have aD := a_ U
 clear ak U
 have aE := a_ V
 clear al V
 have aF := a_ W
 clear am W
 have aG := a_ X
 clear an X
 have aH := a_ Y
 clear ao Y
 have HB := a_ (Below.refl w.heap.size w)
 unfold jigsawref06_Arity.f at h
 have H := h
 clear h
 by_cases c3 : p = 0
 ·
  rw [ip_ c3] at H
  have c3b0 : (p == 0) = true := beq_iff_eq.mpr c3
  have c3b1 : (p != 0) = false := bn_.mpr c3
  clear c3
  by_cases c4 : a = 12
  ·
   rw [ip_ c4] at H
   exact absurd H (by simp)
  ·
   rw [ig_ c4] at H
   have c4b0 : (a == 12) = false := be_.mpr c4
   have c4b1 : (a != 12) = true := ni_.mpr c4
   replace H := bo_ H
   obtain ⟨F, A5, H⟩ := H
   try dsimp only at H
   replace H := bo_ H
   obtain ⟨G, A6, H⟩ := H
   try dsimp only at H
   replace H := bo_ H
   obtain ⟨ar, A7, H⟩ := H
   try dsimp only at H
   replace H := bo_ H
   obtain ⟨I, A8, H⟩ := H
   try dsimp only at H
   replace H := bo_ H
   obtain ⟨J, A9, H⟩ := H
   try dsimp only at H
   replace H := bo_ H
   obtain ⟨ax, aa, H⟩ := H
   try dsimp only at H
   replace H := bo_ H
   obtain ⟨K, ab, H⟩ := H
   try dsimp only at H
   replace H := bo_ H
   obtain ⟨ay, ac, H⟩ := H
   try dsimp only at H
   replace H := bo_ H
   obtain ⟨M, ad, H⟩ := H
   try dsimp only at H
   replace H := bo_ H
   obtain ⟨az, ae, H⟩ := H
   try dsimp only at H
   replace H := bo_ H
   obtain ⟨O, af, H⟩ := H
   try dsimp only at H
   replace H := bo_ H
   obtain ⟨aA, ag, H⟩ := H
   try dsimp only at H
   by_cases c17 : ar = true
   ·
    subst c17
    rw [ip_ rfl] at H
    by_cases c18 : ax = true
    ·
     subst c18
     rw [ip_ rfl] at H
     by_cases c19 : ay = true
     ·
      subst c19
      rw [ip_ rfl] at H
      by_cases c20 : az = true
      ·
       subst c20
       rw [ip_ rfl] at H
       by_cases c21 : aA = true
       ·
        subst c21
        rw [ip_ rfl] at H
        replace H := bo_ H
        obtain ⟨s, ah, H⟩ := H
        try dsimp only at H
        by_cases c23 : s = 0
        ·
         rw [ip_ c23] at H
         have c23b0 : (s == 0) = true := beq_iff_eq.mpr c23
         have c23b1 : (s != 0) = false := bn_.mpr c23
         have c23b9 : decide (0 < s) = false := df_ (by omega)
         clear c23
         by_cases c24 : (b.length : Int) > 0
         ·
          rw [ip_ c24] at H
          exact absurd H (by simp)
         ·
          rw [ig_ c24] at H
          have c24b0 : decide (0 < (b.length : Int)) = false := df_ c24
          have c24b1 : decide (0 < b.length) = false := df_ (by omega)
          clear c24
          replace H := bo_ H
          obtain ⟨P, ai, H⟩ := H
          try dsimp only at H
          by_cases c26 : P > 0
          ·
           rw [ip_ c26] at H
           exact absurd H (by simp)
          ·
           rw [ig_ c26] at H
           have c26b0 : decide (0 < P) = false := df_ c26
           clear c26
           by_cases c27 : a ≤ 4
           ·
            rw [ip_ c27] at H
            exact absurd H (by simp)
           ·
            rw [ig_ c27] at H
            have c27b0 : decide (a ≤ 4) = false := df_ c27
            clear c27
            by_cases c28 : a = 19
            ·
             rw [ip_ c28] at H
             exact absurd H (by simp)
            ·
             rw [ig_ c28] at H
             have c28b0 : (a == 19) = false := be_.mpr c28
             have c28b1 : (a != 19) = true := ni_.mpr c28
             by_cases c29 : a = 21
             ·
              rw [ip_ c29] at H
              exact absurd H (by simp)
             ·
              rw [ig_ c29] at H
              have c29b0 : (a == 21) = false := be_.mpr c29
              have c29b1 : (a != 21) = true := ni_.mpr c29
              by_cases c30 : a ≥ 22
              ·
               rw [ip_ c30] at H
               exact absurd H (by simp)
              ·
               rw [ig_ c30] at H
               have c30b0 : decide (22 ≤ a) = false := df_ c30
               clear c30
               have H' := a_ H
               clear H
               go_enter Tryz.func80, Tryz.ntmps80
               go_wp2_with (first | ((with_reducible refine gate_dst (N := 2) rfl ?_); (try (refine gate_guard (by rfl) ?_; dsimp only)); refine bxe_ (N := 2) (cs := #[.int .i64 a, .slice x d.length c0_1, .slice y g.length c0_2, .slice z l.length c0_3, .slice A m.length c0_4, .slice B n.length c0_5, .int .i64 p, .slice E b.length c0_7]) (t := 32) ?_; intro q hg w31 hbox hb; have o := a_ (hbox); have u := a_ (by rw [hg]; exact (bz_ bel_) : w.heap.size ≤ q); have Z := u; replace HB := hq_ hb; clear hb hbox hg; obtain ⟨_, _, _, _, _, _, _, _, _, _, _, _, _, _, _, _⟩ := cel8_ o.out) | (go_at_call 43; (with_reducible refine (jigsawref06_has.calls k c 118 F _ A5.out).mono ?_); rintro e w' ⟨rfl, ⟨nd, rfl⟩⟩; (try first | exact ⟨rfl, _, World.drewN_drewN _ _ _⟩ | exact ⟨rfl, _, Eq.trans (World.drewN_drewN _ _ _) (congrArg (World.drewN _) (Nat.add_assoc _ _ _))⟩)) | (go_at_call 43; (with_reducible refine (jigsawref06_has.calls k c 86 G _ A6.out).mono ?_); rintro e w' ⟨rfl, ⟨nd, rfl⟩⟩; (try first | exact ⟨rfl, _, World.drewN_drewN _ _ _⟩ | exact ⟨rfl, _, Eq.trans (World.drewN_drewN _ _ _) (congrArg (World.drewN _) (Nat.add_assoc _ _ _))⟩)) | (go_at_call 105; (with_reducible refine (jigsawref06_list.calls (d.length : Int) F G true _ A7.out).mono ?_); rintro e w' ⟨rfl, ⟨nd, rfl⟩⟩; (try first | exact ⟨rfl, _, World.drewN_drewN _ _ _⟩ | exact ⟨rfl, _, Eq.trans (World.drewN_drewN _ _ _) (congrArg (World.drewN _) (Nat.add_assoc _ _ _))⟩)) | (go_at_call 43; (with_reducible refine (jigsawref06_has.calls k c 119 I _ A8.out).mono ?_); rintro e w' ⟨rfl, ⟨nd, rfl⟩⟩; (try first | exact ⟨rfl, _, World.drewN_drewN _ _ _⟩ | exact ⟨rfl, _, Eq.trans (World.drewN_drewN _ _ _) (congrArg (World.drewN _) (Nat.add_assoc _ _ _))⟩)) | (go_at_call 43; (with_reducible refine (jigsawref06_has.calls k c 87 J _ A9.out).mono ?_); rintro e w' ⟨rfl, ⟨nd, rfl⟩⟩; (try first | exact ⟨rfl, _, World.drewN_drewN _ _ _⟩ | exact ⟨rfl, _, Eq.trans (World.drewN_drewN _ _ _) (congrArg (World.drewN _) (Nat.add_assoc _ _ _))⟩)) | (go_at_call 105; (with_reducible refine (jigsawref06_list.calls (g.length : Int) I J true _ aa.out).mono ?_); rintro e w' ⟨rfl, ⟨nd, rfl⟩⟩; (try first | exact ⟨rfl, _, World.drewN_drewN _ _ _⟩ | exact ⟨rfl, _, Eq.trans (World.drewN_drewN _ _ _) (congrArg (World.drewN _) (Nat.add_assoc _ _ _))⟩)) | (go_at_call 43; (with_reducible refine (jigsawref06_has.calls k c 99 K _ ab.out).mono ?_); rintro e w' ⟨rfl, ⟨nd, rfl⟩⟩; (try first | exact ⟨rfl, _, World.drewN_drewN _ _ _⟩ | exact ⟨rfl, _, Eq.trans (World.drewN_drewN _ _ _) (congrArg (World.drewN _) (Nat.add_assoc _ _ _))⟩)) | (go_at_call 105; (with_reducible refine (jigsawref06_list.calls (l.length : Int) 0 K true _ ac.out).mono ?_); rintro e w' ⟨rfl, ⟨nd, rfl⟩⟩; (try first | exact ⟨rfl, _, World.drewN_drewN _ _ _⟩ | exact ⟨rfl, _, Eq.trans (World.drewN_drewN _ _ _) (congrArg (World.drewN _) (Nat.add_assoc _ _ _))⟩)) | (go_at_call 43; (with_reducible refine (jigsawref06_has.calls k c 100 M _ ad.out).mono ?_); rintro e w' ⟨rfl, ⟨nd, rfl⟩⟩; (try first | exact ⟨rfl, _, World.drewN_drewN _ _ _⟩ | exact ⟨rfl, _, Eq.trans (World.drewN_drewN _ _ _) (congrArg (World.drewN _) (Nat.add_assoc _ _ _))⟩)) | (go_at_call 105; (with_reducible refine (jigsawref06_list.calls (m.length : Int) 0 M true _ ae.out).mono ?_); rintro e w' ⟨rfl, ⟨nd, rfl⟩⟩; (try first | exact ⟨rfl, _, World.drewN_drewN _ _ _⟩ | exact ⟨rfl, _, Eq.trans (World.drewN_drewN _ _ _) (congrArg (World.drewN _) (Nat.add_assoc _ _ _))⟩)) | (go_at_call 43; (with_reducible refine (jigsawref06_has.calls k c 101 O _ af.out).mono ?_); rintro e w' ⟨rfl, ⟨nd, rfl⟩⟩; (try first | exact ⟨rfl, _, World.drewN_drewN _ _ _⟩ | exact ⟨rfl, _, Eq.trans (World.drewN_drewN _ _ _) (congrArg (World.drewN _) (Nat.add_assoc _ _ _))⟩)) | (go_at_call 105; (with_reducible refine (jigsawref06_list.calls (n.length : Int) 0 O true _ ag.out).mono ?_); rintro e w' ⟨rfl, ⟨nd, rfl⟩⟩; (try first | exact ⟨rfl, _, World.drewN_drewN _ _ _⟩ | exact ⟨rfl, _, Eq.trans (World.drewN_drewN _ _ _) (congrArg (World.drewN _) (Nat.add_assoc _ _ _))⟩)) | (go_at_call 43; (with_reducible refine (jigsawref06_has.calls k c 114 s _ ah.out).mono ?_); rintro e w' ⟨rfl, ⟨nd, rfl⟩⟩; (try first | exact ⟨rfl, _, World.drewN_drewN _ _ _⟩ | exact ⟨rfl, _, Eq.trans (World.drewN_drewN _ _ _) (congrArg (World.drewN _) (Nat.add_assoc _ _ _))⟩)) | (go_at_call 43; (with_reducible refine (jigsawref06_has.calls k c 114 P _ ai.out).mono ?_); rintro e w' ⟨rfl, ⟨nd, rfl⟩⟩; (try first | exact ⟨rfl, _, World.drewN_drewN _ _ _⟩ | exact ⟨rfl, _, Eq.trans (World.drewN_drewN _ _ _) (congrArg (World.drewN _) (Nat.add_assoc _ _ _))⟩)))
               repeat (go_quiet (first | ((with_reducible refine gate_dst (N := 2) rfl ?_); (try (refine gate_guard (by rfl) ?_; dsimp only)); refine bxe_ (N := 2) (cs := #[.int .i64 a, .slice x d.length c0_1, .slice y g.length c0_2, .slice z l.length c0_3, .slice A m.length c0_4, .slice B n.length c0_5, .int .i64 p, .slice E b.length c0_7]) (t := 32) ?_; intro q hg w31 hbox hb; have o := a_ (hbox); have u := a_ (by rw [hg]; exact (bz_ bel_) : w.heap.size ≤ q); have Z := u; replace HB := hq_ hb; clear hb hbox hg; obtain ⟨_, _, _, _, _, _, _, _, _, _, _, _, _, _, _, _⟩ := cel8_ o.out) | (go_at_call 43; (with_reducible refine (jigsawref06_has.calls k c 118 F _ A5.out).mono ?_); rintro e w' ⟨rfl, ⟨nd, rfl⟩⟩; (try first | exact ⟨rfl, _, World.drewN_drewN _ _ _⟩ | exact ⟨rfl, _, Eq.trans (World.drewN_drewN _ _ _) (congrArg (World.drewN _) (Nat.add_assoc _ _ _))⟩)) | (go_at_call 43; (with_reducible refine (jigsawref06_has.calls k c 86 G _ A6.out).mono ?_); rintro e w' ⟨rfl, ⟨nd, rfl⟩⟩; (try first | exact ⟨rfl, _, World.drewN_drewN _ _ _⟩ | exact ⟨rfl, _, Eq.trans (World.drewN_drewN _ _ _) (congrArg (World.drewN _) (Nat.add_assoc _ _ _))⟩)) | (go_at_call 105; (with_reducible refine (jigsawref06_list.calls (d.length : Int) F G true _ A7.out).mono ?_); rintro e w' ⟨rfl, ⟨nd, rfl⟩⟩; (try first | exact ⟨rfl, _, World.drewN_drewN _ _ _⟩ | exact ⟨rfl, _, Eq.trans (World.drewN_drewN _ _ _) (congrArg (World.drewN _) (Nat.add_assoc _ _ _))⟩)) | (go_at_call 43; (with_reducible refine (jigsawref06_has.calls k c 119 I _ A8.out).mono ?_); rintro e w' ⟨rfl, ⟨nd, rfl⟩⟩; (try first | exact ⟨rfl, _, World.drewN_drewN _ _ _⟩ | exact ⟨rfl, _, Eq.trans (World.drewN_drewN _ _ _) (congrArg (World.drewN _) (Nat.add_assoc _ _ _))⟩)) | (go_at_call 43; (with_reducible refine (jigsawref06_has.calls k c 87 J _ A9.out).mono ?_); rintro e w' ⟨rfl, ⟨nd, rfl⟩⟩; (try first | exact ⟨rfl, _, World.drewN_drewN _ _ _⟩ | exact ⟨rfl, _, Eq.trans (World.drewN_drewN _ _ _) (congrArg (World.drewN _) (Nat.add_assoc _ _ _))⟩)) | (go_at_call 105; (with_reducible refine (jigsawref06_list.calls (g.length : Int) I J true _ aa.out).mono ?_); rintro e w' ⟨rfl, ⟨nd, rfl⟩⟩; (try first | exact ⟨rfl, _, World.drewN_drewN _ _ _⟩ | exact ⟨rfl, _, Eq.trans (World.drewN_drewN _ _ _) (congrArg (World.drewN _) (Nat.add_assoc _ _ _))⟩)) | (go_at_call 43; (with_reducible refine (jigsawref06_has.calls k c 99 K _ ab.out).mono ?_); rintro e w' ⟨rfl, ⟨nd, rfl⟩⟩; (try first | exact ⟨rfl, _, World.drewN_drewN _ _ _⟩ | exact ⟨rfl, _, Eq.trans (World.drewN_drewN _ _ _) (congrArg (World.drewN _) (Nat.add_assoc _ _ _))⟩)) | (go_at_call 105; (with_reducible refine (jigsawref06_list.calls (l.length : Int) 0 K true _ ac.out).mono ?_); rintro e w' ⟨rfl, ⟨nd, rfl⟩⟩; (try first | exact ⟨rfl, _, World.drewN_drewN _ _ _⟩ | exact ⟨rfl, _, Eq.trans (World.drewN_drewN _ _ _) (congrArg (World.drewN _) (Nat.add_assoc _ _ _))⟩)) | (go_at_call 43; (with_reducible refine (jigsawref06_has.calls k c 100 M _ ad.out).mono ?_); rintro e w' ⟨rfl, ⟨nd, rfl⟩⟩; (try first | exact ⟨rfl, _, World.drewN_drewN _ _ _⟩ | exact ⟨rfl, _, Eq.trans (World.drewN_drewN _ _ _) (congrArg (World.drewN _) (Nat.add_assoc _ _ _))⟩)) | (go_at_call 105; (with_reducible refine (jigsawref06_list.calls (m.length : Int) 0 M true _ ae.out).mono ?_); rintro e w' ⟨rfl, ⟨nd, rfl⟩⟩; (try first | exact ⟨rfl, _, World.drewN_drewN _ _ _⟩ | exact ⟨rfl, _, Eq.trans (World.drewN_drewN _ _ _) (congrArg (World.drewN _) (Nat.add_assoc _ _ _))⟩)) | (go_at_call 43; (with_reducible refine (jigsawref06_has.calls k c 101 O _ af.out).mono ?_); rintro e w' ⟨rfl, ⟨nd, rfl⟩⟩; (try first | exact ⟨rfl, _, World.drewN_drewN _ _ _⟩ | exact ⟨rfl, _, Eq.trans (World.drewN_drewN _ _ _) (congrArg (World.drewN _) (Nat.add_assoc _ _ _))⟩)) | (go_at_call 105; (with_reducible refine (jigsawref06_list.calls (n.length : Int) 0 O true _ ag.out).mono ?_); rintro e w' ⟨rfl, ⟨nd, rfl⟩⟩; (try first | exact ⟨rfl, _, World.drewN_drewN _ _ _⟩ | exact ⟨rfl, _, Eq.trans (World.drewN_drewN _ _ _) (congrArg (World.drewN _) (Nat.add_assoc _ _ _))⟩)) | (go_at_call 43; (with_reducible refine (jigsawref06_has.calls k c 114 s _ ah.out).mono ?_); rintro e w' ⟨rfl, ⟨nd, rfl⟩⟩; (try first | exact ⟨rfl, _, World.drewN_drewN _ _ _⟩ | exact ⟨rfl, _, Eq.trans (World.drewN_drewN _ _ _) (congrArg (World.drewN _) (Nat.add_assoc _ _ _))⟩)) | (go_at_call 43; (with_reducible refine (jigsawref06_has.calls k c 114 P _ ai.out).mono ?_); rintro e w' ⟨rfl, ⟨nd, rfl⟩⟩; (try first | exact ⟨rfl, _, World.drewN_drewN _ _ _⟩ | exact ⟨rfl, _, Eq.trans (World.drewN_drewN _ _ _) (congrArg (World.drewN _) (Nat.add_assoc _ _ _))⟩))); try go_wp2_with (first | ((with_reducible refine gate_dst (N := 2) rfl ?_); (try (refine gate_guard (by rfl) ?_; dsimp only)); refine bxe_ (N := 2) (cs := #[.int .i64 a, .slice x d.length c0_1, .slice y g.length c0_2, .slice z l.length c0_3, .slice A m.length c0_4, .slice B n.length c0_5, .int .i64 p, .slice E b.length c0_7]) (t := 32) ?_; intro q hg w31 hbox hb; have o := a_ (hbox); have u := a_ (by rw [hg]; exact (bz_ bel_) : w.heap.size ≤ q); have Z := u; replace HB := hq_ hb; clear hb hbox hg; obtain ⟨_, _, _, _, _, _, _, _, _, _, _, _, _, _, _, _⟩ := cel8_ o.out) | (go_at_call 43; (with_reducible refine (jigsawref06_has.calls k c 118 F _ A5.out).mono ?_); rintro e w' ⟨rfl, ⟨nd, rfl⟩⟩; (try first | exact ⟨rfl, _, World.drewN_drewN _ _ _⟩ | exact ⟨rfl, _, Eq.trans (World.drewN_drewN _ _ _) (congrArg (World.drewN _) (Nat.add_assoc _ _ _))⟩)) | (go_at_call 43; (with_reducible refine (jigsawref06_has.calls k c 86 G _ A6.out).mono ?_); rintro e w' ⟨rfl, ⟨nd, rfl⟩⟩; (try first | exact ⟨rfl, _, World.drewN_drewN _ _ _⟩ | exact ⟨rfl, _, Eq.trans (World.drewN_drewN _ _ _) (congrArg (World.drewN _) (Nat.add_assoc _ _ _))⟩)) | (go_at_call 105; (with_reducible refine (jigsawref06_list.calls (d.length : Int) F G true _ A7.out).mono ?_); rintro e w' ⟨rfl, ⟨nd, rfl⟩⟩; (try first | exact ⟨rfl, _, World.drewN_drewN _ _ _⟩ | exact ⟨rfl, _, Eq.trans (World.drewN_drewN _ _ _) (congrArg (World.drewN _) (Nat.add_assoc _ _ _))⟩)) | (go_at_call 43; (with_reducible refine (jigsawref06_has.calls k c 119 I _ A8.out).mono ?_); rintro e w' ⟨rfl, ⟨nd, rfl⟩⟩; (try first | exact ⟨rfl, _, World.drewN_drewN _ _ _⟩ | exact ⟨rfl, _, Eq.trans (World.drewN_drewN _ _ _) (congrArg (World.drewN _) (Nat.add_assoc _ _ _))⟩)) | (go_at_call 43; (with_reducible refine (jigsawref06_has.calls k c 87 J _ A9.out).mono ?_); rintro e w' ⟨rfl, ⟨nd, rfl⟩⟩; (try first | exact ⟨rfl, _, World.drewN_drewN _ _ _⟩ | exact ⟨rfl, _, Eq.trans (World.drewN_drewN _ _ _) (congrArg (World.drewN _) (Nat.add_assoc _ _ _))⟩)) | (go_at_call 105; (with_reducible refine (jigsawref06_list.calls (g.length : Int) I J true _ aa.out).mono ?_); rintro e w' ⟨rfl, ⟨nd, rfl⟩⟩; (try first | exact ⟨rfl, _, World.drewN_drewN _ _ _⟩ | exact ⟨rfl, _, Eq.trans (World.drewN_drewN _ _ _) (congrArg (World.drewN _) (Nat.add_assoc _ _ _))⟩)) | (go_at_call 43; (with_reducible refine (jigsawref06_has.calls k c 99 K _ ab.out).mono ?_); rintro e w' ⟨rfl, ⟨nd, rfl⟩⟩; (try first | exact ⟨rfl, _, World.drewN_drewN _ _ _⟩ | exact ⟨rfl, _, Eq.trans (World.drewN_drewN _ _ _) (congrArg (World.drewN _) (Nat.add_assoc _ _ _))⟩)) | (go_at_call 105; (with_reducible refine (jigsawref06_list.calls (l.length : Int) 0 K true _ ac.out).mono ?_); rintro e w' ⟨rfl, ⟨nd, rfl⟩⟩; (try first | exact ⟨rfl, _, World.drewN_drewN _ _ _⟩ | exact ⟨rfl, _, Eq.trans (World.drewN_drewN _ _ _) (congrArg (World.drewN _) (Nat.add_assoc _ _ _))⟩)) | (go_at_call 43; (with_reducible refine (jigsawref06_has.calls k c 100 M _ ad.out).mono ?_); rintro e w' ⟨rfl, ⟨nd, rfl⟩⟩; (try first | exact ⟨rfl, _, World.drewN_drewN _ _ _⟩ | exact ⟨rfl, _, Eq.trans (World.drewN_drewN _ _ _) (congrArg (World.drewN _) (Nat.add_assoc _ _ _))⟩)) | (go_at_call 105; (with_reducible refine (jigsawref06_list.calls (m.length : Int) 0 M true _ ae.out).mono ?_); rintro e w' ⟨rfl, ⟨nd, rfl⟩⟩; (try first | exact ⟨rfl, _, World.drewN_drewN _ _ _⟩ | exact ⟨rfl, _, Eq.trans (World.drewN_drewN _ _ _) (congrArg (World.drewN _) (Nat.add_assoc _ _ _))⟩)) | (go_at_call 43; (with_reducible refine (jigsawref06_has.calls k c 101 O _ af.out).mono ?_); rintro e w' ⟨rfl, ⟨nd, rfl⟩⟩; (try first | exact ⟨rfl, _, World.drewN_drewN _ _ _⟩ | exact ⟨rfl, _, Eq.trans (World.drewN_drewN _ _ _) (congrArg (World.drewN _) (Nat.add_assoc _ _ _))⟩)) | (go_at_call 105; (with_reducible refine (jigsawref06_list.calls (n.length : Int) 0 O true _ ag.out).mono ?_); rintro e w' ⟨rfl, ⟨nd, rfl⟩⟩; (try first | exact ⟨rfl, _, World.drewN_drewN _ _ _⟩ | exact ⟨rfl, _, Eq.trans (World.drewN_drewN _ _ _) (congrArg (World.drewN _) (Nat.add_assoc _ _ _))⟩)) | (go_at_call 43; (with_reducible refine (jigsawref06_has.calls k c 114 s _ ah.out).mono ?_); rintro e w' ⟨rfl, ⟨nd, rfl⟩⟩; (try first | exact ⟨rfl, _, World.drewN_drewN _ _ _⟩ | exact ⟨rfl, _, Eq.trans (World.drewN_drewN _ _ _) (congrArg (World.drewN _) (Nat.add_assoc _ _ _))⟩)) | (go_at_call 43; (with_reducible refine (jigsawref06_has.calls k c 114 P _ ai.out).mono ?_); rintro e w' ⟨rfl, ⟨nd, rfl⟩⟩; (try first | exact ⟨rfl, _, World.drewN_drewN _ _ _⟩ | exact ⟨rfl, _, Eq.trans (World.drewN_drewN _ _ _) (congrArg (World.drewN _) (Nat.add_assoc _ _ _))⟩))))
               go_loopg [12] k (fun kq aB w' => ∃ (v : Int), aB = .int .i64 v ∧ Aside0 (jigsawref06_Arity.l0 kq v a d g l m n p b = some r) ∧ Aside0 (kq ≤ k) ∧ Aside0 (w'.heap[q]? = some (.cells #[.int .i64 a, (.slice x d.length c0_1), (.slice y g.length c0_2), (.slice z l.length c0_3), (.slice A m.length c0_4), (.slice B n.length c0_5), .int .i64 p, (.slice E b.length c0_7)] 32 (0, 0))) ∧ Aside0 (Below w.heap.size w w'))
               case atStart => exact ⟨(0), eq_, H', ⟨lr_ _⟩, ⟨bk_ o.out⟩, ⟨bel_⟩⟩
               case round =>
                clear H'
                try clear c1
                try clear c2
                try clear p2
                try clear c3
                try clear c3b0
                try clear c3b1
                try clear c4
                try clear c4b0
                try clear c4b1
                try clear c8
                try clear c17
                try clear c18
                try clear c19
                try clear c20
                try clear c21
                try clear c23
                try clear c23b0
                try clear c23b1
                try clear c24
                try clear c24b0
                try clear c24b1
                try clear c26
                try clear c26b0
                try clear c27
                try clear c27b0
                try clear c28
                try clear c28b0
                try clear c28b1
                try clear c29
                try clear c29b0
                try clear c29b1
                try clear c30
                try clear c30b0
                obtain ⟨v, rfl, HA, aI, o, HB⟩ := hrel
                cases gk with
                | zero => exact absurd HA.out (by simp [jigsawref06_Arity.l0])
                | succ k1 =>
                 have H := HA.out
                 clear HA
                 simp only [jigsawref06_Arity.l0] at H
                 by_cases c33 : v < (b.length : Int)
                 ·
                  rw [ip_ c33] at H
                  exact absurd H (by simp)
                 ·
                  rw [ig_ c33] at H
                  have c33b0 : decide (v < (b.length : Int)) = false := df_ c33
                  clear c33
                  obtain rfl := si_ H
                  obtain ⟨_, _, _, _, _, _, _, _, _, _, _, _, _, _, _, _⟩ := cel8_ o.out
                  go_wp2
                  repeat (go_quiet (fail); try go_wp2)
                  go_ret
                  exact ⟨er_, bel_⟩
        ·
         rw [ig_ c23] at H
         exact absurd H (by simp)
       ·
        replace c21 := bf_.mpr c21
        subst c21
        have H1 : (none) = some r := by rw [ig_ (show ¬ (false = true) by decide)] at H; exact H
        clear H
        have H := H1
        clear H1
        exact absurd H (by simp)
      ·
       replace c20 := bf_.mpr c20
       subst c20
       have H1 : (none) = some r := by rw [ig_ (show ¬ (false = true) by decide)] at H; exact H
       clear H
       have H := H1
       clear H1
       exact absurd H (by simp)
     ·
      replace c19 := bf_.mpr c19
      subst c19
      have H1 : (none) = some r := by rw [ig_ (show ¬ (false = true) by decide)] at H; exact H
      clear H
      have H := H1
      clear H1
      exact absurd H (by simp)
    ·
     replace c18 := bf_.mpr c18
     subst c18
     have H1 : (none) = some r := by rw [ig_ (show ¬ (false = true) by decide)] at H; exact H
     clear H
     have H := H1
     clear H1
     exact absurd H (by simp)
   ·
    replace c17 := bf_.mpr c17
    subst c17
    have H1 : (none) = some r := by rw [ig_ (show ¬ (false = true) by decide)] at H; exact H
    clear H
    have H := H1
    clear H1
    exact absurd H (by simp)
 ·
  rw [ig_ c3] at H
  exact absurd H (by simp)

/-! ### jigsawref06_in: function 81 -/
def jigsawref06_in.l0 : Nat → List Int → Int → Int → Int → Option (Bool)
 | 0, _, _, _, _ => none
 | k + 1, b, c, d, a => if a < (b.length : Int) then (if 0 ≤ a then (if (rd b a) < c then (some false) else (if (rd b a) > d then (some false) else (jigsawref06_in.l0 k b c d (wrap64 (a + 1))))) else (none)) else (some true)
def jigsawref06_in.f (k : Nat) (a : List Int) (b : Int) (c : Int) : Option (Bool) := jigsawref06_in.l0 k a b c 0
theorem jigsawref06_in.mono_l : ∀ k, (∀ a b c d, LeO (jigsawref06_in.l0 k a b c d) (jigsawref06_in.l0 (k + 1) a b c d))
 | 0 => fun _ _ _ _ r h => by simp [jigsawref06_in.l0] at h
 | k + 1 => by
  have ih0 := jigsawref06_in.mono_l k
  ·
   intro a b c d
   unfold jigsawref06_in.l0
   exact leo_
theorem jigsawref06_in.mono : ∀ a b c k, LeO (jigsawref06_in.f k a b c) (jigsawref06_in.f (k + 1) a b c) := by
 intro a b c k
 have ih0 := jigsawref06_in.mono_l k
 unfold jigsawref06_in.f
 exact leo_
set_option maxHeartbeats 8000000 in
set_option maxRecDepth 100000 in
theorem jigsawref06_in.calls (k : Nat) (y : Option Addr) (c0 : Nat) (c : List Int) (q : Int) (s : Int) (r : Bool) (w : World) (u : Kd.C (Kd.int .i64) w y c.length c) (v : c.length ≤ c0) (h : jigsawref06_in.f k c q s = some r) :
  Calls Tryz.prog 81 #[.slice y c.length c0, .int .i64 q, .int .i64 s] w fun e w' => e = .returned (.bool r) ∧ Drawn0 w w' := by
 have o := a_ u
 have A := a_ v
 clear u v
 unfold jigsawref06_in.f at h
 have H := h
 clear h
 have H' := a_ H
 clear H
 go_enter Tryz.func81, Tryz.ntmps81
 go_wp2
 go_loopg [7] k (fun kq z w' => ∃ (a : Int), z = .int .i64 a ∧ Aside0 (jigsawref06_in.l0 kq c q s a = some r) ∧ Aside0 (kq ≤ k) ∧ Drawn0 w w')
 case atStart => exact ⟨(0), eq_, H', ⟨lr_ _⟩, by repeat (first | exact d0_ _ | apply Drawn0.step)⟩
 case round =>
  clear H'
  try clear p2
  obtain ⟨a, rfl, HA, x, ⟨m1, rfl⟩⟩ := hrel
  cases gk with
  | zero => exact absurd HA.out (by simp [jigsawref06_in.l0])
  | succ k1 =>
   have H := HA.out
   clear HA
   simp only [jigsawref06_in.l0] at H
   by_cases c4 : a < (c.length : Int)
   ·
    rw [ip_ c4] at H
    have c4b0 : decide (a < (c.length : Int)) = true := dt_ c4
    clear c4
    by_cases c5 : 0 ≤ a
    ·
     rw [ip_ c5] at H
     have c5b0 : decide (0 ≤ a) = true := dt_ c5
     clear c5
     by_cases c6 : (rd c a) < q
     ·
      rw [ip_ c6] at H
      have c6b0 : decide ((rd c a) < q) = true := dt_ c6
      clear c6
      obtain rfl := si_ H
      have p422 : 0 ≤ (a : Int) := dq_
      have b : a < (c.length : Int) := dq_
      obtain ⟨g, l, m⟩ := ai_ o.out a p422 b
      cases l
      replace p422 := et_ p422
      replace b := et_ b
      go_wp2
      go_ret
      exact ⟨by first | rfl | (simp; done) | (simp [*]; done), by repeat (first | exact d0_ _ | apply Drawn0.step)⟩
     ·
      rw [ig_ c6] at H
      have c6b0 : decide ((rd c a) < q) = false := df_ c6
      clear c6
      by_cases c7 : (rd c a) > s
      ·
       rw [ip_ c7] at H
       have c7b0 : decide (s < (rd c a)) = true := dt_ c7
       clear c7
       obtain rfl := si_ H
       have p422 : 0 ≤ (a : Int) := dq_
       have b : a < (c.length : Int) := dq_
       obtain ⟨g, l, m⟩ := ai_ o.out a p422 b
       cases l
       replace p422 := et_ p422
       replace b := et_ b
       have p423 : 0 ≤ (a : Int) := dq_
       have d : a < (c.length : Int) := dq_
       obtain ⟨n, p, t⟩ := ai_ o.out a p423 d
       obtain rfl : g = n := (by injection p)
       replace p423 := et_ p423
       replace d := et_ d
       go_wp2
       go_ret
       exact ⟨by first | rfl | (simp; done) | (simp [*]; done), by repeat (first | exact d0_ _ | apply Drawn0.step)⟩
      ·
       rw [ig_ c7] at H
       have c7b0 : decide (s < (rd c a)) = false := df_ c7
       clear c7
       have H' := a_ H
       clear H
       have p422 : 0 ≤ (a : Int) := dq_
       have b : a < (c.length : Int) := dq_
       obtain ⟨g, l, m⟩ := ai_ o.out a p422 b
       cases l
       replace p422 := et_ p422
       replace b := et_ b
       have p423 : 0 ≤ (a : Int) := dq_
       have d : a < (c.length : Int) := dq_
       obtain ⟨n, p, t⟩ := ai_ o.out a p423 d
       obtain rfl : g = n := (by injection p)
       replace p423 := et_ p423
       replace d := et_ d
       go_wp2
       go_roundg k1
       case measure => have := x.out; omega
       case rel => exact ⟨(wrap64 (a + 1)), eq_, H', ⟨by have := x.out; omega⟩, by repeat (first | exact d0_ _ | apply Drawn0.step)⟩
    ·
     rw [ig_ c5] at H
     exact absurd H (by simp)
   ·
    rw [ig_ c4] at H
    have c4b0 : decide (a < (c.length : Int)) = false := df_ c4
    clear c4
    obtain rfl := si_ H
    go_wp2
    go_ret
    exact ⟨by first | rfl | (simp; done) | (simp [*]; done), by repeat (first | exact d0_ _ | apply Drawn0.step)⟩

end Go.Proofs.YtbhhbgoamomacaaGreatDoor.XMulFilters
