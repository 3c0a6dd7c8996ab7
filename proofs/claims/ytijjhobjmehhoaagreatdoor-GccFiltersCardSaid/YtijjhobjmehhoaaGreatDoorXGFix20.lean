-- by xprint.py, a program of this session, over the kit's print
import Derived.Test.YtijjhobjmehhoaaGreatDoorXGFix0
import Derived.Test.YtijjhobjmehhoaaGreatDoorXGFix1
import Derived.Test.YtijjhobjmehhoaaGreatDoorXGFix11
import Derived.Test.YtijjhobjmehhoaaGreatDoorXGFix19
import Derived.Test.YtijjhobjmehhoaaGreatDoorSq
namespace Go.Proofs.YtijjhobjmehhoaaGreatDoor.XGccFilters
open Go.RowKit Go.Proofs.YtijjhobjmehhoaaGreatDoor.Sq Go.Proofs.YtijjhobjmehhoaaGreatDoorW.PrintWords Go.Proofs.YtijjhobjmehhoaaGreatDoorW.PrintLast Go.Proofs.YtijjhobjmehhoaaGreatDoorW.PrintMore
attribute [local go_sem] max2_int min2_int max_two min_two max_three min_three max_four min_four   -- for this text's walks alone
set_option linter.unusedVariables false
set_option linter.unusedSimpArgs false

/-! ### jigsawlaw20_doms: function 11 -/
def jigsawlaw20_doms.l0 : Nat → List (S58) → List (List Int) → Int → Int → Option ((List (S58)))
 | 0, _, _, _, _ => none
 | k + 1, c, d, e, b => if b < e then (if 0 ≤ b then (if b < (d.length : Int) then ((dom_Of.f k (rd_L7 d b)).bind fun a => (if c.length < 2513169434916 then (jigsawlaw20_doms.l0 k (c ++ [(⟨a.1, a.2.1, a.2.2.1, a.2.2.2.1, a.2.2.2.2.1⟩ : S58)]) d e (wrap64 (b + 1))) else (none))) else (none)) else (none)) else (some c)
def jigsawlaw20_doms.f (k : Nat) (a : List (List Int)) : Option ((List (S58))) := jigsawlaw20_doms.l0 k ([] : List (S58)) a (a.length : Int) 0
theorem jigsawlaw20_doms.mono_l : ∀ k, (∀ a b c d, LeO (jigsawlaw20_doms.l0 k a b c d) (jigsawlaw20_doms.l0 (k + 1) a b c d))
 | 0 => by intros; exact LeO.none _
 | k + 1 => by
  have ih0 := jigsawlaw20_doms.mono_l k
  intro a b c d
  unfold jigsawlaw20_doms.l0
  have m0 := @dom_Of.mono
  exact leo_
theorem jigsawlaw20_doms.mono : ∀ a k, LeO (jigsawlaw20_doms.f k a) (jigsawlaw20_doms.f (k + 1) a) := by
 intro a k
 have ih0 := jigsawlaw20_doms.mono_l k
 unfold jigsawlaw20_doms.f
 have m0 := @dom_Of.mono
 exact leo_
set_option maxHeartbeats 8000000 in
set_option maxRecDepth 100000 in
theorem jigsawlaw20_doms.calls (k : Nat) (A0 : Option Addr) (c0 : Nat) (o : List (List Int)) (r : List (S58)) (w : World) (U : Kd.C (Kd.slice 3 (Kd.int .i64)) w A0 o.length o) (W : o.length ≤ c0) (hrtab : Kd.C (Kd.int .u8) w (some ⟨0, 0, none⟩) tabL.length tabL) (h : jigsawlaw20_doms.f k o = some r) :
  Calls Tryz.prog 11 #[.slice A0 o.length c0] w fun e w' => ∃ X : Value, e = .returned (X) ∧ Kd.N k58 58 w' w.heap.size (fun a => (w.heap.size ≤ a)) X r ∧ Below w.heap.size w w' := by
 have hu58 := Tryz.underlying58
 have af := a_ U
 have an := a_ W
 clear U W
 have HRtab := a_ hrtab
 clear hrtab
 have HB := a_ (Below.refl w.heap.size w)
 unfold jigsawlaw20_doms.f at h
 have H := h
 clear h
 have H' := a_ H
 clear H
 go_enter Tryz.func11, Tryz.ntmps11
 go_wp2
 go_loopg [3, 10] k (fun kq v3 ag w' => ∃ (s : List (S58)) (c : Int), ag = .int .i64 c ∧ Aside0 (jigsawlaw20_doms.l0 kq s o (o.length : Int) c = some r) ∧ Aside0 (kq ≤ k) ∧ Aside0 (Kd.N k58 58 w' w.heap.size (fun a => (w.heap.size ≤ a)) v3 s) ∧ Aside0 (Below w.heap.size w w'))
 case atStart => exact ⟨(([] : List (S58))), (0), eq_, H', ⟨lr_ _⟩, ⟨nil_⟩, ⟨bel_⟩⟩
 clear H'
 try clear c1
 obtain ⟨s, c, rfl, HA, Y, HO_3, HB⟩ := hrel
 cases gk with
 | zero => exact absurd HA.out (by simp [jigsawlaw20_doms.l0])
 | succ k1 =>
  have H := HA.out
  clear HA
  simp only [jigsawlaw20_doms.l0] at H
  by_cases c2 : c < (o.length : Int)
  rotate_left
  ·
   rw [ig_ c2] at H
   have c2b0 : decide (c < (o.length : Int)) = false := df_ c2
   clear c2
   obtain rfl := si_ H
   go_wp2
   go_ret
   exact ⟨_, er_, vN_ HO_3.out, bel_⟩
  rw [ip_ c2] at H
  have c2b0 : decide (c < (o.length : Int)) = true := dt_ c2
  clear c2
  by_cases c3 : 0 ≤ c
  rotate_left
  ·
   rw [ig_ c3] at H
   exact ab_ H
  rw [ip_ c3] at H
  have c3b0 : decide (0 ≤ c) = true := dt_ c3
  clear c3
  by_cases c4 : c < (o.length : Int)
  rotate_left
  ·
   rw [ig_ c4] at H
   exact ab_ H
  rw [ip_ c4] at H
  have c4b0 : decide (c < (o.length : Int)) = true := dt_ c4
  clear c4
  replace H := bs_.mp H
  obtain ⟨⟨l, g, m, q, u, ab⟩, Z, H⟩ := H
  try dsimp only at H
  have A5 := a_ Z
  clear Z
  by_cases c6 : s.length < 2513169434916
  rotate_left
  ·
   rw [ig_ c6] at H
   exact ab_ H
  rw [ip_ c6] at H
  have LMc6 := a_ c6
  clear c6
  obtain ⟨K, z⟩ : ∃ y_ : List (S58), y_ = (s ++ [(⟨l, g, m, q, u⟩ : S58)]) := ⟨_, rfl⟩
  replace H : (jigsawlaw20_doms.l0 k1 K o (o.length : Int) (wrap64 (c + 1))) = some r := h2_ H z
  have O := a_ z
  clear z
  have H' := a_ H
  clear H
  have p489 : 0 ≤ (c : Int) := dq_
  have G : c < (o.length : Int) := dq_
  obtain ⟨ah, M, c489_0, ac, B, E, F⟩ := at_L7 af.out c p489 G
  cases ac
  replace B := hx_ HB B
  have I := a_ F
  have J := a_ E
  clear F E
  replace p489 := et_ p489
  replace G := et_ G
  go_wp2_with (first | ((with_reducible refine gate_callee (f := 30) rfl ?_); refine goesL_ (some 16) rfl rfl Tryz.func30 kr_ rfl #[.slice M (rd_L7 o c).length c489_0] rfl ar_ ?_; (with_reducible refine (dom_Of.calls k1 _ _ (rd_L7 o c) l g m q u ab _ ?_ ?_ ?_ A5.out).mono ?_); exact ca_ ((cb_ I.out HB.out)); exact J.out; exact ca_ ((cb_ HRtab.out HB.out)); rintro e w7 ⟨al, rfl, aa, hb⟩; refine ⟨_, rfl, ?_⟩; have n := a_ (Kd.V_lower (vm_ (ok' := fun a => (w.heap.size ≤ a) ∧ some a ≠ u3.ownBlock) aa (fun a hk_ => ⟨(Nat.le_trans (bz_ bel_) hk_), (fr_ (Kd.N_lt (vN_ HO_3.out)) a hk_)⟩)) (bz_ bel_)); replace HO_3 := a_ (Kd.N_below (vN_ HO_3.out) hb); replace HB := hq_ hb; clear hb aa) | ((with_reducible refine gate_dst (N := 6) rfl ?_); refine bxe_ (N := 6) (cs := #[.int .i64 0, .slice none 0 0, .int .i64 0, .int .i64 0, .int .i64 0]) (t := 58) ?_; intro d hg w8 hbox hb; replace HO_3 := a_ (Kd.N_below (Kd.N_elderB (vN_ HO_3.out) d (Nat.le_of_eq hg.symm)) hb); replace n := a_ (vb_ (Kd.V_elderB (vV_ n.out) d (Nat.le_of_eq hg.symm)) hb); have A := a_ (hbox); have P := a_ (by rw [hg]; exact (bz_ bel_) : w.heap.size ≤ d); have ai := P; replace HB := hq_ hb; clear hb hbox hg; obtain ⟨_, _, _, _, _, _, _, _, _, _⟩ := cel5_ A.out; obtain ⟨x, y, ad⟩ := Kd.V_slice n.out; subst ad) | ((with_reducible refine gate_store (t := 58) (p := 6) rfl ?_); refine store_event (t := 58) (p := 6) (v := ?vo_w11) (w1 := (((((w8.setCell ⟨d, 0, none⟩ (.int .i64 l)).setCell ⟨d, 1, none⟩ (.slice x g.length y)).setCell ⟨d, 2, none⟩ (.int .i64 m)).setCell ⟨d, 3, none⟩ (.int .i64 q)).setCell ⟨d, 4, none⟩ (.int .i64 u))) ?hg ?ho ?hn ?hr ?_; (case ho => rfl); (case hg => rfl); (case hn => rfl); (case hr => first | (go_simp; done) | (go_simp; rfl)); intro w11 hw; replace HO_3 : Aside0 (Kd.N k58 58 w11 w.heap.size (fun a => (w.heap.size ≤ a) ∧ a ≠ d) u3 s) := ⟨(by rw [hw]; exact (by refine vN_ ?_; exact nm_ (fN_ (fN_ (fN_ (fN_ (fN_ (nm_ HO_3.out (fun a hk => (⟨hk, hk.2⟩ : _ ∧ a ≠ d)))))))) (fun _ hk => ⟨hk.1.1, hk.1.2⟩)))⟩; replace n : Aside0 (Kd.V (Kd.int .u64) 84 w11 w.heap.size (fun a => (w.heap.size ≤ a) ∧ some a ≠ u3.ownBlock ∧ a ≠ d) (.slice x g.length y) g) := ⟨(by rw [hw]; exact (by refine vV_ ?_; exact vm_ (fV_ (fV_ (fV_ (fV_ (fV_ (vm_ n.out (fun a hk => (⟨hk, hk.2⟩ : _ ∧ a ≠ d)))))))) (fun _ hk => ⟨hk.1.1.1, ⟨hk.1.1.2, hk.1.2⟩⟩)))⟩; replace A : Aside0 (w11.heap[d]? = some (.cells #[.int .i64 l, .slice x g.length y, .int .i64 m, .int .i64 q, .int .i64 u] 58 (0, 0))) := ⟨(by rw [hw]; exact (by refine bk_ ?_; refine bu_ (cs := #[.int .i64 l, .slice x g.length y, .int .i64 m, .int .i64 q, .int .i64 0]) ?_ 4 _ rfl; refine bk_ ?_; refine bu_ (cs := #[.int .i64 l, .slice x g.length y, .int .i64 m, .int .i64 0, .int .i64 0]) ?_ 3 _ rfl; refine bk_ ?_; refine bu_ (cs := #[.int .i64 l, .slice x g.length y, .int .i64 0, .int .i64 0, .int .i64 0]) ?_ 2 _ rfl; refine bk_ ?_; refine bu_ (cs := #[.int .i64 l, .slice none 0 0, .int .i64 0, .int .i64 0, .int .i64 0]) ?_ 1 _ rfl; refine bk_ ?_; refine bu_ (cs := #[.int .i64 0, .slice none 0 0, .int .i64 0, .int .i64 0, .int .i64 0]) ?_ 0 _ rfl; refine bk_ ?_; exact A.out))⟩; replace HB : Aside0 (Below w.heap.size w w11) := ⟨(by rw [hw]; exact bel_)⟩; clear hw; obtain ⟨_, _, _, _, _, _, _, _, _, _⟩ := cel5_ A.out) | ((with_reducible refine gate_builtin (b := .append) (xs := #[.tmp 19, .tmp 21]) rfl ?_); at_builtin; refine Kd.N_append k58 (w0 := w) w.heap.size rfl (.tmp 19) (.tmp 21) 36 58 (.agg #[(.int .i64 0), (.slice none 0 0), (.int .i64 0), (.int .i64 0), (.int .i64 0)]) 56 rfl Tryz.underlying36 info58 rfl (by decide) (by omega) u3 s (⟨l, g, m, q, u⟩ : S58) [.int .i64 l, .slice x g.length y, .int .i64 m, .int .i64 q, .int .i64 u] (fun a => (w.heap.size ≤ a) ∧ a ≠ d) (fun a => ((fun a => (w.heap.size ≤ a) ∧ a ≠ d)) a ∧ some a ≠ u3.ownBlock) rfl rfl ?aP (fun _ hk => hk) ?aF ?aO ?aB ?aS ?aL ?_; (case aP => exact (k58_mkF _ _ (⟨l, g, m, q, u⟩ : S58) (Kd.V_reads' (vm_ (ok' := (fun a => ((fun a => (w.heap.size ≤ a) ∧ a ≠ d)) a ∧ some a ≠ u3.ownBlock)) (n.out) (fun a hk => ⟨⟨hk.1, hk.2.2⟩, hk.2.1⟩))).2.1 (Kd.V_F (vm_ (ok' := (fun a => ((fun a => (w.heap.size ≤ a) ∧ a ≠ d)) a ∧ some a ≠ u3.ownBlock)) (n.out) (fun a hk => ⟨⟨hk.1, hk.2.2⟩, hk.2.1⟩))))); (case aB => exact bel_); (case aF => exact (fun a hk => ⟨(Nat.le_trans (bz_ bel_) hk), Kd.freshB (bk_ A.out) a hk⟩)); (case aO => exact (vN_ HO_3.out)); (case aS => exact (bz_ bel_)); (case aL => have := LMc6.out; omega); intro am w13 ho hb hg hat; rw [← O.out] at ho; replace HB := a_ (hb); have Q := a_ (ho); clear HO_3; clear ho hb hg hat))
  go_roundg k1
  case measure => have := Y.out; omega
  exact ⟨(K), (wrap64 (c + 1)), eq_, H', ⟨by have := Y.out; omega⟩, ⟨by refine vN_ ?_; exact nm_ Q.out (fun _ hk => hk.1)⟩, ⟨bel_⟩⟩

/-! ### jigsawref10_Same: function 14 -/
mutual
def jigsawref10_Same.l0 : Nat → List (List Int) → List (List Int) → Int → Option (Bool)
 | 0, _, _, _ => none
 | k + 1, b, c, a => if a < (b.length : Int) then (if 0 ≤ a then (if a < (c.length : Int) then (if ((rd_L7 b a).length : Int) = ((rd_L7 c a).length : Int) then (jigsawref10_Same.l1 k b c a 0) else (some false)) else (none)) else (none)) else (some true)
def jigsawref10_Same.l1 : Nat → List (List Int) → List (List Int) → Int → Int → Option (Bool)
 | 0, _, _, _, _ => none
 | k + 1, c, d, a, b => if 0 ≤ a then (if a < (c.length : Int) then (if b < ((rd_L7 c a).length : Int) then (if 0 ≤ b then (if a < (d.length : Int) then (if b < ((rd_L7 d a).length : Int) then (if (rd (rd_L7 c a) b) = (rd (rd_L7 d a) b) then (jigsawref10_Same.l1 k c d a (wrap64 (b + 1))) else (none)) else (none)) else (none)) else (none)) else (jigsawref10_Same.l0 k c d (wrap64 (a + 1)))) else (none)) else (none)
end
def jigsawref10_Same.f (k : Nat) (a : List (List Int)) (b : List (List Int)) : Option (Bool) := if (a.length : Int) = (b.length : Int) then (jigsawref10_Same.l0 k a b 0) else (none)
theorem jigsawref10_Same.mono_l : ∀ k, (∀ a b c, LeO (jigsawref10_Same.l0 k a b c) (jigsawref10_Same.l0 (k + 1) a b c)) ∧ (∀ a b c d, LeO (jigsawref10_Same.l1 k a b c d) (jigsawref10_Same.l1 (k + 1) a b c d))
 | 0 => by refine ⟨?_, ?_⟩ <;> (intros; exact LeO.none _)
 | k + 1 => by
  obtain ⟨ih0, ih1⟩ := jigsawref10_Same.mono_l k
  refine ⟨?_, ?_⟩ <;> intros
  all_goals first | unfold jigsawref10_Same.l0 | unfold jigsawref10_Same.l1
  all_goals exact leo_
theorem jigsawref10_Same.mono : ∀ a b k, LeO (jigsawref10_Same.f k a b) (jigsawref10_Same.f (k + 1) a b) := by
 intro a b k
 obtain ⟨ih0, ih1⟩ := jigsawref10_Same.mono_l k
 unfold jigsawref10_Same.f
 exact leo_
set_option maxHeartbeats 8000000 in
set_option maxRecDepth 100000 in
theorem jigsawref10_Same.calls (k : Nat) (A0 : Option Addr) (c0 : Nat) (c : List (List Int)) (A1 : Option Addr) (c1 : Nat) (d : List (List Int)) (r : Bool) (w : World) (ai : Kd.C (Kd.slice 3 (Kd.int .i64)) w A0 c.length c) (aj : c.length ≤ c0) (ak : Kd.C (Kd.slice 3 (Kd.int .i64)) w A1 d.length d) (al : d.length ≤ c1) (h : jigsawref10_Same.f k c d = some r) :
  Calls Tryz.prog 14 #[.slice A0 c.length c0, .slice A1 d.length c1] w fun e w' => e = .returned (.bool r) ∧ Drawn0 w w' := by
 have G := a_ ai
 have aF := a_ aj
 clear ai aj
 have ac := a_ ak
 have aG := a_ al
 clear ak al
 unfold jigsawref10_Same.f at h
 have H := h
 clear h
 by_cases c3 : (c.length : Int) = (d.length : Int)
 rotate_left
 ·
  rw [ig_ c3] at H
  exact ab_ H
 rw [ip_ c3] at H
 have c3b0 : ((c.length : Int) == (d.length : Int)) = true := beq_iff_eq.mpr c3
 have c3b1 : ((c.length : Int) != (d.length : Int)) = false := bn_.mpr c3
 have c3b2 : (c.length == d.length) = true := by first | simpa using c3 | (simp at c3 ⊢; omega)
 clear c3
 have H' := a_ H
 clear H
 go_enter Tryz.func14, Tryz.ntmps14
 go_wp2
 repeat (go_quiet (fail); try go_wp2)
 go_loopg [5] k (fun kq v5 w' => ∃ (a : Int), v5 = .int .i64 a ∧ Aside0 (jigsawref10_Same.l0 kq c d a = some r) ∧ Aside0 (kq ≤ k) ∧ Drawn0 w w')
 case atStart => exact ⟨(0), eq_, H', ⟨lr_ _⟩, by repeat (first | exact d0_ _ | apply Drawn0.step)⟩
 clear H'
 try clear c1
 try clear p2
 try clear c3
 try clear c3b0
 try clear c3b1
 try clear c3b2
 obtain ⟨a, rfl, HA, Q, ⟨m1, rfl⟩⟩ := hrel
 cases gk with
 | zero => exact absurd HA.out (by simp [jigsawref10_Same.l0])
 | succ k1 =>
  have H := HA.out
  clear HA
  simp only [jigsawref10_Same.l0] at H
  by_cases c4 : a < (c.length : Int)
  rotate_left
  ·
   rw [ig_ c4] at H
   have c4b0 : decide (a < (c.length : Int)) = false := df_ c4
   clear c4
   obtain rfl := si_ H
   go_wp2
   repeat (go_quiet (fail); try go_wp2)
   go_ret
   exact ⟨by first | rfl | (simp; done) | (simp [*]; done), by repeat (first | exact d0_ _ | apply Drawn0.step)⟩
  rw [ip_ c4] at H
  have c4b0 : decide (a < (c.length : Int)) = true := dt_ c4
  clear c4
  by_cases c5 : 0 ≤ a
  rotate_left
  ·
   rw [ig_ c5] at H
   exact ab_ H
  rw [ip_ c5] at H
  have c5b0 : decide (0 ≤ a) = true := dt_ c5
  clear c5
  by_cases c6 : a < (d.length : Int)
  rotate_left
  ·
   rw [ig_ c6] at H
   exact ab_ H
  rw [ip_ c6] at H
  have c6b0 : decide (a < (d.length : Int)) = true := dt_ c6
  clear c6
  by_cases c7 : ((rd_L7 c a).length : Int) = ((rd_L7 d a).length : Int)
  rotate_left
  ·
   rw [ig_ c7] at H
   have c7b0 : (((rd_L7 c a).length : Int) == ((rd_L7 d a).length : Int)) = false := be_.mpr c7
   have c7b1 : (((rd_L7 c a).length : Int) != ((rd_L7 d a).length : Int)) = true := ni_.mpr c7
   have c7b2 : ((rd_L7 c a).length == (rd_L7 d a).length) = false := by first | simpa using c7 | (simp at c7 ⊢; omega)
   obtain rfl := si_ H
   have p502 : 0 ≤ (a : Int) := dq_
   have n : a < (c.length : Int) := dq_
   obtain ⟨u, ad, c502_0, I, v, g, q⟩ := at_L7 G.out a p502 n
   cases I
   have W := a_ g
   clear q g
   replace p502 := et_ p502
   replace n := et_ n
   have p503 : 0 ≤ (a : Int) := dq_
   have o : a < (d.length : Int) := dq_
   obtain ⟨U, ae, c503_0, J, x, l, s⟩ := at_L7 ac.out a p503 o
   cases J
   have X := a_ l
   clear s l
   replace p503 := et_ p503
   replace o := et_ o
   go_wp2
   repeat (go_quiet (fail); try go_wp2)
   go_ret
   exact ⟨by first | rfl | (simp; done) | (simp [*]; done), by repeat (first | exact d0_ _ | apply Drawn0.step)⟩
  rw [ip_ c7] at H
  have c7b0 : (((rd_L7 c a).length : Int) == ((rd_L7 d a).length : Int)) = true := beq_iff_eq.mpr c7
  have c7b1 : (((rd_L7 c a).length : Int) != ((rd_L7 d a).length : Int)) = false := bn_.mpr c7
  have c7b2 : ((rd_L7 c a).length == (rd_L7 d a).length) = true := by first | simpa using c7 | (simp at c7 ⊢; omega)
  clear c7
  have H' := a_ H
  clear H
  have p502 : 0 ≤ (a : Int) := dq_
  have n : a < (c.length : Int) := dq_
  obtain ⟨u, ad, c502_0, I, v, g, q⟩ := at_L7 G.out a p502 n
  cases I
  have W := a_ g
  clear q g
  replace p502 := et_ p502
  replace n := et_ n
  have p503 : 0 ≤ (a : Int) := dq_
  have o : a < (d.length : Int) := dq_
  obtain ⟨U, ae, c503_0, J, x, l, s⟩ := at_L7 ac.out a p503 o
  cases J
  have X := a_ l
  clear s l
  replace p503 := et_ p503
  replace o := et_ o
  go_wp2
  repeat (go_quiet (fail); try go_wp2)
  go_loopg [6] k1 (fun kq v6 w' => ∃ (b : Int), v6 = .int .i64 b ∧ Aside0 (jigsawref10_Same.l1 kq c d a b = some r) ∧ Aside0 (kq ≤ k1) ∧ Drawn0 w w')
  case atStart => exact ⟨(0), eq_, H', ⟨lr_ _⟩, by repeat (first | exact d0_ _ | apply Drawn0.step)⟩
  clear H'
  try clear c1
  try clear p2
  try clear c3
  try clear c3b0
  try clear c3b1
  try clear c3b2
  try clear c4
  try clear c4b0
  try clear c5
  try clear c5b0
  try clear p5
  try clear q5
  try clear aH
  try clear c6
  try clear c6b0
  try clear c7
  try clear c7b0
  try clear c7b1
  try clear c7b2
  try clear v
  try clear x
  try clear p2
  try clear p502
  try clear p503
  try clear n
  try clear o
  obtain ⟨b, rfl, HA, V, ⟨m2, rfl⟩⟩ := hrel
  cases gk with
  | zero => exact absurd HA.out (by simp [jigsawref10_Same.l1])
  | succ k2 =>
   have H := HA.out
   clear HA
   simp only [jigsawref10_Same.l1] at H
   by_cases c8 : 0 ≤ a
   rotate_left
   ·
    rw [ig_ c8] at H
    exact ab_ H
   rw [ip_ c8] at H
   have c8b0 : decide (0 ≤ a) = true := dt_ c8
   clear c8
   by_cases c9 : a < (c.length : Int)
   rotate_left
   ·
    rw [ig_ c9] at H
    exact ab_ H
   rw [ip_ c9] at H
   have c9b0 : decide (a < (c.length : Int)) = true := dt_ c9
   clear c9
   by_cases c10 : b < ((rd_L7 c a).length : Int)
   rotate_left
   ·
    rw [ig_ c10] at H
    have c10b0 : decide (b < ((rd_L7 c a).length : Int)) = false := df_ c10
    clear c10
    have H' := a_ H
    clear H
    have p504 : 0 ≤ (a : Int) := dq_
    have p : a < (c.length : Int) := dq_
    obtain ⟨F, af, c504_0, K, y, m, t⟩ := at_L7 G.out a p504 p
    obtain rfl : u = F := (by injection K)
    have Y := a_ m
    clear t m
    replace p504 := et_ p504
    replace p := et_ p
    go_wp2
    repeat (go_quiet (fail); try go_wp2)
    go_roundg k2
    case measure => have := Q.out; have := V.out; omega
    exact ⟨(wrap64 (a + 1)), eq_, H', ⟨by have := Q.out; have := V.out; omega⟩, by repeat (first | exact d0_ _ | apply Drawn0.step)⟩
   rw [ip_ c10] at H
   have c10b0 : decide (b < ((rd_L7 c a).length : Int)) = true := dt_ c10
   clear c10
   by_cases c11 : 0 ≤ b
   rotate_left
   ·
    rw [ig_ c11] at H
    exact ab_ H
   rw [ip_ c11] at H
   have c11b0 : decide (0 ≤ b) = true := dt_ c11
   clear c11
   by_cases c12 : a < (d.length : Int)
   rotate_left
   ·
    rw [ig_ c12] at H
    exact ab_ H
   rw [ip_ c12] at H
   have c12b0 : decide (a < (d.length : Int)) = true := dt_ c12
   clear c12
   by_cases c13 : b < ((rd_L7 d a).length : Int)
   rotate_left
   ·
    rw [ig_ c13] at H
    exact ab_ H
   rw [ip_ c13] at H
   have c13b0 : decide (b < ((rd_L7 d a).length : Int)) = true := dt_ c13
   clear c13
   by_cases c14 : (rd (rd_L7 c a) b) = (rd (rd_L7 d a) b)
   rotate_left
   ·
    rw [ig_ c14] at H
    exact ab_ H
   rw [ip_ c14] at H
   have c14b0 : ((rd (rd_L7 c a) b) == (rd (rd_L7 d a) b)) = true := beq_iff_eq.mpr c14
   have c14b1 : ((rd (rd_L7 c a) b) != (rd (rd_L7 d a) b)) = false := bn_.mpr c14
   clear c14
   have H' := a_ H
   clear H
   have p504 : 0 ≤ (a : Int) := dq_
   have p : a < (c.length : Int) := dq_
   obtain ⟨F, af, c504_0, K, y, m, t⟩ := at_L7 G.out a p504 p
   obtain rfl : u = F := (by injection K)
   have Y := a_ m
   clear t m
   replace p504 := et_ p504
   replace p := et_ p
   have p505 : 0 ≤ (a : Int) := dq_
   have M : a < (c.length : Int) := dq_
   obtain ⟨ag, az, c505_0, am, Z, z, A⟩ := at_L7 G.out a p505 M
   obtain rfl : u = ag := (by injection am)
   have aa := a_ A
   have aq := a_ z
   clear A z
   replace p505 := et_ p505
   replace M := et_ M
   have ea_ := si_ (y.symm.trans Z)
   injection ea_ with ea_ en_ ec_
   subst ea_
   subst ec_
   clear en_
   have p506 : 0 ≤ (b : Int) := dq_
   have N : b < ((rd_L7 c a).length : Int) := dq_
   obtain ⟨aB, an, ar⟩ := ai_ aa.out b p506 N
   cases an
   replace p506 := et_ p506
   replace N := et_ N
   have p507 : 0 ≤ (a : Int) := dq_
   have O : a < (d.length : Int) := dq_
   obtain ⟨ah, aA, c507_0, ao, au, B, E⟩ := at_L7 ac.out a p507 O
   obtain rfl : U = ah := (by injection ao)
   have ab := a_ E
   have av := a_ B
   clear E B
   replace p507 := et_ p507
   replace O := et_ O
   have p508 : 0 ≤ (b : Int) := dq_
   have P : b < ((rd_L7 d a).length : Int) := dq_
   obtain ⟨aC, ap, aw⟩ := ai_ ab.out b p508 P
   cases ap
   replace p508 := et_ p508
   replace P := et_ P
   go_wp2
   repeat (go_quiet (fail); try go_wp2)
   go_roundg k2
   case measure => have := Q.out; have := V.out; omega
   exact ⟨(wrap64 (b + 1)), eq_, H', ⟨by have := Q.out; have := V.out; omega⟩, by repeat (first | exact d0_ _ | apply Drawn0.step)⟩

/-! ### jigsawref06_list: function 91 -/
def jigsawref06_list.f (a : Int) (b : Int) (c : Int) : Option (Bool) := if c > 0 then (if a ≥ 1 then (some (decide (a ≤ 64))) else (some false)) else (some (a == b))
set_option maxHeartbeats 8000000 in
set_option maxRecDepth 100000 in
theorem jigsawref06_list.calls (a : Int) (c : Int) (b : Int) (r : Bool) (w : World) (h : jigsawref06_list.f a c b = some r) :
  Calls Tryz.prog 91 #[.int .i64 a, .int .i64 c, .int .i64 b] w fun e w' => e = .returned (.bool r) ∧ Drawn0 w w' := by
 unfold jigsawref06_list.f at h
 have H := h
 clear h
 by_cases c4 : b > 0
 rotate_left
 ·
  rw [ig_ c4] at H
  have c4b0 : decide (0 < b) = false := df_ c4
  clear c4
  obtain rfl := si_ H
  go_enter Tryz.func91, Tryz.ntmps91
  go_wp2
  go_ret
  exact ⟨by first | rfl | (simp; done) | (simp [*]; done), by repeat (first | exact d0_ _ | apply Drawn0.step)⟩
 rw [ip_ c4] at H
 have c4b0 : decide (0 < b) = true := dt_ c4
 clear c4
 by_cases c5 : a ≥ 1
 ·
  rw [ip_ c5] at H
  have c5b0 : decide (1 ≤ a) = true := dt_ c5
  clear c5
  obtain rfl := si_ H
  go_enter Tryz.func91, Tryz.ntmps91
  go_wp2
  go_ret
  exact ⟨by first | rfl | (simp; done) | (simp [*]; done), by repeat (first | exact d0_ _ | apply Drawn0.step)⟩
 rw [ig_ c5] at H
 have c5b0 : decide (1 ≤ a) = false := df_ c5
 clear c5
 obtain rfl := si_ H
 go_enter Tryz.func91, Tryz.ntmps91
 go_wp2
 go_ret
 exact ⟨by first | rfl | (simp; done) | (simp [*]; done), by repeat (first | exact d0_ _ | apply Drawn0.step)⟩

/-! ### jigsawref06_Arity: function 69 -/
def jigsawref06_Arity.l0 : Nat → Int → Int → List Int → List Int → List Int → List Int → List Int → Int → List (List Int) → Option (Bool)
 | 0, _, _, _, _, _, _, _, _, _ => none
 | k + 1, m, b, c, d, e, f, g, l, a => if m < (a.length : Int) then (none) else (some true)
def jigsawref06_Arity.f (k : Nat) (a : Int) (g : List Int) (l : List Int) (b : List Int) (d : List Int) (e : List Int) (m : Int) (n : List (List Int)) (c : ByteArray) : Option (Bool) := if m = 0 then (if a = 12 then (none) else ((jigsawref06_has.f k c 118).bind fun o => ((jigsawref06_has.f k c 86).bind fun p => ((jigsawref06_list.f (g.length : Int) o p).bind fun q => ((jigsawref06_has.f k c 119).bind fun r => ((jigsawref06_has.f k c 87).bind fun s => ((jigsawref06_list.f (l.length : Int) r s).bind fun t => ((jigsawref06_has.f k c 99).bind fun u => ((jigsawref06_list.f (b.length : Int) 0 u).bind fun v => ((jigsawref06_has.f k c 100).bind fun x => ((jigsawref06_list.f (d.length : Int) 0 x).bind fun y => ((jigsawref06_has.f k c 101).bind fun z => ((jigsawref06_list.f (e.length : Int) 0 z).bind fun A => (if q = true then (if t = true then (if v = true then (if y = true then (if A = true then ((jigsawref06_has.f k c 114).bind fun B => (if B = 0 then (if (n.length : Int) > 0 then (none) else ((jigsawref06_has.f k c 114).bind fun C => (if C > 0 then (none) else (if a ≤ 4 then (none) else (if a = 19 then (none) else (if a = 21 then (if (d.length : Int) = (b.length : Int) then (if (e.length : Int) = (b.length : Int) then (if a ≥ 22 then (none) else (jigsawref06_Arity.l0 k 0 a g l b d e m n)) else (none)) else (none)) else (none))))))) else (none))) else (none)) else (none)) else (none)) else (none)) else (none))))))))))))))) else (none)
theorem jigsawref06_Arity.mono_l : ∀ k, (∀ a b c d e f g l m, LeO (jigsawref06_Arity.l0 k a b c d e f g l m) (jigsawref06_Arity.l0 (k + 1) a b c d e f g l m))
 | 0 => by intros; exact LeO.none _
 | k + 1 => by
  have ih0 := jigsawref06_Arity.mono_l k
  intro a b c d e f g l m
  unfold jigsawref06_Arity.l0
  have m0 := @jigsawref06_has.mono
  exact leo_
theorem jigsawref06_Arity.mono : ∀ a b c d e g l m n k, LeO (jigsawref06_Arity.f k a b c d e g l m n) (jigsawref06_Arity.f (k + 1) a b c d e g l m n) := by
 intro a b c d e g l m n k
 have ih0 := jigsawref06_Arity.mono_l k
 unfold jigsawref06_Arity.f
 have m0 := @jigsawref06_has.mono
 exact leo_
set_option maxHeartbeats 8000000 in
set_option maxRecDepth 100000 in
theorem jigsawref06_Arity.calls (k : Nat) (b : Int) (x : Option Addr) (c0_1 : Nat) (m : List Int) (y : Option Addr) (c0_2 : Nat) (n : List Int) (z : Option Addr) (c0_3 : Nat) (a : List Int) (A : Option Addr) (c0_4 : Nat) (c : List Int) (B : Option Addr) (c0_5 : Nat) (d : List Int) (p : Int) (E : Option Addr) (c0_7 : Nat) (g : List (List Int)) (l : ByteArray) (r : Bool) (w : World) (aj : Kd.C (Kd.int .i64) w x m.length m) (Q : m.length ≤ c0_1) (ak : Kd.C (Kd.int .i64) w y n.length n) (U : n.length ≤ c0_2) (al : Kd.C (Kd.int .i64) w z a.length a) (V : a.length ≤ c0_3) (am : Kd.C (Kd.int .i64) w A c.length c) (W : c.length ≤ c0_4) (an : Kd.C (Kd.int .i64) w B d.length d) (X : d.length ≤ c0_5) (ao : Kd.C (Kd.slice 3 (Kd.int .i64)) w E g.length g) (Y : g.length ≤ c0_7) (h : jigsawref06_Arity.f k b m n a c d p g l = some r) :
  Calls Tryz.prog 69 #[.agg #[.int .i64 b, .slice x m.length c0_1, .slice y n.length c0_2, .slice z a.length c0_3, .slice A c.length c0_4, .slice B d.length c0_5, .int .i64 p, .slice E g.length c0_7], .string l] w fun e w' => e = .returned (.bool r) ∧ Below w.heap.size w w' := by
 have hu32 := Tryz.underlying32
 have aC := a_ Q
 clear aj Q
 have aD := a_ U
 clear ak U
 have aE := a_ V
 clear al V
 have aF := a_ W
 clear am W
 have aG := a_ X
 clear an X
 have aH := a_ Y
 clear ao Y
 have HB := a_ (Below.refl w.heap.size w)
 unfold jigsawref06_Arity.f at h
 have H := h
 clear h
 by_cases c3 : p = 0
 rotate_left
 ·
  rw [ig_ c3] at H
  exact ab_ H
 rw [ip_ c3] at H
 have c3b0 : (p == 0) = true := beq_iff_eq.mpr c3
 have c3b1 : (p != 0) = false := bn_.mpr c3
 clear c3
 by_cases c4 : b = 12
 ·
  rw [ip_ c4] at H
  exact ab_ H
 rw [ig_ c4] at H
 have c4b0 : (b == 12) = false := be_.mpr c4
 have c4b1 : (b != 12) = true := ni_.mpr c4
 replace H := bo_ H
 obtain ⟨F, A5, H⟩ := H
 try dsimp only at H
 replace H := bo_ H
 obtain ⟨G, A6, H⟩ := H
 try dsimp only at H
 replace H := bo_ H
 obtain ⟨ar, A7, H⟩ := H
 try dsimp only at H
 replace H := bo_ H
 obtain ⟨I, A8, H⟩ := H
 try dsimp only at H
 replace H := bo_ H
 obtain ⟨J, A9, H⟩ := H
 try dsimp only at H
 replace H := bo_ H
 obtain ⟨ax, aa, H⟩ := H
 try dsimp only at H
 replace H := bo_ H
 obtain ⟨K, ab, H⟩ := H
 try dsimp only at H
 replace H := bo_ H
 obtain ⟨ay, ac, H⟩ := H
 try dsimp only at H
 replace H := bo_ H
 obtain ⟨M, ad, H⟩ := H
 try dsimp only at H
 replace H := bo_ H
 obtain ⟨az, ae, H⟩ := H
 try dsimp only at H
 replace H := bo_ H
 obtain ⟨O, af, H⟩ := H
 try dsimp only at H
 replace H := bo_ H
 obtain ⟨aA, ag, H⟩ := H
 try dsimp only at H
 by_cases c17 : ar = true
 rotate_left
 ·
  replace c17 := bf_.mpr c17
  subst c17
  have H1 : (none) = some r := by rw [ig_ (show ¬ (false = true) by decide)] at H; exact H
  clear H
  have H := H1
  clear H1
  exact ab_ H
 subst c17
 rw [ip_ rfl] at H
 by_cases c18 : ax = true
 rotate_left
 ·
  replace c18 := bf_.mpr c18
  subst c18
  have H1 : (none) = some r := by rw [ig_ (show ¬ (false = true) by decide)] at H; exact H
  clear H
  have H := H1
  clear H1
  exact ab_ H
 subst c18
 rw [ip_ rfl] at H
 by_cases c19 : ay = true
 rotate_left
 ·
  replace c19 := bf_.mpr c19
  subst c19
  have H1 : (none) = some r := by rw [ig_ (show ¬ (false = true) by decide)] at H; exact H
  clear H
  have H := H1
  clear H1
  exact ab_ H
 subst c19
 rw [ip_ rfl] at H
 by_cases c20 : az = true
 rotate_left
 ·
  replace c20 := bf_.mpr c20
  subst c20
  have H1 : (none) = some r := by rw [ig_ (show ¬ (false = true) by decide)] at H; exact H
  clear H
  have H := H1
  clear H1
  exact ab_ H
 subst c20
 rw [ip_ rfl] at H
 by_cases c21 : aA = true
 rotate_left
 ·
  replace c21 := bf_.mpr c21
  subst c21
  have H1 : (none) = some r := by rw [ig_ (show ¬ (false = true) by decide)] at H; exact H
  clear H
  have H := H1
  clear H1
  exact ab_ H
 subst c21
 rw [ip_ rfl] at H
 replace H := bo_ H
 obtain ⟨s, ah, H⟩ := H
 try dsimp only at H
 by_cases c23 : s = 0
 rotate_left
 ·
  rw [ig_ c23] at H
  exact ab_ H
 rw [ip_ c23] at H
 have c23b0 : (s == 0) = true := beq_iff_eq.mpr c23
 have c23b1 : (s != 0) = false := bn_.mpr c23
 have c23b9 : decide (0 < s) = false := df_ (by omega)
 clear c23
 by_cases c24 : (g.length : Int) > 0
 ·
  rw [ip_ c24] at H
  exact ab_ H
 rw [ig_ c24] at H
 have c24b0 : decide (0 < (g.length : Int)) = false := df_ c24
 have c24b1 : decide (0 < g.length) = false := df_ (by omega)
 clear c24
 replace H := bo_ H
 obtain ⟨P, ai, H⟩ := H
 try dsimp only at H
 by_cases c26 : P > 0
 ·
  rw [ip_ c26] at H
  exact ab_ H
 rw [ig_ c26] at H
 have c26b0 : decide (0 < P) = false := df_ c26
 clear c26
 by_cases c27 : b ≤ 4
 ·
  rw [ip_ c27] at H
  exact ab_ H
 rw [ig_ c27] at H
 have c27b0 : decide (b ≤ 4) = false := df_ c27
 clear c27
 by_cases c28 : b = 19
 ·
  rw [ip_ c28] at H
  exact ab_ H
 rw [ig_ c28] at H
 have c28b0 : (b == 19) = false := be_.mpr c28
 have c28b1 : (b != 19) = true := ni_.mpr c28
 by_cases c29 : b = 21
 rotate_left
 ·
  rw [ig_ c29] at H
  exact ab_ H
 rw [ip_ c29] at H
 have c29b0 : (b == 21) = true := beq_iff_eq.mpr c29
 have c29b1 : (b != 21) = false := bn_.mpr c29
 clear c29
 by_cases c30 : (c.length : Int) = (a.length : Int)
 rotate_left
 ·
  rw [ig_ c30] at H
  exact ab_ H
 rw [ip_ c30] at H
 have c30b0 : ((c.length : Int) == (a.length : Int)) = true := beq_iff_eq.mpr c30
 have c30b1 : ((c.length : Int) != (a.length : Int)) = false := bn_.mpr c30
 have c30b2 : (c.length == a.length) = true := by first | simpa using c30 | (simp at c30 ⊢; omega)
 clear c30
 by_cases c31 : (d.length : Int) = (a.length : Int)
 rotate_left
 ·
  rw [ig_ c31] at H
  exact ab_ H
 rw [ip_ c31] at H
 have c31b0 : ((d.length : Int) == (a.length : Int)) = true := beq_iff_eq.mpr c31
 have c31b1 : ((d.length : Int) != (a.length : Int)) = false := bn_.mpr c31
 have c31b2 : (d.length == a.length) = true := by first | simpa using c31 | (simp at c31 ⊢; omega)
 clear c31
 by_cases c32 : b ≥ 22
 ·
  rw [ip_ c32] at H
  exact ab_ H
 rw [ig_ c32] at H
 have c32b0 : decide (22 ≤ b) = false := df_ c32
 clear c32
 have H' := a_ H
 clear H
 go_enter Tryz.func69, Tryz.ntmps69
 go_wp2_with (first | ((with_reducible refine gate_dst (N := 2) rfl ?_); (try (refine gate_guard (by rfl) ?_; dsimp only)); refine bxe_ (N := 2) (cs := #[.int .i64 b, .slice x m.length c0_1, .slice y n.length c0_2, .slice z a.length c0_3, .slice A c.length c0_4, .slice B d.length c0_5, .int .i64 p, .slice E g.length c0_7]) (t := 32) ?_; intro q hg w33 hbox hb; have o := a_ (hbox); have u := a_ (by rw [hg]; exact (bz_ bel_) : w.heap.size ≤ q); have Z := u; replace HB := hq_ hb; clear hb hbox hg; obtain ⟨_, _, _, _, _, _, _, _, _, _, _, _, _, _, _, _⟩ := cel8_ o.out) | (go_at_call 37; (with_reducible refine (jigsawref06_has.calls k l 118 F _ A5.out).mono ?_); rintro e w' ⟨rfl, ⟨nd, rfl⟩⟩; (try first | exact ⟨rfl, _, World.drewN_drewN _ _ _⟩ | exact ⟨rfl, _, Eq.trans (World.drewN_drewN _ _ _) (congrArg (World.drewN _) (Nat.add_assoc _ _ _))⟩)) | (go_at_call 37; (with_reducible refine (jigsawref06_has.calls k l 86 G _ A6.out).mono ?_); rintro e w' ⟨rfl, ⟨nd, rfl⟩⟩; (try first | exact ⟨rfl, _, World.drewN_drewN _ _ _⟩ | exact ⟨rfl, _, Eq.trans (World.drewN_drewN _ _ _) (congrArg (World.drewN _) (Nat.add_assoc _ _ _))⟩)) | (go_at_call 91; (with_reducible refine (jigsawref06_list.calls (m.length : Int) F G true _ A7.out).mono ?_); rintro e w' ⟨rfl, ⟨nd, rfl⟩⟩; (try first | exact ⟨rfl, _, World.drewN_drewN _ _ _⟩ | exact ⟨rfl, _, Eq.trans (World.drewN_drewN _ _ _) (congrArg (World.drewN _) (Nat.add_assoc _ _ _))⟩)) | (go_at_call 37; (with_reducible refine (jigsawref06_has.calls k l 119 I _ A8.out).mono ?_); rintro e w' ⟨rfl, ⟨nd, rfl⟩⟩; (try first | exact ⟨rfl, _, World.drewN_drewN _ _ _⟩ | exact ⟨rfl, _, Eq.trans (World.drewN_drewN _ _ _) (congrArg (World.drewN _) (Nat.add_assoc _ _ _))⟩)) | (go_at_call 37; (with_reducible refine (jigsawref06_has.calls k l 87 J _ A9.out).mono ?_); rintro e w' ⟨rfl, ⟨nd, rfl⟩⟩; (try first | exact ⟨rfl, _, World.drewN_drewN _ _ _⟩ | exact ⟨rfl, _, Eq.trans (World.drewN_drewN _ _ _) (congrArg (World.drewN _) (Nat.add_assoc _ _ _))⟩)) | (go_at_call 91; (with_reducible refine (jigsawref06_list.calls (n.length : Int) I J true _ aa.out).mono ?_); rintro e w' ⟨rfl, ⟨nd, rfl⟩⟩; (try first | exact ⟨rfl, _, World.drewN_drewN _ _ _⟩ | exact ⟨rfl, _, Eq.trans (World.drewN_drewN _ _ _) (congrArg (World.drewN _) (Nat.add_assoc _ _ _))⟩)) | (go_at_call 37; (with_reducible refine (jigsawref06_has.calls k l 99 K _ ab.out).mono ?_); rintro e w' ⟨rfl, ⟨nd, rfl⟩⟩; (try first | exact ⟨rfl, _, World.drewN_drewN _ _ _⟩ | exact ⟨rfl, _, Eq.trans (World.drewN_drewN _ _ _) (congrArg (World.drewN _) (Nat.add_assoc _ _ _))⟩)) | (go_at_call 91; (with_reducible refine (jigsawref06_list.calls (a.length : Int) 0 K true _ ac.out).mono ?_); rintro e w' ⟨rfl, ⟨nd, rfl⟩⟩; (try first | exact ⟨rfl, _, World.drewN_drewN _ _ _⟩ | exact ⟨rfl, _, Eq.trans (World.drewN_drewN _ _ _) (congrArg (World.drewN _) (Nat.add_assoc _ _ _))⟩)) | (go_at_call 37; (with_reducible refine (jigsawref06_has.calls k l 100 M _ ad.out).mono ?_); rintro e w' ⟨rfl, ⟨nd, rfl⟩⟩; (try first | exact ⟨rfl, _, World.drewN_drewN _ _ _⟩ | exact ⟨rfl, _, Eq.trans (World.drewN_drewN _ _ _) (congrArg (World.drewN _) (Nat.add_assoc _ _ _))⟩)) | (go_at_call 91; (with_reducible refine (jigsawref06_list.calls (c.length : Int) 0 M true _ ae.out).mono ?_); rintro e w' ⟨rfl, ⟨nd, rfl⟩⟩; (try first | exact ⟨rfl, _, World.drewN_drewN _ _ _⟩ | exact ⟨rfl, _, Eq.trans (World.drewN_drewN _ _ _) (congrArg (World.drewN _) (Nat.add_assoc _ _ _))⟩)) | (go_at_call 37; (with_reducible refine (jigsawref06_has.calls k l 101 O _ af.out).mono ?_); rintro e w' ⟨rfl, ⟨nd, rfl⟩⟩; (try first | exact ⟨rfl, _, World.drewN_drewN _ _ _⟩ | exact ⟨rfl, _, Eq.trans (World.drewN_drewN _ _ _) (congrArg (World.drewN _) (Nat.add_assoc _ _ _))⟩)) | (go_at_call 91; (with_reducible refine (jigsawref06_list.calls (d.length : Int) 0 O true _ ag.out).mono ?_); rintro e w' ⟨rfl, ⟨nd, rfl⟩⟩; (try first | exact ⟨rfl, _, World.drewN_drewN _ _ _⟩ | exact ⟨rfl, _, Eq.trans (World.drewN_drewN _ _ _) (congrArg (World.drewN _) (Nat.add_assoc _ _ _))⟩)) | (go_at_call 37; (with_reducible refine (jigsawref06_has.calls k l 114 s _ ah.out).mono ?_); rintro e w' ⟨rfl, ⟨nd, rfl⟩⟩; (try first | exact ⟨rfl, _, World.drewN_drewN _ _ _⟩ | exact ⟨rfl, _, Eq.trans (World.drewN_drewN _ _ _) (congrArg (World.drewN _) (Nat.add_assoc _ _ _))⟩)) | (go_at_call 37; (with_reducible refine (jigsawref06_has.calls k l 114 P _ ai.out).mono ?_); rintro e w' ⟨rfl, ⟨nd, rfl⟩⟩; (try first | exact ⟨rfl, _, World.drewN_drewN _ _ _⟩ | exact ⟨rfl, _, Eq.trans (World.drewN_drewN _ _ _) (congrArg (World.drewN _) (Nat.add_assoc _ _ _))⟩)))
 repeat (go_quiet (first | ((with_reducible refine gate_dst (N := 2) rfl ?_); (try (refine gate_guard (by rfl) ?_; dsimp only)); refine bxe_ (N := 2) (cs := #[.int .i64 b, .slice x m.length c0_1, .slice y n.length c0_2, .slice z a.length c0_3, .slice A c.length c0_4, .slice B d.length c0_5, .int .i64 p, .slice E g.length c0_7]) (t := 32) ?_; intro q hg w33 hbox hb; have o := a_ (hbox); have u := a_ (by rw [hg]; exact (bz_ bel_) : w.heap.size ≤ q); have Z := u; replace HB := hq_ hb; clear hb hbox hg; obtain ⟨_, _, _, _, _, _, _, _, _, _, _, _, _, _, _, _⟩ := cel8_ o.out) | (go_at_call 37; (with_reducible refine (jigsawref06_has.calls k l 118 F _ A5.out).mono ?_); rintro e w' ⟨rfl, ⟨nd, rfl⟩⟩; (try first | exact ⟨rfl, _, World.drewN_drewN _ _ _⟩ | exact ⟨rfl, _, Eq.trans (World.drewN_drewN _ _ _) (congrArg (World.drewN _) (Nat.add_assoc _ _ _))⟩)) | (go_at_call 37; (with_reducible refine (jigsawref06_has.calls k l 86 G _ A6.out).mono ?_); rintro e w' ⟨rfl, ⟨nd, rfl⟩⟩; (try first | exact ⟨rfl, _, World.drewN_drewN _ _ _⟩ | exact ⟨rfl, _, Eq.trans (World.drewN_drewN _ _ _) (congrArg (World.drewN _) (Nat.add_assoc _ _ _))⟩)) | (go_at_call 91; (with_reducible refine (jigsawref06_list.calls (m.length : Int) F G true _ A7.out).mono ?_); rintro e w' ⟨rfl, ⟨nd, rfl⟩⟩; (try first | exact ⟨rfl, _, World.drewN_drewN _ _ _⟩ | exact ⟨rfl, _, Eq.trans (World.drewN_drewN _ _ _) (congrArg (World.drewN _) (Nat.add_assoc _ _ _))⟩)) | (go_at_call 37; (with_reducible refine (jigsawref06_has.calls k l 119 I _ A8.out).mono ?_); rintro e w' ⟨rfl, ⟨nd, rfl⟩⟩; (try first | exact ⟨rfl, _, World.drewN_drewN _ _ _⟩ | exact ⟨rfl, _, Eq.trans (World.drewN_drewN _ _ _) (congrArg (World.drewN _) (Nat.add_assoc _ _ _))⟩)) | (go_at_call 37; (with_reducible refine (jigsawref06_has.calls k l 87 J _ A9.out).mono ?_); rintro e w' ⟨rfl, ⟨nd, rfl⟩⟩; (try first | exact ⟨rfl, _, World.drewN_drewN _ _ _⟩ | exact ⟨rfl, _, Eq.trans (World.drewN_drewN _ _ _) (congrArg (World.drewN _) (Nat.add_assoc _ _ _))⟩)) | (go_at_call 91; (with_reducible refine (jigsawref06_list.calls (n.length : Int) I J true _ aa.out).mono ?_); rintro e w' ⟨rfl, ⟨nd, rfl⟩⟩; (try first | exact ⟨rfl, _, World.drewN_drewN _ _ _⟩ | exact ⟨rfl, _, Eq.trans (World.drewN_drewN _ _ _) (congrArg (World.drewN _) (Nat.add_assoc _ _ _))⟩)) | (go_at_call 37; (with_reducible refine (jigsawref06_has.calls k l 99 K _ ab.out).mono ?_); rintro e w' ⟨rfl, ⟨nd, rfl⟩⟩; (try first | exact ⟨rfl, _, World.drewN_drewN _ _ _⟩ | exact ⟨rfl, _, Eq.trans (World.drewN_drewN _ _ _) (congrArg (World.drewN _) (Nat.add_assoc _ _ _))⟩)) | (go_at_call 91; (with_reducible refine (jigsawref06_list.calls (a.length : Int) 0 K true _ ac.out).mono ?_); rintro e w' ⟨rfl, ⟨nd, rfl⟩⟩; (try first | exact ⟨rfl, _, World.drewN_drewN _ _ _⟩ | exact ⟨rfl, _, Eq.trans (World.drewN_drewN _ _ _) (congrArg (World.drewN _) (Nat.add_assoc _ _ _))⟩)) | (go_at_call 37; (with_reducible refine (jigsawref06_has.calls k l 100 M _ ad.out).mono ?_); rintro e w' ⟨rfl, ⟨nd, rfl⟩⟩; (try first | exact ⟨rfl, _, World.drewN_drewN _ _ _⟩ | exact ⟨rfl, _, Eq.trans (World.drewN_drewN _ _ _) (congrArg (World.drewN _) (Nat.add_assoc _ _ _))⟩)) | (go_at_call 91; (with_reducible refine (jigsawref06_list.calls (c.length : Int) 0 M true _ ae.out).mono ?_); rintro e w' ⟨rfl, ⟨nd, rfl⟩⟩; (try first | exact ⟨rfl, _, World.drewN_drewN _ _ _⟩ | exact ⟨rfl, _, Eq.trans (World.drewN_drewN _ _ _) (congrArg (World.drewN _) (Nat.add_assoc _ _ _))⟩)) | (go_at_call 37; (with_reducible refine (jigsawref06_has.calls k l 101 O _ af.out).mono ?_); rintro e w' ⟨rfl, ⟨nd, rfl⟩⟩; (try first | exact ⟨rfl, _, World.drewN_drewN _ _ _⟩ | exact ⟨rfl, _, Eq.trans (World.drewN_drewN _ _ _) (congrArg (World.drewN _) (Nat.add_assoc _ _ _))⟩)) | (go_at_call 91; (with_reducible refine (jigsawref06_list.calls (d.length : Int) 0 O true _ ag.out).mono ?_); rintro e w' ⟨rfl, ⟨nd, rfl⟩⟩; (try first | exact ⟨rfl, _, World.drewN_drewN _ _ _⟩ | exact ⟨rfl, _, Eq.trans (World.drewN_drewN _ _ _) (congrArg (World.drewN _) (Nat.add_assoc _ _ _))⟩)) | (go_at_call 37; (with_reducible refine (jigsawref06_has.calls k l 114 s _ ah.out).mono ?_); rintro e w' ⟨rfl, ⟨nd, rfl⟩⟩; (try first | exact ⟨rfl, _, World.drewN_drewN _ _ _⟩ | exact ⟨rfl, _, Eq.trans (World.drewN_drewN _ _ _) (congrArg (World.drewN _) (Nat.add_assoc _ _ _))⟩)) | (go_at_call 37; (with_reducible refine (jigsawref06_has.calls k l 114 P _ ai.out).mono ?_); rintro e w' ⟨rfl, ⟨nd, rfl⟩⟩; (try first | exact ⟨rfl, _, World.drewN_drewN _ _ _⟩ | exact ⟨rfl, _, Eq.trans (World.drewN_drewN _ _ _) (congrArg (World.drewN _) (Nat.add_assoc _ _ _))⟩))); try go_wp2_with (first | ((with_reducible refine gate_dst (N := 2) rfl ?_); (try (refine gate_guard (by rfl) ?_; dsimp only)); refine bxe_ (N := 2) (cs := #[.int .i64 b, .slice x m.length c0_1, .slice y n.length c0_2, .slice z a.length c0_3, .slice A c.length c0_4, .slice B d.length c0_5, .int .i64 p, .slice E g.length c0_7]) (t := 32) ?_; intro q hg w33 hbox hb; have o := a_ (hbox); have u := a_ (by rw [hg]; exact (bz_ bel_) : w.heap.size ≤ q); have Z := u; replace HB := hq_ hb; clear hb hbox hg; obtain ⟨_, _, _, _, _, _, _, _, _, _, _, _, _, _, _, _⟩ := cel8_ o.out) | (go_at_call 37; (with_reducible refine (jigsawref06_has.calls k l 118 F _ A5.out).mono ?_); rintro e w' ⟨rfl, ⟨nd, rfl⟩⟩; (try first | exact ⟨rfl, _, World.drewN_drewN _ _ _⟩ | exact ⟨rfl, _, Eq.trans (World.drewN_drewN _ _ _) (congrArg (World.drewN _) (Nat.add_assoc _ _ _))⟩)) | (go_at_call 37; (with_reducible refine (jigsawref06_has.calls k l 86 G _ A6.out).mono ?_); rintro e w' ⟨rfl, ⟨nd, rfl⟩⟩; (try first | exact ⟨rfl, _, World.drewN_drewN _ _ _⟩ | exact ⟨rfl, _, Eq.trans (World.drewN_drewN _ _ _) (congrArg (World.drewN _) (Nat.add_assoc _ _ _))⟩)) | (go_at_call 91; (with_reducible refine (jigsawref06_list.calls (m.length : Int) F G true _ A7.out).mono ?_); rintro e w' ⟨rfl, ⟨nd, rfl⟩⟩; (try first | exact ⟨rfl, _, World.drewN_drewN _ _ _⟩ | exact ⟨rfl, _, Eq.trans (World.drewN_drewN _ _ _) (congrArg (World.drewN _) (Nat.add_assoc _ _ _))⟩)) | (go_at_call 37; (with_reducible refine (jigsawref06_has.calls k l 119 I _ A8.out).mono ?_); rintro e w' ⟨rfl, ⟨nd, rfl⟩⟩; (try first | exact ⟨rfl, _, World.drewN_drewN _ _ _⟩ | exact ⟨rfl, _, Eq.trans (World.drewN_drewN _ _ _) (congrArg (World.drewN _) (Nat.add_assoc _ _ _))⟩)) | (go_at_call 37; (with_reducible refine (jigsawref06_has.calls k l 87 J _ A9.out).mono ?_); rintro e w' ⟨rfl, ⟨nd, rfl⟩⟩; (try first | exact ⟨rfl, _, World.drewN_drewN _ _ _⟩ | exact ⟨rfl, _, Eq.trans (World.drewN_drewN _ _ _) (congrArg (World.drewN _) (Nat.add_assoc _ _ _))⟩)) | (go_at_call 91; (with_reducible refine (jigsawref06_list.calls (n.length : Int) I J true _ aa.out).mono ?_); rintro e w' ⟨rfl, ⟨nd, rfl⟩⟩; (try first | exact ⟨rfl, _, World.drewN_drewN _ _ _⟩ | exact ⟨rfl, _, Eq.trans (World.drewN_drewN _ _ _) (congrArg (World.drewN _) (Nat.add_assoc _ _ _))⟩)) | (go_at_call 37; (with_reducible refine (jigsawref06_has.calls k l 99 K _ ab.out).mono ?_); rintro e w' ⟨rfl, ⟨nd, rfl⟩⟩; (try first | exact ⟨rfl, _, World.drewN_drewN _ _ _⟩ | exact ⟨rfl, _, Eq.trans (World.drewN_drewN _ _ _) (congrArg (World.drewN _) (Nat.add_assoc _ _ _))⟩)) | (go_at_call 91; (with_reducible refine (jigsawref06_list.calls (a.length : Int) 0 K true _ ac.out).mono ?_); rintro e w' ⟨rfl, ⟨nd, rfl⟩⟩; (try first | exact ⟨rfl, _, World.drewN_drewN _ _ _⟩ | exact ⟨rfl, _, Eq.trans (World.drewN_drewN _ _ _) (congrArg (World.drewN _) (Nat.add_assoc _ _ _))⟩)) | (go_at_call 37; (with_reducible refine (jigsawref06_has.calls k l 100 M _ ad.out).mono ?_); rintro e w' ⟨rfl, ⟨nd, rfl⟩⟩; (try first | exact ⟨rfl, _, World.drewN_drewN _ _ _⟩ | exact ⟨rfl, _, Eq.trans (World.drewN_drewN _ _ _) (congrArg (World.drewN _) (Nat.add_assoc _ _ _))⟩)) | (go_at_call 91; (with_reducible refine (jigsawref06_list.calls (c.length : Int) 0 M true _ ae.out).mono ?_); rintro e w' ⟨rfl, ⟨nd, rfl⟩⟩; (try first | exact ⟨rfl, _, World.drewN_drewN _ _ _⟩ | exact ⟨rfl, _, Eq.trans (World.drewN_drewN _ _ _) (congrArg (World.drewN _) (Nat.add_assoc _ _ _))⟩)) | (go_at_call 37; (with_reducible refine (jigsawref06_has.calls k l 101 O _ af.out).mono ?_); rintro e w' ⟨rfl, ⟨nd, rfl⟩⟩; (try first | exact ⟨rfl, _, World.drewN_drewN _ _ _⟩ | exact ⟨rfl, _, Eq.trans (World.drewN_drewN _ _ _) (congrArg (World.drewN _) (Nat.add_assoc _ _ _))⟩)) | (go_at_call 91; (with_reducible refine (jigsawref06_list.calls (d.length : Int) 0 O true _ ag.out).mono ?_); rintro e w' ⟨rfl, ⟨nd, rfl⟩⟩; (try first | exact ⟨rfl, _, World.drewN_drewN _ _ _⟩ | exact ⟨rfl, _, Eq.trans (World.drewN_drewN _ _ _) (congrArg (World.drewN _) (Nat.add_assoc _ _ _))⟩)) | (go_at_call 37; (with_reducible refine (jigsawref06_has.calls k l 114 s _ ah.out).mono ?_); rintro e w' ⟨rfl, ⟨nd, rfl⟩⟩; (try first | exact ⟨rfl, _, World.drewN_drewN _ _ _⟩ | exact ⟨rfl, _, Eq.trans (World.drewN_drewN _ _ _) (congrArg (World.drewN _) (Nat.add_assoc _ _ _))⟩)) | (go_at_call 37; (with_reducible refine (jigsawref06_has.calls k l 114 P _ ai.out).mono ?_); rintro e w' ⟨rfl, ⟨nd, rfl⟩⟩; (try first | exact ⟨rfl, _, World.drewN_drewN _ _ _⟩ | exact ⟨rfl, _, Eq.trans (World.drewN_drewN _ _ _) (congrArg (World.drewN _) (Nat.add_assoc _ _ _))⟩))))
 go_loopg [12] k (fun kq aB w' => ∃ (v : Int), aB = .int .i64 v ∧ Aside0 (jigsawref06_Arity.l0 kq v b m n a c d p g = some r) ∧ Aside0 (kq ≤ k) ∧ Aside0 (w'.heap[q]? = some (.cells #[.int .i64 b, (.slice x m.length c0_1), (.slice y n.length c0_2), (.slice z a.length c0_3), (.slice A c.length c0_4), (.slice B d.length c0_5), .int .i64 p, (.slice E g.length c0_7)] 32 (0, 0))) ∧ Aside0 (Below w.heap.size w w'))
 case atStart => exact ⟨(0), eq_, H', ⟨lr_ _⟩, ⟨bk_ o.out⟩, ⟨bel_⟩⟩
 clear H'
 try clear c1
 try clear c2
 try clear p2
 try clear c3
 try clear c3b0
 try clear c3b1
 try clear c4
 try clear c4b0
 try clear c4b1
 try clear c6
 try clear c17
 try clear c18
 try clear c19
 try clear c20
 try clear c21
 try clear c23
 try clear c23b0
 try clear c23b1
 try clear c24
 try clear c24b0
 try clear c24b1
 try clear c26
 try clear c26b0
 try clear c27
 try clear c27b0
 try clear c28
 try clear c28b0
 try clear c28b1
 try clear c29
 try clear c29b0
 try clear c29b1
 try clear c30
 try clear c30b0
 try clear c30b1
 try clear c30b2
 try clear c31
 try clear c31b0
 try clear c31b1
 try clear c31b2
 try clear c32
 try clear c32b0
 obtain ⟨v, rfl, HA, aI, o, HB⟩ := hrel
 cases gk with
 | zero => exact absurd HA.out (by simp [jigsawref06_Arity.l0])
 | succ k1 =>
  have H := HA.out
  clear HA
  simp only [jigsawref06_Arity.l0] at H
  by_cases c35 : v < (g.length : Int)
  ·
   rw [ip_ c35] at H
   exact ab_ H
  rw [ig_ c35] at H
  have c35b0 : decide (v < (g.length : Int)) = false := df_ c35
  clear c35
  obtain rfl := si_ H
  obtain ⟨_, _, _, _, _, _, _, _, _, _, _, _, _, _, _, _⟩ := cel8_ o.out
  go_wp2
  repeat (go_quiet (fail); try go_wp2)
  go_ret
  exact ⟨er_, bel_⟩

end Go.Proofs.YtijjhobjmehhoaaGreatDoor.XGccFilters
