-- by xprint.py, a program of this session, over the kit's print
import Derived.Test.YtiofjnhmogeenaaGreatDoorXEKex0
import Derived.Test.YtiofjnhmogeenaaGreatDoorXEKex11
import Derived.Test.YtiofjnhmogeenaaGreatDoorXEKex14
import Derived.Test.YtiofjnhmogeenaaGreatDoorSq
namespace Go.Proofs.YtiofjnhmogeenaaGreatDoor.XExtKeeps
open Go.RowKit Go.Proofs.YtiofjnhmogeenaaGreatDoor.Sq Go.Proofs.YtiofjnhmogeenaaGreatDoorW.PrintWords Go.Proofs.YtiofjnhmogeenaaGreatDoorW.PrintLast Go.Proofs.YtiofjnhmogeenaaGreatDoorW.PrintMore
attribute [local go_sem] max2_int min2_int max_two min_two max_three min_three max_four min_four   -- for this text's walks alone
set_option linter.unusedVariables false
set_option linter.unusedSimpArgs false

/-! ### jigsawlaw12_doms: function 11 -/
def jigsawlaw12_doms.l0 : Nat → List (S61) → List (List Int) → Int → Int → Option ((List (S61)))
 | 0, _, _, _, _ => none
 | k + 1, c, d, e, b => if b < e then (if 0 ≤ b then (if b < (d.length : Int) then ((dom_Of.f k (rd_L5 d b)).bind fun a => (if c.length < 2513169434916 then (jigsawlaw12_doms.l0 k (c ++ [(⟨a.1, a.2.1, a.2.2.1, a.2.2.2.1, a.2.2.2.2.1⟩ : S61)]) d e (wrap64 (b + 1))) else (none))) else (none)) else (none)) else (some c)
def jigsawlaw12_doms.f (k : Nat) (a : List (List Int)) : Option ((List (S61))) := jigsawlaw12_doms.l0 k ([] : List (S61)) a (a.length : Int) 0
theorem jigsawlaw12_doms.mono_l : ∀ k, (∀ a b c d, LeO (jigsawlaw12_doms.l0 k a b c d) (jigsawlaw12_doms.l0 (k + 1) a b c d))
 | 0 => fun _ _ _ _ r h => by simp [jigsawlaw12_doms.l0] at h
 | k + 1 => by
  have ih0 := jigsawlaw12_doms.mono_l k
  ·
   intro a b c d
   unfold jigsawlaw12_doms.l0
   have m0 := @dom_Of.mono
   exact leo_
theorem jigsawlaw12_doms.mono : ∀ a k, LeO (jigsawlaw12_doms.f k a) (jigsawlaw12_doms.f (k + 1) a) := by
 intro a k
 have ih0 := jigsawlaw12_doms.mono_l k
 unfold jigsawlaw12_doms.f
 have m0 := @dom_Of.mono
 exact leo_
set_option maxHeartbeats 8000000 in
set_option maxRecDepth 100000 in
theorem jigsawlaw12_doms.calls (k : Nat) (A0 : Option Addr) (c0 : Nat) (o : List (List Int)) (r : List (S61)) (w : World) (U : Kd.C (Kd.slice 3 (Kd.int .i64)) w A0 o.length o) (W : o.length ≤ c0) (hrtab : Kd.C (Kd.int .u8) w (some ⟨0, 0, none⟩) tabL.length tabL) (h : jigsawlaw12_doms.f k o = some r) :
  Calls Tryz.prog 11 #[.slice A0 o.length c0] w fun e w' => ∃ X : Value, e = .returned (X) ∧ Kd.N k61 61 w' w.heap.size (fun a => (w.heap.size ≤ a)) X r ∧ Below w.heap.size w w' := by
 have hu61 := Tryz.underlying61
 have af := a_ U
 have an := a_ W
 clear U W
 have HRtab := a_ hrtab
 clear hrtab
 have HB := a_ (Below.refl w.heap.size w)
 unfold jigsawlaw12_doms.f at h
 have H := h
 clear h
 have H' := a_ H
 clear H
 go_enter Tryz.func11, Tryz.ntmps11
 go_wp2
 go_loopg [3, 10] k (fun kq v3 ag w' => ∃ (s : List (S61)) (c : Int), ag = .int .i64 c ∧ Aside0 (jigsawlaw12_doms.l0 kq s o (o.length : Int) c = some r) ∧ Aside0 (kq ≤ k) ∧ Aside0 (Kd.N k61 61 w' w.heap.size (fun a => (w.heap.size ≤ a)) v3 s) ∧ Aside0 (Below w.heap.size w w'))
 case atStart => exact ⟨(([] : List (S61))), (0), eq_, H', ⟨lr_ _⟩, ⟨nil_⟩, ⟨bel_⟩⟩
 case round =>
  clear H'
  try clear c1
  obtain ⟨s, c, rfl, HA, Y, HO_3, HB⟩ := hrel
  cases gk with
  | zero => exact absurd HA.out (by simp [jigsawlaw12_doms.l0])
  | succ k1 =>
   have H := HA.out
   clear HA
   simp only [jigsawlaw12_doms.l0] at H
   by_cases c2 : c < (o.length : Int)
   ·
    rw [ip_ c2] at H
    have c2b0 : decide (c < (o.length : Int)) = true := dt_ c2
    clear c2
    by_cases c3 : 0 ≤ c
    ·
     rw [ip_ c3] at H
     have c3b0 : decide (0 ≤ c) = true := dt_ c3
     clear c3
     by_cases c4 : c < (o.length : Int)
     ·
      rw [ip_ c4] at H
      have c4b0 : decide (c < (o.length : Int)) = true := dt_ c4
      clear c4
      replace H := bs_.mp H
      obtain ⟨⟨l, g, m, q, u, ab⟩, Z, H⟩ := H
      try dsimp only at H
      have A5 := a_ Z
      clear Z
      by_cases c6 : s.length < 2513169434916
      ·
       rw [ip_ c6] at H
       have LMc6 := a_ c6
       clear c6
       obtain ⟨K, z⟩ : ∃ y_ : List (S61), y_ = (s ++ [(⟨l, g, m, q, u⟩ : S61)]) := ⟨_, rfl⟩
       replace H : (jigsawlaw12_doms.l0 k1 K o (o.length : Int) (wrap64 (c + 1))) = some r := by first | (rw [z]; with_reducible exact H) | (have H2_ := (ob_ _ _).symm.trans H; rw [z]; with_reducible exact H2_) | (have H2_ := (ob_ _ _).symm.trans H; with_reducible exact H2_) | with_reducible exact H | (rw [z]; exact H) | exact H
       have O := a_ z
       clear z
       have H' := a_ H
       clear H
       have p409 : 0 ≤ (c : Int) := dq_
       have G : c < (o.length : Int) := dq_
       obtain ⟨ah, M, c409_0, ac, B, E, F⟩ := at_L5 af.out c p409 G
       cases ac
       replace B := (HB.out.cell (wl_ w _ B)).trans B
       have I := a_ F
       have J := a_ E
       clear F E
       replace p409 := et_ p409
       replace G := et_ G
       go_wp2_with (first | ((with_reducible refine gate_callee (f := 35) rfl ?_); refine goesL_ (some 16) rfl rfl Tryz.func35 (by kernel_rfl) rfl #[.slice M (rd_L5 o c).length c409_0] rfl ar_ ?_; (with_reducible refine (dom_Of.calls k1 _ _ (rd_L5 o c) l g m q u ab _ ?_ ?_ ?_ A5.out).mono ?_); exact ca_ ((cb_ I.out HB.out)); exact J.out; exact ca_ ((cb_ HRtab.out HB.out)); rintro e w7 ⟨al, rfl, aa, hb⟩; refine ⟨_, rfl, ?_⟩; have n := a_ (Kd.V_lower (vm_ (ok' := fun a => (w.heap.size ≤ a) ∧ some a ≠ (u3 : Value).ownBlock) aa (fun a hk_ => ⟨(Nat.le_trans (bz_ bel_) hk_), (fr_ (Kd.N_lt (vN_ HO_3.out)) a hk_)⟩)) (bz_ bel_)); replace HO_3 := a_ (Kd.N_below (vN_ HO_3.out) hb); replace HB := a_ (bp_ bel_ hb); clear hb aa) | ((with_reducible refine gate_dst (N := 6) rfl ?_); refine bxe_ (N := 6) (cs := #[.int .i64 0, .slice none 0 0, .int .i64 0, .int .i64 0, .int .i64 0]) (t := 61) ?_; intro d hg w8 hbox hb; replace HO_3 := a_ (Kd.N_below (Kd.N_elderB (vN_ HO_3.out) d (Nat.le_of_eq hg.symm)) hb); replace n := a_ (vb_ (Kd.V_elderB (vV_ n.out) d (Nat.le_of_eq hg.symm)) hb); have A := a_ (hbox); have P := a_ (by rw [hg]; exact (bz_ bel_) : w.heap.size ≤ d); have ai := P; replace HB := a_ (bp_ bel_ hb); clear hb hbox hg; obtain ⟨_, _, _, _, _, _, _, _, _, _⟩ := cel5_ A.out; obtain ⟨x, y, ad⟩ := Kd.V_slice n.out; subst ad) | ((with_reducible refine gate_store (t := 61) (p := 6) rfl ?_); refine store_event (t := 61) (p := 6) (v := ?vo_w11) (w1 := (((((w8.setCell ⟨d, 0, none⟩ (.int .i64 l)).setCell ⟨d, 1, none⟩ (.slice x g.length y)).setCell ⟨d, 2, none⟩ (.int .i64 m)).setCell ⟨d, 3, none⟩ (.int .i64 q)).setCell ⟨d, 4, none⟩ (.int .i64 u))) ?hg ?ho ?hn ?hr ?_; (case ho => rfl); (case hg => rfl); (case hn => rfl); (case hr => first | (go_simp; done) | (go_simp; rfl)); intro w11 hw; replace HO_3 : Aside0 (Kd.N k61 61 w11 w.heap.size (fun a => (w.heap.size ≤ a) ∧ a ≠ d) u3 s) := ⟨(by rw [hw]; exact (by refine vN_ ?_; exact nm_ (fN_ (fN_ (fN_ (fN_ (fN_ (nm_ HO_3.out (fun a hk => (⟨hk, hk.2⟩ : _ ∧ a ≠ d)))))))) (fun _ hk => ⟨hk.1.1, hk.1.2⟩)))⟩; replace n : Aside0 (Kd.V (Kd.int .u64) 86 w11 w.heap.size (fun a => (w.heap.size ≤ a) ∧ some a ≠ (u3 : Value).ownBlock ∧ a ≠ d) (.slice x g.length y) g) := ⟨(by rw [hw]; exact (by refine vV_ ?_; exact vm_ (fV_ (fV_ (fV_ (fV_ (fV_ (vm_ n.out (fun a hk => (⟨hk, hk.2⟩ : _ ∧ a ≠ d)))))))) (fun _ hk => ⟨hk.1.1.1, ⟨hk.1.1.2, hk.1.2⟩⟩)))⟩; replace A : Aside0 (w11.heap[d]? = some (.cells #[.int .i64 l, .slice x g.length y, .int .i64 m, .int .i64 q, .int .i64 u] 61 (0, 0))) := ⟨(by rw [hw]; exact (by refine bk_ ?_; refine bu_ (cs := #[.int .i64 l, .slice x g.length y, .int .i64 m, .int .i64 q, .int .i64 0]) ?_ 4 _ rfl; refine bk_ ?_; refine bu_ (cs := #[.int .i64 l, .slice x g.length y, .int .i64 m, .int .i64 0, .int .i64 0]) ?_ 3 _ rfl; refine bk_ ?_; refine bu_ (cs := #[.int .i64 l, .slice x g.length y, .int .i64 0, .int .i64 0, .int .i64 0]) ?_ 2 _ rfl; refine bk_ ?_; refine bu_ (cs := #[.int .i64 l, .slice none 0 0, .int .i64 0, .int .i64 0, .int .i64 0]) ?_ 1 _ rfl; refine bk_ ?_; refine bu_ (cs := #[.int .i64 0, .slice none 0 0, .int .i64 0, .int .i64 0, .int .i64 0]) ?_ 0 _ rfl; refine bk_ ?_; exact A.out))⟩; replace HB : Aside0 (Below w.heap.size w w11) := ⟨(by rw [hw]; exact bel_)⟩; clear hw; obtain ⟨_, _, _, _, _, _, _, _, _, _⟩ := cel5_ A.out) | ((with_reducible refine gate_builtin (b := .append) (xs := #[.tmp 19, .tmp 21]) rfl ?_); at_builtin; refine Kd.N_append k61 (w0 := w) w.heap.size rfl (.tmp 19) (.tmp 21) 36 61 (.agg #[(.int .i64 0), (.slice none 0 0), (.int .i64 0), (.int .i64 0), (.int .i64 0)]) 56 rfl Tryz.underlying36 info61 rfl (by decide) (by omega) u3 s (⟨l, g, m, q, u⟩ : S61) [.int .i64 l, .slice x g.length y, .int .i64 m, .int .i64 q, .int .i64 u] (fun a => (w.heap.size ≤ a) ∧ a ≠ d) (fun a => ((fun a => (w.heap.size ≤ a) ∧ a ≠ d)) a ∧ some a ≠ (u3 : Value).ownBlock) rfl rfl ?aP (fun _ hk => hk) ?aF ?aO ?aB ?aS ?aL ?_; (case aP => exact (k61_mkF _ _ (⟨l, g, m, q, u⟩ : S61) (Kd.V_reads' (vm_ (ok' := (fun a => ((fun a => (w.heap.size ≤ a) ∧ a ≠ d)) a ∧ some a ≠ (u3 : Value).ownBlock)) (n.out) (fun a hk => ⟨⟨hk.1, hk.2.2⟩, hk.2.1⟩))).2.1 (Kd.V_F (vm_ (ok' := (fun a => ((fun a => (w.heap.size ≤ a) ∧ a ≠ d)) a ∧ some a ≠ (u3 : Value).ownBlock)) (n.out) (fun a hk => ⟨⟨hk.1, hk.2.2⟩, hk.2.1⟩))))); (case aB => exact bel_); (case aF => exact (fun a hk => ⟨(Nat.le_trans (bz_ bel_) hk), Kd.freshB (bk_ A.out) a hk⟩)); (case aO => exact (vN_ HO_3.out)); (case aS => exact (bz_ bel_)); (case aL => have := LMc6.out; omega); intro am w13 ho hb hg hat; rw [← O.out] at ho; replace HB := a_ (hb); have Q := a_ (ho); clear HO_3; clear ho hb hg hat))
       go_roundg k1
       case measure => have := Y.out; omega
       case rel => exact ⟨(K), (wrap64 (c + 1)), eq_, H', ⟨by have := Y.out; omega⟩, ⟨by refine vN_ ?_; exact nm_ Q.out (fun _ hk => hk.1)⟩, ⟨bel_⟩⟩
      ·
       rw [ig_ c6] at H
       exact absurd H (by simp)
     ·
      rw [ig_ c4] at H
      exact absurd H (by simp)
    ·
     rw [ig_ c3] at H
     exact absurd H (by simp)
   ·
    rw [ig_ c2] at H
    have c2b0 : decide (c < (o.length : Int)) = false := df_ c2
    clear c2
    obtain rfl := si_ H
    go_wp2
    go_ret
    exact ⟨_, by first | rfl | (simp [errW_none, errW_some] <;> rfl) | (simp [*, errW_none, errW_some] <;> rfl), by refine vN_ ?_; exact HO_3.out, bel_⟩

end Go.Proofs.YtiofjnhmogeenaaGreatDoor.XExtKeeps
