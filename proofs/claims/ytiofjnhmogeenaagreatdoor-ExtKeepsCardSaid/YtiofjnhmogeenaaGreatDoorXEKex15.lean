-- by xprint.py, a program of this session, over the kit's print
import Derived.Test.YtiofjnhmogeenaaGreatDoorXEKex0
import Derived.Test.YtiofjnhmogeenaaGreatDoorXEKex11
import Derived.Test.YtiofjnhmogeenaaGreatDoorXEKex14
import Derived.Test.YtiofjnhmogeenaaGreatDoorSq
namespace Go.Proofs.YtiofjnhmogeenaaGreatDoor.XExtKeeps
open Go.RowKit Go.Proofs.YtiofjnhmogeenaaGreatDoor.Sq Go.Proofs.YtiofjnhmogeenaaGreatDoorW.PrintWords Go.Proofs.YtiofjnhmogeenaaGreatDoorW.PrintLast Go.Proofs.YtiofjnhmogeenaaGreatDoorW.PrintMore
attribute [local go_sem] max2_int min2_int max_two min_two max_three min_three max_four min_four   -- for this text's walks alone
set_option linter.unusedVariables false
set_option linter.unusedSimpArgs false

/-! ### prop_Made: function 65 -/
def prop_Made.l0 : Nat → List (S61) → List (List Int) → Int → Int → Option ((List (S61)) × Bool)
 | 0, _, _, _, _ => none
 | k + 1, d, e, c, b => if b < c then (if 0 ≤ b then (if b < (e.length : Int) then ((dom_Of.f k (rd_L5 e b)).bind fun a => (if a.2.2.2.2.2 = 0 then (if d.length < 2513169434916 then (prop_Made.l0 k (d ++ [(⟨a.1, a.2.1, a.2.2.1, a.2.2.2.1, a.2.2.2.2.1⟩ : S61)]) e c (wrap64 (b + 1))) else (none)) else (some (([] : List (S61)), false)))) else (none)) else (none)) else (some (d, true))
def prop_Made.f (k : Nat) (a : List (List Int)) : Option ((List (S61)) × Bool) := prop_Made.l0 k ([] : List (S61)) a (a.length : Int) 0
theorem prop_Made.mono_l : ∀ k, (∀ a b c d, LeO (prop_Made.l0 k a b c d) (prop_Made.l0 (k + 1) a b c d))
 | 0 => fun _ _ _ _ r h => by simp [prop_Made.l0] at h
 | k + 1 => by
  have ih0 := prop_Made.mono_l k
  ·
   intro a b c d
   unfold prop_Made.l0
   have m0 := @dom_Of.mono
   exact leo_
theorem prop_Made.mono : ∀ a k, LeO (prop_Made.f k a) (prop_Made.f (k + 1) a) := by
 intro a k
 have ih0 := prop_Made.mono_l k
 unfold prop_Made.f
 have m0 := @dom_Of.mono
 exact leo_
set_option maxHeartbeats 8000000 in
set_option maxRecDepth 100000 in
theorem prop_Made.calls (k : Nat) (A0 : Option Addr) (c0 : Nat) (q : List (List Int)) (U : List (S61)) (W : Bool) (w : World) (ab : Kd.C (Kd.slice 3 (Kd.int .i64)) w A0 q.length q) (ac : q.length ≤ c0) (hrtab : Kd.C (Kd.int .u8) w (some ⟨0, 0, none⟩) tabL.length tabL) (h : prop_Made.f k q = some (U, W)) :
  Calls Tryz.prog 65 #[.slice A0 q.length c0] w fun e w' => ∃ ad : Value, e = .returned (.tuple #[ad, .bool W]) ∧ Kd.N k61 61 w' w.heap.size (fun d => (w.heap.size ≤ d)) ad U ∧ Below w.heap.size w w' := by
 have hu61 := Tryz.underlying61
 have ae := a_ ab
 have ar := a_ ac
 clear ab ac
 have HRtab := a_ hrtab
 clear hrtab
 have HB := a_ (Below.refl w.heap.size w)
 unfold prop_Made.f at h
 have H := h
 clear h
 have H' := a_ H
 clear H
 go_enter Tryz.func65, Tryz.ntmps65
 go_wp2
 go_loopg [4, 11] k (fun kq v4 al w' => ∃ (z : List (S61)) (a : Int), al = .int .i64 a ∧ Aside0 (prop_Made.l0 kq z q (q.length : Int) a = some (U, W)) ∧ Aside0 (kq ≤ k) ∧ Aside0 (Kd.N k61 61 w' w.heap.size (fun d => (w.heap.size ≤ d)) v4 z) ∧ Aside0 (Below w.heap.size w w'))
 case atStart => exact ⟨(([] : List (S61))), (0), eq_, H', ⟨lr_ _⟩, ⟨nil_⟩, ⟨bel_⟩⟩
 case round =>
  clear H'
  obtain ⟨z, a, rfl, HA, af, HO_4, HB⟩ := hrel
  cases gk with
  | zero => exact absurd HA.out (by simp [prop_Made.l0])
  | succ k1 =>
   have H := HA.out
   clear HA
   simp only [prop_Made.l0] at H
   by_cases c2 : a < (q.length : Int)
   ·
    rw [ip_ c2] at H
    have c2b0 : decide (a < (q.length : Int)) = true := dt_ c2
    clear c2
    by_cases c3 : 0 ≤ a
    ·
     rw [ip_ c3] at H
     have c3b0 : decide (0 ≤ a) = true := dt_ c3
     clear c3
     by_cases c4 : a < (q.length : Int)
     ·
      rw [ip_ c4] at H
      have c4b0 : decide (a < (q.length : Int)) = true := dt_ c4
      clear c4
      replace H := bs_.mp H
      obtain ⟨⟨n, l, o, u, y, A⟩, ag, H⟩ := H
      try dsimp only at H
      have A5 := a_ ag
      clear ag
      by_cases c6 : A = 0
      ·
       rw [ip_ c6] at H
       have c6b0 : (A == 0) = true := beq_iff_eq.mpr c6
       have c6b1 : (A != 0) = false := bn_.mpr c6
       clear c6
       by_cases c7 : z.length < 2513169434916
       ·
        rw [ip_ c7] at H
        have LMc7 := a_ c7
        clear c7
        obtain ⟨Q, G⟩ : ∃ y_ : List (S61), y_ = (z ++ [(⟨n, l, o, u, y⟩ : S61)]) := ⟨_, rfl⟩
        replace H : (prop_Made.l0 k1 Q q (q.length : Int) (wrap64 (a + 1))) = some (U, W) := by first | (rw [G]; with_reducible exact H) | (have H2_ := (ob_ _ _).symm.trans H; rw [G]; with_reducible exact H2_) | (have H2_ := (ob_ _ _).symm.trans H; with_reducible exact H2_) | with_reducible exact H | (rw [G]; exact H) | exact H
        have X := a_ G
        clear G
        have H' := a_ H
        clear H
        have p350 : 0 ≤ (a : Int) := dq_
        have B : a < (q.length : Int) := dq_
        obtain ⟨Y, K, c350_0, P, m, r, s⟩ := at_L5 ae.out a p350 B
        cases P
        replace m := (HB.out.cell (wl_ w _ m)).trans m
        have I := a_ s
        have J := a_ r
        clear s r
        replace p350 := et_ p350
        replace B := et_ B
        go_wp2_with (first | ((with_reducible refine gate_callee (f := 35) rfl ?_); refine goesL_ (some 17) rfl rfl Tryz.func35 (by kernel_rfl) rfl #[.slice K (rd_L5 q a).length c350_0] rfl ar_ ?_; (with_reducible refine (dom_Of.calls k1 _ _ (rd_L5 q a) n l o u y A _ ?_ ?_ ?_ A5.out).mono ?_); exact ca_ ((cb_ I.out HB.out)); exact J.out; exact ca_ ((cb_ HRtab.out HB.out)); rintro e w8 ⟨ah, rfl, O, hb⟩; refine ⟨_, rfl, ?_⟩; have g := a_ (Kd.V_lower (vm_ (ok' := fun d => (w.heap.size ≤ d) ∧ some d ≠ (u4 : Value).ownBlock) O (fun d hk_ => ⟨(Nat.le_trans (bz_ bel_) hk_), (fr_ (Kd.N_lt (vN_ HO_4.out)) d hk_)⟩)) (bz_ bel_)); replace HO_4 := a_ (Kd.N_below (vN_ HO_4.out) hb); replace HB := a_ (bp_ bel_ hb); clear hb O) | ((with_reducible refine gate_dst (N := 7) rfl ?_); refine bxe_ (N := 7) (cs := #[.int .i64 0, .slice none 0 0, .int .i64 0, .int .i64 0, .int .i64 0]) (t := 61) ?_; intro c hg w9 hbox hb; replace HO_4 := a_ (Kd.N_below (Kd.N_elderB (vN_ HO_4.out) c (Nat.le_of_eq hg.symm)) hb); replace g := a_ (vb_ (Kd.V_elderB (vV_ g.out) c (Nat.le_of_eq hg.symm)) hb); have x := a_ (hbox); have M := a_ (by rw [hg]; exact (bz_ bel_) : w.heap.size ≤ c); have Z := M; replace HB := a_ (bp_ bel_ hb); clear hb hbox hg; obtain ⟨_, _, _, _, _, _, _, _, _, _⟩ := cel5_ x.out; obtain ⟨E, F, ai⟩ := Kd.V_slice g.out; subst ai) | ((with_reducible refine gate_store (t := 61) (p := 7) rfl ?_); refine store_event (t := 61) (p := 7) (v := ?vo_w12) (w1 := (((((w9.setCell ⟨c, 0, none⟩ (.int .i64 n)).setCell ⟨c, 1, none⟩ (.slice E l.length F)).setCell ⟨c, 2, none⟩ (.int .i64 o)).setCell ⟨c, 3, none⟩ (.int .i64 u)).setCell ⟨c, 4, none⟩ (.int .i64 y))) ?hg ?ho ?hn ?hr ?_; (case ho => rfl); (case hg => rfl); (case hn => rfl); (case hr => first | (go_simp; done) | (go_simp; rfl)); intro w12 hw; replace HO_4 : Aside0 (Kd.N k61 61 w12 w.heap.size (fun d => (w.heap.size ≤ d) ∧ d ≠ c) u4 z) := ⟨(by rw [hw]; exact (by refine vN_ ?_; exact nm_ (fN_ (fN_ (fN_ (fN_ (fN_ (nm_ HO_4.out (fun d hk => (⟨hk, hk.2⟩ : _ ∧ d ≠ c)))))))) (fun _ hk => ⟨hk.1.1, hk.1.2⟩)))⟩; replace g : Aside0 (Kd.V (Kd.int .u64) 86 w12 w.heap.size (fun d => (w.heap.size ≤ d) ∧ some d ≠ (u4 : Value).ownBlock ∧ d ≠ c) (.slice E l.length F) l) := ⟨(by rw [hw]; exact (by refine vV_ ?_; exact vm_ (fV_ (fV_ (fV_ (fV_ (fV_ (vm_ g.out (fun d hk => (⟨hk, hk.2⟩ : _ ∧ d ≠ c)))))))) (fun _ hk => ⟨hk.1.1.1, ⟨hk.1.1.2, hk.1.2⟩⟩)))⟩; replace x : Aside0 (w12.heap[c]? = some (.cells #[.int .i64 n, .slice E l.length F, .int .i64 o, .int .i64 u, .int .i64 y] 61 (0, 0))) := ⟨(by rw [hw]; exact (by refine bk_ ?_; refine bu_ (cs := #[.int .i64 n, .slice E l.length F, .int .i64 o, .int .i64 u, .int .i64 0]) ?_ 4 _ rfl; refine bk_ ?_; refine bu_ (cs := #[.int .i64 n, .slice E l.length F, .int .i64 o, .int .i64 0, .int .i64 0]) ?_ 3 _ rfl; refine bk_ ?_; refine bu_ (cs := #[.int .i64 n, .slice E l.length F, .int .i64 0, .int .i64 0, .int .i64 0]) ?_ 2 _ rfl; refine bk_ ?_; refine bu_ (cs := #[.int .i64 n, .slice none 0 0, .int .i64 0, .int .i64 0, .int .i64 0]) ?_ 1 _ rfl; refine bk_ ?_; refine bu_ (cs := #[.int .i64 0, .slice none 0 0, .int .i64 0, .int .i64 0, .int .i64 0]) ?_ 0 _ rfl; refine bk_ ?_; exact x.out))⟩; replace HB : Aside0 (Below w.heap.size w w12) := ⟨(by rw [hw]; exact bel_)⟩; clear hw; obtain ⟨_, _, _, _, _, _, _, _, _, _⟩ := cel5_ x.out) | ((with_reducible refine gate_builtin (b := .append) (xs := #[.tmp 22, .tmp 24]) rfl ?_); at_builtin; refine Kd.N_append k61 (w0 := w) w.heap.size rfl (.tmp 22) (.tmp 24) 36 61 (.agg #[(.int .i64 0), (.slice none 0 0), (.int .i64 0), (.int .i64 0), (.int .i64 0)]) 56 rfl Tryz.underlying36 info61 rfl (by decide) (by omega) u4 z (⟨n, l, o, u, y⟩ : S61) [.int .i64 n, .slice E l.length F, .int .i64 o, .int .i64 u, .int .i64 y] (fun d => (w.heap.size ≤ d) ∧ d ≠ c) (fun d => ((fun d => (w.heap.size ≤ d) ∧ d ≠ c)) d ∧ some d ≠ (u4 : Value).ownBlock) rfl rfl ?aP (fun _ hk => hk) ?aF ?aO ?aB ?aS ?aL ?_; (case aP => exact (k61_mkF _ _ (⟨n, l, o, u, y⟩ : S61) (Kd.V_reads' (vm_ (ok' := (fun d => ((fun d => (w.heap.size ≤ d) ∧ d ≠ c)) d ∧ some d ≠ (u4 : Value).ownBlock)) (g.out) (fun d hk => ⟨⟨hk.1, hk.2.2⟩, hk.2.1⟩))).2.1 (Kd.V_F (vm_ (ok' := (fun d => ((fun d => (w.heap.size ≤ d) ∧ d ≠ c)) d ∧ some d ≠ (u4 : Value).ownBlock)) (g.out) (fun d hk => ⟨⟨hk.1, hk.2.2⟩, hk.2.1⟩))))); (case aB => exact bel_); (case aF => exact (fun d hk => ⟨(Nat.le_trans (bz_ bel_) hk), Kd.freshB (bk_ x.out) d hk⟩)); (case aO => exact (vN_ HO_4.out)); (case aS => exact (bz_ bel_)); (case aL => have := LMc7.out; omega); intro ao w14 ho hb hg hat; rw [← X.out] at ho; replace HB := a_ (hb); have aa := a_ (ho); clear HO_4; clear ho hb hg hat))
        go_roundg k1
        case measure => have := af.out; omega
        case rel => exact ⟨(Q), (wrap64 (a + 1)), eq_, H', ⟨by have := af.out; omega⟩, ⟨by refine vN_ ?_; exact nm_ aa.out (fun _ hk => hk.1)⟩, ⟨bel_⟩⟩
       ·
        rw [ig_ c7] at H
        exact absurd H (by simp)
      ·
       rw [ig_ c6] at H
       have c6b0 : (A == 0) = false := be_.mpr c6
       have c6b1 : (A != 0) = true := ni_.mpr c6
       simp only [Option.some.injEq, Prod.mk.injEq] at H
       obtain ⟨rfl, rfl⟩ := H
       have p350 : 0 ≤ (a : Int) := dq_
       have B : a < (q.length : Int) := dq_
       obtain ⟨Y, K, c350_0, P, m, r, s⟩ := at_L5 ae.out a p350 B
       cases P
       replace m := (HB.out.cell (wl_ w _ m)).trans m
       have I := a_ s
       have J := a_ r
       clear s r
       replace p350 := et_ p350
       replace B := et_ B
       go_wp2_with (first | ((with_reducible refine gate_callee (f := 35) rfl ?_); refine goesL_ (some 17) rfl rfl Tryz.func35 (by kernel_rfl) rfl #[.slice K (rd_L5 q a).length c350_0] rfl ar_ ?_; (with_reducible refine (dom_Of.calls k1 _ _ (rd_L5 q a) n l o u y A _ ?_ ?_ ?_ A5.out).mono ?_); exact ca_ ((cb_ I.out HB.out)); exact J.out; exact ca_ ((cb_ HRtab.out HB.out)); rintro e w15 ⟨ah, rfl, O, hb⟩; refine ⟨_, rfl, ?_⟩; have g := a_ (Kd.V_lower (vm_ (ok' := fun d => (w.heap.size ≤ d) ∧ some d ≠ (u4 : Value).ownBlock) O (fun d hk_ => ⟨(Nat.le_trans (bz_ bel_) hk_), (fr_ (Kd.N_lt (vN_ HO_4.out)) d hk_)⟩)) (bz_ bel_)); replace HB := a_ (bp_ bel_ hb); clear hb O) | ((with_reducible refine gate_dst (N := 7) rfl ?_); refine bxe_ (N := 7) (cs := #[.int .i64 0, .slice none 0 0, .int .i64 0, .int .i64 0, .int .i64 0]) (t := 61) ?_; intro c hg w16 hbox hb; replace g := a_ (vb_ (Kd.V_elderB (vV_ g.out) c (Nat.le_of_eq hg.symm)) hb); have x := a_ (hbox); have M := a_ (by rw [hg]; exact (bz_ bel_) : w.heap.size ≤ c); have Z := M; replace HB := a_ (bp_ bel_ hb); clear hb hbox hg; obtain ⟨_, _, _, _, _, _, _, _, _, _⟩ := cel5_ x.out; obtain ⟨ap, aq, aj⟩ := Kd.V_slice g.out; subst aj))
       go_ret2
       exact ⟨_, by first | rfl | (simp [errW_none, errW_some] <;> rfl) | (simp [*, errW_none, errW_some] <;> rfl), by first | exact Kd.S_nil _ _ _ _ _ | exact Kd.N_nil _ _ _ _ _ | exact Kd.V_nil _ _ _ _ _ | exact Kd.Q_nil _ _ _ _ _ | exact Kd.R_nil _ _ _ _ _, bel_⟩
     ·
      rw [ig_ c4] at H
      exact absurd H (by simp)
    ·
     rw [ig_ c3] at H
     exact absurd H (by simp)
   ·
    rw [ig_ c2] at H
    have c2b0 : decide (a < (q.length : Int)) = false := df_ c2
    clear c2
    simp only [Option.some.injEq, Prod.mk.injEq] at H
    obtain ⟨rfl, rfl⟩ := H
    go_wp2
    go_ret2
    exact ⟨_, by first | rfl | (simp [errW_none, errW_some] <;> rfl) | (simp [*, errW_none, errW_some] <;> rfl), by refine vN_ ?_; exact HO_4.out, bel_⟩

end Go.Proofs.YtiofjnhmogeenaaGreatDoor.XExtKeeps
