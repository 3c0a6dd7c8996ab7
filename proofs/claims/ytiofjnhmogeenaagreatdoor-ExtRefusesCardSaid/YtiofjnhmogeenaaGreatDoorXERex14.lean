-- by xprint.py, a program of this session, over the kit's print
import Derived.Test.YtiofjnhmogeenaaGreatDoorXERex0
import Derived.Test.YtiofjnhmogeenaaGreatDoorXERex10
import Derived.Test.YtiofjnhmogeenaaGreatDoorXERex11
import Derived.Test.YtiofjnhmogeenaaGreatDoorXERex13
import Derived.Test.YtiofjnhmogeenaaGreatDoorSq
namespace Go.Proofs.YtiofjnhmogeenaaGreatDoor.XExtRefuses
open Go.RowKit Go.Proofs.YtiofjnhmogeenaaGreatDoor.Sq Go.Proofs.YtiofjnhmogeenaaGreatDoorW.PrintWords Go.Proofs.YtiofjnhmogeenaaGreatDoorW.PrintLast Go.Proofs.YtiofjnhmogeenaaGreatDoorW.PrintMore
attribute [local go_sem] max2_int min2_int max_two min_two max_three min_three max_four min_four   -- for this text's walks alone
set_option linter.unusedVariables false
set_option linter.unusedSimpArgs false

/-! ### ext_absolute: function 28 -/
def ext_absolute.l0 : Nat → List Int → List Int → List Int → Int → Int → Int → List Int → Int → Int → Int → Option ((List (S61)) × Bool)
 | 0, _, _, _, _, _, _, _, _, _, _ => none
 | k + 1, o, p, l, n, a, b, c, d, e, g => if a < n then (if 0 ≤ a then (if a < (l.length : Int) then ((dom_Dom_Has.f b c d e g (mx (rd l a) (wrap64 (-(rd l a))))).bind fun q => (if q = true then (if o.length < 17592186044416 then (if p.length < 17592186044416 then (ext_absolute.l0 k (o ++ [rd l a]) (p ++ [mx (rd l a) (wrap64 (-(rd l a)))]) l n (wrap64 (a + 1)) b c d e g) else (none)) else (none)) else (ext_absolute.l0 k o p l n (wrap64 (a + 1)) b c d e g))) else (none)) else (none)) else ((prop_Made.f k (([o, p] : List (List Int)))).bind fun m => (some (m.1, m.2)))
def ext_absolute.f (k : Nat) (b : Int) (c : List Int) (d : Int) (e : Int) (g : Int) (l : Int) (m : List Int) (n : Int) (o : Int) (p : Int) : Option ((List (S61)) × Bool) := (dom_Dom_List.f k b c d e g).bind fun a => (ext_absolute.l0 k ([] : List Int) ([] : List Int) a (a.length : Int) 0 l m n o p)
theorem ext_absolute.mono_l : ∀ k, (∀ a b c d e f g l m n, LeO (ext_absolute.l0 k a b c d e f g l m n) (ext_absolute.l0 (k + 1) a b c d e f g l m n))
 | 0 => by intros; exact LeO.none _
 | k + 1 => by
  have ih0 := ext_absolute.mono_l k
  intro a b c d e f g l m n
  unfold ext_absolute.l0
  have m0 := @dom_Dom_List.mono
  have m1 := @prop_Made.mono
  exact leo_
theorem ext_absolute.mono : ∀ a b c d e g l m n o k, LeO (ext_absolute.f k a b c d e g l m n o) (ext_absolute.f (k + 1) a b c d e g l m n o) := by
 intro a b c d e g l m n o k
 have ih0 := ext_absolute.mono_l k
 unfold ext_absolute.f
 have m0 := @dom_Dom_List.mono
 have m1 := @prop_Made.mono
 exact leo_
set_option maxHeartbeats 8000000 in
set_option maxRecDepth 100000 in
theorem ext_absolute.calls (k : Nat) (P : Int) (Z : Option Addr) (c0_1 : Nat) (z : List Int) (Q : Int) (U : Int) (V : Int) (r : Int) (W : Option Addr) (c1_1 : Nat) (m : List Int) (s : Int) (u : Int) (v : Int) (r1 : List (S61)) (r2 : Bool) (w : World) (ai : Kd.C (Kd.int .u64) w Z z.length z) (aj : z.length ≤ c0_1) (ak : Kd.C (Kd.int .u64) w W m.length m) (al : m.length ≤ c1_1) (hrtab : Kd.C (Kd.int .u8) w (some ⟨0, 0, none⟩) tabL.length tabL) (h : ext_absolute.f k P z Q U V r m s u v = some (r1, r2)) :
  Calls Tryz.prog 28 #[.agg #[.int .i64 P, .slice Z z.length c0_1, .int .i64 Q, .int .i64 U, .int .i64 V], .agg #[.int .i64 r, .slice W m.length c1_1, .int .i64 s, .int .i64 u, .int .i64 v]] w fun e w' => ∃ aR : Value, e = .returned (.tuple #[aR, .bool r2]) ∧ Kd.N k61 61 w' w.heap.size (fun a => (w.heap.size ≤ a)) aR r1 ∧ Below w.heap.size w w' := by
 have hu61 := Tryz.underlying61
 have aG := a_ ai
 have aH := a_ aj
 clear ai aj
 have am := a_ ak
 have an := a_ al
 clear ak al
 have HRtab := a_ hrtab
 clear hrtab
 have HB := a_ (Below.refl w.heap.size w)
 unfold ext_absolute.f at h
 have H := h
 clear h
 replace H := bo_ H
 obtain ⟨c, A3, H⟩ := H
 try dsimp only at H
 have H' := a_ H
 clear H
 go_enter Tryz.func28, Tryz.ntmps28
 go_wp2_with (first | ((with_reducible refine gate_dst (N := 2) rfl ?_); refine bxe_ (N := 2) (cs := #[.int .i64 P, .slice Z z.length c0_1, .int .i64 Q, .int .i64 U, .int .i64 V]) (t := 61) ?_; intro p hg w4 hbox hb; have g := a_ (hbox); have aI := a_ (by rw [hg]; exact (bz_ bel_) : w.heap.size ≤ p); have a5 := aI; replace HB := hq_ hb; clear hb hbox hg) | ((with_reducible refine gate_dst (N := 3) rfl ?_); refine bxe_ (N := 3) (cs := #[.int .i64 r, .slice W m.length c1_1, .int .i64 s, .int .i64 u, .int .i64 v]) (t := 61) ?_; intro q hg w5 hbox hb; have l := a_ (hbox); have aJ := a_ (by rw [hg]; exact (bz_ bel_) : w.heap.size ≤ q); have a6 := aJ; replace HB := hq_ hb; have A := a_ ((by rw [hg]; exact Nat.ne_of_lt (blk_lt (bk_ g.out)) : p ≠ q)); have B := a_ ((by rw [hg]; exact Nat.ne_of_gt (blk_lt (bk_ g.out)) : q ≠ p)); replace g := a_ (bq_ g.out hb); clear hb hbox hg; have bc := A.out; have bd := B.out; obtain ⟨_, _, _, _, _, _, _, _, _, _⟩ := cel5_ g.out) | ((with_reducible refine gate_callee (f := 23) rfl ?_); refine goesL_ (some 12) rfl rfl Tryz.func23 kr_ rfl #[.agg #[.int .i64 P, .slice Z z.length c0_1, .int .i64 Q, .int .i64 U, .int .i64 V]] rfl ar_ ?_; (with_reducible refine (dom_Dom_List.calls k P _ _ z Q U V c _ ?_ ?_ ?_ A3.out).mono ?_); exact ca_ ((cb_ aG.out HB.out)); exact aH.out; exact ca_ ((cb_ HRtab.out HB.out)); rintro e w8 ⟨be, rfl, ae, hb⟩; refine ⟨_, rfl, ?_⟩; have ao := a_ (Kd.R_lower (Kd.R_newM (M := fun a => (w.heap.size ≤ a)) ae (bz_ bel_) (fun a h_ => h_)) (bz_ bel_)); replace g := a_ (bq_ g.out hb); replace l := a_ (bq_ l.out hb); replace HB := hq_ hb; clear hb ae; obtain ⟨E, x, a1⟩ := Kd.R_slice ao.out; subst a1))
 go_loopg [6, 7, 14] k (fun kq v6 v7 a2 w' => ∃ (o : List Int) (n : List Int) (d : Int), a2 = .int .i64 d ∧ Aside0 (ext_absolute.l0 kq o n c (c.length : Int) d r m s u v = some (r1, r2)) ∧ Aside0 (kq ≤ k) ∧ Aside0 (Kd.R (Kd.int .i64) 3 w' w.heap.size (fun a => (w.heap.size ≤ a) ∧ some a ≠ v7.ownBlock ∧ some a ≠ ((.slice E c.length x) : Value).ownBlock) v6 o) ∧ Aside0 (Kd.R (Kd.int .i64) 3 w' w.heap.size (fun a => (w.heap.size ≤ a) ∧ some a ≠ v6.ownBlock ∧ some a ≠ ((.slice E c.length x) : Value).ownBlock) v7 n) ∧ Aside0 (Kd.R (Kd.int .i64) 3 w' w.heap.size (fun a => (w.heap.size ≤ a) ∧ some a ≠ v6.ownBlock ∧ some a ≠ v7.ownBlock) (.slice E c.length x) c) ∧ Aside0 (w'.heap[p]? = some (.cells #[.int .i64 P, (.slice Z z.length c0_1), .int .i64 Q, .int .i64 U, .int .i64 V] 61 (0, 0))) ∧ Aside0 (w'.heap[q]? = some (.cells #[.int .i64 r, (.slice W m.length c1_1), .int .i64 s, .int .i64 u, .int .i64 v] 61 (0, 0))) ∧ Aside0 (Below w.heap.size w w'))
 case atStart => exact ⟨(([] : List Int)), (([] : List Int)), (0), eq_, H', ⟨lr_ _⟩, ⟨nil_⟩, ⟨nil_⟩, ⟨by refine vR_ ?_; exact rm_ ao.out (fun _ hk => ⟨hk.1, ⟨(by simp [Value.ownBlock]), (by simp [Value.ownBlock])⟩⟩)⟩, ⟨bk_ g.out⟩, ⟨bk_ l.out⟩, ⟨bel_⟩⟩
 clear H'
 try clear c1
 try clear c2
 try clear p2
 try clear c6
 obtain ⟨o, n, d, rfl, HA, ap, HO_6, HO_7, HO_12, g, l, HB⟩ := hrel
 cases gk with
 | zero => exact absurd HA.out (by simp [ext_absolute.l0])
 | succ k1 =>
  have H := HA.out
  clear HA
  simp only [ext_absolute.l0] at H
  by_cases c10 : d < (c.length : Int)
  rotate_left
  ·
   rw [ig_ c10] at H
   have c10b0 : decide (d < (c.length : Int)) = false := df_ c10
   clear c10
   obtain ⟨ab, O⟩ : ∃ y_ : List (List Int), y_ = (([o, n] : List (List Int))) := ⟨_, rfl⟩
   replace H : ((prop_Made.f k1 ab).bind fun aq => (some (aq.1, aq.2))) = some (r1, r2) := h2_ H O
   have ar := a_ O
   clear O
   replace H := bs_.mp H
   obtain ⟨⟨aW, aX⟩, ax, H⟩ := H
   try dsimp only at H
   have a4 := a_ ax
   clear ax
   simp only [Option.some.injEq, Prod.mk.injEq] at H
   obtain ⟨rfl, rfl⟩ := H
   obtain ⟨ay, az, aY⟩ := Kd.R_slice HO_6.out
   subst aY
   obtain ⟨aA, aC, aZ⟩ := Kd.R_slice HO_7.out
   subst aZ
   go_wp2_with (first | ((with_reducible refine gate_dst (N := 36) rfl ?_); refine Kd.N_lit (Kd.slice 3 (Kd.int .i64)) _ 30 ?hg (N' := 36) ?hd (xs := ([o, n] : List (List Int))) (inner := [.slice ay o.length az, .slice aA n.length aC]) (ok := (fun a => (w.heap.size ≤ a) ∧ some a ≠ (.slice E c.length x : Value).ownBlock ∧ a ≠ p ∧ a ≠ q)) (okp := (fun a => (w.heap.size ≤ a) ∧ some a ≠ (.slice E c.length x : Value).ownBlock ∧ a ≠ p ∧ a ≠ q)) ?hr ?hp (fun _ hk => hk) ((show ∀ a, wr.heap.size ≤ a → (fun a => (w.heap.size ≤ a) ∧ some a ≠ (.slice E c.length x : Value).ownBlock ∧ a ≠ p ∧ a ≠ q) a from fun a hk => ⟨(Nat.le_trans (bz_ bel_) hk), fr_ (rl_ (vR_ HO_12.out)) a hk, Kd.freshB (bk_ g.out) a hk, Kd.freshB (bk_ l.out) a hk⟩) _ (lr_ _)) (Below.refl _ _) (lr_ _) (by simp) ?_; (case hd => rfl); (case hg => rfl); (case hr => first | (go_simp; done) | (go_simp; rfl)); (case hp => exact (Reps.one (show Kd.FK (Kd.slice 3 (Kd.int .i64)) _ _ o [.slice ay o.length az] from (Kd.FK_slice_mk (rr_ (rm_ (ok' := (fun a => (w.heap.size ≤ a) ∧ some a ≠ (.slice E c.length x : Value).ownBlock ∧ a ≠ p ∧ a ≠ q)) (rt_ (rt_ (HO_6.out) g.out (by decide)) l.out (by decide)) (fun a hk => ⟨hk.1.1.1, ⟨hk.1.1.2.2, ⟨hk.1.2, hk.2⟩⟩⟩))).2.1 (Kd.R_F (rm_ (ok' := (fun a => (w.heap.size ≤ a) ∧ some a ≠ (.slice E c.length x : Value).ownBlock ∧ a ≠ p ∧ a ≠ q)) (rt_ (rt_ (HO_6.out) g.out (by decide)) l.out (by decide)) (fun a hk => ⟨hk.1.1.1, ⟨hk.1.1.2.2, ⟨hk.1.2, hk.2⟩⟩⟩))))) (Reps.one (show Kd.FK (Kd.slice 3 (Kd.int .i64)) _ _ n [.slice aA n.length aC] from (Kd.FK_slice_mk (rr_ (rm_ (ok' := (fun a => (w.heap.size ≤ a) ∧ some a ≠ (.slice E c.length x : Value).ownBlock ∧ a ≠ p ∧ a ≠ q)) (rt_ (rt_ (HO_7.out) g.out (by decide)) l.out (by decide)) (fun a hk => ⟨hk.1.1.1, ⟨hk.1.1.2.2, ⟨hk.1.2, hk.2⟩⟩⟩))).2.1 (Kd.R_F (rm_ (ok' := (fun a => (w.heap.size ≤ a) ∧ some a ≠ (.slice E c.length x : Value).ownBlock ∧ a ≠ p ∧ a ≠ q)) (rt_ (rt_ (HO_7.out) g.out (by decide)) l.out (by decide)) (fun a hk => ⟨hk.1.1.1, ⟨hk.1.1.2.2, ⟨hk.1.2, hk.2⟩⟩⟩))))) (Reps.none _ _)))); intro bg w29 aa hb hg_ hnew_; clear hg_ hnew_; (first | rw [← ar.out] at aa | (simp only [Int.reduceToNat] at aa; rw [← ar.out] at aa)); replace HO_12 := a_ (rb_ (vR_ HO_12.out) hb); have Y := a_ (Kd.N_lower aa (bz_ bel_)); replace g := a_ (bq_ g.out hb); replace l := a_ (bq_ l.out hb); replace HB := hq_ hb; clear HO_6 HO_7; clear hb aa; obtain ⟨aD, aE, a0⟩ := Kd.N_slice Y.out; subst a0) | ((with_reducible refine gate_callee (f := 65) rfl ?_); refine goesL_ (some 37) rfl rfl Tryz.func65 kr_ rfl #[.slice aD ab.length aE] rfl ar_ ?_; (with_reducible refine (prop_Made.calls k1 _ _ ab aW aX _ ?_ ?_ ?_ a4.out).mono ?_); exact ca_ ((Kd.N_reads' Y.out).2.2); exact (Kd.N_reads' Y.out).2.1; exact ca_ ((cb_ HRtab.out HB.out)); rintro e w32 ⟨bh, rfl, ae, hb⟩; refine ⟨_, rfl, ?_⟩; have aQ := a_ (Kd.N_lower (nm_ (ok' := fun a => (w.heap.size ≤ a) ∧ some a ≠ (.slice E c.length x : Value).ownBlock ∧ some a ≠ (.slice aD ab.length aE : Value).ownBlock ∧ a ≠ p ∧ a ≠ q) ae (fun a hk_ => ⟨(Nat.le_trans (bz_ bel_) hk_), (fr_ (rl_ (vR_ HO_12.out)) a hk_), (fr_ (Kd.N_lt (vN_ Y.out)) a hk_), (Kd.freshB (bk_ g.out) a hk_), (Kd.freshB (bk_ l.out) a hk_)⟩)) (bz_ bel_)); replace HB := hq_ hb; clear hb ae))
   go_ret2
   exact ⟨_, er_, by refine vN_ ?_; exact nm_ aQ.out (fun _ hk => hk.1), bel_⟩
  rw [ip_ c10] at H
  have c10b0 : decide (d < (c.length : Int)) = true := dt_ c10
  clear c10
  by_cases c11 : 0 ≤ d
  rotate_left
  ·
   rw [ig_ c11] at H
   exact ab_ H
  rw [ip_ c11] at H
  have c11b0 : decide (0 ≤ d) = true := dt_ c11
  clear c11
  by_cases c12 : d < (c.length : Int)
  rotate_left
  ·
   rw [ig_ c12] at H
   exact ab_ H
  rw [ip_ c12] at H
  have c12b0 : decide (d < (c.length : Int)) = true := dt_ c12
  clear c12
  obtain ⟨y, G⟩ : ∃ j_ : Int, (mx (rd c d) (wrap64 (-(rd c d)))) = j_ := ⟨_, rfl⟩
  replace H : ((dom_Dom_Has.f r m s u v (y)).bind fun af => (if af = true then (if o.length < 17592186044416 then (if n.length < 17592186044416 then (ext_absolute.l0 k1 (o ++ [rd c d]) (n ++ [y]) c (c.length : Int) (wrap64 (d + 1)) r m s u v) else (none)) else (none)) else (ext_absolute.l0 k1 o n c (c.length : Int) (wrap64 (d + 1)) r m s u v))) = some (r1, r2) := by first | (rw [G] at H; exact H) | (simp only [G] at H ⊢; exact H)
  have a3 : (if (rd c d) < (wrap64 (-(rd c d))) then (wrap64 (-(rd c d))) else (rd c d)) = y := G
  replace H := bo_ H
  obtain ⟨af, aT, H⟩ := H
  try dsimp only at H
  by_cases c15 : af = true
  rotate_left
  ·
   replace c15 := bf_.mpr c15
   subst c15
   have H1 : (ext_absolute.l0 k1 o n c (c.length : Int) (wrap64 (d + 1)) r m s u v) = some (r1, r2) := by rw [ig_ (show ¬ (false = true) by decide)] at H; exact H
   clear H
   have H := H1
   clear H1
   have H' := a_ H
   clear H
   have p422 : 0 ≤ (d : Int) := dq_
   have F : d < (c.length : Int) := dq_
   obtain ⟨K, ah, au⟩ := ai_ (rr_ HO_12.out).2.2 d p422 F
   cases ah
   replace p422 := et_ p422
   replace F := et_ F
   have a9 := B.out
   have ba := A.out
   obtain ⟨_, _, _, _, _, _, _, _, _, _⟩ := cel5_ l.out
   go_wp2_with (first | ((with_reducible refine gate_callee (f := 25) rfl ?_); refine goesL_ (some 24) rfl rfl Tryz.func25 kr_ rfl #[.agg #[.int .i64 r, .slice W m.length c1_1, .int .i64 s, .int .i64 u, .int .i64 v], .int .i64 y] rfl (by (try simp only [List.map_toArray, List.map_cons, List.map_nil]); first | done | (simp only [G]; rfl) | rfl | (simp only [List.length_drop, List.length_take]; rfl)) ?_; (with_reducible refine (dom_Dom_Has.calls r _ _ m s u v y false _ ?_ ?_ aT.out).mono ?_); exact ca_ ((cb_ am.out HB.out)); exact an.out; rintro e w25 ⟨rfl, hb⟩; refine ⟨_, rfl, ?_⟩; replace HO_6 := a_ (rb_ (vR_ HO_6.out) hb); replace HO_7 := a_ (rb_ (vR_ HO_7.out) hb); replace HO_12 := a_ (rb_ (vR_ HO_12.out) hb); replace g := a_ (bq_ g.out hb); replace l := a_ (bq_ l.out hb); replace HB := hq_ hb; clear hb))
   go_roundg k1
   case measure => have := ap.out; omega
   exact ⟨(o), (n), (wrap64 (d + 1)), eq_, H', ⟨by have := ap.out; omega⟩, ⟨vR_ HO_6.out⟩, ⟨vR_ HO_7.out⟩, ⟨vR_ HO_12.out⟩, ⟨bk_ g.out⟩, ⟨bk_ l.out⟩, ⟨bel_⟩⟩
  subst c15
  rw [ip_ rfl] at H
  by_cases c16 : o.length < 17592186044416
  rotate_left
  ·
   rw [ig_ c16] at H
   exact ab_ H
  rw [ip_ c16] at H
  have LMc16 := a_ c16
  clear c16
  obtain ⟨ag, I⟩ : ∃ y_ : List Int, y_ = (o ++ [rd c d]) := ⟨_, rfl⟩
  replace H : (if n.length < 17592186044416 then (ext_absolute.l0 k1 ag (n ++ [y]) c (c.length : Int) (wrap64 (d + 1)) r m s u v) else (none)) = some (r1, r2) := h2_ H I
  have aK := a_ I
  clear I
  by_cases c17 : n.length < 17592186044416
  rotate_left
  ·
   rw [ig_ c17] at H
   exact ab_ H
  rw [ip_ c17] at H
  have LMc17 := a_ c17
  clear c17
  obtain ⟨av, J⟩ : ∃ y_ : List Int, y_ = (n ++ [y]) := ⟨_, rfl⟩
  replace H : (ext_absolute.l0 k1 ag av c (c.length : Int) (wrap64 (d + 1)) r m s u v) = some (r1, r2) := h2_ H J
  have aM := a_ J
  clear J
  have H' := a_ H
  clear H
  have p422 : 0 ≤ (d : Int) := dq_
  have F : d < (c.length : Int) := dq_
  obtain ⟨K, ah, au⟩ := ai_ (rr_ HO_12.out).2.2 d p422 F
  cases ah
  replace p422 := et_ p422
  replace F := et_ F
  have a7 := B.out
  have a8 := A.out
  obtain ⟨_, _, _, _, _, _, _, _, _, _⟩ := cel5_ l.out
  go_wp2_with (first | ((with_reducible refine gate_callee (f := 25) rfl ?_); refine goesL_ (some 24) rfl rfl Tryz.func25 kr_ rfl #[.agg #[.int .i64 r, .slice W m.length c1_1, .int .i64 s, .int .i64 u, .int .i64 v], .int .i64 y] rfl (by (try simp only [List.map_toArray, List.map_cons, List.map_nil]); first | done | (simp only [G]; rfl) | rfl | (simp only [List.length_drop, List.length_take]; rfl)) ?_; (with_reducible refine (dom_Dom_Has.calls r _ _ m s u v y true _ ?_ ?_ aT.out).mono ?_); exact ca_ ((cb_ am.out HB.out)); exact an.out; rintro e w20 ⟨rfl, hb⟩; refine ⟨_, rfl, ?_⟩; replace HO_6 := a_ (rb_ (vR_ HO_6.out) hb); replace HO_7 := a_ (rb_ (vR_ HO_7.out) hb); replace HO_12 := a_ (rb_ (vR_ HO_12.out) hb); replace g := a_ (bq_ g.out hb); replace l := a_ (bq_ l.out hb); replace HB := hq_ hb; clear hb) | ((with_reducible refine gate_builtin (b := .append) (xs := #[.tmp 25, .tmp 27]) rfl ?_); at_builtin; refine Kd.R_append (Kd.int .i64) (w0 := w) w.heap.size rfl (.tmp 25) (.tmp 27) 30 3 (.int .i64 0) 8 rfl Tryz.underlying30 info3 rfl (by decide) (by omega) u6 o (rd c d) [.int .i64 (rd c d)] (fun a => (w.heap.size ≤ a) ∧ some a ≠ u7.ownBlock ∧ some a ≠ (.slice (some K) c.length x : Value).ownBlock) (fun _ => False) rfl rfl ?aP (fun _ hk => hk.elim) ?aF ?aO ?aB ?aS ?aL ?_; (case aP => exact rfl); (case aB => exact bel_); (case aF => exact (fun a hk => ⟨(Nat.le_trans (bz_ bel_) hk), fr_ (rl_ (vR_ HO_7.out)) a hk, fr_ (rl_ (vR_ HO_12.out)) a hk⟩)); (case aO => exact (vR_ HO_6.out)); (case aS => exact (bz_ bel_)); (case aL => have := LMc16.out; omega); intro aw w21 ho hb hg hat; rw [← aK.out] at ho; replace HO_7 := a_ (Kd.R_after (ok := (fun a => (w.heap.size ≤ a) ∧ some a ≠ (.slice (some K) c.length x : Value).ownBlock)) (by refine vR_ ?_; exact rm_ HO_7.out (fun _ hk => ⟨⟨hk.1, hk.2.2⟩, hk.2.1⟩)) hg hat); replace HO_12 := a_ (Kd.R_after (ok := (fun a => (w.heap.size ≤ a) ∧ some a ≠ u7.ownBlock)) (by refine vR_ ?_; exact rm_ HO_12.out (fun _ hk => ⟨⟨hk.1, hk.2.2⟩, hk.2.1⟩)) hg hat); replace g := a_ (blk_grown (bk_ g.out) hg (Kd.R_ne HO_6.out g.out (by decide))); replace l := a_ (blk_grown (bk_ l.out) hg (Kd.R_ne HO_6.out l.out (by decide))); replace HB := a_ (hb); have X := a_ (ho); clear HO_6; clear ho hb hg hat) | ((with_reducible refine gate_builtin (b := .append) (xs := #[.tmp 29, .tmp 31]) rfl ?_); at_builtin; refine Kd.R_append (Kd.int .i64) (w0 := w) w.heap.size rfl (.tmp 29) (.tmp 31) 30 3 (.int .i64 0) 8 rfl Tryz.underlying30 info3 rfl (by decide) (by omega) u7 n y [.int .i64 y] (fun a => (w.heap.size ≤ a) ∧ some a ≠ (.slice (some K) c.length x : Value).ownBlock ∧ some a ≠ aw.ownBlock) (fun _ => False) rfl rfl ?aP (fun _ hk => hk.elim) ?aF ?aO ?aB ?aS ?aL ?_; (case aP => exact rfl); (case aB => exact bel_); (case aF => exact (fun a hk => ⟨(Nat.le_trans (bz_ bel_) hk), fr_ (rl_ (vR_ HO_12.out)) a hk, fr_ (rl_ (vR_ X.out)) a hk⟩)); (case aO => exact (by refine vR_ ?_; exact rm_ HO_7.out (fun _ hk => ⟨hk.1.1, ⟨hk.1.2, hk.2⟩⟩))); (case aS => exact (bz_ bel_)); (case aL => have := LMc17.out; omega); intro bf w22 ho hb hg hat; rw [← aM.out] at ho; replace HO_12 := a_ (Kd.R_after (ok := (fun a => (w.heap.size ≤ a) ∧ some a ≠ aw.ownBlock)) (by refine vR_ ?_; exact rm_ HO_12.out (fun _ hk => ⟨⟨hk.1.1, hk.2⟩, hk.1.2⟩)) hg hat); replace g := a_ (blk_grown (bk_ g.out) hg (Kd.R_ne HO_7.out g.out (by decide))); replace l := a_ (blk_grown (bk_ l.out) hg (Kd.R_ne HO_7.out l.out (by decide))); replace X := a_ (Kd.R_after (ok := (fun a => (w.heap.size ≤ a) ∧ some a ≠ (.slice (some K) c.length x : Value).ownBlock)) (by refine vR_ ?_; exact rm_ X.out (fun _ hk => ⟨⟨hk.1, hk.2.2⟩, hk.2.1⟩)) hg hat); replace HB := a_ (hb); have aN := a_ (ho); clear HO_7; clear ho hb hg hat))
  go_roundg k1
  case measure => have := ap.out; omega
  exact ⟨(ag), (av), (wrap64 (d + 1)), eq_, H', ⟨by have := ap.out; omega⟩, ⟨by refine vR_ ?_; exact rm_ X.out (fun _ hk => ⟨hk.1.1, ⟨hk.2, hk.1.2⟩⟩)⟩, ⟨by refine vR_ ?_; exact rm_ aN.out (fun _ hk => ⟨hk.1, ⟨hk.2.2, hk.2.1⟩⟩)⟩, ⟨by refine vR_ ?_; exact rm_ HO_12.out (fun _ hk => ⟨hk.1.1, ⟨hk.1.2, hk.2⟩⟩)⟩, ⟨bk_ g.out⟩, ⟨bk_ l.out⟩, ⟨bel_⟩⟩

/-! ### ext_Filter_1: function 33 -/
def ext_Filter_1.f (a : Int) (b : Int) : Option (Int × Bool) := some (mn a b, true)
set_option maxHeartbeats 8000000 in
set_option maxRecDepth 100000 in
theorem ext_Filter_1.calls (b : Int) (c : Int) (g : Int) (l : Bool) (w : World) (h : ext_Filter_1.f b c = some (g, l)) :
  Calls Tryz.prog 33 #[.int .i64 b, .int .i64 c] w fun e w' => e = .returned (.tuple #[.int .i64 g, .bool l]) ∧ Below w.heap.size w w' := by
 have HB := a_ (Below.refl w.heap.size w)
 unfold ext_Filter_1.f at h
 have H := h
 clear h
 obtain ⟨d, a⟩ : ∃ j_ : Int, (mn b c) = j_ := ⟨_, rfl⟩
 replace H : (some (d, true)) = some (g, l) := by first | (rw [a] at H; exact H) | (simp only [a] at H ⊢; exact H)
 have m : (if c < b then c else b) = d := a
 simp only [Option.some.injEq, Prod.mk.injEq] at H
 obtain ⟨rfl, rfl⟩ := H
 go_enter Tryz.func33, Tryz.ntmps33
 go_wp2
 go_ret2
 exact ⟨by first | rfl | (simp [errW_none, errW_some] <;> rfl) | (simp only [← a]; first | rfl | (simp [errW_none, errW_some] <;> rfl)) | (simp [*, errW_none, errW_some] <;> rfl), bel_⟩

/-! ### ext_Filter_2: function 34 -/
def ext_Filter_2.f (a : Int) (b : Int) : Option (Int × Bool) := some (mx a b, true)
set_option maxHeartbeats 8000000 in
set_option maxRecDepth 100000 in
theorem ext_Filter_2.calls (b : Int) (c : Int) (g : Int) (l : Bool) (w : World) (h : ext_Filter_2.f b c = some (g, l)) :
  Calls Tryz.prog 34 #[.int .i64 b, .int .i64 c] w fun e w' => e = .returned (.tuple #[.int .i64 g, .bool l]) ∧ Below w.heap.size w w' := by
 have HB := a_ (Below.refl w.heap.size w)
 unfold ext_Filter_2.f at h
 have H := h
 clear h
 obtain ⟨d, a⟩ : ∃ j_ : Int, (mx b c) = j_ := ⟨_, rfl⟩
 replace H : (some (d, true)) = some (g, l) := by first | (rw [a] at H; exact H) | (simp only [a] at H ⊢; exact H)
 have m : (if b < c then c else b) = d := a
 simp only [Option.some.injEq, Prod.mk.injEq] at H
 obtain ⟨rfl, rfl⟩ := H
 go_enter Tryz.func34, Tryz.ntmps34
 go_wp2
 go_ret2
 exact ⟨by first | rfl | (simp [errW_none, errW_some] <;> rfl) | (simp only [← a]; first | rfl | (simp [errW_none, errW_some] <;> rfl)) | (simp [*, errW_none, errW_some] <;> rfl), bel_⟩

end Go.Proofs.YtiofjnhmogeenaaGreatDoor.XExtRefuses
