-- by xprint.py, a program of this session, over the kit's print
import Derived.Test.YtfbfalhdgmjdpaaGreatDoorXIVfx0
import Derived.Test.YtfbfalhdgmjdpaaGreatDoorXIVfx14
import Derived.Test.YtfbfalhdgmjdpaaGreatDoorXIVfx16
import Derived.Test.YtfbfalhdgmjdpaaGreatDoorXIVfx17
import Derived.Test.YtfbfalhdgmjdpaaGreatDoorSq
namespace Go.Proofs.YtfbfalhdgmjdpaaGreatDoor.XInverseFilters
open Go.RowKit Go.Proofs.YtfbfalhdgmjdpaaGreatDoor.Sq Go.Proofs.YtfbfalhdgmjdpaaGreatDoorW.PrintWords Go.Proofs.YtfbfalhdgmjdpaaGreatDoorW.PrintLast Go.Proofs.YtfbfalhdgmjdpaaGreatDoorW.PrintMore
attribute [local go_sem] max2_int min2_int max_two min_two max_three min_three max_four min_four   -- for this text's walks alone
set_option linter.unusedVariables false
set_option linter.unusedSimpArgs false

/-! ### jigsawref22_Filter: function 12 -/
mutual
def jigsawref22_Filter.l0 : Nat → Int → List (List Int) → List (List Int) → Int → Option ((List (List Int)) × Bool)
 | 0, _, _, _, _ => none
 | k + 1, g, e, c, b => if b < 100000 then ((jigsawref22_side.f k e c).bind fun a => ((jigsawref22_side.f k c a).bind fun d => (jigsawref22_Filter.l1 k g e c b a d ([] : List (List Int)) 0))) else (some (([] : List (List Int)), false))
def jigsawref22_Filter.l1 : Nat → Int → List (List Int) → List (List Int) → Int → List (List Int) → List (List Int) → List (List Int) → Int → Option ((List (List Int)) × Bool)
 | 0, _, _, _, _, _, _, _, _ => none
 | k + 1, f, g, l, d, b, e, c, a => if a < f then (if 0 ≤ a then (if a < (b.length : Int) then (if c.length < 5864062014805 then (jigsawref22_Filter.l1 k f g l d b e (c ++ [rd_L7 b a]) (wrap64 (a + 1))) else (none)) else (none)) else (none)) else (jigsawref22_Filter.l2 k f g l d b e c 0)
def jigsawref22_Filter.l2 : Nat → Int → List (List Int) → List (List Int) → Int → List (List Int) → List (List Int) → List (List Int) → Int → Option ((List (List Int)) × Bool)
 | 0, _, _, _, _, _, _, _, _ => none
 | k + 1, f, g, l, d, e, b, c, a => if a < f then (if 0 ≤ a then (if a < (b.length : Int) then (if c.length < 5864062014805 then (jigsawref22_Filter.l2 k f g l d e b (c ++ [rd_L7 b a]) (wrap64 (a + 1))) else (none)) else (none)) else (none)) else (jigsawref22_Filter.l3 k f g l d e b c 0)
def jigsawref22_Filter.l3 : Nat → Int → List (List Int) → List (List Int) → Int → List (List Int) → List (List Int) → List (List Int) → Int → Option ((List (List Int)) × Bool)
 | 0, _, _, _, _, _, _, _, _ => none
 | k + 1, g, n, o, e, b, c, d, a => if a < (wrap64 (2 * g)) then (if 0 ≤ a then (if a < (d.length : Int) then (if ((rd_L7 d a).length : Int) = 0 then (some (([] : List (List Int)), false)) else (jigsawref22_Filter.l3 k g n o e b c d (wrap64 (a + 1)))) else (none)) else (none)) else ((jigsawref10_Same.f k n b).bind fun l => ((jigsawref10_Same.f k o c).bind fun m => (if l = true then (if m = true then (some (d, true)) else (jigsawref22_Filter.l0 k g b c (wrap64 (e + 1)))) else (jigsawref22_Filter.l0 k g b c (wrap64 (e + 1))))))
end
def jigsawref22_Filter.f (k : Nat) (c : Int) (a : List Int) (d : List Int) (e : List Int) (g : List Int) (l : List Int) (m : Int) (n : List (List Int)) (b : List (List Int)) : Option ((List (List Int)) × Bool) := (jigsawref10_Fits.f k c a d e g l m n b 23 23).bind fun o => (if o = true then (if 0 ≤ (a.length : Int) then (if (a.length : Int) ≤ (b.length : Int) then (jigsawref22_Filter.l0 k (a.length : Int) (b.take ((a.length : Int) : Int).toNat) (b.drop ((a.length : Int) : Int).toNat) 0) else (none)) else (none)) else (some (([] : List (List Int)), false)))
theorem jigsawref22_Filter.mono_l : ∀ k, (∀ a b c d, LeO (jigsawref22_Filter.l0 k a b c d) (jigsawref22_Filter.l0 (k + 1) a b c d)) ∧ (∀ a b c d e f g l, LeO (jigsawref22_Filter.l1 k a b c d e f g l) (jigsawref22_Filter.l1 (k + 1) a b c d e f g l)) ∧ (∀ a b c d e f g l, LeO (jigsawref22_Filter.l2 k a b c d e f g l) (jigsawref22_Filter.l2 (k + 1) a b c d e f g l)) ∧ (∀ a b c d e f g l, LeO (jigsawref22_Filter.l3 k a b c d e f g l) (jigsawref22_Filter.l3 (k + 1) a b c d e f g l))
 | 0 => by refine ⟨?_, ?_, ?_, ?_⟩ <;> (intros; exact LeO.none _)
 | k + 1 => by
  obtain ⟨ih0, ih1, ih2, ih3⟩ := jigsawref22_Filter.mono_l k
  have m0 := @jigsawref10_Fits.mono
  have m1 := @jigsawref10_Same.mono
  have m2 := @jigsawref22_side.mono
  refine ⟨?_, ?_, ?_, ?_⟩ <;> intros
  all_goals first | unfold jigsawref22_Filter.l0 | unfold jigsawref22_Filter.l1 | unfold jigsawref22_Filter.l2 | unfold jigsawref22_Filter.l3
  all_goals exact leo_
theorem jigsawref22_Filter.mono : ∀ a b c d e g l m n k, LeO (jigsawref22_Filter.f k a b c d e g l m n) (jigsawref22_Filter.f (k + 1) a b c d e g l m n) := by
 intro a b c d e g l m n k
 obtain ⟨ih0, ih1, ih2, ih3⟩ := jigsawref22_Filter.mono_l k
 unfold jigsawref22_Filter.f
 have m0 := @jigsawref10_Fits.mono
 have m1 := @jigsawref10_Same.mono
 have m2 := @jigsawref22_side.mono
 exact leo_
set_option maxHeartbeats 8000000 in
set_option maxRecDepth 100000 in
theorem jigsawref22_Filter.calls (k : Nat) (O : Int) (W : Option Addr) (c0_1 : Nat) (g : List Int) (X : Option Addr) (c0_2 : Nat) (E : List Int) (Y : Option Addr) (c0_3 : Nat) (G : List Int) (Z : Option Addr) (c0_4 : Nat) (I : List Int) (aa : Option Addr) (c0_5 : Nat) (J : List Int) (Q : Int) (ab : Option Addr) (c0_7 : Nat) (K : List (List Int)) (P1_ : Nat → Prop) (A1 : Option Addr) (c1 : Nat) (M : List (List Int)) (r1 : List (List Int)) (r2 : Bool) (w : World) (ba : Kd.C (Kd.int .i64) w W g.length g) (bb : g.length ≤ c0_1) (bc : Kd.C (Kd.int .i64) w X E.length E) (bd : E.length ≤ c0_2) (be : Kd.C (Kd.int .i64) w Y G.length G) (bf : G.length ≤ c0_3) (bg : Kd.C (Kd.int .i64) w Z I.length I) (bh : I.length ≤ c0_4) (bi : Kd.C (Kd.int .i64) w aa J.length J) (bj : J.length ≤ c0_5) (bk : Kd.C (Kd.slice 3 (Kd.int .i64)) w ab K.length K) (bl : K.length ≤ c0_7) (cm : Kd.V (Kd.slice 3 (Kd.int .i64)) 30 w w.heap.size (fun a => P1_ a) (.slice A1 M.length c1) M) (h : jigsawref22_Filter.f k O g E G I J Q K M = some (r1, r2)) :
  Calls Tryz.prog 12 #[.agg #[.int .i64 O, .slice W g.length c0_1, .slice X E.length c0_2, .slice Y G.length c0_3, .slice Z I.length c0_4, .slice aa J.length c0_5, .int .i64 Q, .slice ab K.length c0_7], .slice A1 M.length c1] w fun e w' => ∃ bZ : Value, e = .returned (.tuple #[bZ, .bool r2]) ∧ Kd.N (Kd.slice 3 (Kd.int .i64)) 30 w' w.heap.size (fun a => (P1_ a ∨ w.heap.size ≤ a)) bZ r1 ∧ Below w.heap.size w w' := by
 have hu32 := Tryz.underlying32
 have bm := a_ ba
 have bn := a_ bb
 clear ba bb
 have bo := a_ bc
 have bp := a_ bd
 clear bc bd
 have bq := a_ be
 have br := a_ bf
 clear be bf
 have bs := a_ bg
 have bu := a_ bh
 clear bg bh
 have bv := a_ bi
 have bw := a_ bj
 clear bi bj
 have bx := a_ bk
 have bz := a_ bl
 clear bk bl
 have U := a_ (show Kd.V (Kd.slice 3 (Kd.int .i64)) 30 w w.heap.size (fun a => (P1_ a ∨ w.heap.size ≤ a)) (.slice A1 M.length c1) M from vm_ cm (fun a hk => .inl hk))
 have HB := a_ (Below.refl w.heap.size w)
 unfold jigsawref22_Filter.f at h
 have H := h
 clear h
 replace H := bo_ H
 obtain ⟨b1, A3, H⟩ := H
 try dsimp only at H
 by_cases c4 : b1 = true
 rotate_left
 ·
  replace c4 := bf_.mpr c4
  subst c4
  have H1 : (some (([] : List (List Int)), false)) = some (r1, r2) := by rw [ig_ (show ¬ (false = true) by decide)] at H; exact H
  clear H
  have H := H1
  clear H1
  simp only [Option.some.injEq, Prod.mk.injEq] at H
  obtain ⟨rfl, rfl⟩ := H
  go_enter Tryz.func12, Tryz.ntmps12
  go_wp2_with (first | ((with_reducible refine gate_dst (N := 2) rfl ?_); refine bxe_ (N := 2) (cs := #[.int .i64 O, .slice W g.length c0_1, .slice X E.length c0_2, .slice Y G.length c0_3, .slice Z I.length c0_4, .slice aa J.length c0_5, .int .i64 Q, .slice ab K.length c0_7]) (t := 32) ?_; intro l hg w47 hbox hb; replace U := a_ (vb_ (Kd.V_elderB (vV_ U.out) l (Nat.le_of_eq hg.symm)) hb); have n := a_ (hbox); have a5 := a_ (by rw [hg]; exact (bz_ bel_) : w.heap.size ≤ l); have bQ := a5; replace HB := hq_ hb; clear hb hbox hg; obtain ⟨_, _, _, _, _, _, _, _, _, _, _, _, _, _, _, _⟩ := cel8_ n.out) | ((with_reducible refine gate_callee (f := 17) rfl ?_); refine goesL_ (some 21) rfl rfl Tryz.func17 kr_ rfl #[.agg #[.int .i64 O, .slice W g.length c0_1, .slice X E.length c0_2, .slice Y G.length c0_3, .slice Z I.length c0_4, .slice aa J.length c0_5, .int .i64 Q, .slice ab K.length c0_7], .slice A1 M.length c1, .int .i64 23, .int .i64 23] rfl ar_ ?_; (with_reducible refine (jigsawref10_Fits.calls k O _ _ g _ _ E _ _ G _ _ I _ _ J Q _ _ K _ _ M 23 23 false _ ?_ ?_ ?_ ?_ ?_ ?_ ?_ ?_ ?_ ?_ ?_ ?_ ?_ ?_ A3.out).mono ?_); exact ca_ ((cb_ bm.out HB.out)); exact bn.out; exact ca_ ((cb_ bo.out HB.out)); exact bp.out; exact ca_ ((cb_ bq.out HB.out)); exact br.out; exact ca_ ((cb_ bs.out HB.out)); exact bu.out; exact ca_ ((cb_ bv.out HB.out)); exact bw.out; exact ca_ ((cb_ bx.out HB.out)); exact bz.out; exact ca_ ((Kd.V_reads' U.out).2.2); exact (Kd.V_reads' U.out).2.1; rintro e w49 ⟨rfl, hb⟩; refine ⟨_, rfl, ?_⟩; replace HB := hq_ hb; clear hb))
  go_ret2
  exact ⟨_, er_, by first | exact Kd.S_nil _ _ _ _ _ | exact Kd.N_nil _ _ _ _ _ | exact Kd.V_nil _ _ _ _ _ | exact Kd.Q_nil _ _ _ _ _ | exact Kd.R_nil _ _ _ _ _, bel_⟩
 subst c4
 rw [ip_ rfl] at H
 by_cases c5 : 0 ≤ (g.length : Int)
 rotate_left
 ·
  rw [ig_ c5] at H
  exact ab_ H
 rw [ip_ c5] at H
 have c5b0 := et_ c5
 have c5b1 : decide (0 ≤ (g.length : Int)) = true := dt_ c5
 clear c5
 by_cases c6 : (g.length : Int) ≤ (M.length : Int)
 rotate_left
 ·
  rw [ig_ c6] at H
  exact ab_ H
 rw [ip_ c6] at H
 have c6b0 := et_ c6
 have c6b1 : decide ((g.length : Int) ≤ (M.length : Int)) = true := dt_ c6
 clear c6
 obtain ⟨ax, aD⟩ : ∃ y_ : List (List Int), y_ = (M.take ((g.length : Int) : Int).toNat) := ⟨_, rfl⟩
 replace H : (jigsawref22_Filter.l0 k (g.length : Int) ax (M.drop ((g.length : Int) : Int).toNat) 0) = some (r1, r2) := h2_ H aD
 have bA := a_ aD
 clear aD
 have c7b0 := et_ (dq_ : 0 ≤ (g.length : Int))
 have c8b0 := et_ (dq_ : (g.length : Int) ≤ (M.length : Int))
 obtain ⟨af, aE⟩ : ∃ y_ : List (List Int), y_ = (M.drop ((g.length : Int) : Int).toNat) := ⟨_, rfl⟩
 replace H : (jigsawref22_Filter.l0 k (g.length : Int) ax af 0) = some (r1, r2) := h2_ H aE
 have bB := a_ aE
 clear aE
 have H' := a_ H
 clear H
 go_enter Tryz.func12, Tryz.ntmps12
 go_wp2_with (first | ((with_reducible refine gate_dst (N := 2) rfl ?_); refine bxe_ (N := 2) (cs := #[.int .i64 O, .slice W g.length c0_1, .slice X E.length c0_2, .slice Y G.length c0_3, .slice Z I.length c0_4, .slice aa J.length c0_5, .int .i64 Q, .slice ab K.length c0_7]) (t := 32) ?_; intro l hg w9 hbox hb; replace U := a_ (vb_ (Kd.V_elderB (vV_ U.out) l (Nat.le_of_eq hg.symm)) hb); have n := a_ (hbox); have a5 := a_ (by rw [hg]; exact (bz_ bel_) : w.heap.size ≤ l); have bQ := a5; replace HB := hq_ hb; clear hb hbox hg; obtain ⟨_, _, _, _, _, _, _, _, _, _, _, _, _, _, _, _⟩ := cel8_ n.out) | ((with_reducible refine gate_callee (f := 17) rfl ?_); refine goesL_ (some 21) rfl rfl Tryz.func17 kr_ rfl #[.agg #[.int .i64 O, .slice W g.length c0_1, .slice X E.length c0_2, .slice Y G.length c0_3, .slice Z I.length c0_4, .slice aa J.length c0_5, .int .i64 Q, .slice ab K.length c0_7], .slice A1 M.length c1, .int .i64 23, .int .i64 23] rfl ar_ ?_; (with_reducible refine (jigsawref10_Fits.calls k O _ _ g _ _ E _ _ G _ _ I _ _ J Q _ _ K _ _ M 23 23 true _ ?_ ?_ ?_ ?_ ?_ ?_ ?_ ?_ ?_ ?_ ?_ ?_ ?_ ?_ A3.out).mono ?_); exact ca_ ((cb_ bm.out HB.out)); exact bn.out; exact ca_ ((cb_ bo.out HB.out)); exact bp.out; exact ca_ ((cb_ bq.out HB.out)); exact br.out; exact ca_ ((cb_ bs.out HB.out)); exact bu.out; exact ca_ ((cb_ bv.out HB.out)); exact bw.out; exact ca_ ((cb_ bx.out HB.out)); exact bz.out; exact ca_ ((Kd.V_reads' U.out).2.2); exact (Kd.V_reads' U.out).2.1; rintro e w11 ⟨rfl, hb⟩; refine ⟨_, rfl, ?_⟩; replace U := a_ (vb_ (vV_ U.out) hb); replace n := a_ (bq_ n.out hb); replace HB := hq_ hb; clear hb; obtain ⟨_, _, _, _, _, _, _, _, _, _, _, _, _, _, _, _⟩ := cel8_ n.out; have al : ((g.length : Int) : Int) ≤ ((M.length : Int) : Int) := dq_; obtain ⟨i013, bC, _, hsz13, _⟩ := info_parts info30; have hroom13 : M.length ≤ c1 := (Kd.V_reads' U.out).2.1; have hC13 : Kd.F (Kd.slice 3 (Kd.int .i64)) _ _ A1 M.length M := (Kd.V_at (base := w.heap.size) U.out).2.2; have hcut13 := cut_to (P := Tryz.prog) 27 30 .i64 Tryz.underlying27 bC A1 M.length c1 (g.length : Int) (dq_) al hroom13; have a7 := Kd.F_take (m := ((g.length : Int) : Int).toNat) hC13 (by omega); have a8 : ax.length = ((g.length : Int) : Int).toNat := (by rw [bA.out, List.length_take]; omega); rw [← bA.out] at a7; rw [← a8] at hcut13; have bR := a_ (show Kd.V (Kd.slice 3 (Kd.int .i64)) 30 _ w.heap.size _ (.slice A1 ax.length c1) ax from Kd.V_mk (by omega) a7); have cx := a_ (show ax.length ≤ c1 from by omega); clear a7 hC13 hroom13 bC hsz13; have KY13 := a_ a8; clear a8; replace al := et_ al; have am : ((g.length : Int) : Int) ≤ ((M.length : Int) : Int) := dq_; obtain ⟨i014, bD, _, hsz14, _⟩ := info_parts info30; have hroom14 : M.length ≤ c1 := (Kd.V_reads' U.out).2.1; have hC14 : Kd.F (Kd.slice 3 (Kd.int .i64)) _ _ A1 M.length M := (Kd.V_at (base := w.heap.size) U.out).2.2; have aX : (0 : Int) ≤ ((g.length : Int) : Int) := dq_; have hcut14 := cut_from (P := Tryz.prog) 27 30 .i64 Tryz.underlying27 bD 1 hsz14 A1 M.length c1 (g.length : Int) aX am; have aY := Kd.F_cut (m := ((g.length : Int) : Int).toNat) (c := c1) hC14 (by omega) hroom14; obtain ⟨b0, hA14⟩ : ∃ A1_, A1_ = (if c1 = ((g.length : Int) : Int).toNat then A1 else (A1 : Option Addr).map (·.add (((g.length : Int) : Int).toNat * 1))) := ⟨_, rfl⟩; obtain ⟨c14, a6⟩ : ∃ c1_, c1_ = c1 - ((g.length : Int) : Int).toNat := ⟨_, rfl⟩; have aZ : af.length = M.length - ((g.length : Int) : Int).toNat := (by rw [bB.out, List.length_drop] <;> omega); rw [show (M).drop ((g.length : Int) : Int).toNat = af from bB.out.symm] at aY; replace aY : Kd.F (Kd.slice 3 (Kd.int .i64)) _ _ b0 af.length af := (by rw [hA14]; exact aY); rw [← aZ, ← hA14, ← a6] at hcut14; have bS := a_ (show Kd.V (Kd.slice 3 (Kd.int .i64)) 30 _ w.heap.size _ (.slice b0 af.length c14) af from Kd.V_mk (by rw [aZ, a6]; exact Nat.sub_le_sub_right hroom14 _) aY); have cy := a_ (show af.length ≤ c14 from by rw [aZ, a6]; exact Nat.sub_le_sub_right hroom14 _); clear aY hC14 hroom14 bD hsz14 a6; have KY14 := a_ aZ; have KA14 := a_ hA14; clear aZ hA14; replace am := et_ am))
 go_loopg [8, 9, 10] k (fun kq v8 v9 co w' => ∃ (y : List (List Int)) (v : List (List Int)) (A : Int), co = .int .i64 A ∧ Aside0 (jigsawref22_Filter.l0 kq (g.length : Int) y v A = some (r1, r2)) ∧ Aside0 (kq ≤ k) ∧ Aside0 (Kd.V (Kd.slice 3 (Kd.int .i64)) 30 w' w.heap.size (fun a => (P1_ a ∨ w.heap.size ≤ a) ∧ a ≠ l) v8 y) ∧ Aside0 (Kd.V (Kd.slice 3 (Kd.int .i64)) 30 w' w.heap.size (fun a => (P1_ a ∨ w.heap.size ≤ a) ∧ a ≠ l) v9 v) ∧ Aside0 (w'.heap[l]? = some (.cells #[.int .i64 O, (.slice W g.length c0_1), (.slice X E.length c0_2), (.slice Y G.length c0_3), (.slice Z I.length c0_4), (.slice aa J.length c0_5), .int .i64 Q, (.slice ab K.length c0_7)] 32 (0, 0))) ∧ Aside0 (Below w.heap.size w w'))
 case atStart => exact ⟨(ax), (af), (0), eq_, H', ⟨lr_ _⟩, ⟨vV_ bR.out⟩, ⟨vV_ bS.out⟩, ⟨bk_ n.out⟩, ⟨bel_⟩⟩
 clear H'
 try clear c1
 try clear q1
 try clear p2
 try clear c4
 try clear c5
 try clear c5b0
 try clear c5b1
 try clear c6
 try clear c6b0
 try clear c6b1
 try clear c7
 try clear c7b0
 try clear c8
 try clear c8b0
 try clear c12
 try clear al
 try clear c14
 try clear am
 try clear aX
 try clear al
 try clear am
 obtain ⟨y, v, A, rfl, HA, au, HO_8, HO_9, n, HB⟩ := hrel
 cases gk with
 | zero => exact absurd HA.out (by simp [jigsawref22_Filter.l0])
 | succ k1 =>
  have H := HA.out
  clear HA
  simp only [jigsawref22_Filter.l0] at H
  by_cases c15 : A < 100000
  rotate_left
  ·
   rw [ig_ c15] at H
   have c15b0 : decide (A < 100000) = false := df_ c15
   clear c15
   simp only [Option.some.injEq, Prod.mk.injEq] at H
   obtain ⟨rfl, rfl⟩ := H
   go_wp2
   go_ret2
   exact ⟨_, er_, by first | exact Kd.S_nil _ _ _ _ _ | exact Kd.N_nil _ _ _ _ _ | exact Kd.V_nil _ _ _ _ _ | exact Kd.Q_nil _ _ _ _ _ | exact Kd.R_nil _ _ _ _ _, bel_⟩
  rw [ip_ c15] at H
  have c15b0 : decide (A < 100000) = true := dt_ c15
  clear c15
  replace H := bo_ H
  obtain ⟨d, cp, H⟩ := H
  try dsimp only at H
  replace H := bo_ H
  obtain ⟨p, cq, H⟩ := H
  try dsimp only at H
  have H' := a_ H
  clear H
  obtain ⟨ay, az, b2⟩ := Kd.V_slice HO_8.out
  subst b2
  obtain ⟨an, ao, b3⟩ := Kd.V_slice HO_9.out
  subst b3
  go_wp2_with (first | ((with_reducible refine gate_callee (f := 32) rfl ?_); refine goesL_ (some 39) rfl rfl Tryz.func32 kr_ rfl #[.slice ay y.length az, .slice an v.length ao] rfl ar_ ?_; (with_reducible refine (jigsawref22_side.calls k1 _ _ y _ _ v d _ ?_ ?_ ?_ ?_ cp.out).mono ?_); exact ca_ ((Kd.V_reads' HO_8.out).2.2); exact (Kd.V_reads' HO_8.out).2.1; exact ca_ ((Kd.V_reads' HO_9.out).2.2); exact (Kd.V_reads' HO_9.out).2.1; rintro e w20 ⟨cB, rfl, av, hb⟩; refine ⟨_, rfl, ?_⟩; replace HO_8 := a_ (Kd.V_elder' (vV_ HO_8.out) (Kd.N_base (Kd.S_N av)) hb); replace HO_9 := a_ (Kd.V_elder' (vV_ HO_9.out) (Kd.N_base (Kd.S_N av)) hb); have ag := a_ (Kd.N_lower (nm_ (ok' := fun a => (P1_ a ∨ w.heap.size ≤ a) ∧ a ≠ l) (Kd.S_N (Kd.S_bound av)) (fun a hk_ => ⟨(.inr (Nat.le_trans (bz_ bel_) hk_.2.1)), (Kd.freshB (bk_ n.out) a hk_.2.1)⟩)) (bz_ bel_)); replace n := a_ (bq_ n.out hb); replace HB := hq_ hb; clear hb av; obtain ⟨r, o, b4⟩ := Kd.N_slice ag.out; subst b4) | ((with_reducible refine gate_callee (f := 32) rfl ?_); refine goesL_ (some 42) rfl rfl Tryz.func32 kr_ rfl #[.slice an v.length ao, .slice r d.length o] rfl ar_ ?_; (with_reducible refine (jigsawref22_side.calls k1 _ _ v _ _ d p _ ?_ ?_ ?_ ?_ cq.out).mono ?_); exact ca_ ((Kd.V_reads' HO_9.out).2.2); exact (Kd.V_reads' HO_9.out).2.1; exact ca_ ((Kd.N_reads' ag.out).2.2); exact (Kd.N_reads' ag.out).2.1; rintro e w22 ⟨z, rfl, av, hb⟩; refine ⟨_, rfl, ?_⟩; replace HO_8 := a_ (Kd.V_elder' (vV_ HO_8.out) (Kd.N_base (Kd.S_N av)) hb); replace HO_9 := a_ (Kd.V_elder' (vV_ HO_9.out) (Kd.N_base (Kd.S_N av)) hb); have bT := a_ (Kd.N_lower (nm_ (ok' := fun a => (P1_ a ∨ w.heap.size ≤ a) ∧ some a ≠ (.slice r d.length o : Value).ownBlock ∧ a ≠ l) (Kd.S_N (Kd.S_bound av)) (fun a hk_ => ⟨(.inr (Nat.le_trans (bz_ bel_) hk_.2.1)), (fr_ (Kd.N_lt (vN_ ag.out)) a hk_.2.1), (Kd.freshB (bk_ n.out) a hk_.2.1)⟩)) (bz_ bel_)); replace ag := a_ (Kd.N_elder' (vN_ ag.out) (Kd.N_base (Kd.S_N av)) hb); replace n := a_ (bq_ n.out hb); replace HB := hq_ hb; clear hb av))
  go_loopg [13, 14] k1 (fun kq ap cr w' => ∃ (ah : List (List Int)) (s : Int), cr = .int .i64 s ∧ Aside0 (jigsawref22_Filter.l1 kq (g.length : Int) y v A d p ah s = some (r1, r2)) ∧ Aside0 (kq ≤ k1) ∧ Aside0 (Kd.V (Kd.slice 3 (Kd.int .i64)) 30 w' w.heap.size (fun a => (P1_ a ∨ w.heap.size ≤ a) ∧ some a ≠ ((.slice r d.length o) : Value).ownBlock ∧ some a ≠ z.ownBlock ∧ some a ≠ ap.ownBlock ∧ a ≠ l) (.slice ay y.length az) y) ∧ Aside0 (Kd.V (Kd.slice 3 (Kd.int .i64)) 30 w' w.heap.size (fun a => (P1_ a ∨ w.heap.size ≤ a) ∧ some a ≠ ((.slice r d.length o) : Value).ownBlock ∧ some a ≠ z.ownBlock ∧ some a ≠ ap.ownBlock ∧ a ≠ l) (.slice an v.length ao) v) ∧ Aside0 (Kd.N (Kd.slice 3 (Kd.int .i64)) 30 w' w.heap.size (fun a => (P1_ a ∨ w.heap.size ≤ a) ∧ some a ≠ z.ownBlock ∧ some a ≠ ap.ownBlock ∧ a ≠ l) (.slice r d.length o) d) ∧ Aside0 (Kd.N (Kd.slice 3 (Kd.int .i64)) 30 w' w.heap.size (fun a => (P1_ a ∨ w.heap.size ≤ a) ∧ some a ≠ ((.slice r d.length o) : Value).ownBlock ∧ some a ≠ ap.ownBlock ∧ a ≠ l) z p) ∧ Aside0 (Kd.N (Kd.slice 3 (Kd.int .i64)) 30 w' w.heap.size (fun a => (P1_ a ∨ w.heap.size ≤ a) ∧ some a ≠ ((.slice r d.length o) : Value).ownBlock ∧ some a ≠ z.ownBlock ∧ a ≠ l) ap ah) ∧ Aside0 (w'.heap[l]? = some (.cells #[.int .i64 O, (.slice W g.length c0_1), (.slice X E.length c0_2), (.slice Y G.length c0_3), (.slice Z I.length c0_4), (.slice aa J.length c0_5), .int .i64 Q, (.slice ab K.length c0_7)] 32 (0, 0))) ∧ Aside0 (Below w.heap.size w w'))
  case atStart => exact ⟨(([] : List (List Int))), (0), eq_, H', ⟨lr_ _⟩, ⟨by refine vV_ ?_; exact vm_ HO_8.out (fun _ hk => ⟨hk.1.1.1, ⟨hk.1.2, ⟨hk.2, ⟨(by simp [Value.ownBlock]), hk.1.1.2⟩⟩⟩⟩)⟩, ⟨by refine vV_ ?_; exact vm_ HO_9.out (fun _ hk => ⟨hk.1.1.1, ⟨hk.1.2, ⟨hk.2, ⟨(by simp [Value.ownBlock]), hk.1.1.2⟩⟩⟩⟩)⟩, ⟨by refine vN_ ?_; exact nm_ ag.out (fun _ hk => ⟨hk.1.1, ⟨hk.2, ⟨(by simp [Value.ownBlock]), hk.1.2⟩⟩⟩)⟩, ⟨by refine vN_ ?_; exact nm_ bT.out (fun _ hk => ⟨hk.1, ⟨hk.2.1, ⟨(by simp [Value.ownBlock]), hk.2.2⟩⟩⟩)⟩, ⟨nil_⟩, ⟨bk_ n.out⟩, ⟨bel_⟩⟩
  clear H'
  try clear c1
  try clear q1
  try clear p2
  try clear c3
  try clear c4
  try clear c5
  try clear c5b0
  try clear c5b1
  try clear c6
  try clear c6b0
  try clear c6b1
  try clear c7
  try clear c7b0
  try clear c8
  try clear c8b0
  try clear c12
  try clear al
  try clear c14
  try clear am
  try clear c15
  try clear c15b0
  try clear c17
  try clear p2
  try clear aX
  try clear q1
  try clear al
  try clear am
  obtain ⟨ah, s, rfl, HA, aw, HO_8, HO_9, HO_11, HO_12, HO_13, n, HB⟩ := hrel
  cases gk with
  | zero => exact absurd HA.out (by simp [jigsawref22_Filter.l1])
  | succ k2 =>
   have H := HA.out
   clear HA
   simp only [jigsawref22_Filter.l1] at H
   by_cases c23 : s < (g.length : Int)
   ·
    rw [ip_ c23] at H
    have c23b0 : decide (s < (g.length : Int)) = true := dt_ c23
    clear c23
    by_cases c24 : 0 ≤ s
    rotate_left
    ·
     rw [ig_ c24] at H
     exact ab_ H
    rw [ip_ c24] at H
    have c24b0 : decide (0 ≤ s) = true := dt_ c24
    clear c24
    by_cases c25 : s < (d.length : Int)
    rotate_left
    ·
     rw [ig_ c25] at H
     exact ab_ H
    rw [ip_ c25] at H
    have c25b0 : decide (s < (d.length : Int)) = true := dt_ c25
    clear c25
    by_cases c26 : ah.length < 5864062014805
    rotate_left
    ·
     rw [ig_ c26] at H
     exact ab_ H
    rw [ip_ c26] at H
    have LMc26 := a_ c26
    clear c26
    obtain ⟨bI, aG⟩ : ∃ y_ : List (List Int), y_ = (ah ++ [rd_L7 d s]) := ⟨_, rfl⟩
    replace H : (jigsawref22_Filter.l1 k2 (g.length : Int) y v A d p bI (wrap64 (s + 1))) = some (r1, r2) := h2_ H aG
    have bU := a_ aG
    clear aG
    have H' := a_ H
    clear H
    have p484 : 0 ≤ (s : Int) := dq_
    have aK : s < (d.length : Int) := dq_
    obtain ⟨ai, bJ, c484_0, b5, aM, a1, bF⟩ := at_L7 (Kd.N_reads' HO_11.out).2.2 s p484 aK
    cases b5
    obtain ⟨ce484, hce484, hMe484, hcc484⟩ := Kd.N_get HO_11.out [] s p484 (by first | exact aK | exact dq_ | (have e_ := (Kd.N_reads' HO_11.out).1; omega))
    obtain ⟨ua484_0, uc484_0, rfl, aN, aQ⟩ := Kd.FK_slice_open hMe484
    have aq := hcc484 0 _ rfl
    rw [Nat.add_zero, show ((Kd.slice 3 (Kd.int .i64))).sz = 1 from rfl, Nat.mul_one] at aq
    replace aq := si_ (aq.symm.trans aM)
    injection aq with hva_ hvn_ hvc_
    rw [hva_] at aQ
    rw [hvc_] at aN
    have HL484_0 := a_ (show Kd.V (Kd.int .i64) 3 _ w.heap.size _ _ (rd_L7 d s) from Kd.V_mk aN aQ)
    clear hva_ hvn_ hvc_ aQ aN
    clear hcc484 hce484
    have ck := a_ a1
    clear bF a1
    replace p484 := et_ p484
    replace aK := et_ aK
    go_wp2_with (first | ((with_reducible refine gate_builtin (b := .append) (xs := #[.tmp 48, .tmp 53]) rfl ?_); at_builtin; refine Kd.N_append (Kd.slice 3 (Kd.int .i64)) (w0 := w) w.heap.size rfl (.tmp 48) (.tmp 53) 27 30 (.slice none 0 0) 24 rfl Tryz.underlying27 info30 rfl (by decide) (by omega) u13 ah (rd_L7 d s) [.slice bJ (rd_L7 d s).length c484_0] (fun a => (P1_ a ∨ w.heap.size ≤ a) ∧ some a ≠ (.slice (some ai) d.length o : Value).ownBlock ∧ some a ≠ z.ownBlock ∧ a ≠ l) (fun a => ((fun a => (P1_ a ∨ w.heap.size ≤ a) ∧ some a ≠ (.slice (some ai) d.length o : Value).ownBlock ∧ some a ≠ z.ownBlock ∧ a ≠ l)) a ∧ some a ≠ u13.ownBlock) rfl rfl ?aP (fun _ hk => hk) ?aF ?aO ?aB ?aS ?aL ?_; (case aP => exact (Kd.FK_slice_mk (Kd.V_reads' (vm_ (ok' := (fun a => ((fun a => (P1_ a ∨ w.heap.size ≤ a) ∧ some a ≠ (.slice (some ai) d.length o : Value).ownBlock ∧ some a ≠ z.ownBlock ∧ a ≠ l)) a ∧ some a ≠ u13.ownBlock)) (HL484_0.out) (fun a hk => ⟨⟨hk.1.1, ⟨hk.2, ⟨hk.1.2.1, hk.1.2.2.2⟩⟩⟩, hk.1.2.2.1⟩))).2.1 (Kd.V_F (vm_ (ok' := (fun a => ((fun a => (P1_ a ∨ w.heap.size ≤ a) ∧ some a ≠ (.slice (some ai) d.length o : Value).ownBlock ∧ some a ≠ z.ownBlock ∧ a ≠ l)) a ∧ some a ≠ u13.ownBlock)) (HL484_0.out) (fun a hk => ⟨⟨hk.1.1, ⟨hk.2, ⟨hk.1.2.1, hk.1.2.2.2⟩⟩⟩, hk.1.2.2.1⟩))))); (case aB => exact bel_); (case aF => exact (fun a hk => ⟨(.inr (Nat.le_trans (bz_ bel_) hk)), fr_ (Kd.N_lt (vN_ HO_11.out)) a hk, fr_ (Kd.N_lt (vN_ HO_12.out)) a hk, Kd.freshB (bk_ n.out) a hk⟩)); (case aO => exact (vN_ HO_13.out)); (case aS => exact (bz_ bel_)); (case aL => have := LMc26.out; omega); intro cC w27 ho hb hg hat; rw [← bU.out] at ho; replace HO_8 := a_ (Kd.V_afterv (ok := (fun a => (P1_ a ∨ w.heap.size ≤ a) ∧ some a ≠ (.slice (some ai) d.length o : Value).ownBlock ∧ some a ≠ z.ownBlock ∧ a ≠ l)) (by refine vV_ ?_; exact vm_ HO_8.out (fun _ hk => ⟨⟨hk.1, ⟨hk.2.1, ⟨hk.2.2.1, hk.2.2.2.2⟩⟩⟩, hk.2.2.2.1⟩)) hg hat); replace HO_9 := a_ (Kd.V_afterv (ok := (fun a => (P1_ a ∨ w.heap.size ≤ a) ∧ some a ≠ (.slice (some ai) d.length o : Value).ownBlock ∧ some a ≠ z.ownBlock ∧ a ≠ l)) (by refine vV_ ?_; exact vm_ HO_9.out (fun _ hk => ⟨⟨hk.1, ⟨hk.2.1, ⟨hk.2.2.1, hk.2.2.2.2⟩⟩⟩, hk.2.2.2.1⟩)) hg hat); replace HO_11 := a_ (Kd.N_afterv (ok := (fun a => (P1_ a ∨ w.heap.size ≤ a) ∧ some a ≠ z.ownBlock ∧ a ≠ l)) (by refine vN_ ?_; exact nm_ HO_11.out (fun _ hk => ⟨⟨hk.1, ⟨hk.2.1, hk.2.2.2⟩⟩, hk.2.2.1⟩)) hg hat); replace HO_12 := a_ (Kd.N_afterv (ok := (fun a => (P1_ a ∨ w.heap.size ≤ a) ∧ some a ≠ (.slice (some ai) d.length o : Value).ownBlock ∧ a ≠ l)) (by refine vN_ ?_; exact nm_ HO_12.out (fun _ hk => ⟨⟨hk.1, ⟨hk.2.1, hk.2.2.2⟩⟩, hk.2.2.1⟩)) hg hat); replace n := a_ (blk_grown (bk_ n.out) hg (Kd.N_ne HO_13.out n.out (by decide))); replace HB := a_ (hb); have bV := a_ (ho); clear HO_13; clear ho hb hg hat))
    go_roundg k2
    case measure => have := au.out; have := aw.out; omega
    exact ⟨(bI), (wrap64 (s + 1)), eq_, H', ⟨by have := au.out; have := aw.out; omega⟩, ⟨by refine vV_ ?_; exact vm_ HO_8.out (fun _ hk => ⟨hk.1.1, ⟨hk.1.2.1, ⟨hk.1.2.2.1, ⟨hk.2, hk.1.2.2.2⟩⟩⟩⟩)⟩, ⟨by refine vV_ ?_; exact vm_ HO_9.out (fun _ hk => ⟨hk.1.1, ⟨hk.1.2.1, ⟨hk.1.2.2.1, ⟨hk.2, hk.1.2.2.2⟩⟩⟩⟩)⟩, ⟨by refine vN_ ?_; exact nm_ HO_11.out (fun _ hk => ⟨hk.1.1, ⟨hk.1.2.1, ⟨hk.2, hk.1.2.2⟩⟩⟩)⟩, ⟨by refine vN_ ?_; exact nm_ HO_12.out (fun _ hk => ⟨hk.1.1, ⟨hk.1.2.1, ⟨hk.2, hk.1.2.2⟩⟩⟩)⟩, ⟨vN_ bV.out⟩, ⟨bk_ n.out⟩, ⟨bel_⟩⟩
   rw [ig_ c23] at H
   have c23b0 : decide (s < (g.length : Int)) = false := df_ c23
   clear c23
   have H' := a_ H
   clear H
   go_wp2
   go_loopg [13, 15] k2 (fun kq ap ct w' => ∃ (x : List (List Int)) (u : Int), ct = .int .i64 u ∧ Aside0 (jigsawref22_Filter.l2 kq (g.length : Int) y v A d p x u = some (r1, r2)) ∧ Aside0 (kq ≤ k2) ∧ Aside0 (Kd.V (Kd.slice 3 (Kd.int .i64)) 30 w' w.heap.size (fun a => (P1_ a ∨ w.heap.size ≤ a) ∧ some a ≠ ((.slice r d.length o) : Value).ownBlock ∧ some a ≠ z.ownBlock ∧ some a ≠ ap.ownBlock ∧ a ≠ l) (.slice ay y.length az) y) ∧ Aside0 (Kd.V (Kd.slice 3 (Kd.int .i64)) 30 w' w.heap.size (fun a => (P1_ a ∨ w.heap.size ≤ a) ∧ some a ≠ ((.slice r d.length o) : Value).ownBlock ∧ some a ≠ z.ownBlock ∧ some a ≠ ap.ownBlock ∧ a ≠ l) (.slice an v.length ao) v) ∧ Aside0 (Kd.N (Kd.slice 3 (Kd.int .i64)) 30 w' w.heap.size (fun a => (P1_ a ∨ w.heap.size ≤ a) ∧ some a ≠ z.ownBlock ∧ some a ≠ ap.ownBlock ∧ a ≠ l) (.slice r d.length o) d) ∧ Aside0 (Kd.N (Kd.slice 3 (Kd.int .i64)) 30 w' w.heap.size (fun a => (P1_ a ∨ w.heap.size ≤ a) ∧ some a ≠ ((.slice r d.length o) : Value).ownBlock ∧ some a ≠ ap.ownBlock ∧ a ≠ l) z p) ∧ Aside0 (Kd.N (Kd.slice 3 (Kd.int .i64)) 30 w' w.heap.size (fun a => (P1_ a ∨ w.heap.size ≤ a) ∧ some a ≠ ((.slice r d.length o) : Value).ownBlock ∧ some a ≠ z.ownBlock ∧ a ≠ l) ap x) ∧ Aside0 (w'.heap[l]? = some (.cells #[.int .i64 O, (.slice W g.length c0_1), (.slice X E.length c0_2), (.slice Y G.length c0_3), (.slice Z I.length c0_4), (.slice aa J.length c0_5), .int .i64 Q, (.slice ab K.length c0_7)] 32 (0, 0))) ∧ Aside0 (Below w.heap.size w w'))
   case atStart => exact ⟨(ah), (0), eq_, H', ⟨lr_ _⟩, ⟨vV_ HO_8.out⟩, ⟨vV_ HO_9.out⟩, ⟨vN_ HO_11.out⟩, ⟨vN_ HO_12.out⟩, ⟨vN_ HO_13.out⟩, ⟨bk_ n.out⟩, ⟨bel_⟩⟩
   clear H'
   try clear c1
   try clear q1
   try clear c2
   try clear p2
   try clear c3
   try clear c4
   try clear p4
   try clear q4
   try clear cv
   try clear c5
   try clear c5b0
   try clear c5b1
   try clear c6
   try clear c6b0
   try clear c6b1
   try clear p6
   try clear c7
   try clear c7b0
   try clear c8
   try clear c8b0
   try clear c12
   try clear al
   try clear c14
   try clear am
   try clear c15
   try clear c15b0
   try clear c17
   try clear c23
   try clear c23b0
   try clear c24
   try clear c24b0
   try clear c25
   try clear c25b0
   try clear c26
   try clear aM
   try clear p2
   try clear p484
   try clear aX
   try clear q1
   try clear al
   try clear am
   try clear aK
   obtain ⟨x, u, rfl, HA, aW, HO_8, HO_9, HO_11, HO_12, HO_13, n, HB⟩ := hrel
   cases gk with
   | zero => exact absurd HA.out (by simp [jigsawref22_Filter.l2])
   | succ k3 =>
    have H := HA.out
    clear HA
    simp only [jigsawref22_Filter.l2] at H
    by_cases c28 : u < (g.length : Int)
    ·
     rw [ip_ c28] at H
     have c28b0 : decide (u < (g.length : Int)) = true := dt_ c28
     clear c28
     by_cases c29 : 0 ≤ u
     rotate_left
     ·
      rw [ig_ c29] at H
      exact ab_ H
     rw [ip_ c29] at H
     have c29b0 : decide (0 ≤ u) = true := dt_ c29
     clear c29
     by_cases c30 : u < (p.length : Int)
     rotate_left
     ·
      rw [ig_ c30] at H
      exact ab_ H
     rw [ip_ c30] at H
     have c30b0 : decide (u < (p.length : Int)) = true := dt_ c30
     clear c30
     by_cases c31 : x.length < 5864062014805
     rotate_left
     ·
      rw [ig_ c31] at H
      exact ab_ H
     rw [ip_ c31] at H
     have LMc31 := a_ c31
     clear c31
     obtain ⟨bK, aH⟩ : ∃ y_ : List (List Int), y_ = (x ++ [rd_L7 p u]) := ⟨_, rfl⟩
     replace H : (jigsawref22_Filter.l2 k3 (g.length : Int) y v A d p bK (wrap64 (u + 1))) = some (r1, r2) := h2_ H aH
     have bW := a_ aH
     clear aH
     have H' := a_ H
     clear H
     obtain ⟨cD, aA, b6⟩ := Kd.N_slice HO_12.out
     subst b6
     have p488 : 0 ≤ (u : Int) := dq_
     have a0 : u < (p.length : Int) := dq_
     obtain ⟨aj, bL, c488_0, b7, a2, a3, bG⟩ := at_L7 (Kd.N_reads' HO_12.out).2.2 u p488 a0
     cases b7
     obtain ⟨ce488, hce488, hMe488, hcc488⟩ := Kd.N_get HO_12.out [] u p488 (by first | exact a0 | exact dq_ | (have e_ := (Kd.N_reads' HO_12.out).1; omega))
     obtain ⟨ua488_0, uc488_0, rfl, aR, aT⟩ := Kd.FK_slice_open hMe488
     have ar := hcc488 0 _ rfl
     rw [Nat.add_zero, show ((Kd.slice 3 (Kd.int .i64))).sz = 1 from rfl, Nat.mul_one] at ar
     replace ar := si_ (ar.symm.trans a2)
     injection ar with hva_ hvn_ hvc_
     rw [hva_] at aT
     rw [hvc_] at aR
     have HL488_0 := a_ (show Kd.V (Kd.int .i64) 3 _ w.heap.size _ _ (rd_L7 p u) from Kd.V_mk aR aT)
     clear hva_ hvn_ hvc_ aT aR
     clear hcc488 hce488
     have cl := a_ a3
     clear bG a3
     replace p488 := et_ p488
     replace a0 := et_ a0
     go_wp2_with (first | ((with_reducible refine gate_builtin (b := .append) (xs := #[.tmp 60, .tmp 65]) rfl ?_); at_builtin; refine Kd.N_append (Kd.slice 3 (Kd.int .i64)) (w0 := w) w.heap.size rfl (.tmp 60) (.tmp 65) 27 30 (.slice none 0 0) 24 rfl Tryz.underlying27 info30 rfl (by decide) (by omega) u13 x (rd_L7 p u) [.slice bL (rd_L7 p u).length c488_0] (fun a => (P1_ a ∨ w.heap.size ≤ a) ∧ some a ≠ (.slice r d.length o : Value).ownBlock ∧ some a ≠ (.slice (some aj) p.length aA : Value).ownBlock ∧ a ≠ l) (fun a => ((fun a => (P1_ a ∨ w.heap.size ≤ a) ∧ some a ≠ (.slice r d.length o : Value).ownBlock ∧ some a ≠ (.slice (some aj) p.length aA : Value).ownBlock ∧ a ≠ l)) a ∧ some a ≠ u13.ownBlock) rfl rfl ?aP (fun _ hk => hk) ?aF ?aO ?aB ?aS ?aL ?_; (case aP => exact (Kd.FK_slice_mk (Kd.V_reads' (vm_ (ok' := (fun a => ((fun a => (P1_ a ∨ w.heap.size ≤ a) ∧ some a ≠ (.slice r d.length o : Value).ownBlock ∧ some a ≠ (.slice (some aj) p.length aA : Value).ownBlock ∧ a ≠ l)) a ∧ some a ≠ u13.ownBlock)) (HL488_0.out) (fun a hk => ⟨⟨hk.1.1, ⟨hk.1.2.1, ⟨hk.2, hk.1.2.2.2⟩⟩⟩, hk.1.2.2.1⟩))).2.1 (Kd.V_F (vm_ (ok' := (fun a => ((fun a => (P1_ a ∨ w.heap.size ≤ a) ∧ some a ≠ (.slice r d.length o : Value).ownBlock ∧ some a ≠ (.slice (some aj) p.length aA : Value).ownBlock ∧ a ≠ l)) a ∧ some a ≠ u13.ownBlock)) (HL488_0.out) (fun a hk => ⟨⟨hk.1.1, ⟨hk.1.2.1, ⟨hk.2, hk.1.2.2.2⟩⟩⟩, hk.1.2.2.1⟩))))); (case aB => exact bel_); (case aF => exact (fun a hk => ⟨(.inr (Nat.le_trans (bz_ bel_) hk)), fr_ (Kd.N_lt (vN_ HO_11.out)) a hk, fr_ (Kd.N_lt (vN_ HO_12.out)) a hk, Kd.freshB (bk_ n.out) a hk⟩)); (case aO => exact (vN_ HO_13.out)); (case aS => exact (bz_ bel_)); (case aL => have := LMc31.out; omega); intro cE w33 ho hb hg hat; rw [← bW.out] at ho; replace HO_8 := a_ (Kd.V_afterv (ok := (fun a => (P1_ a ∨ w.heap.size ≤ a) ∧ some a ≠ (.slice r d.length o : Value).ownBlock ∧ some a ≠ (.slice (some aj) p.length aA : Value).ownBlock ∧ a ≠ l)) (by refine vV_ ?_; exact vm_ HO_8.out (fun _ hk => ⟨⟨hk.1, ⟨hk.2.1, ⟨hk.2.2.1, hk.2.2.2.2⟩⟩⟩, hk.2.2.2.1⟩)) hg hat); replace HO_9 := a_ (Kd.V_afterv (ok := (fun a => (P1_ a ∨ w.heap.size ≤ a) ∧ some a ≠ (.slice r d.length o : Value).ownBlock ∧ some a ≠ (.slice (some aj) p.length aA : Value).ownBlock ∧ a ≠ l)) (by refine vV_ ?_; exact vm_ HO_9.out (fun _ hk => ⟨⟨hk.1, ⟨hk.2.1, ⟨hk.2.2.1, hk.2.2.2.2⟩⟩⟩, hk.2.2.2.1⟩)) hg hat); replace HO_11 := a_ (Kd.N_afterv (ok := (fun a => (P1_ a ∨ w.heap.size ≤ a) ∧ some a ≠ (.slice (some aj) p.length aA : Value).ownBlock ∧ a ≠ l)) (by refine vN_ ?_; exact nm_ HO_11.out (fun _ hk => ⟨⟨hk.1, ⟨hk.2.1, hk.2.2.2⟩⟩, hk.2.2.1⟩)) hg hat); replace HO_12 := a_ (Kd.N_afterv (ok := (fun a => (P1_ a ∨ w.heap.size ≤ a) ∧ some a ≠ (.slice r d.length o : Value).ownBlock ∧ a ≠ l)) (by refine vN_ ?_; exact nm_ HO_12.out (fun _ hk => ⟨⟨hk.1, ⟨hk.2.1, hk.2.2.2⟩⟩, hk.2.2.1⟩)) hg hat); replace n := a_ (blk_grown (bk_ n.out) hg (Kd.N_ne HO_13.out n.out (by decide))); replace HB := a_ (hb); have bX := a_ (ho); clear HO_13; clear ho hb hg hat))
     go_roundg k3
     case measure => have := au.out; have := aw.out; have := aW.out; omega
     exact ⟨(bK), (wrap64 (u + 1)), eq_, H', ⟨by have := au.out; have := aw.out; have := aW.out; omega⟩, ⟨by refine vV_ ?_; exact vm_ HO_8.out (fun _ hk => ⟨hk.1.1, ⟨hk.1.2.1, ⟨hk.1.2.2.1, ⟨hk.2, hk.1.2.2.2⟩⟩⟩⟩)⟩, ⟨by refine vV_ ?_; exact vm_ HO_9.out (fun _ hk => ⟨hk.1.1, ⟨hk.1.2.1, ⟨hk.1.2.2.1, ⟨hk.2, hk.1.2.2.2⟩⟩⟩⟩)⟩, ⟨by refine vN_ ?_; exact nm_ HO_11.out (fun _ hk => ⟨hk.1.1, ⟨hk.1.2.1, ⟨hk.2, hk.1.2.2⟩⟩⟩)⟩, ⟨by refine vN_ ?_; exact nm_ HO_12.out (fun _ hk => ⟨hk.1.1, ⟨hk.1.2.1, ⟨hk.2, hk.1.2.2⟩⟩⟩)⟩, ⟨vN_ bX.out⟩, ⟨bk_ n.out⟩, ⟨bel_⟩⟩
    rw [ig_ c28] at H
    have c28b0 : decide (u < (g.length : Int)) = false := df_ c28
    clear c28
    have H' := a_ H
    clear H
    go_wp2
    go_loopg [16] k3 (fun kq cw w' => ∃ (q : Int), cw = .int .i64 q ∧ Aside0 (jigsawref22_Filter.l3 kq (g.length : Int) y v A d p x q = some (r1, r2)) ∧ Aside0 (kq ≤ k3) ∧ Aside0 (Kd.V (Kd.slice 3 (Kd.int .i64)) 30 w' w.heap.size (fun a => (P1_ a ∨ w.heap.size ≤ a) ∧ some a ≠ ((.slice r d.length o) : Value).ownBlock ∧ some a ≠ z.ownBlock ∧ some a ≠ u13.ownBlock ∧ a ≠ l) (.slice ay y.length az) y) ∧ Aside0 (Kd.V (Kd.slice 3 (Kd.int .i64)) 30 w' w.heap.size (fun a => (P1_ a ∨ w.heap.size ≤ a) ∧ some a ≠ ((.slice r d.length o) : Value).ownBlock ∧ some a ≠ z.ownBlock ∧ some a ≠ u13.ownBlock ∧ a ≠ l) (.slice an v.length ao) v) ∧ Aside0 (Kd.N (Kd.slice 3 (Kd.int .i64)) 30 w' w.heap.size (fun a => (P1_ a ∨ w.heap.size ≤ a) ∧ some a ≠ z.ownBlock ∧ some a ≠ u13.ownBlock ∧ a ≠ l) (.slice r d.length o) d) ∧ Aside0 (Kd.N (Kd.slice 3 (Kd.int .i64)) 30 w' w.heap.size (fun a => (P1_ a ∨ w.heap.size ≤ a) ∧ some a ≠ ((.slice r d.length o) : Value).ownBlock ∧ some a ≠ u13.ownBlock ∧ a ≠ l) z p) ∧ Aside0 (Kd.N (Kd.slice 3 (Kd.int .i64)) 30 w' w.heap.size (fun a => (P1_ a ∨ w.heap.size ≤ a) ∧ some a ≠ ((.slice r d.length o) : Value).ownBlock ∧ some a ≠ z.ownBlock ∧ a ≠ l) u13 x) ∧ Aside0 (w'.heap[l]? = some (.cells #[.int .i64 O, (.slice W g.length c0_1), (.slice X E.length c0_2), (.slice Y G.length c0_3), (.slice Z I.length c0_4), (.slice aa J.length c0_5), .int .i64 Q, (.slice ab K.length c0_7)] 32 (0, 0))) ∧ Aside0 (Below w.heap.size w w'))
    case atStart => exact ⟨(0), eq_, H', ⟨lr_ _⟩, ⟨vV_ HO_8.out⟩, ⟨vV_ HO_9.out⟩, ⟨vN_ HO_11.out⟩, ⟨vN_ HO_12.out⟩, ⟨vN_ HO_13.out⟩, ⟨bk_ n.out⟩, ⟨bel_⟩⟩
    clear H'
    try clear c1
    try clear q1
    try clear c2
    try clear p2
    try clear c3
    try clear c4
    try clear p4
    try clear q4
    try clear cv
    try clear c5
    try clear c5b0
    try clear c5b1
    try clear c6
    try clear c6b0
    try clear c6b1
    try clear p6
    try clear c7
    try clear c7b0
    try clear c8
    try clear c8b0
    try clear c12
    try clear al
    try clear c14
    try clear am
    try clear c15
    try clear c15b0
    try clear c17
    try clear c23
    try clear c23b0
    try clear c24
    try clear c24b0
    try clear c25
    try clear c25b0
    try clear c26
    try clear c28
    try clear c28b0
    try clear c29
    try clear c29b0
    try clear c30
    try clear c30b0
    try clear c31
    try clear c32
    try clear aM
    try clear a2
    try clear p2
    try clear p4
    try clear p484
    try clear p488
    try clear p6
    try clear aX
    try clear q1
    try clear al
    try clear am
    try clear q4
    try clear aK
    try clear a0
    obtain ⟨q, rfl, HA, a4, HO_8, HO_9, HO_11, HO_12, HO_13, n, HB⟩ := hrel
    cases gk with
    | zero => exact absurd HA.out (by simp [jigsawref22_Filter.l3])
    | succ k4 =>
     have H := HA.out
     clear HA
     simp only [jigsawref22_Filter.l3] at H
     by_cases c34 : q < (wrap64 (2 * (g.length : Int)))
     ·
      rw [ip_ c34] at H
      have c34b0 : decide (q < (wrap64 (2 * (g.length : Int)))) = true := dt_ c34
      clear c34
      by_cases c35 : 0 ≤ q
      rotate_left
      ·
       rw [ig_ c35] at H
       exact ab_ H
      rw [ip_ c35] at H
      have c35b0 : decide (0 ≤ q) = true := dt_ c35
      clear c35
      by_cases c36 : q < (x.length : Int)
      rotate_left
      ·
       rw [ig_ c36] at H
       exact ab_ H
      rw [ip_ c36] at H
      have c36b0 : decide (q < (x.length : Int)) = true := dt_ c36
      clear c36
      by_cases c37 : ((rd_L7 x q).length : Int) = 0
      ·
       rw [ip_ c37] at H
       have c37b0 : (((rd_L7 x q).length : Int) == 0) = true := beq_iff_eq.mpr c37
       have c37b1 : (((rd_L7 x q).length : Int) != 0) = false := bn_.mpr c37
       clear c37
       simp only [Option.some.injEq, Prod.mk.injEq] at H
       obtain ⟨rfl, rfl⟩ := H
       obtain ⟨cF, cG, b8⟩ := Kd.N_slice HO_13.out
       subst b8
       have p492 : 0 ≤ (q : Int) := dq_
       have ak : q < (x.length : Int) := dq_
       obtain ⟨bY, bM, c492_0, a9, aU, ac, aV⟩ := at_L7 (Kd.N_reads' HO_13.out).2.2 q p492 ak
       cases a9
       obtain ⟨ce492, hce492, hMe492, hcc492⟩ := Kd.N_get HO_13.out [] q p492 (by first | exact ak | exact dq_ | (have e_ := (Kd.N_reads' HO_13.out).1; omega))
       obtain ⟨ua492_0, uc492_0, rfl, ad, ae⟩ := Kd.FK_slice_open hMe492
       have B := hcc492 0 _ rfl
       rw [Nat.add_zero, show ((Kd.slice 3 (Kd.int .i64))).sz = 1 from rfl, Nat.mul_one] at B
       replace B := si_ (B.symm.trans aU)
       injection B with hva_ hvn_ hvc_
       rw [hva_] at ae
       rw [hvc_] at ad
       clear hva_ hvn_ hvc_ ae ad
       clear hcc492 hce492
       have bH := a_ ac
       clear aV ac
       replace p492 := et_ p492
       replace ak := et_ ak
       go_wp2
       go_ret2
       exact ⟨_, er_, by first | exact Kd.S_nil _ _ _ _ _ | exact Kd.N_nil _ _ _ _ _ | exact Kd.V_nil _ _ _ _ _ | exact Kd.Q_nil _ _ _ _ _ | exact Kd.R_nil _ _ _ _ _, bel_⟩
      rw [ig_ c37] at H
      have c37b0 : (((rd_L7 x q).length : Int) == 0) = false := be_.mpr c37
      have c37b1 : (((rd_L7 x q).length : Int) != 0) = true := ni_.mpr c37
      have c37b2 : ¬ ((rd_L7 x q) = []) := fun h_ => c37 (by rw [h_]; rfl)
      have H' := a_ H
      clear H
      obtain ⟨cH, cI, b9⟩ := Kd.N_slice HO_13.out
      subst b9
      have p492 : 0 ≤ (q : Int) := dq_
      have ak : q < (x.length : Int) := dq_
      obtain ⟨bY, bM, c492_0, a9, aU, ac, aV⟩ := at_L7 (Kd.N_reads' HO_13.out).2.2 q p492 ak
      cases a9
      obtain ⟨ce492, hce492, hMe492, hcc492⟩ := Kd.N_get HO_13.out [] q p492 (by first | exact ak | exact dq_ | (have e_ := (Kd.N_reads' HO_13.out).1; omega))
      obtain ⟨ua492_0, uc492_0, rfl, ad, ae⟩ := Kd.FK_slice_open hMe492
      have B := hcc492 0 _ rfl
      rw [Nat.add_zero, show ((Kd.slice 3 (Kd.int .i64))).sz = 1 from rfl, Nat.mul_one] at B
      replace B := si_ (B.symm.trans aU)
      injection B with hva_ hvn_ hvc_
      rw [hva_] at ae
      rw [hvc_] at ad
      clear hva_ hvn_ hvc_ ae ad
      clear hcc492 hce492
      have bH := a_ ac
      clear aV ac
      replace p492 := et_ p492
      replace ak := et_ ak
      go_wp2
      go_roundg k4
      case measure => have := au.out; have := aw.out; have := aW.out; have := a4.out; omega
      exact ⟨(wrap64 (q + 1)), eq_, H', ⟨by have := au.out; have := aw.out; have := aW.out; have := a4.out; omega⟩, ⟨vV_ HO_8.out⟩, ⟨vV_ HO_9.out⟩, ⟨vN_ HO_11.out⟩, ⟨vN_ HO_12.out⟩, ⟨vN_ HO_13.out⟩, ⟨bk_ n.out⟩, ⟨bel_⟩⟩
     rw [ig_ c34] at H
     have c34b0 : decide (q < (wrap64 (2 * (g.length : Int)))) = false := df_ c34
     clear c34
     replace H := bo_ H
     obtain ⟨ca, bN, H⟩ := H
     try dsimp only at H
     replace H := bo_ H
     obtain ⟨bO, bP, H⟩ := H
     try dsimp only at H
     by_cases c42 : ca = true
     rotate_left
     ·
      replace c42 := bf_.mpr c42
      subst c42
      have H1 : (jigsawref22_Filter.l0 k4 (g.length : Int) d p (wrap64 (A + 1))) = some (r1, r2) := by rw [ig_ (show ¬ (false = true) by decide)] at H; exact H
      clear H
      have H := H1
      clear H1
      have H' := a_ H
      clear H
      go_wp2_with (first | ((with_reducible refine gate_callee (f := 14) rfl ?_); refine goesL_ (some 81) rfl rfl Tryz.func14 kr_ rfl #[.slice ay y.length az, .slice r d.length o] rfl ar_ ?_; (with_reducible refine (jigsawref10_Same.calls k4 _ _ y _ _ d false _ ?_ ?_ ?_ ?_ bN.out).mono ?_); exact ca_ ((Kd.V_reads' HO_8.out).2.2); exact (Kd.V_reads' HO_8.out).2.1; exact ca_ ((Kd.N_reads' HO_11.out).2.2); exact (Kd.N_reads' HO_11.out).2.1; rintro e w' ⟨rfl, ⟨nd, rfl⟩⟩; refine ⟨_, rfl, ?_⟩; obtain ⟨ch, ci, cj⟩ := Kd.N_slice HO_12.out; subst cj) | ((with_reducible refine gate_callee (f := 14) rfl ?_); refine goesL_ (some 84) rfl rfl Tryz.func14 kr_ rfl #[.slice an v.length ao, .slice ch p.length ci] rfl ar_ ?_; (with_reducible refine (jigsawref10_Same.calls k4 _ _ v _ _ p bO _ ?_ ?_ ?_ ?_ bP.out).mono ?_); exact ca_ ((Kd.V_reads' HO_9.out).2.2); exact (Kd.V_reads' HO_9.out).2.1; exact ca_ ((Kd.N_reads' HO_12.out).2.2); exact (Kd.N_reads' HO_12.out).2.1; rintro e w' ⟨rfl, ⟨nd, rfl⟩⟩; refine ⟨_, rfl, ?_⟩))
      go_roundg k4
      case measure => have := au.out; have := aw.out; have := aW.out; have := a4.out; omega
      exact ⟨(d), (p), (wrap64 (A + 1)), eq_, H', ⟨by have := au.out; have := aw.out; have := aW.out; have := a4.out; omega⟩, ⟨Kd.N_V (by refine vN_ ?_; exact nm_ HO_11.out (fun _ hk => ⟨hk.1, hk.2.2.2⟩))⟩, ⟨Kd.N_V (by refine vN_ ?_; exact nm_ HO_12.out (fun _ hk => ⟨hk.1, hk.2.2.2⟩))⟩, ⟨bk_ n.out⟩, ⟨bel_⟩⟩
     subst c42
     rw [ip_ rfl] at H
     by_cases c43 : bO = true
     ·
      subst c43
      rw [ip_ rfl] at H
      simp only [Option.some.injEq, Prod.mk.injEq] at H
      obtain ⟨rfl, rfl⟩ := H
      go_wp2_with (first | ((with_reducible refine gate_callee (f := 14) rfl ?_); refine goesL_ (some 81) rfl rfl Tryz.func14 kr_ rfl #[.slice ay y.length az, .slice r d.length o] rfl ar_ ?_; (with_reducible refine (jigsawref10_Same.calls k4 _ _ y _ _ d true _ ?_ ?_ ?_ ?_ bN.out).mono ?_); exact ca_ ((Kd.V_reads' HO_8.out).2.2); exact (Kd.V_reads' HO_8.out).2.1; exact ca_ ((Kd.N_reads' HO_11.out).2.2); exact (Kd.N_reads' HO_11.out).2.1; rintro e w' ⟨rfl, ⟨nd, rfl⟩⟩; refine ⟨_, rfl, ?_⟩; obtain ⟨cb, cc, cd⟩ := Kd.N_slice HO_12.out; subst cd) | ((with_reducible refine gate_callee (f := 14) rfl ?_); refine goesL_ (some 84) rfl rfl Tryz.func14 kr_ rfl #[.slice an v.length ao, .slice cb p.length cc] rfl ar_ ?_; (with_reducible refine (jigsawref10_Same.calls k4 _ _ v _ _ p true _ ?_ ?_ ?_ ?_ bP.out).mono ?_); exact ca_ ((Kd.V_reads' HO_9.out).2.2); exact (Kd.V_reads' HO_9.out).2.1; exact ca_ ((Kd.N_reads' HO_12.out).2.2); exact (Kd.N_reads' HO_12.out).2.1; rintro e w' ⟨rfl, ⟨nd, rfl⟩⟩; refine ⟨_, rfl, ?_⟩))
      go_ret2
      exact ⟨_, er_, by refine vN_ ?_; exact nm_ HO_13.out (fun _ hk => hk.1), bel_⟩
     replace c43 := bf_.mpr c43
     subst c43
     have H1 : (jigsawref22_Filter.l0 k4 (g.length : Int) d p (wrap64 (A + 1))) = some (r1, r2) := by rw [ig_ (show ¬ (false = true) by decide)] at H; exact H
     clear H
     have H := H1
     clear H1
     have H' := a_ H
     clear H
     go_wp2_with (first | ((with_reducible refine gate_callee (f := 14) rfl ?_); refine goesL_ (some 81) rfl rfl Tryz.func14 kr_ rfl #[.slice ay y.length az, .slice r d.length o] rfl ar_ ?_; (with_reducible refine (jigsawref10_Same.calls k4 _ _ y _ _ d true _ ?_ ?_ ?_ ?_ bN.out).mono ?_); exact ca_ ((Kd.V_reads' HO_8.out).2.2); exact (Kd.V_reads' HO_8.out).2.1; exact ca_ ((Kd.N_reads' HO_11.out).2.2); exact (Kd.N_reads' HO_11.out).2.1; rintro e w' ⟨rfl, ⟨nd, rfl⟩⟩; refine ⟨_, rfl, ?_⟩; obtain ⟨ce, cf, cg⟩ := Kd.N_slice HO_12.out; subst cg) | ((with_reducible refine gate_callee (f := 14) rfl ?_); refine goesL_ (some 84) rfl rfl Tryz.func14 kr_ rfl #[.slice an v.length ao, .slice ce p.length cf] rfl ar_ ?_; (with_reducible refine (jigsawref10_Same.calls k4 _ _ v _ _ p false _ ?_ ?_ ?_ ?_ bP.out).mono ?_); exact ca_ ((Kd.V_reads' HO_9.out).2.2); exact (Kd.V_reads' HO_9.out).2.1; exact ca_ ((Kd.N_reads' HO_12.out).2.2); exact (Kd.N_reads' HO_12.out).2.1; rintro e w' ⟨rfl, ⟨nd, rfl⟩⟩; refine ⟨_, rfl, ?_⟩))
     go_roundg k4
     case measure => have := au.out; have := aw.out; have := aW.out; have := a4.out; omega
     exact ⟨(d), (p), (wrap64 (A + 1)), eq_, H', ⟨by have := au.out; have := aw.out; have := aW.out; have := a4.out; omega⟩, ⟨Kd.N_V (by refine vN_ ?_; exact nm_ HO_11.out (fun _ hk => ⟨hk.1, hk.2.2.2⟩))⟩, ⟨Kd.N_V (by refine vN_ ?_; exact nm_ HO_12.out (fun _ hk => ⟨hk.1, hk.2.2.2⟩))⟩, ⟨bk_ n.out⟩, ⟨bel_⟩⟩

end Go.Proofs.YtfbfalhdgmjdpaaGreatDoor.XInverseFilters
