-- by xprint.py, a program of this session, over the kit's print
import Derived.Test.YtfbfalhdgmjdpaaGreatDoorXITux0
import Derived.Test.YtfbfalhdgmjdpaaGreatDoorXITux6
import Derived.Test.YtfbfalhdgmjdpaaGreatDoorXITux8
import Derived.Test.YtfbfalhdgmjdpaaGreatDoorXITux9
import Derived.Test.YtfbfalhdgmjdpaaGreatDoorXITux11
import Derived.Test.YtfbfalhdgmjdpaaGreatDoorSq
namespace Go.Proofs.YtfbfalhdgmjdpaaGreatDoor.XInverseTurns
open Go.RowKit Go.Proofs.YtfbfalhdgmjdpaaGreatDoor.Sq Go.Proofs.YtfbfalhdgmjdpaaGreatDoorW.PrintWords Go.Proofs.YtfbfalhdgmjdpaaGreatDoorW.PrintLast Go.Proofs.YtfbfalhdgmjdpaaGreatDoorW.PrintMore
attribute [local go_sem] max2_int min2_int max_two min_two max_three min_three max_four min_four   -- for this text's walks alone
set_option linter.unusedVariables false
set_option linter.unusedSimpArgs false

/-! ### inverse_side: function 30 -/
/-- A window of a list: what stands from a place on. -/
def Win {α : Type} (D : List α) (o : Nat) (l : List α) : Prop := ∀ i, i < l.length → D[o + i]? = l[i]?
/-- A list whose one window is turned, the other one and all else not. -/
def IW {α : Type} (D Dc : List α) (o1 o2 n : Nat) (x l1 : List α) : Prop := x.length = n ∧ Dc.length = D.length ∧ Win Dc o1 x ∧ Win Dc o2 l1 ∧ ∀ j, ¬ (o1 ≤ j ∧ j < o1 + n) → Dc[j]? = D[j]?
theorem iw_set {α : Type} {D Dc : List α} {o1 o2 n : Nat} {x l1 : List α} (h : IW D Dc o1 o2 n x l1) (hd : o1 + n ≤ o2 ∨ o2 + l1.length ≤ o1) (i : Nat) (hi : i < n) (a : α) : IW D (Dc.set (o1 + i) a) o1 o2 n (x.set i a) l1 := by
 obtain ⟨h1, h2, h3, h4, h5⟩ := h
 have hb : o1 + i < Dc.length := by
  have := h3 i (by omega)
  rw [List.getElem?_eq_getElem (show i < x.length by omega)] at this
  exact (List.getElem?_eq_some_iff.1 this).1
 refine ⟨by rw [List.length_set]; exact h1, by rw [List.length_set]; exact h2, fun j hj => ?_, fun j hj => ?_, fun j hj => ?_⟩
 ·
  rw [List.length_set] at hj
  by_cases e : j = i
  ·
   subst e
   rw [List.getElem?_set_self hb, List.getElem?_set_self (by omega)]
  rw [List.getElem?_set_ne (by omega), List.getElem?_set_ne (by omega)]
  exact h3 j hj
 ·
  rw [List.getElem?_set_ne (by omega)]
  exact h4 j hj
 rw [List.getElem?_set_ne (by omega)]
 exact h5 j hj
theorem win_get {α : Type} {D l : List α} {o : Nat} (hw : Win D o l) (z : α) {i : Nat} (hi : i < l.length) : o + i < D.length ∧ D.getD (o + i) z = l.getD i z := by
 have := hw i hi
 have h2 : D[o + i]? = some l[i] := this.trans (List.getElem?_eq_getElem hi)
 refine ⟨(List.getElem?_eq_some_iff.1 h2).1, ?_⟩
 rw [List.getD_eq_getElem?_getD, List.getD_eq_getElem?_getD, this]
theorem N_elem_win {α : Type} {d : Kd α} {e : Nat} {W : World} {base : Nat} {ok : Nat → Prop} {g n cap : Nat} {D l : List α} {o q : Nat} (h : Kd.N d e W base ok (.slice (some ⟨g, 0, none⟩) n cap) D) (hw : Win D o l) (z : α) (i : Int) (h0 : 0 ≤ i) (h1 : i < (l.length : Int)) (hq : q = o * d.sz) :
  ∃ c, c.length = d.sz ∧ Kd.FK d W (fun k => ok k ∧ k ≠ g) (l.getD i.toNat z) c ∧ (∀ j u, c[j]? = some u → W.cell? ⟨g, q + i.toNat * d.sz + j, none⟩ = some u) ∧ ∀ j, W.frozen? ⟨g, q + i.toNat * d.sz + j, none⟩ = false := by
 obtain ⟨hb, he⟩ := win_get hw z (show i.toNat < l.length by omega)
 have hn := (Kd.N_reads' h).1
 obtain ⟨c, hcl, hM, hcc, hfr⟩ := Kd.N_elem h z ((o + i.toNat : Nat) : Int) (by omega) (by omega)
 have e1 : (((o + i.toNat : Nat) : Int)).toNat = o + i.toNat := by omega
 have e2 : (o + i.toNat) * d.sz = q + i.toNat * d.sz := by rw [Nat.add_mul, hq]
 rw [e1, he] at hM
 rw [e1, e2] at hcc hfr
 exact ⟨c, hcl, hM, hcc, hfr⟩
theorem N_seg_win {α : Type} {d : Kd α} {e : Nat} {W : World} {base : Nat} {ok okp : Nat → Prop} {g n cap : Nat} {D l : List α} {o q : Nat} (h : Kd.N d e W base ok (.slice (some ⟨g, 0, none⟩) n cap) D) (hw : Win D o l) (i : Int) (h0 : 0 ≤ i) (h1 : i < (l.length : Int)) (hq : q = o * d.sz) {c seg : List Value} {j : Nat} (hcl : c.length = d.sz) (hcc : ∀ j u, c[j]? = some u → W.cell? ⟨g, q + i.toNat * d.sz + j, none⟩ = some u)
  (hj : j + seg.length ≤ d.sz) {x' : α} (hM : Kd.FK d W okp x' (c.take j ++ seg ++ c.drop (j + seg.length))) (hokp : ∀ k, okp k → ok k ∧ k ≠ g) :
  Kd.N d e (W.setCells g (q + i.toNat * d.sz + j) seg) base ok (.slice (some ⟨g, 0, none⟩) n cap) (D.set (o + i.toNat) x') ∧ W.grownBy (W.setCells g (q + i.toNat * d.sz + j) seg) (some g) := by
 obtain ⟨hb, he⟩ := win_get hw x' (show i.toNat < l.length by omega)
 have hn := (Kd.N_reads' h).1
 have e1 : (((o + i.toNat : Nat) : Int)).toNat = o + i.toNat := by omega
 have e2 : (o + i.toNat) * d.sz = q + i.toNat * d.sz := by rw [Nat.add_mul, hq]
 have := Kd.N_seg h ((o + i.toNat : Nat) : Int) (by omega) (by omega) (c := c) (seg := seg) (j := j) (x' := x') (okp := okp) hcl (by rw [e1, e2]; exact hcc) hj hM hokp
 rw [e1, e2] at this
 exact this
mutual
def inverse_side.l0 : Nat → List (S58) → Bool → List (S58) → List (S58) → Int → Int → Option ((List (S58)) × Bool × Bool)
 | 0, _, _, _, _, _, _ => none
 | k + 1, l, g, b, d, e, a => if a < e then (if 0 ≤ a then (if a < (d.length : Int) then ((dom_Dom_List.f k ((rd_T58 b a).f0) ((rd_T58 b a).f1) ((rd_T58 b a).f2) ((rd_T58 b a).f3) ((rd_T58 b a).f4)).bind fun c => (inverse_side.l1 k l g a ([] : List Int) b d e a c (c.length : Int) 0 ((rd_T58 b a).f0) ((rd_T58 b a).f1) ((rd_T58 b a).f2) ((rd_T58 b a).f3) ((rd_T58 b a).f4))) else (none)) else (none)) else (some (b, g, true))
def inverse_side.l1 : Nat → List (S58) → Bool → Int → List Int → List (S58) → List (S58) → Int → Int → List Int → Int → Int → Int → List Int → Int → Int → Int → Option ((List (S58)) × Bool × Bool)
 | 0, _, _, _, _, _, _, _, _, _, _, _, _, _, _, _, _ => none
 | k + 1, n, v, s, t, o, p, q, r, b, u, a, c, d, e, g, l => if a < u then (if 0 ≤ a then (if a < (b.length : Int) then (if (rd b a) ≥ 1 then (if (rd b a) ≤ (n.length : Int) then (if 0 ≤ (wrap64 ((rd b a) - 1)) then (if (wrap64 ((rd b a) - 1)) < (n.length : Int) then ((dom_Dom_Has.f ((rd_T58 n (wrap64 ((rd b a) - 1))).f0) ((rd_T58 n (wrap64 ((rd b a) - 1))).f1) ((rd_T58 n (wrap64 ((rd b a) - 1))).f2) ((rd_T58 n (wrap64 ((rd b a) - 1))).f3) ((rd_T58 n (wrap64 ((rd b a) - 1))).f4) (wrap64 (s + 1))).bind fun x => (if x = true then (if t.length < 17592186044416 then (inverse_side.l1 k n v s (t ++ [rd b a]) o p q r b u (wrap64 (a + 1)) c d e g l) else (none)) else (inverse_side.l1 k n v s t o p q r b u (wrap64 (a + 1)) c d e g l))) else (none)) else (none)) else (inverse_side.l1 k n v s t o p q r b u (wrap64 (a + 1)) c d e g l)) else (inverse_side.l1 k n v s t o p q r b u (wrap64 (a + 1)) c d e g l)) else (none)) else (none)) else (if (t.length : Int) = 0 then (some (o, false, false)) else ((dom_Dom_Size.f c d e g l).bind fun y => (if (t.length : Int) < y then ((dom_Of.f k t).bind fun m => (if 0 ≤ s then (if s < (o.length : Int) then (inverse_side.l0 k n true (o.set (s : Int).toNat (⟨m.1, m.2.1, m.2.2.1, m.2.2.2.1, m.2.2.2.2.1⟩ : S58)) p q (wrap64 (r + 1))) else (none)) else (none))) else (inverse_side.l0 k n v o p q (wrap64 (r + 1))))))
end
def inverse_side.f (k : Nat) (a : List (S58)) (b : List (S58)) : Option ((List (S58)) × Bool × Bool) := inverse_side.l0 k b false a a (a.length : Int) 0
theorem inverse_side.mono_l : ∀ k, (∀ a b c d e f, LeO (inverse_side.l0 k a b c d e f) (inverse_side.l0 (k + 1) a b c d e f)) ∧ (∀ a b c d e f q s t u g l m n o p, LeO (inverse_side.l1 k a b c d e f q s t u g l m n o p) (inverse_side.l1 (k + 1) a b c d e f q s t u g l m n o p))
 | 0 => by refine ⟨?_, ?_⟩ <;> (intros; exact LeO.none _)
 | k + 1 => by
  obtain ⟨ih0, ih1⟩ := inverse_side.mono_l k
  have m0 := @dom_Dom_List.mono
  have m1 := @dom_Of.mono
  refine ⟨?_, ?_⟩ <;> intros
  all_goals first | unfold inverse_side.l0 | unfold inverse_side.l1
  all_goals exact leo_
theorem inverse_side.mono : ∀ a b k, LeO (inverse_side.f k a b) (inverse_side.f (k + 1) a b) := by
 intro a b k
 obtain ⟨ih0, ih1⟩ := inverse_side.mono_l k
 unfold inverse_side.f
 have m0 := @dom_Dom_List.mono
 have m1 := @dom_Of.mono
 exact leo_
set_option maxHeartbeats 8000000 in
set_option maxRecDepth 100000 in
theorem inverse_side.calls (k : Nat) (P0_ : Nat → Prop) (g m cap o1 E c0 o2 q2 c1 : Nat) (D z u : List (S58)) (r1 : List (S58)) (r2 : Bool) (r3 : Bool) (w wq : World) (hO : Kd.N k58 58 wq w.heap.size (fun l => (P0_ l ∨ w.heap.size ≤ l)) (.slice (some ⟨g, 0, none⟩) m cap) D) (hq1 : E = o1 * 5) (hq2 : q2 = o2 * 5) (a4 : Win D o1 z) (a5 : Win D o2 u) (hdis : o1 + z.length ≤ o2 ∨ o2 + u.length ≤ o1) (hB0 : Below w.heap.size w wq) (hrtab : Kd.C (Kd.int .u8) w (some ⟨0, 0, none⟩) tabL.length tabL) (h : inverse_side.f k z u = some (r1, r2, r3)) :
  Calls Tryz.prog 30 #[.slice (some ⟨g, E, none⟩) z.length c0, .slice (some ⟨g, q2, none⟩) u.length c1] wq fun e w' => e = .returned (.tuple #[.bool r2, .bool r3]) ∧ (∃ Dc : List (S58), Kd.N k58 58 w' w.heap.size (fun l => (P0_ l ∨ w.heap.size ≤ l)) (.slice (some ⟨g, 0, none⟩) m cap) Dc ∧ IW D Dc o1 o2 z.length r1 u) ∧ Below w.heap.size w w' := by
 have hu58 := Tryz.underlying58
 have bd := a_ hO
 clear hO
 have HQ1 := a_ hq1
 have HQ2 := a_ hq2
 clear hq1 hq2
 have HD := a_ hdis
 clear hdis
 have HW0 : IW D D o1 o2 z.length z u := ⟨rfl, rfl, a4, a5, fun _ _ => rfl⟩
 have HRtab := a_ hrtab
 clear hrtab
 have HB := a_ hB0
 have H' := a_ (show inverse_side.l0 k u false z z (z.length : Int) 0 = some (r1, r2, r3) from h)
 clear h hB0 a4 a5
 go_enter Tryz.func30, Tryz.ntmps30
 go_wp2
 go_loopg [6, 14] k (fun kq v6 be w' => ∃ (I : Bool) (c : List (S58)) (a : Int) (Dc : List (S58)), v6 = .bool I ∧ be = .int .i64 a ∧ Aside0 (inverse_side.l0 kq u I c z (z.length : Int) a = some (r1, r2, r3)) ∧ Aside0 (kq ≤ k) ∧ Aside0 (Kd.N k58 58 w' w.heap.size (fun l => (P0_ l ∨ w.heap.size ≤ l)) (.slice (some ⟨g, 0, none⟩) m cap) Dc) ∧ Aside0 (IW D Dc o1 o2 z.length c u) ∧ Aside0 (Below w.heap.size w w'))
 case atStart => exact ⟨(false), (z), (0), (D), eq_, eq_, H', ⟨lr_ _⟩, ⟨vN_ bd.out⟩, ⟨HW0⟩, ⟨bel_⟩⟩
 clear H'
 try clear c1
 try clear c2
 try clear p2
 try clear c3
 obtain ⟨I, c, a, Dc, rfl, rfl, HA, K, HO_10, HW, HB⟩ := hrel
 cases gk with
 | zero => exact absurd HA.out (by simp [inverse_side.l0])
 | succ k1 =>
  have H := HA.out
  clear HA
  simp only [inverse_side.l0] at H
  by_cases c5 : a < (z.length : Int)
  rotate_left
  ·
   rw [ig_ c5] at H
   have c5b0 : decide (a < (z.length : Int)) = false := df_ c5
   clear c5
   simp only [Option.some.injEq, Prod.mk.injEq] at H
   obtain ⟨rfl, rfl, rfl⟩ := H
   go_wp2
   go_ret2
   exact ⟨er_, ⟨Dc, vN_ HO_10.out, HW.out⟩, bel_⟩
  rw [ip_ c5] at H
  have c5b0 : decide (a < (z.length : Int)) = true := dt_ c5
  clear c5
  by_cases c6 : 0 ≤ a
  rotate_left
  ·
   rw [ig_ c6] at H
   exact ab_ H
  rw [ip_ c6] at H
  have c6b0 : decide (0 ≤ a) = true := dt_ c6
  clear c6
  by_cases c7 : a < (z.length : Int)
  rotate_left
  ·
   rw [ig_ c7] at H
   exact ab_ H
  rw [ip_ c7] at H
  have c7b0 : decide (a < (z.length : Int)) = true := dt_ c7
  clear c7
  replace H := bo_ H
  obtain ⟨q, A8, H⟩ := H
  try dsimp only at H
  have H' := a_ H
  clear H
  have p235 : 0 ≤ (a : Int) := dq_
  have au : a < (z.length : Int) := dq_
  obtain ⟨ce235, hcl235, hM235, hcc235, hfr235⟩ := N_elem_win HO_10.out HW.out.2.2.1 z58 (a) p235 (by rw [HW.out.1]; exact au) HQ1.out
  obtain ⟨y, c235_1, rfl, ae, ao⟩ := k58_openF hM235
  have az : wr.cell? ⟨g, E + (a).toNat * 5, none⟩ = some (.int .i64 ((rd_T58 c a).f0)) := hcc235 0 _ rfl
  have aA : wr.cell? ⟨g, E + (a).toNat * 5 + 1, none⟩ = some (.slice y ((rd_T58 c a).f1).length c235_1) := hcc235 1 _ rfl
  have aC : wr.cell? ⟨g, E + (a).toNat * 5 + 2, none⟩ = some (.int .i64 ((rd_T58 c a).f2)) := hcc235 2 _ rfl
  have aD : wr.cell? ⟨g, E + (a).toNat * 5 + 3, none⟩ = some (.int .i64 ((rd_T58 c a).f3)) := hcc235 3 _ rfl
  have aE : wr.cell? ⟨g, E + (a).toNat * 5 + 4, none⟩ = some (.int .i64 ((rd_T58 c a).f4)) := hcc235 4 _ rfl
  have af := a_ ae
  have HL235_1 := a_ (show Kd.V (Kd.int .u64) 83 wr w.heap.size (fun l => (P0_ l ∨ w.heap.size ≤ l) ∧ some l ≠ (.slice (some ⟨g, 0, none⟩) m cap : Value).ownBlock) (.slice y ((rd_T58 c a).f1).length c235_1) ((rd_T58 c a).f1) from vm_ (Kd.V_mk ae ao) (fun l hk => ⟨hk.1, fun e_ => hk.2 (si_ e_)⟩))
  have HO_12 := HL235_1
  clear hcl235 hM235 hcc235 hfr235 ae ao
  replace p235 := et_ p235
  replace au := et_ au
  go_wp2_with (first | ((with_reducible refine gate_dst (N := 8) rfl ?_); (try (refine gate_guard (by rfl) ?_; dsimp only)); refine bxe_ (N := 8) (cs := #[.int .i64 0, .slice none 0 0, .int .i64 0, .int .i64 0, .int .i64 0]) (t := 58) ?_; intro x hg w9 hbox hb; replace HO_10 := a_ (Kd.N_below (Kd.N_elderB (vN_ HO_10.out) x (Nat.le_of_eq hg.symm)) hb); replace HO_12 := a_ (vb_ (Kd.V_elderB (vV_ HO_12.out) x (Nat.le_of_eq hg.symm)) hb); replace HL235_1 := a_ (vb_ (Kd.V_elderB (vV_ HL235_1.out) x (Nat.le_of_eq hg.symm)) hb); have s := a_ (hbox); have aZ := a_ (by rw [hg]; exact (bz_ bel_) : w.heap.size ≤ x); have bq := aZ; replace HB := hq_ hb; clear hb hbox hg; obtain ⟨_, _, _, _, _, _, _, _, _, _⟩ := cel5_ s.out) | ((with_reducible refine gate_callee (f := 22) rfl ?_); refine goesL_ (some 20) rfl rfl Tryz.func22 kr_ rfl #[.agg #[.int .i64 ((rd_T58 c a).f0), .slice y ((rd_T58 c a).f1).length c235_1, .int .i64 ((rd_T58 c a).f2), .int .i64 ((rd_T58 c a).f3), .int .i64 ((rd_T58 c a).f4)]] rfl ar_ ?_; (with_reducible refine (dom_Dom_List.calls k1 ((rd_T58 c a).f0) _ _ ((rd_T58 c a).f1) ((rd_T58 c a).f2) ((rd_T58 c a).f3) ((rd_T58 c a).f4) q _ ?side1 ?side2 ?side3 A8.out).mono ?_); (case side1 => repeat (first | exact ((Kd.V_reads' (by refine vV_ ?_; exact (vm_ (fV_ (fV_ (fV_ (fV_ (fV_ (vm_ HL235_1.out (fun l hk => (⟨hk, hk.2⟩ : _ ∧ l ≠ x)))))))) (fun _ h_ => h_.1)))).2.2) | (with_reducible refine Kd.C_alloc ?_ _) | (with_reducible refine Kd.C_drewN ?_ _) | (with_reducible refine Kd.C_drew ?_))); (case side2 => exact af.out); (case side3 => exact cb_ HRtab.out bel_); rintro e w11 ⟨bu, rfl, al, hb⟩; refine ⟨_, rfl, ?_⟩; replace HO_10 := a_ (Kd.N_elder' (by refine vN_ ?_; exact (nm_ (fN_ (fN_ (fN_ (fN_ (fN_ (nm_ HO_10.out (fun l hk => (⟨hk, hk.2⟩ : _ ∧ l ≠ x)))))))) (fun _ h_ => h_.1))) (rs_ al) hb); replace HO_12 := a_ (Kd.V_elder' (by refine vV_ ?_; exact (vm_ (fV_ (fV_ (fV_ (fV_ (fV_ (vm_ HO_12.out (fun l hk => (⟨hk, hk.2⟩ : _ ∧ l ≠ x)))))))) (fun _ h_ => h_.1))) (rs_ al) hb); have ax := a_ (Kd.R_lower (Kd.R_newM (M := fun l => (w.heap.size ≤ l)) al (bz_ bel_) (fun l h_ => h_)) (bz_ bel_)); replace s := a_ (bb_ (g := x) (o := .cells #[.int .i64 ((rd_T58 c a).f0), .slice y ((rd_T58 c a).f1).length c235_1, .int .i64 ((rd_T58 c a).f2), .int .i64 ((rd_T58 c a).f3), .int .i64 ((rd_T58 c a).f4)] 58 (0, 0)) (by refine bk_ ?_; refine bu_ (cs := #[.int .i64 ((rd_T58 c a).f0), .slice y ((rd_T58 c a).f1).length c235_1, .int .i64 ((rd_T58 c a).f2), .int .i64 ((rd_T58 c a).f3), .int .i64 0]) ?_ 4 _ rfl; refine bk_ ?_; refine bu_ (cs := #[.int .i64 ((rd_T58 c a).f0), .slice y ((rd_T58 c a).f1).length c235_1, .int .i64 ((rd_T58 c a).f2), .int .i64 0, .int .i64 0]) ?_ 3 _ rfl; refine bk_ ?_; refine bu_ (cs := #[.int .i64 ((rd_T58 c a).f0), .slice y ((rd_T58 c a).f1).length c235_1, .int .i64 0, .int .i64 0, .int .i64 0]) ?_ 2 _ rfl; refine bk_ ?_; refine bu_ (cs := #[.int .i64 ((rd_T58 c a).f0), .slice none 0 0, .int .i64 0, .int .i64 0, .int .i64 0]) ?_ 1 _ rfl; refine bk_ ?_; refine bu_ (cs := #[.int .i64 0, .slice none 0 0, .int .i64 0, .int .i64 0, .int .i64 0]) ?_ 0 _ rfl; refine bk_ ?_; exact s.out) hb); replace HB := hq_ hb; clear hb al; obtain ⟨J, B, a8⟩ := Kd.R_slice ax.out; subst a8))
  go_loopg [9, 22] k1 (fun kq v9 bf w' => ∃ (r : List Int) (d : Int), bf = .int .i64 d ∧ Aside0 (inverse_side.l1 kq u I a r c z (z.length : Int) a q (q.length : Int) d ((rd_T58 c a).f0) ((rd_T58 c a).f1) ((rd_T58 c a).f2) ((rd_T58 c a).f3) ((rd_T58 c a).f4) = some (r1, r2, r3)) ∧ Aside0 (kq ≤ k1) ∧ Aside0 (Kd.R (Kd.int .i64) 3 w' w.heap.size (fun l => (w.heap.size ≤ l) ∧ some l ≠ ((.slice J q.length B) : Value).ownBlock) v9 r) ∧ Aside0 (Kd.N k58 58 w' w.heap.size (fun l => (P0_ l ∨ w.heap.size ≤ l) ∧ some l ≠ v9.ownBlock ∧ some l ≠ ((.slice J q.length B) : Value).ownBlock ∧ l ≠ x) (.slice (some ⟨g, 0, none⟩) m cap) Dc) ∧ Aside0 (Kd.V (Kd.int .u64) 83 w' w.heap.size (fun l => (P0_ l ∨ w.heap.size ≤ l) ∧ some l ≠ v9.ownBlock ∧ some l ≠ (.slice (some ⟨g, 0, none⟩) m cap : Value).ownBlock ∧ some l ≠ ((.slice J q.length B) : Value).ownBlock ∧ l ≠ x) (.slice y ((rd_T58 c a).f1).length c235_1) ((rd_T58 c a).f1)) ∧ Aside0 (Kd.R (Kd.int .i64) 3 w' w.heap.size (fun l => (w.heap.size ≤ l) ∧ some l ≠ v9.ownBlock) (.slice J q.length B) q) ∧ Aside0 (w'.heap[x]? = some (.cells #[.int .i64 ((rd_T58 c a).f0), (.slice y ((rd_T58 c a).f1).length c235_1), .int .i64 ((rd_T58 c a).f2), .int .i64 ((rd_T58 c a).f3), .int .i64 ((rd_T58 c a).f4)] 58 (0, 0))) ∧ Aside0 (Below w.heap.size w w'))
  case atStart => exact ⟨(([] : List Int)), (0), eq_, H', ⟨lr_ _⟩, ⟨nil_⟩, ⟨by refine vN_ ?_; exact nm_ HO_10.out (fun _ hk => ⟨hk.1.1, ⟨(by simp [Value.ownBlock]), ⟨hk.2, hk.1.2⟩⟩⟩)⟩, ⟨by refine vV_ ?_; exact vm_ HO_12.out (fun _ hk => ⟨hk.1.1.1, ⟨(by simp [Value.ownBlock]), ⟨hk.1.1.2, ⟨hk.2, hk.1.2⟩⟩⟩⟩)⟩, ⟨by refine vR_ ?_; exact rm_ ax.out (fun _ hk => ⟨hk.1, (by simp [Value.ownBlock])⟩)⟩, ⟨bk_ s.out⟩, ⟨bel_⟩⟩
  clear H'
  try clear c1
  try clear c2
  try clear p2
  try clear q2
  try clear bC
  try clear c3
  try clear c5
  try clear c5b0
  try clear c6
  try clear c6b0
  try clear c7
  try clear c7b0
  try clear az
  try clear aA
  try clear aC
  try clear aD
  try clear aE
  try clear p2
  try clear p235
  try clear au
  obtain ⟨r, d, rfl, HA, O, HO_9, HO_10, HO_12, HO_20, s, HB⟩ := hrel
  cases gk with
  | zero => exact absurd HA.out (by simp [inverse_side.l1])
  | succ k2 =>
   have H := HA.out
   clear HA
   simp only [inverse_side.l1] at H
   by_cases c13 : d < (q.length : Int)
   ·
    rw [ip_ c13] at H
    have c13b0 : decide (d < (q.length : Int)) = true := dt_ c13
    clear c13
    by_cases c14 : 0 ≤ d
    rotate_left
    ·
     rw [ig_ c14] at H
     exact ab_ H
    rw [ip_ c14] at H
    have c14b0 : decide (0 ≤ d) = true := dt_ c14
    clear c14
    by_cases c15 : d < (q.length : Int)
    rotate_left
    ·
     rw [ig_ c15] at H
     exact ab_ H
    rw [ip_ c15] at H
    have c15b0 : decide (d < (q.length : Int)) = true := dt_ c15
    clear c15
    by_cases c16 : (rd q d) ≥ 1
    rotate_left
    ·
     rw [ig_ c16] at H
     have c16b0 : decide (1 ≤ (rd q d)) = false := df_ c16
     clear c16
     have H' := a_ H
     clear H
     have p240 : 0 ≤ (d : Int) := dq_
     have A : d < (q.length : Int) := dq_
     obtain ⟨Y, Z, ag⟩ := ai_ (rr_ HO_20.out).2.2 d p240 A
     cases Z
     replace p240 := et_ p240
     replace A := et_ A
     go_wp2
     go_roundg k2
     case measure => have := K.out; have := O.out; omega
     exact ⟨(r), (wrap64 (d + 1)), eq_, H', ⟨by have := K.out; have := O.out; omega⟩, ⟨vR_ HO_9.out⟩, ⟨vN_ HO_10.out⟩, ⟨vV_ HO_12.out⟩, ⟨vR_ HO_20.out⟩, ⟨bk_ s.out⟩, ⟨bel_⟩⟩
    rw [ip_ c16] at H
    have c16b0 : decide (1 ≤ (rd q d)) = true := dt_ c16
    clear c16
    by_cases c17 : (rd q d) ≤ (u.length : Int)
    rotate_left
    ·
     rw [ig_ c17] at H
     have c17b0 : decide ((rd q d) ≤ (u.length : Int)) = false := df_ c17
     clear c17
     have H' := a_ H
     clear H
     have p240 : 0 ≤ (d : Int) := dq_
     have A : d < (q.length : Int) := dq_
     obtain ⟨Y, Z, ag⟩ := ai_ (rr_ HO_20.out).2.2 d p240 A
     cases Z
     replace p240 := et_ p240
     replace A := et_ A
     go_wp2
     go_roundg k2
     case measure => have := K.out; have := O.out; omega
     exact ⟨(r), (wrap64 (d + 1)), eq_, H', ⟨by have := K.out; have := O.out; omega⟩, ⟨vR_ HO_9.out⟩, ⟨vN_ HO_10.out⟩, ⟨vV_ HO_12.out⟩, ⟨vR_ HO_20.out⟩, ⟨bk_ s.out⟩, ⟨bel_⟩⟩
    rw [ip_ c17] at H
    have c17b0 : decide ((rd q d) ≤ (u.length : Int)) = true := dt_ c17
    clear c17
    obtain ⟨n, av⟩ : ∃ j_ : Int, (wrap64 ((rd q d) - 1)) = j_ := ⟨_, rfl⟩
    replace H : (if 0 ≤ (n) then (if (n) < (u.length : Int) then ((dom_Dom_Has.f ((rd_T58 u (n)).f0) ((rd_T58 u (n)).f1) ((rd_T58 u (n)).f2) ((rd_T58 u (n)).f3) ((rd_T58 u (n)).f4) (wrap64 (a + 1))).bind fun aw => (if aw = true then (if r.length < 17592186044416 then (inverse_side.l1 k2 u I a (r ++ [rd q d]) c z (z.length : Int) a q (q.length : Int) (wrap64 (d + 1)) ((rd_T58 c a).f0) ((rd_T58 c a).f1) ((rd_T58 c a).f2) ((rd_T58 c a).f3) ((rd_T58 c a).f4)) else (none)) else (inverse_side.l1 k2 u I a r c z (z.length : Int) a q (q.length : Int) (wrap64 (d + 1)) ((rd_T58 c a).f0) ((rd_T58 c a).f1) ((rd_T58 c a).f2) ((rd_T58 c a).f3) ((rd_T58 c a).f4)))) else (none)) else (none)) = some (r1, r2, r3) := by first | (rw [av] at H; exact H) | (simp only [av] at H ⊢; exact H)
    have hji18w : (IntKind.i64.wrap ((rd q d) - 1)) = n := (i64_w _).trans av
    by_cases c19 : 0 ≤ (n)
    rotate_left
    ·
     rw [ig_ c19] at H
     exact ab_ H
    rw [ip_ c19] at H
    have c19b0 : decide (0 ≤ (n)) = true := dt_ c19
    clear c19
    by_cases c20 : (n) < (u.length : Int)
    rotate_left
    ·
     rw [ig_ c20] at H
     exact ab_ H
    rw [ip_ c20] at H
    have c20b0 : decide ((n) < (u.length : Int)) = true := dt_ c20
    clear c20
    replace H := bo_ H
    obtain ⟨aw, a6, H⟩ := H
    try dsimp only at H
    by_cases c22 : aw = true
    rotate_left
    ·
     replace c22 := bf_.mpr c22
     subst c22
     have H1 : (inverse_side.l1 k2 u I a r c z (z.length : Int) a q (q.length : Int) (wrap64 (d + 1)) ((rd_T58 c a).f0) ((rd_T58 c a).f1) ((rd_T58 c a).f2) ((rd_T58 c a).f3) ((rd_T58 c a).f4)) = some (r1, r2, r3) := by rw [ig_ (show ¬ (false = true) by decide)] at H; exact H
     clear H
     have H := H1
     clear H1
     have H' := a_ H
     clear H
     have p240 : 0 ≤ (d : Int) := dq_
     have A : d < (q.length : Int) := dq_
     obtain ⟨Y, Z, ag⟩ := ai_ (rr_ HO_20.out).2.2 d p240 A
     cases Z
     replace p240 := et_ p240
     replace A := et_ A
     have p241 : 0 ≤ ((n) : Int) := dq_
     have aa : (n) < (u.length : Int) := dq_
     obtain ⟨ce241, hcl241, hM241, hcc241, hfr241⟩ := N_elem_win HO_10.out HW.out.2.2.2.1 z58 (n) p241 aa HQ2.out
     obtain ⟨am, c241_1, rfl, F, G⟩ := k58_openF hM241
     have aG : wr.cell? ⟨g, q2 + (n).toNat * 5, none⟩ = some (.int .i64 ((rd_T58 u n).f0)) := hcc241 0 _ rfl
     have aH : wr.cell? ⟨g, q2 + (n).toNat * 5 + 1, none⟩ = some (.slice am ((rd_T58 u n).f1).length c241_1) := hcc241 1 _ rfl
     have aI : wr.cell? ⟨g, q2 + (n).toNat * 5 + 2, none⟩ = some (.int .i64 ((rd_T58 u n).f2)) := hcc241 2 _ rfl
     have aJ : wr.cell? ⟨g, q2 + (n).toNat * 5 + 3, none⟩ = some (.int .i64 ((rd_T58 u n).f3)) := hcc241 3 _ rfl
     have aK : wr.cell? ⟨g, q2 + (n).toNat * 5 + 4, none⟩ = some (.int .i64 ((rd_T58 u n).f4)) := hcc241 4 _ rfl
     have ah := a_ (Kd.F_now G)
     have ai := a_ F
     clear hcl241 hM241 hcc241 hfr241 F G
     replace p241 := et_ p241
     replace aa := et_ aa
     go_wp2_with (first | (go_at_call 24; (with_reducible refine (dom_Dom_Has.calls ((rd_T58 u (n)).f0) _ _ ((rd_T58 u (n)).f1) ((rd_T58 u (n)).f2) ((rd_T58 u (n)).f3) ((rd_T58 u (n)).f4) (wrap64 (a + 1)) false _ ?_ ?_ a6.out).mono ?_); exact ca_ (ah.out); exact ai.out; rintro e w26 ⟨rfl, hb⟩; replace HO_9 := a_ (rb_ (vR_ HO_9.out) hb); replace HO_10 := a_ (Kd.N_below (vN_ HO_10.out) hb); replace HO_12 := a_ (vb_ (vV_ HO_12.out) hb); replace HO_20 := a_ (rb_ (vR_ HO_20.out) hb); replace s := a_ (bq_ s.out hb); replace HB := hq_ hb; clear hb))
     go_roundg k2
     case measure => have := K.out; have := O.out; omega
     exact ⟨(r), (wrap64 (d + 1)), eq_, H', ⟨by have := K.out; have := O.out; omega⟩, ⟨vR_ HO_9.out⟩, ⟨vN_ HO_10.out⟩, ⟨vV_ HO_12.out⟩, ⟨vR_ HO_20.out⟩, ⟨bk_ s.out⟩, ⟨bel_⟩⟩
    subst c22
    rw [ip_ rfl] at H
    by_cases c23 : r.length < 17592186044416
    rotate_left
    ·
     rw [ig_ c23] at H
     exact ab_ H
    rw [ip_ c23] at H
    have LMc23 := a_ c23
    clear c23
    obtain ⟨aM, ab⟩ : ∃ y_ : List Int, y_ = (r ++ [rd q d]) := ⟨_, rfl⟩
    replace H : (inverse_side.l1 k2 u I a aM c z (z.length : Int) a q (q.length : Int) (wrap64 (d + 1)) ((rd_T58 c a).f0) ((rd_T58 c a).f1) ((rd_T58 c a).f2) ((rd_T58 c a).f3) ((rd_T58 c a).f4)) = some (r1, r2, r3) := h2_ H ab
    have a1 := a_ ab
    clear ab
    have H' := a_ H
    clear H
    have p240 : 0 ≤ (d : Int) := dq_
    have A : d < (q.length : Int) := dq_
    obtain ⟨Y, Z, ag⟩ := ai_ (rr_ HO_20.out).2.2 d p240 A
    cases Z
    replace p240 := et_ p240
    replace A := et_ A
    have p241 : 0 ≤ ((n) : Int) := dq_
    have aa : (n) < (u.length : Int) := dq_
    obtain ⟨ce241, hcl241, hM241, hcc241, hfr241⟩ := N_elem_win HO_10.out HW.out.2.2.2.1 z58 (n) p241 aa HQ2.out
    obtain ⟨am, c241_1, rfl, F, G⟩ := k58_openF hM241
    have aG : wr.cell? ⟨g, q2 + (n).toNat * 5, none⟩ = some (.int .i64 ((rd_T58 u n).f0)) := hcc241 0 _ rfl
    have aH : wr.cell? ⟨g, q2 + (n).toNat * 5 + 1, none⟩ = some (.slice am ((rd_T58 u n).f1).length c241_1) := hcc241 1 _ rfl
    have aI : wr.cell? ⟨g, q2 + (n).toNat * 5 + 2, none⟩ = some (.int .i64 ((rd_T58 u n).f2)) := hcc241 2 _ rfl
    have aJ : wr.cell? ⟨g, q2 + (n).toNat * 5 + 3, none⟩ = some (.int .i64 ((rd_T58 u n).f3)) := hcc241 3 _ rfl
    have aK : wr.cell? ⟨g, q2 + (n).toNat * 5 + 4, none⟩ = some (.int .i64 ((rd_T58 u n).f4)) := hcc241 4 _ rfl
    have ah := a_ (Kd.F_now G)
    have ai := a_ F
    clear hcl241 hM241 hcc241 hfr241 F G
    replace p241 := et_ p241
    replace aa := et_ aa
    go_wp2_with (first | (go_at_call 24; (with_reducible refine (dom_Dom_Has.calls ((rd_T58 u (n)).f0) _ _ ((rd_T58 u (n)).f1) ((rd_T58 u (n)).f2) ((rd_T58 u (n)).f3) ((rd_T58 u (n)).f4) (wrap64 (a + 1)) true _ ?_ ?_ a6.out).mono ?_); exact ca_ (ah.out); exact ai.out; rintro e w24 ⟨rfl, hb⟩; replace HO_9 := a_ (rb_ (vR_ HO_9.out) hb); replace HO_10 := a_ (Kd.N_below (vN_ HO_10.out) hb); replace HO_12 := a_ (vb_ (vV_ HO_12.out) hb); replace HO_20 := a_ (rb_ (vR_ HO_20.out) hb); replace s := a_ (bq_ s.out hb); replace HB := hq_ hb; clear hb) | ((with_reducible refine gate_builtin (b := .append) (xs := #[.tmp 44, .tmp 46]) rfl ?_); (try (refine gate_guard (by rfl) ?_; dsimp only)); at_builtin; refine Kd.R_append (Kd.int .i64) (w0 := w) w.heap.size rfl (.tmp 44) (.tmp 46) 30 3 (.int .i64 0) 8 rfl Tryz.underlying30 info3 rfl (by decide) (by omega) u9 r (rd q d) [.int .i64 (rd q d)] (fun l => (w.heap.size ≤ l) ∧ some l ≠ (.slice (some Y) q.length B : Value).ownBlock) (fun _ => False) rfl rfl ?aP (fun _ hk => hk.elim) ?aF ?aO ?aB ?aS ?aL ?_; (case aP => exact rfl); (case aB => exact bel_); (case aF => exact (fun l hk => ⟨(Nat.le_trans (bz_ bel_) hk), fr_ (rl_ (vR_ HO_20.out)) l hk⟩)); (case aO => exact (vR_ HO_9.out)); (case aS => exact (bz_ bel_)); (case aL => have := LMc23.out; omega); intro bv w25 ho hb hg hat; rw [← a1.out] at ho; replace HO_10 := a_ (Kd.N_afterv (ok := (fun l => (P0_ l ∨ w.heap.size ≤ l) ∧ some l ≠ (.slice (some Y) q.length B : Value).ownBlock ∧ l ≠ x)) (by refine vN_ ?_; exact nm_ HO_10.out (fun _ hk => ⟨⟨hk.1, ⟨hk.2.2.1, hk.2.2.2⟩⟩, hk.2.1⟩)) hg hat); replace HO_12 := a_ (Kd.V_afterv (ok := (fun l => (P0_ l ∨ w.heap.size ≤ l) ∧ some l ≠ (.slice (some ⟨g, 0, none⟩) m cap : Value).ownBlock ∧ some l ≠ (.slice (some Y) q.length B : Value).ownBlock ∧ l ≠ x)) (by refine vV_ ?_; exact vm_ HO_12.out (fun _ hk => ⟨⟨hk.1, ⟨hk.2.2.1, ⟨hk.2.2.2.1, hk.2.2.2.2⟩⟩⟩, hk.2.1⟩)) hg hat); replace HO_20 := a_ (Kd.R_after (ok := (fun l => (w.heap.size ≤ l))) (vR_ HO_20.out) hg hat); replace s := a_ (blk_grown (bk_ s.out) hg (Kd.R_ne HO_9.out s.out (by decide))); replace HB := a_ (hb); have a2 := a_ (ho); clear HO_9; clear ho hb hg hat))
    go_roundg k2
    case measure => have := K.out; have := O.out; omega
    exact ⟨(aM), (wrap64 (d + 1)), eq_, H', ⟨by have := K.out; have := O.out; omega⟩, ⟨vR_ a2.out⟩, ⟨by refine vN_ ?_; exact nm_ HO_10.out (fun _ hk => ⟨hk.1.1, ⟨hk.2, ⟨hk.1.2.1, hk.1.2.2⟩⟩⟩)⟩, ⟨by refine vV_ ?_; exact vm_ HO_12.out (fun _ hk => ⟨hk.1.1, ⟨hk.2, ⟨hk.1.2.1, ⟨hk.1.2.2.1, hk.1.2.2.2⟩⟩⟩⟩)⟩, ⟨vR_ HO_20.out⟩, ⟨bk_ s.out⟩, ⟨bel_⟩⟩
   rw [ig_ c13] at H
   have c13b0 : decide (d < (q.length : Int)) = false := df_ c13
   clear c13
   by_cases c27 : (r.length : Int) = 0
   ·
    rw [ip_ c27] at H
    have c27b0 : ((r.length : Int) == 0) = true := beq_iff_eq.mpr c27
    have c27b1 : ((r.length : Int) != 0) = false := bn_.mpr c27
    clear c27
    simp only [Option.some.injEq, Prod.mk.injEq] at H
    obtain ⟨rfl, rfl, rfl⟩ := H
    obtain ⟨bw, bx, a9⟩ := Kd.R_slice HO_9.out
    subst a9
    go_wp2
    go_ret2
    exact ⟨er_, ⟨Dc, by refine vN_ ?_; exact nm_ HO_10.out (fun _ hk => hk.1), HW.out⟩, bel_⟩
   rw [ig_ c27] at H
   have c27b0 : ((r.length : Int) == 0) = false := be_.mpr c27
   have c27b1 : ((r.length : Int) != 0) = true := ni_.mpr c27
   have c27b2 : ¬ (r = []) := fun h_ => c27 (by rw [h_]; rfl)
   replace H := bo_ H
   obtain ⟨an, a7, H⟩ := H
   try dsimp only at H
   by_cases c30 : (r.length : Int) < an
   rotate_left
   ·
    rw [ig_ c30] at H
    have c30b0 : decide ((r.length : Int) < an) = false := df_ c30
    clear c30
    have H' := a_ H
    clear H
    obtain ⟨bA, bB, bc⟩ := Kd.R_slice HO_9.out
    subst bc
    obtain ⟨_, _, _, _, _, _, _, _, _, _⟩ := cel5_ s.out
    go_wp2_with (first | ((with_reducible refine gate_callee (f := 58) rfl ?_); refine goesL_ (some 55) rfl rfl Tryz.func58 kr_ rfl #[.agg #[.int .i64 ((rd_T58 c a).f0), .slice y ((rd_T58 c a).f1).length c235_1, .int .i64 ((rd_T58 c a).f2), .int .i64 ((rd_T58 c a).f3), .int .i64 ((rd_T58 c a).f4)]] rfl ar_ ?_; (with_reducible refine (dom_Dom_Size.calls ((rd_T58 c a).f0) _ _ ((rd_T58 c a).f1) ((rd_T58 c a).f2) ((rd_T58 c a).f3) ((rd_T58 c a).f4) an _ ?_ ?_ a7.out).mono ?_); exact ca_ ((Kd.V_reads' HO_12.out).2.2); exact af.out; rintro e w43 ⟨rfl, hb⟩; refine ⟨_, rfl, ?_⟩; replace HO_10 := a_ (Kd.N_below (vN_ HO_10.out) hb); replace HB := hq_ hb; clear hb))
    go_roundg k2
    case measure => have := K.out; have := O.out; omega
    exact ⟨(I), (c), (wrap64 (a + 1)), (Dc), eq_, eq_, H', ⟨by have := K.out; have := O.out; omega⟩, ⟨by refine vN_ ?_; exact nm_ HO_10.out (fun _ hk => hk.1)⟩, ⟨HW.out⟩, ⟨bel_⟩⟩
   rw [ip_ c30] at H
   have c30b0 : decide ((r.length : Int) < an) = true := dt_ c30
   clear c30
   replace H := bs_.mp H
   obtain ⟨⟨P, Q, U, W, X, ba⟩, aN, H⟩ := H
   try dsimp only at H
   have bg := a_ aN
   clear aN
   by_cases c32 : 0 ≤ a
   rotate_left
   ·
    rw [ig_ c32] at H
    exact ab_ H
   rw [ip_ c32] at H
   have c32b0 : decide (0 ≤ a) = true := dt_ c32
   clear c32
   by_cases c33 : a < (c.length : Int)
   rotate_left
   ·
    rw [ig_ c33] at H
    exact ab_ H
   rw [ip_ c33] at H
   have c33b0 : decide (a < (c.length : Int)) = true := dt_ c33
   have c33c : decide (a < (z.length : Int)) = true := by rw [← HW.out.1]; exact c33b0
   clear c33
   obtain ⟨aQ, ac⟩ : ∃ y_ : List (S58), y_ = (c.set (a : Int).toNat (⟨P, Q, U, W, X⟩ : S58)) := ⟨_, rfl⟩
   replace H : (inverse_side.l0 k2 u true aQ z (z.length : Int) (wrap64 (a + 1))) = some (r1, r2, r3) := h2_ H ac
   have a3 := a_ ac
   clear ac
   have H' := a_ H
   clear H
   obtain ⟨aj, ak, bb⟩ := Kd.R_slice HO_9.out
   subst bb
   obtain ⟨_, _, _, _, _, _, _, _, _, _⟩ := cel5_ s.out
   go_wp2_with (first | ((with_reducible refine gate_callee (f := 58) rfl ?_); refine goesL_ (some 55) rfl rfl Tryz.func58 kr_ rfl #[.agg #[.int .i64 ((rd_T58 c a).f0), .slice y ((rd_T58 c a).f1).length c235_1, .int .i64 ((rd_T58 c a).f2), .int .i64 ((rd_T58 c a).f3), .int .i64 ((rd_T58 c a).f4)]] rfl ar_ ?_; (with_reducible refine (dom_Dom_Size.calls ((rd_T58 c a).f0) _ _ ((rd_T58 c a).f1) ((rd_T58 c a).f2) ((rd_T58 c a).f3) ((rd_T58 c a).f4) an _ ?_ ?_ a7.out).mono ?_); exact ca_ ((Kd.V_reads' HO_12.out).2.2); exact af.out; rintro e w37 ⟨rfl, hb⟩; refine ⟨_, rfl, ?_⟩; replace HO_9 := a_ (rb_ (vR_ HO_9.out) hb); replace HO_10 := a_ (Kd.N_below (vN_ HO_10.out) hb); replace HO_20 := a_ (rb_ (vR_ HO_20.out) hb); replace s := a_ (bq_ s.out hb); replace HB := hq_ hb; clear hb) | ((with_reducible refine gate_callee (f := 31) rfl ?_); refine goesL_ (some 61) rfl rfl Tryz.func31 kr_ rfl #[.slice aj r.length ak] rfl ar_ ?_; (with_reducible refine (dom_Of.calls k2 _ _ r P Q U W X ba _ ?_ ?_ ?_ bg.out).mono ?_); exact ca_ ((rr_ HO_9.out).2.2); exact (rr_ HO_9.out).2.1; exact ca_ ((cb_ HRtab.out HB.out)); rintro e w38 ⟨bz, rfl, al, hb⟩; refine ⟨_, rfl, ?_⟩; obtain ⟨Ao_v249, co_v249, ev_⟩ := Kd.V_slice al; subst ev_; have ay := a_ (Kd.V_lower (vm_ (ok' := fun l => (P0_ l ∨ w.heap.size ≤ l) ∧ some l ≠ (.slice aj r.length ak : Value).ownBlock ∧ some l ≠ (.slice (some ⟨g, 0, none⟩) m cap : Value).ownBlock ∧ some l ≠ (.slice J q.length B : Value).ownBlock ∧ l ≠ x) al (fun l hk_ => ⟨(.inr (Nat.le_trans (bz_ bel_) hk_)), (fr_ (rl_ (vR_ HO_9.out)) l hk_), (fr_ (Kd.N_lt (vN_ HO_10.out)) l hk_), (fr_ (rl_ (vR_ HO_20.out)) l hk_), (Kd.freshB (bk_ s.out) l hk_)⟩)) (bz_ bel_)); replace HO_10 := a_ (Kd.N_below (vN_ HO_10.out) hb); replace HB := hq_ hb; clear hb al; have p34 : 0 ≤ (a : Int) := dq_; have aR : (a : Int) < ((c.length : Int) : Int) := dq_; have GB34 := a_ (Kd.N_base HO_10.out g rfl); obtain ⟨ce34, hcl34, hM34, hcc34, hfr34⟩ := N_elem_win HO_10.out HW.out.2.2.1 z58 (a : Int) p34 aR HQ1.out; obtain ⟨ua34_1, uc34_1, rfl, bh, bi⟩ := k58_openF hM34; have bj : w38.cell? ⟨g, E + (a : Int).toNat * 5, none⟩ = some (.int .i64 ((rd_T58 c a).f0)) := hcc34 0 _ rfl; have bk : w38.cell? ⟨g, E + (a : Int).toNat * 5 + 1, none⟩ = some (.slice ua34_1 ((rd_T58 c a).f1).length uc34_1) := hcc34 1 _ rfl; have bl : w38.cell? ⟨g, E + (a : Int).toNat * 5 + 2, none⟩ = some (.int .i64 ((rd_T58 c a).f2)) := hcc34 2 _ rfl; have bm : w38.cell? ⟨g, E + (a : Int).toNat * 5 + 3, none⟩ = some (.int .i64 ((rd_T58 c a).f3)) := hcc34 3 _ rfl; have bn : w38.cell? ⟨g, E + (a : Int).toNat * 5 + 4, none⟩ = some (.int .i64 ((rd_T58 c a).f4)) := hcc34 4 _ rfl; have hf34_0 : w38.frozen? ⟨g, E + (a : Int).toNat * 5, none⟩ = false := hfr34 0; have hf34_1 : w38.frozen? ⟨g, E + (a : Int).toNat * 5 + 1, none⟩ = false := hfr34 1; have hf34_2 : w38.frozen? ⟨g, E + (a : Int).toNat * 5 + 2, none⟩ = false := hfr34 2; have hf34_3 : w38.frozen? ⟨g, E + (a : Int).toNat * 5 + 3, none⟩ = false := hfr34 3; have hf34_4 : w38.frozen? ⟨g, E + (a : Int).toNat * 5 + 4, none⟩ = false := hfr34 4; clear hcl34 hcc34 hfr34 hM34; replace p34 := et_ p34; replace aR := et_ aR; have q34c := et_ (of_decide_eq_true c33c); have aT := a_ (show Kd.N k58 58 w38 w.heap.size (fun l => (P0_ l ∨ w.heap.size ≤ l) ∧ some l ≠ (.slice aj r.length ak : Value).ownBlock ∧ some l ≠ (.slice J q.length B : Value).ownBlock ∧ l ≠ x) (.slice (some ⟨g, 0, none⟩) m cap) Dc from (vN_ HO_10.out)); obtain ⟨ce39, hcl39, hM39, hcc39, hfr39⟩ := N_elem_win aT.out HW.out.2.2.1 z58 (a : Int) (dq_) (by have h_ : (a : Int) < ((c.length : Int) : Int) := dq_; first | exact h_ | (have e_ := (Kd.N_reads' HO_10.out).1; omega) | simpa using h_) HQ1.out; obtain ⟨ua39_1, uc39_1, rfl, bo, bp⟩ := k58_openF hM39; have HP39 := N_seg_win aT.out HW.out.2.2.1 (a : Int) (dq_) (by have h_ : (a : Int) < ((c.length : Int) : Int) := dq_; first | exact h_ | (have e_ := (Kd.N_reads' HO_10.out).1; omega) | simpa using h_) HQ1.out (seg := [.int .i64 P, (.slice Ao_v249 Q.length co_v249), .int .i64 U, .int .i64 W, .int .i64 X]) (j := 0) hcl39 hcc39 (show 5 ≤ 5 from by decide) (x' := (⟨P, Q, U, W, X⟩ : S58)) (k58_mkF _ _ (⟨P, Q, U, W, X⟩ : S58) (Kd.V_reads' (vm_ (ok' := (fun l => ((fun l => (P0_ l ∨ w.heap.size ≤ l) ∧ some l ≠ (.slice aj r.length ak : Value).ownBlock ∧ some l ≠ (.slice J q.length B : Value).ownBlock ∧ l ≠ x)) l ∧ l ≠ g)) (ay.out) (fun l hk => ⟨⟨hk.1, ⟨hk.2.1, ⟨hk.2.2.2.1, hk.2.2.2.2⟩⟩⟩, fun e_ => (hk.2.2.1) (by rw [e_]; rfl)⟩))).2.1 (Kd.V_F (vm_ (ok' := (fun l => ((fun l => (P0_ l ∨ w.heap.size ≤ l) ∧ some l ≠ (.slice aj r.length ak : Value).ownBlock ∧ some l ≠ (.slice J q.length B : Value).ownBlock ∧ l ≠ x)) l ∧ l ≠ g)) (ay.out) (fun l hk => ⟨⟨hk.1, ⟨hk.2.1, ⟨hk.2.2.2.1, hk.2.2.2.2⟩⟩⟩, fun e_ => (hk.2.2.1) (by rw [e_]; rfl)⟩)))) (fun _ hk => hk); have aU := hcc39 0 _ rfl; (try simp only [show (k58).sz = 5 from rfl, Nat.mul_one, Nat.add_zero] at aU); have hf39_0 := hfr39 0; (try simp only [show (k58).sz = 5 from rfl, Nat.mul_one, Nat.add_zero] at hf39_0); have aV := hcc39 1 _ rfl; (try simp only [show (k58).sz = 5 from rfl, Nat.mul_one, Nat.add_zero] at aV); have hf39_1 := hfr39 1; (try simp only [show (k58).sz = 5 from rfl, Nat.mul_one, Nat.add_zero] at hf39_1); have aW := hcc39 2 _ rfl; (try simp only [show (k58).sz = 5 from rfl, Nat.mul_one, Nat.add_zero] at aW); have hf39_2 := hfr39 2; (try simp only [show (k58).sz = 5 from rfl, Nat.mul_one, Nat.add_zero] at hf39_2); have aX := hcc39 3 _ rfl; (try simp only [show (k58).sz = 5 from rfl, Nat.mul_one, Nat.add_zero] at aX); have hf39_3 := hfr39 3; (try simp only [show (k58).sz = 5 from rfl, Nat.mul_one, Nat.add_zero] at hf39_3); have aY := hcc39 4 _ rfl; (try simp only [show (k58).sz = 5 from rfl, Nat.mul_one, Nat.add_zero] at aY); have hf39_4 := hfr39 4; (try simp only [show (k58).sz = 5 from rfl, Nat.mul_one, Nat.add_zero] at hf39_4); clear hcl39 hcc39 hfr39 hM39) | ((with_reducible refine gate_store (t := 58) (p := 64) rfl ?_); refine store_event (t := 58) (p := 64) (v := ?vo_w40) (w1 := (((((w38.setCell ⟨g, E + (a : Int).toNat * 5, none⟩ (.int .i64 P)).setCell ⟨g, E + (a : Int).toNat * 5 + 1, none⟩ (.slice Ao_v249 Q.length co_v249)).setCell ⟨g, E + (a : Int).toNat * 5 + 2, none⟩ (.int .i64 U)).setCell ⟨g, E + (a : Int).toNat * 5 + 3, none⟩ (.int .i64 W)).setCell ⟨g, E + (a : Int).toNat * 5 + 4, none⟩ (.int .i64 X))) ?hg ?ho ?hn ?hr ?_; (case ho => rfl); (case hg => rfl); (case hn => rfl); (case hr => first | (go_simp; done) | (go_simp; rfl)); intro w40 hw; have hg : w38.grownBy w40 (some g) := (by rw [hw]; exact HP39.2); have hp_ : Kd.N k58 58 w40 w.heap.size (fun l => (P0_ l ∨ w.heap.size ≤ l) ∧ some l ≠ (.slice aj r.length ak : Value).ownBlock ∧ some l ≠ (.slice J q.length B : Value).ownBlock ∧ l ≠ x) (.slice (some ⟨g, 0, none⟩) m cap) (Dc.set (o1 + (a : Int).toNat) (⟨P, Q, U, W, X⟩ : S58)) := (by rw [hw]; exact HP39.1); clear HP39; replace HO_10 := a_ (hp_); replace HB := a_ ((by rw [hw]; exact below_set (below_set (below_set (below_set (below_set (HB.out) GB34.out) GB34.out) GB34.out) GB34.out) GB34.out : Below w.heap.size w w40)); clear hg hw hp_))
   go_roundg k2
   case measure => have := K.out; have := O.out; omega
   exact ⟨(true), (aQ), (wrap64 (a + 1)), (Dc.set (o1 + (a : Int).toNat) (⟨P, Q, U, W, X⟩ : S58)), eq_, eq_, H', ⟨by have := K.out; have := O.out; omega⟩, ⟨by refine vN_ ?_; exact nm_ HO_10.out (fun _ hk => hk.1)⟩, ⟨by rw [a3.out]; exact iw_set HW.out HD.out (a : Int).toNat (by have h_ : 0 ≤ a := of_decide_eq_true (by assumption); have h2_ : a < (c.length : Int) := of_decide_eq_true (by assumption); have h3_ := HW.out.1; omega) _⟩, ⟨bel_⟩⟩

end Go.Proofs.YtfbfalhdgmjdpaaGreatDoor.XInverseTurns
