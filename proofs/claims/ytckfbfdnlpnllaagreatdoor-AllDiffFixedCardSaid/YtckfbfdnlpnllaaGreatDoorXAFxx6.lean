-- by xprint.py, a program of this session, over the kit's print
import Derived.Test.YtckfbfdnlpnllaaGreatDoorXAFxx0
import Derived.Test.YtckfbfdnlpnllaaGreatDoorXAFxx1
import Derived.Test.YtckfbfdnlpnllaaGreatDoorXAFxx4
import Derived.Test.YtckfbfdnlpnllaaGreatDoorXAFxx5
import Derived.Test.YtckfbfdnlpnllaaGreatDoorSq
namespace Go.Proofs.YtckfbfdnlpnllaaGreatDoor.XAllDiffFixed
open Go.RowKit Go.Proofs.YtckfbfdnlpnllaaGreatDoor.Sq Go.Proofs.YtckfbfdnlpnllaaGreatDoorW.PrintWords Go.Proofs.YtckfbfdnlpnllaaGreatDoorW.PrintLast Go.Proofs.YtckfbfdnlpnllaaGreatDoorW.PrintMore
attribute [local go_sem] max2_int min2_int max_two min_two max_three min_three max_four min_four   -- for this text's walks alone
set_option linter.unusedVariables false
set_option linter.unusedSimpArgs false

/-! ### dom_made: function 54 -/
def dom_made.l0 : Nat → Int → List Int → Int → Int → Int → List Int → Int → Int → Int → Option (Int × List Int × Int × Int × Int)
 | 0, _, _, _, _, _, _, _, _, _ => none
 | k + 1, n, e, m, a, c, d, g, l, b => if a < m then (if 0 ≤ a then (if a < (e.length : Int) then (if (rd e a) = 0 then (dom_made.l0 k n e m (wrap64 (a + 1)) c d g l b) else (if b = 0 then ((bits_TrailingZeros64.f (rd e a)).bind fun o => ((bits_LeadingZeros64.f (rd e a)).bind fun p => ((bits_OnesCount64.f (rd e a)).bind fun q => (dom_made.l0 k n e m (wrap64 (a + 1)) c d (wrap64 ((wrap64 (n + (wrap64 (64 * a)))) + o)) (wrap64 ((wrap64 ((wrap64 ((wrap64 (n + (wrap64 (64 * a)))) + 64)) - 1)) - p)) (wrap64 (b + q)))))) else ((bits_LeadingZeros64.f (rd e a)).bind fun r => ((bits_OnesCount64.f (rd e a)).bind fun s => (dom_made.l0 k n e m (wrap64 (a + 1)) c d g (wrap64 ((wrap64 ((wrap64 ((wrap64 (n + (wrap64 (64 * a)))) + 64)) - 1)) - r)) (wrap64 (b + s))))))) else (none)) else (none)) else (some (c, d, g, l, b))
def dom_made.f (k : Nat) (b : Int) (a : List Int) : Option (Int × List Int × Int × Int × Int) := dom_made.l0 k b a (a.length : Int) 0 b a 0 0 0
theorem dom_made.mono_l : ∀ k, (∀ a b c d e f g l m, LeO (dom_made.l0 k a b c d e f g l m) (dom_made.l0 (k + 1) a b c d e f g l m))
 | 0 => by intros; exact LeO.none _
 | k + 1 => by
  have ih0 := dom_made.mono_l k
  intro a b c d e f g l m
  unfold dom_made.l0
  exact leo_
theorem dom_made.mono : ∀ a b k, LeO (dom_made.f k a b) (dom_made.f (k + 1) a b) := by
 intro a b k
 have ih0 := dom_made.mono_l k
 unfold dom_made.f
 exact leo_
set_option maxHeartbeats 8000000 in
set_option maxRecDepth 100000 in
theorem dom_made.calls (k : Nat) (y : Int) (P1_ : Nat → Prop) (E : Option Addr) (c1 : Nat) (q : List Int) (Y : Int) (Z : List Int) (r3 : Int) (r4 : Int) (r5 : Int) (w : World) (ad : Kd.V (Kd.int .u64) 81 w w.heap.size (fun m => P1_ m) (.slice E q.length c1) q) (hrtab : Kd.C (Kd.int .u8) w (some ⟨0, 0, none⟩) tabL.length tabL) (h : dom_made.f k y q = some (Y, Z, r3, r4, r5)) :
  Calls Tryz.prog 54 #[.int .i64 y, .slice E q.length c1] w fun e w' => ∃ X : Value, e = .returned (.agg #[.int .i64 Y, X, .int .i64 r3, .int .i64 r4, .int .i64 r5]) ∧ Kd.V (Kd.int .u64) 81 w' w.heap.size (fun m => (P1_ m ∨ w.heap.size ≤ m)) X Z ∧ Below w.heap.size w w' := by
 have hu57 := Tryz.underlying57
 have J := a_ (show Kd.V (Kd.int .u64) 81 w w.heap.size (fun m => (P1_ m ∨ w.heap.size ≤ m)) (.slice E q.length c1) q from vm_ ad (fun m hk => .inl hk))
 have HRtab := a_ hrtab
 clear hrtab
 have HB := a_ (Below.refl w.heap.size w)
 unfold dom_made.f at h
 have H := h
 clear h
 have H' := a_ H
 clear H
 go_enter Tryz.func54, Tryz.ntmps54
 go_wp2_with (first | ((with_reducible refine gate_dst (N := 4) rfl ?_); refine bxe_ (N := 4) (cs := #[.int .i64 0, .slice none 0 0, .int .i64 0, .int .i64 0, .int .i64 0]) (t := 57) ?_; intro u hg w3 hbox hb; replace J := a_ (vb_ (Kd.V_elderB (vV_ J.out) u (Nat.le_of_eq hg.symm)) hb); have p := a_ (hbox); have U := a_ (by rw [hg]; exact (bz_ bel_) : w.heap.size ≤ u); have ak := U; replace HB := hq_ hb; clear hb hbox hg) | ((with_reducible refine gate_dst (N := 5) rfl ?_); refine bxe_ (N := 5) (cs := #[.int .i64 0, .slice none 0 0, .int .i64 0, .int .i64 0, .int .i64 0]) (t := 57) ?_; intro c hg w4 hbox hb; replace J := a_ (vb_ (Kd.V_elderB (vV_ J.out) c (Nat.le_of_eq hg.symm)) hb); have d := a_ (hbox); have W := a_ (by rw [hg]; exact (bz_ bel_) : w.heap.size ≤ c); have al := W; replace HB := hq_ hb; have l := a_ ((by rw [hg]; exact Nat.ne_of_lt (blk_lt (bk_ p.out)) : u ≠ c)); have z := a_ ((by rw [hg]; exact Nat.ne_of_gt (blk_lt (bk_ p.out)) : c ≠ u)); replace p := a_ (bq_ p.out hb); clear hb hbox hg; have au := z.out; have av := l.out; obtain ⟨_, _, _, _, _, _, _, _, _, _⟩ := cel5_ d.out))
 go_loopg [13] k (fun kq ae w' => ∃ (a : Int) (r : Int) (s : Int) (b : Int), ae = .int .i64 a ∧ Aside0 (dom_made.l0 kq y q (q.length : Int) a y q r s b = some (Y, Z, r3, r4, r5)) ∧ Aside0 (kq ≤ k) ∧ Aside0 (Kd.V (Kd.int .u64) 81 w' w.heap.size (fun m => (P1_ m ∨ w.heap.size ≤ m) ∧ m ≠ u ∧ m ≠ c) (.slice E q.length c1) q) ∧ Aside0 (Kd.V (Kd.int .u64) 81 w' w.heap.size (fun m => (P1_ m ∨ w.heap.size ≤ m) ∧ m ≠ u ∧ m ≠ c) (.slice E q.length c1) q) ∧ Aside0 (w'.heap[u]? = some (.cells #[.int .i64 0, (.slice none 0 0), .int .i64 0, .int .i64 0, .int .i64 0] 57 (0, 0))) ∧ Aside0 (w'.heap[c]? = some (.cells #[.int .i64 y, (.slice E q.length c1), .int .i64 r, .int .i64 s, .int .i64 b] 57 (0, 0))) ∧ Aside0 (Below w.heap.size w w'))
 case atStart => exact ⟨(0), (0), (0), (0), eq_, H', ⟨lr_ _⟩, ⟨by refine vV_ ?_; exact vm_ (fV_ (fV_ (fV_ (fV_ (fV_ (vm_ J.out (fun m hk => (⟨hk, hk.2⟩ : _ ∧ m ≠ c)))))))) (fun _ hk => ⟨hk.1.1.1, ⟨hk.1.1.2, hk.1.2⟩⟩)⟩, ⟨by refine vV_ ?_; exact vm_ (fV_ (fV_ (fV_ (fV_ (fV_ (vm_ J.out (fun m hk => (⟨hk, hk.2⟩ : _ ∧ m ≠ c)))))))) (fun _ hk => ⟨hk.1.1.1, ⟨hk.1.1.2, hk.1.2⟩⟩)⟩, ⟨by refine bk_ ?_; refine blk_far ?_ l.out _; refine bk_ ?_; refine blk_far ?_ l.out _; refine bk_ ?_; refine blk_far ?_ l.out _; refine bk_ ?_; refine blk_far ?_ l.out _; refine bk_ ?_; refine blk_far ?_ l.out _; refine bk_ ?_; exact p.out⟩, ⟨by refine bk_ ?_; refine bu_ (cs := #[.int .i64 y, .slice E q.length c1, .int .i64 0, .int .i64 0, .int .i64 0]) ?_ 4 _ rfl; refine bk_ ?_; refine bu_ (cs := #[.int .i64 y, .slice E q.length c1, .int .i64 0, .int .i64 0, .int .i64 0]) ?_ 3 _ rfl; refine bk_ ?_; refine bu_ (cs := #[.int .i64 y, .slice E q.length c1, .int .i64 0, .int .i64 0, .int .i64 0]) ?_ 2 _ rfl; refine bk_ ?_; refine bu_ (cs := #[.int .i64 y, .slice none 0 0, .int .i64 0, .int .i64 0, .int .i64 0]) ?_ 1 _ rfl; refine bk_ ?_; refine bu_ (cs := #[.int .i64 0, .slice none 0 0, .int .i64 0, .int .i64 0, .int .i64 0]) ?_ 0 _ rfl; refine bk_ ?_; exact d.out⟩, ⟨bel_⟩⟩
 clear H'
 try clear c1
 try clear p2
 try clear c5
 obtain ⟨a, r, s, b, rfl, HA, M, HO_11, HO_204001, p, d, HB⟩ := hrel
 cases gk with
 | zero => exact absurd HA.out (by simp [dom_made.l0])
 | succ k1 =>
  have H := HA.out
  clear HA
  simp only [dom_made.l0] at H
  by_cases c7 : a < (q.length : Int)
  rotate_left
  ·
   rw [ig_ c7] at H
   have c7b0 : decide (a < (q.length : Int)) = false := df_ c7
   clear c7
   simp only [Option.some.injEq, Prod.mk.injEq] at H
   obtain ⟨rfl, rfl, rfl, rfl, rfl⟩ := H
   have aq := z.out
   have ar := l.out
   obtain ⟨_, _, _, _, _, _, _, _, _, _⟩ := cel5_ d.out
   obtain ⟨_, _, _, _, _, _, _, _, _, _⟩ := cel5_ p.out
   go_wp2
   refine bodyPost_ret (results_cell_row rfl _ _ u 57 #[.int .i64 y, .slice E q.length c1, .int .i64 r, .int .i64 s, .int .i64 b] (0, 0) _ rfl (by refine bk_ ?_; refine bu_ (cs := #[.int .i64 y, .slice E q.length c1, .int .i64 r, .int .i64 s, .int .i64 0]) ?_ 4 _ rfl; refine bk_ ?_; refine bu_ (cs := #[.int .i64 y, .slice E q.length c1, .int .i64 r, .int .i64 0, .int .i64 0]) ?_ 3 _ rfl; refine bk_ ?_; refine bu_ (cs := #[.int .i64 y, .slice E q.length c1, .int .i64 0, .int .i64 0, .int .i64 0]) ?_ 2 _ rfl; refine bk_ ?_; refine bu_ (cs := #[.int .i64 y, .slice none 0 0, .int .i64 0, .int .i64 0, .int .i64 0]) ?_ 1 _ rfl; refine bk_ ?_; refine bu_ (cs := #[.int .i64 0, .slice none 0 0, .int .i64 0, .int .i64 0, .int .i64 0]) ?_ 0 _ rfl; refine bk_ ?_; exact p.out) Tryz.underlying57 rfl kr_) rfl ?_
   exact ⟨_, er_, by refine vV_ ?_; exact vm_ (fV_ (fV_ (fV_ (fV_ (fV_ (vm_ HO_204001.out (fun m hk => (⟨hk, hk.2.1⟩ : _ ∧ m ≠ u)))))))) (fun _ hk => hk.1.1), bel_⟩
  rw [ip_ c7] at H
  have c7b0 : decide (a < (q.length : Int)) = true := dt_ c7
  clear c7
  by_cases c8 : 0 ≤ a
  rotate_left
  ·
   rw [ig_ c8] at H
   exact ab_ H
  rw [ip_ c8] at H
  have c8b0 : decide (0 ≤ a) = true := dt_ c8
  clear c8
  by_cases c9 : a < (q.length : Int)
  rotate_left
  ·
   rw [ig_ c9] at H
   exact ab_ H
  rw [ip_ c9] at H
  have c9b0 : decide (a < (q.length : Int)) = true := dt_ c9
  clear c9
  by_cases c10 : (rd q a) = 0
  ·
   rw [ip_ c10] at H
   have c10b0 : ((rd q a) == 0) = true := beq_iff_eq.mpr c10
   have c10b1 : ((rd q a) != 0) = false := bn_.mpr c10
   clear c10
   have H' := a_ H
   clear H
   have p204 : 0 ≤ (a : Int) := dq_
   have A : a < (q.length : Int) := dq_
   obtain ⟨v, I, O⟩ := ai_ (Kd.V_reads' HO_11.out).2.2 a p204 A
   cases I
   replace p204 := et_ p204
   replace A := et_ A
   go_wp2
   go_roundg k1
   case measure => have := M.out; omega
   exact ⟨(wrap64 (a + 1)), (r), (s), (b), eq_, H', ⟨by have := M.out; omega⟩, ⟨vV_ HO_11.out⟩, ⟨vV_ HO_204001.out⟩, ⟨bk_ p.out⟩, ⟨bk_ d.out⟩, ⟨bel_⟩⟩
  rw [ig_ c10] at H
  have c10b0 : ((rd q a) == 0) = false := be_.mpr c10
  have c10b1 : ((rd q a) != 0) = true := ni_.mpr c10
  by_cases c11 : b = 0
  rotate_left
  ·
   rw [ig_ c11] at H
   have c11b0 : (b == 0) = false := be_.mpr c11
   have c11b1 : (b != 0) = true := ni_.mpr c11
   replace H := bo_ H
   obtain ⟨G, ai, H⟩ := H
   try dsimp only at H
   replace H := bo_ H
   obtain ⟨Q, aj, H⟩ := H
   try dsimp only at H
   have H' := a_ H
   clear H
   have p204 : 0 ≤ (a : Int) := dq_
   have A : a < (q.length : Int) := dq_
   obtain ⟨v, I, O⟩ := ai_ (Kd.V_reads' HO_11.out).2.2 a p204 A
   cases I
   replace p204 := et_ p204
   replace A := et_ A
   have ao := z.out
   have ap := l.out
   obtain ⟨_, _, _, _, _, _, _, _, _, _⟩ := cel5_ d.out
   try go_wp2_with (first | ((with_reducible refine gate_callee (f := 71) rfl ?_); refine goesL_ (some 38) rfl rfl Tryz.func71 kr_ rfl #[.int .u64 (rd q a)] rfl ar_ ?_; (with_reducible refine (bits_LeadingZeros64.calls (rd q a) G _ ai.out).mono ?_); rintro e w28 ⟨rfl, hb⟩; refine ⟨_, rfl, ?_⟩; replace HO_11 := a_ (vb_ (vV_ HO_11.out) hb); replace HO_204001 := a_ (vb_ (vV_ HO_204001.out) hb); replace p := a_ (bq_ p.out hb); replace d := a_ (bq_ d.out hb); replace HB := hq_ hb; clear hb; obtain ⟨_, _, _, _, _, _, _, _, _, _⟩ := cel5_ d.out))
   obtain ⟨w30, hq_⟩ : ∃ x, x = (w28.setCell ⟨c, 3, none⟩ (.int .i64 (wrap64 ((wrap64 ((wrap64 ((wrap64 (y + (wrap64 (64 * a)))) + 64)) - 1)) - G)))) := ⟨_, rfl⟩
   replace HO_11 : Aside0 (Kd.V (Kd.int .u64) 81 w30 w.heap.size (fun m => (P1_ m ∨ w.heap.size ≤ m) ∧ m ≠ u ∧ m ≠ c) (.slice (some v) q.length c1) q) := ⟨by subst hq_; refine vV_ ?_; exact vm_ (fV_ (vm_ HO_11.out (fun m hk => (⟨hk, hk.2.2⟩ : _ ∧ m ≠ c)))) (fun _ hk => ⟨hk.1.1, ⟨hk.1.2.1, hk.1.2.2⟩⟩)⟩
   replace HO_204001 : Aside0 (Kd.V (Kd.int .u64) 81 w30 w.heap.size (fun m => (P1_ m ∨ w.heap.size ≤ m) ∧ m ≠ u ∧ m ≠ c) (.slice (some v) q.length c1) q) := ⟨by subst hq_; refine vV_ ?_; exact vm_ (fV_ (vm_ HO_204001.out (fun m hk => (⟨hk, hk.2.2⟩ : _ ∧ m ≠ c)))) (fun _ hk => ⟨hk.1.1, ⟨hk.1.2.1, hk.1.2.2⟩⟩)⟩
   replace p : Aside0 (w30.heap[u]? = some (.cells #[.int .i64 0, .slice none 0 0, .int .i64 0, .int .i64 0, .int .i64 0] 57 (0, 0))) := ⟨by subst hq_; refine bk_ ?_; refine blk_far ?_ l.out _; refine bk_ ?_; exact p.out⟩
   replace d : Aside0 (w30.heap[c]? = some (.cells #[.int .i64 y, .slice (some v) q.length c1, .int .i64 r, .int .i64 (wrap64 ((wrap64 ((wrap64 ((wrap64 (y + (wrap64 (64 * a)))) + 64)) - 1)) - G)), .int .i64 b] 57 (0, 0))) := ⟨by subst hq_; refine bk_ ?_; refine bu_ (cs := #[.int .i64 y, .slice (some v) q.length c1, .int .i64 r, .int .i64 s, .int .i64 b]) ?_ 3 _ rfl; refine bk_ ?_; exact d.out⟩
   replace HB : Aside0 (Below w.heap.size w w30) := ⟨by subst hq_; exact bel_⟩
   rw [← hq_]
   clear hq_
   replace HO_11 := a_ (Kd.V_drew HO_11.out)
   replace HO_204001 := a_ (Kd.V_drew HO_204001.out)
   replace p := a_ (blk_drew p.out)
   replace d := a_ (blk_drew d.out)
   replace HB := a_ (below_drew1 HB.out)
   refine start_ (n := 7) (S := fun w' => w'.cell? ⟨c, 0, none⟩ = some (.int .i64 y) ∧ w'.cell? ⟨c, 1, none⟩ = some (.slice (some v) q.length c1) ∧ w'.cell? ⟨c, 2, none⟩ = some (.int .i64 r) ∧ w'.cell? ⟨c, 3, none⟩ = some (.int .i64 (wrap64 ((wrap64 ((wrap64 ((wrap64 (y + (wrap64 (64 * a)))) + 64)) - 1)) - G))) ∧ w'.cell? ⟨c, 4, none⟩ = some (.int .i64 b)) (ds := [6]) #[false, false, false, false, false, false, false] kr_ rfl rfl (ca5_ d.out) (fun hHeld => ?_)
   generalize w30.drew = w31 at HO_11 HO_204001 p d HB hHeld ⊢
   refine pn_ 0 41 kr_ ?_
   refine pn_ 2 43 kr_ ?_
   refine tn_ 1 42 kr_ hHeld ?_
   refine onn_ 3 44 #[true, true, true, true, false, false, false] rfl rfl kr_ (by decide) (fun K hK => ?_)
   refine goes_ Tryz.func72 kr_ rfl #[.int .u64 (rd q a)] (by rfl) rfl rfl ar_ ?_
   with_reducible refine (bits_OnesCount64.calls (rd q a) Q _ aj.out).mono ?_
   rintro e w' ⟨rfl, ⟨nd, rfl⟩⟩
   refine ⟨_, rfl, ?_⟩
   refine hK.out _ _ (ca5_ d.out) (fun hHeld => ?_)
   clear hK K
   refine nor_ (N := some 44) ?_
   refine pn_ 4 45 kr_ ?_
   refine pn_ 5 46 kr_ ?_
   refine last_ (i := 6) (N := none) #[true, true, true, true, true, true, true] rfl rfl kr_ (by decide) (fun K hK => ?_)
   have ax : w31.cell? ⟨c, 4, none⟩ = some (.int .i64 b) := (blk_cell d.out 4).trans rfl
   have hfs32 := blk_frozen d.out 4
   have hns32_0 := l.out
   have hms32_0 := z.out
   refine skip_ (w1 := ?_) (by rfl) rfl ?_ ?_
   rotate_left
   ·
    go_simp
    rfl
   refine hK.out _ _ ?_
   clear hK K
   refine done_ kr_ ?_
   try go_wp2
   go_roundg k1
   case measure => have := M.out; omega
   exact ⟨(wrap64 (a + 1)), (r), (wrap64 ((wrap64 ((wrap64 ((wrap64 (y + (wrap64 (64 * a)))) + 64)) - 1)) - G)), (wrap64 (b + Q)), eq_, H', ⟨by have := M.out; omega⟩, ⟨by refine vV_ ?_; exact vm_ (fV_ (vm_ HO_11.out (fun m hk => (⟨hk, hk.2.2⟩ : _ ∧ m ≠ c)))) (fun _ hk => ⟨hk.1.1, ⟨hk.1.2.1, hk.1.2.2⟩⟩)⟩, ⟨by refine vV_ ?_; exact vm_ (fV_ (vm_ HO_204001.out (fun m hk => (⟨hk, hk.2.2⟩ : _ ∧ m ≠ c)))) (fun _ hk => ⟨hk.1.1, ⟨hk.1.2.1, hk.1.2.2⟩⟩)⟩, ⟨by refine bk_ ?_; refine blk_far ?_ l.out _; refine bk_ ?_; exact p.out⟩, ⟨by refine bk_ ?_; refine bu_ (cs := #[.int .i64 y, .slice (some v) q.length c1, .int .i64 r, .int .i64 (wrap64 ((wrap64 ((wrap64 ((wrap64 (y + (wrap64 (64 * a)))) + 64)) - 1)) - G)), .int .i64 b]) ?_ 4 _ rfl; refine bk_ ?_; exact d.out⟩, ⟨bel_⟩⟩
  rw [ip_ c11] at H
  have c11b0 : (b == 0) = true := beq_iff_eq.mpr c11
  have c11b1 : (b != 0) = false := bn_.mpr c11
  clear c11
  replace H := bo_ H
  obtain ⟨B, af, H⟩ := H
  try dsimp only at H
  replace H := bo_ H
  obtain ⟨F, ag, H⟩ := H
  try dsimp only at H
  replace H := bo_ H
  obtain ⟨P, ah, H⟩ := H
  try dsimp only at H
  have H' := a_ H
  clear H
  have p204 : 0 ≤ (a : Int) := dq_
  have A : a < (q.length : Int) := dq_
  obtain ⟨v, I, O⟩ := ai_ (Kd.V_reads' HO_11.out).2.2 a p204 A
  cases I
  replace p204 := et_ p204
  replace A := et_ A
  have am := z.out
  have an := l.out
  obtain ⟨_, _, _, _, _, _, _, _, _, _⟩ := cel5_ d.out
  try go_wp2_with (first | ((with_reducible refine gate_callee (f := 47) rfl ?_); refine goesL_ (some 28) rfl rfl Tryz.func47 kr_ rfl #[.int .u64 (rd q a)] rfl ar_ ?_; (with_reducible refine (bits_TrailingZeros64.calls (rd q a) B _ ?_ af.out).mono ?_); exact ca_ ((cb_ HRtab.out HB.out)); rintro e w' ⟨rfl, ⟨nd, rfl⟩⟩; refine ⟨_, rfl, ?_⟩; (try (rw [drewN_self wr]; generalize hq_ : World.drewN wr _ = wr; replace HO_11 : Aside0 (Kd.V (Kd.int .u64) 81 wr w.heap.size (fun m => (P1_ m ∨ w.heap.size ≤ m) ∧ m ≠ u ∧ m ≠ c) (.slice (some v) q.length c1) q) := ⟨by rw [← hq_]; exact (vV_ HO_11.out)⟩; replace HO_204001 : Aside0 (Kd.V (Kd.int .u64) 81 wr w.heap.size (fun m => (P1_ m ∨ w.heap.size ≤ m) ∧ m ≠ u ∧ m ≠ c) (.slice (some v) q.length c1) q) := ⟨by rw [← hq_]; exact (vV_ HO_204001.out)⟩; replace p : Aside0 (wr.heap[u]? = some (.cells #[.int .i64 0, .slice none 0 0, .int .i64 0, .int .i64 0, .int .i64 0] 57 (0, 0))) := ⟨by rw [← hq_]; exact (bk_ p.out)⟩; replace d : Aside0 (wr.heap[c]? = some (.cells #[.int .i64 y, .slice (some v) q.length c1, .int .i64 r, .int .i64 s, .int .i64 b] 57 (0, 0))) := ⟨by rw [← hq_]; exact (bk_ d.out)⟩; replace HB : Aside0 (Below w.heap.size w wr) := ⟨by rw [← hq_]; exact bel_⟩; clear hq_)); (try (obtain ⟨_, _, _, _, _, _, _, _, _, _⟩ := cel5_ p.out)); (try (obtain ⟨_, _, _, _, _, _, _, _, _, _⟩ := cel5_ d.out))) | ((with_reducible refine gate_callee (f := 71) rfl ?_); refine goesL_ (some 38) rfl rfl Tryz.func71 kr_ rfl #[.int .u64 (rd q a)] rfl ar_ ?_; (with_reducible refine (bits_LeadingZeros64.calls (rd q a) F _ ag.out).mono ?_); rintro e w19 ⟨rfl, hb⟩; refine ⟨_, rfl, ?_⟩; replace HO_11 := a_ (vb_ (by refine vV_ ?_; exact (vm_ (fV_ (vm_ HO_11.out (fun m hk => (⟨hk, hk.2.2⟩ : _ ∧ m ≠ c)))) (fun _ h_ => h_.1))) hb); replace HO_204001 := a_ (vb_ (by refine vV_ ?_; exact (vm_ (fV_ (vm_ HO_204001.out (fun m hk => (⟨hk, hk.2.2⟩ : _ ∧ m ≠ c)))) (fun _ h_ => h_.1))) hb); replace p := a_ (bb_ (g := u) (o := .cells #[.int .i64 0, .slice none 0 0, .int .i64 0, .int .i64 0, .int .i64 0] 57 (0, 0)) (by refine bk_ ?_; refine blk_far ?_ l.out _; refine bk_ ?_; exact p.out) hb); replace d := a_ (bb_ (g := c) (o := .cells #[.int .i64 y, .slice (some v) q.length c1, .int .i64 (wrap64 ((wrap64 (y + (wrap64 (64 * a)))) + B)), .int .i64 s, .int .i64 b] 57 (0, 0)) (by refine bk_ ?_; refine bu_ (cs := #[.int .i64 y, .slice (some v) q.length c1, .int .i64 r, .int .i64 s, .int .i64 b]) ?_ 2 _ rfl; refine bk_ ?_; exact d.out) hb); replace HB := hq_ hb; clear hb; obtain ⟨_, _, _, _, _, _, _, _, _, _⟩ := cel5_ d.out))
  obtain ⟨w21, hq_⟩ : ∃ x, x = (w19.setCell ⟨c, 3, none⟩ (.int .i64 (wrap64 ((wrap64 ((wrap64 ((wrap64 (y + (wrap64 (64 * a)))) + 64)) - 1)) - F)))) := ⟨_, rfl⟩
  replace HO_11 : Aside0 (Kd.V (Kd.int .u64) 81 w21 w.heap.size (fun m => (P1_ m ∨ w.heap.size ≤ m) ∧ m ≠ u ∧ m ≠ c) (.slice (some v) q.length c1) q) := ⟨by subst hq_; refine vV_ ?_; exact vm_ (fV_ (vm_ HO_11.out (fun m hk => (⟨hk, hk.2.2⟩ : _ ∧ m ≠ c)))) (fun _ hk => ⟨hk.1.1, ⟨hk.1.2.1, hk.1.2.2⟩⟩)⟩
  replace HO_204001 : Aside0 (Kd.V (Kd.int .u64) 81 w21 w.heap.size (fun m => (P1_ m ∨ w.heap.size ≤ m) ∧ m ≠ u ∧ m ≠ c) (.slice (some v) q.length c1) q) := ⟨by subst hq_; refine vV_ ?_; exact vm_ (fV_ (vm_ HO_204001.out (fun m hk => (⟨hk, hk.2.2⟩ : _ ∧ m ≠ c)))) (fun _ hk => ⟨hk.1.1, ⟨hk.1.2.1, hk.1.2.2⟩⟩)⟩
  replace p : Aside0 (w21.heap[u]? = some (.cells #[.int .i64 0, .slice none 0 0, .int .i64 0, .int .i64 0, .int .i64 0] 57 (0, 0))) := ⟨by subst hq_; refine bk_ ?_; refine blk_far ?_ l.out _; refine bk_ ?_; exact p.out⟩
  replace d : Aside0 (w21.heap[c]? = some (.cells #[.int .i64 y, .slice (some v) q.length c1, .int .i64 (wrap64 ((wrap64 (y + (wrap64 (64 * a)))) + B)), .int .i64 (wrap64 ((wrap64 ((wrap64 ((wrap64 (y + (wrap64 (64 * a)))) + 64)) - 1)) - F)), .int .i64 b] 57 (0, 0))) := ⟨by subst hq_; refine bk_ ?_; refine bu_ (cs := #[.int .i64 y, .slice (some v) q.length c1, .int .i64 (wrap64 ((wrap64 (y + (wrap64 (64 * a)))) + B)), .int .i64 s, .int .i64 b]) ?_ 3 _ rfl; refine bk_ ?_; exact d.out⟩
  replace HB : Aside0 (Below w.heap.size w w21) := ⟨by subst hq_; exact bel_⟩
  rw [← hq_]
  clear hq_
  replace HO_11 := a_ (Kd.V_drew HO_11.out)
  replace HO_204001 := a_ (Kd.V_drew HO_204001.out)
  replace p := a_ (blk_drew p.out)
  replace d := a_ (blk_drew d.out)
  replace HB := a_ (below_drew1 HB.out)
  refine start_ (n := 7) (S := fun w' => w'.cell? ⟨c, 0, none⟩ = some (.int .i64 y) ∧ w'.cell? ⟨c, 1, none⟩ = some (.slice (some v) q.length c1) ∧ w'.cell? ⟨c, 2, none⟩ = some (.int .i64 (wrap64 ((wrap64 (y + (wrap64 (64 * a)))) + B))) ∧ w'.cell? ⟨c, 3, none⟩ = some (.int .i64 (wrap64 ((wrap64 ((wrap64 ((wrap64 (y + (wrap64 (64 * a)))) + 64)) - 1)) - F))) ∧ w'.cell? ⟨c, 4, none⟩ = some (.int .i64 b)) (ds := [6]) #[false, false, false, false, false, false, false] kr_ rfl rfl (ca5_ d.out) (fun hHeld => ?_)
  generalize w21.drew = w22 at HO_11 HO_204001 p d HB hHeld ⊢
  refine pn_ 0 41 kr_ ?_
  refine pn_ 2 43 kr_ ?_
  refine tn_ 1 42 kr_ hHeld ?_
  refine onn_ 3 44 #[true, true, true, true, false, false, false] rfl rfl kr_ (by decide) (fun K hK => ?_)
  refine goes_ Tryz.func72 kr_ rfl #[.int .u64 (rd q a)] (by rfl) rfl rfl ar_ ?_
  with_reducible refine (bits_OnesCount64.calls (rd q a) P _ ah.out).mono ?_
  rintro e w' ⟨rfl, ⟨nd, rfl⟩⟩
  refine ⟨_, rfl, ?_⟩
  refine hK.out _ _ (ca5_ d.out) (fun hHeld => ?_)
  clear hK K
  refine nor_ (N := some 44) ?_
  refine pn_ 4 45 kr_ ?_
  refine pn_ 5 46 kr_ ?_
  refine last_ (i := 6) (N := none) #[true, true, true, true, true, true, true] rfl rfl kr_ (by decide) (fun K hK => ?_)
  have aw : w22.cell? ⟨c, 4, none⟩ = some (.int .i64 b) := (blk_cell d.out 4).trans rfl
  have hfs23 := blk_frozen d.out 4
  have hns23_0 := l.out
  have hms23_0 := z.out
  refine skip_ (w1 := ?_) (by rfl) rfl ?_ ?_
  rotate_left
  ·
   go_simp
   rfl
  refine hK.out _ _ ?_
  clear hK K
  refine done_ kr_ ?_
  try go_wp2
  go_roundg k1
  case measure => have := M.out; omega
  exact ⟨(wrap64 (a + 1)), (wrap64 ((wrap64 (y + (wrap64 (64 * a)))) + B)), (wrap64 ((wrap64 ((wrap64 ((wrap64 (y + (wrap64 (64 * a)))) + 64)) - 1)) - F)), (wrap64 (b + P)), eq_, H', ⟨by have := M.out; omega⟩, ⟨by refine vV_ ?_; exact vm_ (fV_ (vm_ HO_11.out (fun m hk => (⟨hk, hk.2.2⟩ : _ ∧ m ≠ c)))) (fun _ hk => ⟨hk.1.1, ⟨hk.1.2.1, hk.1.2.2⟩⟩)⟩, ⟨by refine vV_ ?_; exact vm_ (fV_ (vm_ HO_204001.out (fun m hk => (⟨hk, hk.2.2⟩ : _ ∧ m ≠ c)))) (fun _ hk => ⟨hk.1.1, ⟨hk.1.2.1, hk.1.2.2⟩⟩)⟩, ⟨by refine bk_ ?_; refine blk_far ?_ l.out _; refine bk_ ?_; exact p.out⟩, ⟨by refine bk_ ?_; refine bu_ (cs := #[.int .i64 y, .slice (some v) q.length c1, .int .i64 (wrap64 ((wrap64 (y + (wrap64 (64 * a)))) + B)), .int .i64 (wrap64 ((wrap64 ((wrap64 ((wrap64 (y + (wrap64 (64 * a)))) + 64)) - 1)) - F)), .int .i64 b]) ?_ 4 _ rfl; refine bk_ ?_; exact d.out⟩, ⟨bel_⟩⟩

/-! ### dom_Of_1: function 61 -/
def dom_Of_1.f (b : Int) : Option (Bool) := (dom_in.f b).bind fun a => (some (!a))
set_option maxHeartbeats 8000000 in
set_option maxRecDepth 100000 in
theorem dom_Of_1.calls (a : Int) (r : Bool) (w : World) (h : dom_Of_1.f a = some r) :
  Calls Tryz.prog 61 #[.int .i64 a] w fun e w' => e = .returned (.bool r) ∧ Drawn0 w w' := by
 unfold dom_Of_1.f at h
 have H := h
 clear h
 replace H := bo_ H
 obtain ⟨b, c, H⟩ := H
 try dsimp only at H
 obtain rfl := si_ H
 go_enter Tryz.func61, Tryz.ntmps61
 go_wp2_with (first | ((with_reducible refine gate_callee (f := 49) rfl ?_); refine goesL_ (some 4) rfl rfl Tryz.func49 kr_ rfl #[.int .i64 a] rfl ar_ ?_; (with_reducible refine (dom_in.calls a b _ c.out).mono ?_); rintro e w' ⟨rfl, ⟨nd, rfl⟩⟩; refine ⟨_, rfl, ?_⟩))
 go_ret
 exact ⟨by first | rfl | (simp; done) | (simp [*]; done), by repeat (first | exact d0_ _ | apply Drawn0.step)⟩

/-! ### slices_Max_int: function 62 -/
def slices_Max_int.f (a : List Int) : Option Int := if a = [] then none else some (a.foldl mx (rd a 0))
theorem slices_Max_int.calls (c : Option Addr) (c0 : Nat) (a : List Int) (r : Int) (w : World) (b : Kd.C (Kd.int .i64) w c a.length a) (g : a.length ≤ c0) (h : slices_Max_int.f a = some r) :
  Calls Tryz.prog 62 #[.slice c a.length c0] w fun e w' => e = .returned (.int .i64 r) ∧ Drawn0 w w' := by
 unfold slices_Max_int.f at h
 by_cases hn : a = []
 · rw [if_pos hn] at h; cases h
 rw [if_neg hn] at h
 have hn0 : 0 < a.length := by cases a with | nil => exact absurd rfl hn | cons => simp
 have hbig : a.length ≤ 9223372036854775807 := b.2.1
 have HE := Aside0.mk (Option.some.inj h)
 have HR := Aside0.mk b
 have l : decide (a.length < 1) = false := decide_eq_false (by omega)
 have n : decide ((a.length : Int) < 1) = false := decide_eq_false (by omega)
 obtain ⟨ad, rfl, hcell0⟩ := Kd.at_int HR.out 0 (by omega) (by omega)
 clear h b hn
 have d : w.cell? (ad.add 0) = some (.int .i64 (rd a 0)) := hcell0
 have o : w.cell? ad = some (.int .i64 (rd a 0)) := (show ad.add 0 = ad by cases ad; simp [Addr.add]) ▸ d
 clear hcell0
 go_enter Tryz.func62, Tryz.ntmps62
 go_wp2
 go_loopg [3, 4] a.length (fun gg s4 s5 wr => ∃ kk : Nat, kk ≤ a.length ∧ 1 ≤ kk ∧ a.length - kk ≤ gg ∧ s5 = .int .i64 kk ∧ s4 = .int .i64 ((a.take kk).foldl mx (rd a 0)) ∧ Aside0 (Drawn0 w wr))
 case atStart => exact ⟨1, by omega, by omega, by omega, rfl, by rw [show (1 : Nat) = 0 + 1 from rfl, fold_step hn0]; show Value.int .i64 (rd a 0) = .int .i64 (mx (rd a 0) (rd a 0)); rw [mx_self], ⟨Drawn0.refl _⟩⟩
 obtain ⟨kk, hkk, h1, hg, rfl, rfl, BW⟩ := hrel
 obtain ⟨⟨m, rfl⟩⟩ := BW
 by_cases hlt : kk < a.length
 rotate_left
 ·
  have : kk = a.length := by omega
  subst this
  have HS := Aside0.mk (show (a.take a.length).foldl mx (rd a 0) = r by rw [List.take_length]; exact HE.out)
  generalize (a.take a.length).foldl mx (rd a 0) = y at *
  go_wp2
  go_ret
  exact ⟨by rw [HS.out]; rfl, ⟨_, rfl⟩⟩
 have hltz : (kk : Int) < (a.length : Int) := by omega
 obtain ⟨ad', had, hcell⟩ := Kd.at_int HR.out (kk : Int) (by omega) hltz
 obtain rfl := Option.some.inj had
 rw [Int.toNat_natCast] at hcell
 have hcell' : (w.drewN m).cell? (ad.add kk) = some (.int .i64 (rd a kk)) := by rw [World.cell?_drewN]; exact hcell
 have HS := Aside0.mk (fold_step (op := mx) (z := rd a 0) hlt)
 clear hcell had
 generalize (a.take kk).foldl mx (rd a 0) = y at *
 go_wp2
 all_goals
  go_roundg (a.length - (kk + 1))
  case measure => omega
  case rel =>
   exact ⟨kk + 1, by omega, by omega, by omega, by go_num, by rw [HS.out]; unfold mx; first | rw [if_pos (by omega)] | rw [if_neg (by omega)], ⟨⟨_, rfl⟩⟩⟩

/-! ### slices_Min_int: function 63 -/
def slices_Min_int.f (a : List Int) : Option Int := if a = [] then none else some (a.foldl mn (rd a 0))
theorem slices_Min_int.calls (c : Option Addr) (c0 : Nat) (a : List Int) (r : Int) (w : World) (b : Kd.C (Kd.int .i64) w c a.length a) (g : a.length ≤ c0) (h : slices_Min_int.f a = some r) :
  Calls Tryz.prog 63 #[.slice c a.length c0] w fun e w' => e = .returned (.int .i64 r) ∧ Drawn0 w w' := by
 unfold slices_Min_int.f at h
 by_cases hn : a = []
 · rw [if_pos hn] at h; cases h
 rw [if_neg hn] at h
 have hn0 : 0 < a.length := by cases a with | nil => exact absurd rfl hn | cons => simp
 have hbig : a.length ≤ 9223372036854775807 := b.2.1
 have HE := Aside0.mk (Option.some.inj h)
 have HR := Aside0.mk b
 have l : decide (a.length < 1) = false := decide_eq_false (by omega)
 have n : decide ((a.length : Int) < 1) = false := decide_eq_false (by omega)
 obtain ⟨ad, rfl, hcell0⟩ := Kd.at_int HR.out 0 (by omega) (by omega)
 clear h b hn
 have d : w.cell? (ad.add 0) = some (.int .i64 (rd a 0)) := hcell0
 have o : w.cell? ad = some (.int .i64 (rd a 0)) := (show ad.add 0 = ad by cases ad; simp [Addr.add]) ▸ d
 clear hcell0
 go_enter Tryz.func63, Tryz.ntmps63
 go_wp2
 go_loopg [3, 4] a.length (fun gg s4 s5 wr => ∃ kk : Nat, kk ≤ a.length ∧ 1 ≤ kk ∧ a.length - kk ≤ gg ∧ s5 = .int .i64 kk ∧ s4 = .int .i64 ((a.take kk).foldl mn (rd a 0)) ∧ Aside0 (Drawn0 w wr))
 case atStart => exact ⟨1, by omega, by omega, by omega, rfl, by rw [show (1 : Nat) = 0 + 1 from rfl, fold_step hn0]; show Value.int .i64 (rd a 0) = .int .i64 (mn (rd a 0) (rd a 0)); rw [mn_self], ⟨Drawn0.refl _⟩⟩
 obtain ⟨kk, hkk, h1, hg, rfl, rfl, BW⟩ := hrel
 obtain ⟨⟨m, rfl⟩⟩ := BW
 by_cases hlt : kk < a.length
 rotate_left
 ·
  have : kk = a.length := by omega
  subst this
  have HS := Aside0.mk (show (a.take a.length).foldl mn (rd a 0) = r by rw [List.take_length]; exact HE.out)
  generalize (a.take a.length).foldl mn (rd a 0) = y at *
  go_wp2
  go_ret
  exact ⟨by rw [HS.out]; rfl, ⟨_, rfl⟩⟩
 have hltz : (kk : Int) < (a.length : Int) := by omega
 obtain ⟨ad', had, hcell⟩ := Kd.at_int HR.out (kk : Int) (by omega) hltz
 obtain rfl := Option.some.inj had
 rw [Int.toNat_natCast] at hcell
 have hcell' : (w.drewN m).cell? (ad.add kk) = some (.int .i64 (rd a kk)) := by rw [World.cell?_drewN]; exact hcell
 have HS := Aside0.mk (fold_step (op := mn) (z := rd a 0) hlt)
 clear hcell had
 generalize (a.take kk).foldl mn (rd a 0) = y at *
 go_wp2
 all_goals
  go_roundg (a.length - (kk + 1))
  case measure => omega
  case rel =>
   exact ⟨kk + 1, by omega, by omega, by omega, by go_num, by rw [HS.out]; unfold mn; first | rw [if_pos (by omega)] | rw [if_neg (by omega)], ⟨⟨_, rfl⟩⟩⟩

/-! ### slices_IndexFunc_int_int_83_at_dom_Of_1: function 83 -/
def slices_IndexFunc_int_int_83_at_dom_Of_1.l0 : Nat → List Int → Int → Int → Option (Int)
 | 0, _, _, _ => none
 | k + 1, b, d, a => if a < d then (if 0 ≤ a then (if a < (b.length : Int) then ((dom_Of_1.f (rd b a)).bind fun c => (if c = true then (some a) else (slices_IndexFunc_int_int_83_at_dom_Of_1.l0 k b d (wrap64 (a + 1))))) else (none)) else (none)) else (some (-1))
def slices_IndexFunc_int_int_83_at_dom_Of_1.f (k : Nat) (a : List Int)  : Option (Int) := slices_IndexFunc_int_int_83_at_dom_Of_1.l0 k a (a.length : Int) 0
theorem slices_IndexFunc_int_int_83_at_dom_Of_1.mono_l : ∀ k, (∀ a b c, LeO (slices_IndexFunc_int_int_83_at_dom_Of_1.l0 k a b c) (slices_IndexFunc_int_int_83_at_dom_Of_1.l0 (k + 1) a b c))
 | 0 => by intros; exact LeO.none _
 | k + 1 => by
  have ih0 := slices_IndexFunc_int_int_83_at_dom_Of_1.mono_l k
  intro a b c
  unfold slices_IndexFunc_int_int_83_at_dom_Of_1.l0
  exact leo_
theorem slices_IndexFunc_int_int_83_at_dom_Of_1.mono : ∀ a k, LeO (slices_IndexFunc_int_int_83_at_dom_Of_1.f k a) (slices_IndexFunc_int_int_83_at_dom_Of_1.f (k + 1) a) := by
 intro a k
 have ih0 := slices_IndexFunc_int_int_83_at_dom_Of_1.mono_l k
 unfold slices_IndexFunc_int_int_83_at_dom_Of_1.f
 exact leo_
set_option maxHeartbeats 8000000 in
set_option maxRecDepth 100000 in
theorem slices_IndexFunc_int_int_83_at_dom_Of_1.calls (k : Nat) (s : Option Addr) (c0 : Nat) (b : List Int)  (r : Int) (w : World) (m : Kd.C (Kd.int .i64) w s b.length b) (n : b.length ≤ c0) (h : slices_IndexFunc_int_int_83_at_dom_Of_1.f k b = some r) :
  Calls Tryz.prog 83 #[.slice s b.length c0, .func (.func 61) #[] #[]] w fun e w' => e = .returned (.int .i64 r) ∧ Drawn0 w w' := by
 have o := a_ m
 have v := a_ n
 clear m n
 unfold slices_IndexFunc_int_int_83_at_dom_Of_1.f at h
 have H := h
 clear h
 have H' := a_ H
 clear H
 go_enter Tryz.func83, Tryz.ntmps83
 go_wp2
 go_loopg [8] k (fun kq u w' => ∃ (a : Int), u = .int .i64 a ∧ Aside0 (slices_IndexFunc_int_int_83_at_dom_Of_1.l0 kq b (b.length : Int) a = some r) ∧ Aside0 (kq ≤ k) ∧ Drawn0 w w')
 case atStart => exact ⟨(0), eq_, H', ⟨lr_ _⟩, by repeat (first | exact d0_ _ | apply Drawn0.step)⟩
 clear H'
 try clear p2
 obtain ⟨a, rfl, HA, p, ⟨m1, rfl⟩⟩ := hrel
 cases gk with
 | zero => exact absurd HA.out (by simp [slices_IndexFunc_int_int_83_at_dom_Of_1.l0])
 | succ k1 =>
  have H := HA.out
  clear HA
  simp only [slices_IndexFunc_int_int_83_at_dom_Of_1.l0] at H
  by_cases c3 : a < (b.length : Int)
  rotate_left
  ·
   rw [ig_ c3] at H
   have c3b0 : decide (a < (b.length : Int)) = false := df_ c3
   clear c3
   obtain rfl := si_ H
   go_wp2
   go_ret
   exact ⟨by first | rfl | (simp; done) | (simp [*]; done), by repeat (first | exact d0_ _ | apply Drawn0.step)⟩
  rw [ip_ c3] at H
  have c3b0 : decide (a < (b.length : Int)) = true := dt_ c3
  clear c3
  by_cases c4 : 0 ≤ a
  rotate_left
  ·
   rw [ig_ c4] at H
   exact ab_ H
  rw [ip_ c4] at H
  have c4b0 : decide (0 ≤ a) = true := dt_ c4
  clear c4
  by_cases c5 : a < (b.length : Int)
  rotate_left
  ·
   rw [ig_ c5] at H
   exact ab_ H
  rw [ip_ c5] at H
  have c5b0 : decide (a < (b.length : Int)) = true := dt_ c5
  clear c5
  replace H := bo_ H
  obtain ⟨q, t, H⟩ := H
  try dsimp only at H
  by_cases c7 : q = true
  ·
   subst c7
   rw [ip_ rfl] at H
   obtain rfl := si_ H
   have p211 : 0 ≤ (a : Int) := dq_
   have c : a < (b.length : Int) := dq_
   obtain ⟨l, d, g⟩ := ai_ o.out a p211 c
   cases d
   replace p211 := et_ p211
   replace c := et_ c
   go_wp2_with (first | (go_at_call 61; (with_reducible refine (dom_Of_1.calls (rd b a) true _ t.out).mono ?_); rintro e w' ⟨rfl, ⟨nd, rfl⟩⟩))
   go_ret
   exact ⟨by first | rfl | (simp; done) | (simp [*]; done), by repeat (first | exact d0_ _ | apply Drawn0.step)⟩
  replace c7 := bf_.mpr c7
  subst c7
  have H1 : (slices_IndexFunc_int_int_83_at_dom_Of_1.l0 k1 b (b.length : Int) (wrap64 (a + 1))) = some r := by rw [ig_ (show ¬ (false = true) by decide)] at H; exact H
  clear H
  have H := H1
  clear H1
  have H' := a_ H
  clear H
  have p211 : 0 ≤ (a : Int) := dq_
  have c : a < (b.length : Int) := dq_
  obtain ⟨l, d, g⟩ := ai_ o.out a p211 c
  cases d
  replace p211 := et_ p211
  replace c := et_ c
  go_wp2_with (first | (go_at_call 61; (with_reducible refine (dom_Of_1.calls (rd b a) false _ t.out).mono ?_); rintro e w' ⟨rfl, ⟨nd, rfl⟩⟩))
  go_roundg k1
  case measure => have := p.out; omega
  exact ⟨(wrap64 (a + 1)), eq_, H', ⟨by have := p.out; omega⟩, by repeat (first | exact d0_ _ | apply Drawn0.step)⟩

/-! ### slices_ContainsFunc_int_int_60_at_dom_Of_1: function 60 -/
def slices_ContainsFunc_int_int_60_at_dom_Of_1.f (k : Nat) (b : List Int)  : Option (Bool) := (slices_IndexFunc_int_int_83_at_dom_Of_1.f k b).bind fun a => (some (decide (a ≥ 0)))
theorem slices_ContainsFunc_int_int_60_at_dom_Of_1.mono : ∀ a k, LeO (slices_ContainsFunc_int_int_60_at_dom_Of_1.f k a) (slices_ContainsFunc_int_int_60_at_dom_Of_1.f (k + 1) a) := by
 intro a k
 unfold slices_ContainsFunc_int_int_60_at_dom_Of_1.f
 have m0 := @slices_IndexFunc_int_int_83_at_dom_Of_1.mono
 exact leo_
set_option maxHeartbeats 8000000 in
set_option maxRecDepth 100000 in
theorem slices_ContainsFunc_int_int_60_at_dom_Of_1.calls (k : Nat) (d : Option Addr) (c0 : Nat) (a : List Int)  (r : Bool) (w : World) (b : Kd.C (Kd.int .i64) w d a.length a) (c : a.length ≤ c0) (h : slices_ContainsFunc_int_int_60_at_dom_Of_1.f k a = some r) :
  Calls Tryz.prog 60 #[.slice d a.length c0, .func (.func 61) #[] #[]] w fun e w' => e = .returned (.bool r) ∧ Drawn0 w w' := by
 have l := a_ b
 have m := a_ c
 clear b c
 unfold slices_ContainsFunc_int_int_60_at_dom_Of_1.f at h
 have H := h
 clear h
 replace H := bo_ H
 obtain ⟨g, n, H⟩ := H
 try dsimp only at H
 obtain rfl := si_ H
 go_enter Tryz.func60, Tryz.ntmps60
 go_wp2_with (first | ((with_reducible refine gate_callee (f := 83) rfl ?_); refine goesL_ (some 7) rfl rfl Tryz.func83 kr_ rfl #[.slice d a.length c0, .func (.func 61) #[] #[]] rfl ar_ ?_; (with_reducible refine (slices_IndexFunc_int_int_83_at_dom_Of_1.calls k _ _ a g _ ?_ ?_ n.out).mono ?_); exact ca_ (l.out); exact m.out; rintro e w' ⟨rfl, ⟨nd, rfl⟩⟩; refine ⟨_, rfl, ?_⟩))
 go_ret
 exact ⟨by first | rfl | (simp; done) | (simp [*]; done), by repeat (first | exact d0_ _ | apply Drawn0.step)⟩

end Go.Proofs.YtckfbfdnlpnllaaGreatDoor.XAllDiffFixed
