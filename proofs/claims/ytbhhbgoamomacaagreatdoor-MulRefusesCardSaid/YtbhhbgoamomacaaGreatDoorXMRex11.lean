-- by xprint.py, a program of this session, over the kit's print
import Derived.Test.YtbhhbgoamomacaaGreatDoorXMRex0
import Derived.Test.YtbhhbgoamomacaaGreatDoorXMRex10
import Derived.Test.YtbhhbgoamomacaaGreatDoorSq
namespace Go.Proofs.YtbhhbgoamomacaaGreatDoor.XMulRefuses
open Go.RowKit Go.Proofs.YtbhhbgoamomacaaGreatDoor.Sq Go.Proofs.YtbhhbgoamomacaaGreatDoorW.PrintWords Go.Proofs.YtbhhbgoamomacaaGreatDoorW.PrintLast Go.Proofs.YtbhhbgoamomacaaGreatDoorW.PrintMore
attribute [local go_sem] max2_int min2_int max_two min_two max_three min_three max_four min_four   -- for this text's walks alone
set_option linter.unusedVariables false
set_option linter.unusedSimpArgs false

/-! ### dom_made: function 75 -/
def dom_made.l0 : Nat → Int → List Int → Int → Int → Int → List Int → Int → Int → Int → Option (Int × List Int × Int × Int × Int)
 | 0, _, _, _, _, _, _, _, _, _ => none
 | k + 1, m, c, n, a, d, e, g, l, b => if a < n then (if 0 ≤ a then (if a < (c.length : Int) then (if (rd c a) = 0 then (none) else (if b = 0 then ((bits_TrailingZeros64.f (rd c a)).bind fun o => ((bits_LeadingZeros64.f (rd c a)).bind fun p => ((bits_OnesCount64.f (rd c a)).bind fun q => (dom_made.l0 k m c n (wrap64 (a + 1)) d e (wrap64 ((wrap64 (m + (wrap64 (64 * a)))) + o)) (wrap64 ((wrap64 ((wrap64 ((wrap64 (m + (wrap64 (64 * a)))) + 64)) - 1)) - p)) (wrap64 (b + q)))))) else ((bits_LeadingZeros64.f (rd c a)).bind fun r => ((bits_OnesCount64.f (rd c a)).bind fun s => (dom_made.l0 k m c n (wrap64 (a + 1)) d e g (wrap64 ((wrap64 ((wrap64 ((wrap64 (m + (wrap64 (64 * a)))) + 64)) - 1)) - r)) (wrap64 (b + s))))))) else (none)) else (none)) else (some (d, e, g, l, b))
def dom_made.f (k : Nat) (b : Int) (a : List Int) : Option (Int × List Int × Int × Int × Int) := dom_made.l0 k b a (a.length : Int) 0 b a 0 0 0
theorem dom_made.mono_l : ∀ k, (∀ a b c d e f g l m, LeO (dom_made.l0 k a b c d e f g l m) (dom_made.l0 (k + 1) a b c d e f g l m))
 | 0 => by intros; exact LeO.none _
 | k + 1 => by
  have ih0 := dom_made.mono_l k
  intro a b c d e f g l m
  unfold dom_made.l0
  exact leo_
theorem dom_made.mono : ∀ a b k, LeO (dom_made.f k a b) (dom_made.f (k + 1) a b) := by
 intro a b k
 have ih0 := dom_made.mono_l k
 unfold dom_made.f
 exact leo_
set_option maxHeartbeats 8000000 in
set_option maxRecDepth 100000 in
theorem dom_made.calls (k : Nat) (y : Int) (P1_ : Nat → Prop) (E : Option Addr) (c1 : Nat) (q : List Int) (Y : Int) (Z : List Int) (r3 : Int) (r4 : Int) (r5 : Int) (w : World) (ad : Kd.V (Kd.int .u64) 87 w w.heap.size (fun m => P1_ m) (.slice E q.length c1) q) (hrtab : Kd.C (Kd.int .u8) w (some ⟨0, 0, none⟩) tabL.length tabL) (h : dom_made.f k y q = some (Y, Z, r3, r4, r5)) :
  Calls Tryz.prog 75 #[.int .i64 y, .slice E q.length c1] w fun e w' => ∃ X : Value, e = .returned (.agg #[.int .i64 Y, X, .int .i64 r3, .int .i64 r4, .int .i64 r5]) ∧ Kd.V (Kd.int .u64) 87 w' w.heap.size (fun m => (P1_ m ∨ w.heap.size ≤ m)) X Z ∧ Below w.heap.size w w' := by
 have hu61 := Tryz.underlying61
 have I := a_ (show Kd.V (Kd.int .u64) 87 w w.heap.size (fun m => (P1_ m ∨ w.heap.size ≤ m)) (.slice E q.length c1) q from vm_ ad (fun m hk => .inl hk))
 have HRtab := a_ hrtab
 clear hrtab
 have HB := a_ (Below.refl w.heap.size w)
 unfold dom_made.f at h
 have H := h
 clear h
 have H' := a_ H
 clear H
 go_enter Tryz.func75, Tryz.ntmps75
 go_wp2_with (first | ((with_reducible refine gate_dst (N := 4) rfl ?_); refine bxe_ (N := 4) (cs := #[.int .i64 0, .slice none 0 0, .int .i64 0, .int .i64 0, .int .i64 0]) (t := 61) ?_; intro s hg w3 hbox hb; replace I := a_ (vb_ (Kd.V_elderB (vV_ I.out) s (Nat.le_of_eq hg.symm)) hb); have p := a_ (hbox); have U := a_ (by rw [hg]; exact (bz_ bel_) : w.heap.size ≤ s); have ak := U; replace HB := hq_ hb; clear hb hbox hg) | ((with_reducible refine gate_dst (N := 5) rfl ?_); refine bxe_ (N := 5) (cs := #[.int .i64 0, .slice none 0 0, .int .i64 0, .int .i64 0, .int .i64 0]) (t := 61) ?_; intro c hg w4 hbox hb; replace I := a_ (vb_ (Kd.V_elderB (vV_ I.out) c (Nat.le_of_eq hg.symm)) hb); have d := a_ (hbox); have W := a_ (by rw [hg]; exact (bz_ bel_) : w.heap.size ≤ c); have al := W; replace HB := hq_ hb; have l := a_ ((by rw [hg]; exact Nat.ne_of_lt (blk_lt (bk_ p.out)) : s ≠ c)); have z := a_ ((by rw [hg]; exact Nat.ne_of_gt (blk_lt (bk_ p.out)) : c ≠ s)); replace p := a_ (bq_ p.out hb); clear hb hbox hg; have au := z.out; have av := l.out; obtain ⟨_, _, _, _, _, _, _, _, _, _⟩ := cel5_ d.out))
 go_loopg [13] k (fun kq ae w' => ∃ (a : Int) (r : Int) (u : Int) (b : Int), ae = .int .i64 a ∧ Aside0 (dom_made.l0 kq y q (q.length : Int) a y q r u b = some (Y, Z, r3, r4, r5)) ∧ Aside0 (kq ≤ k) ∧ Aside0 (Kd.V (Kd.int .u64) 87 w' w.heap.size (fun m => (P1_ m ∨ w.heap.size ≤ m) ∧ m ≠ s ∧ m ≠ c) (.slice E q.length c1) q) ∧ Aside0 (Kd.V (Kd.int .u64) 87 w' w.heap.size (fun m => (P1_ m ∨ w.heap.size ≤ m) ∧ m ≠ s ∧ m ≠ c) (.slice E q.length c1) q) ∧ Aside0 (w'.heap[s]? = some (.cells #[.int .i64 0, (.slice none 0 0), .int .i64 0, .int .i64 0, .int .i64 0] 61 (0, 0))) ∧ Aside0 (w'.heap[c]? = some (.cells #[.int .i64 y, (.slice E q.length c1), .int .i64 r, .int .i64 u, .int .i64 b] 61 (0, 0))) ∧ Aside0 (Below w.heap.size w w'))
 case atStart => exact ⟨(0), (0), (0), (0), eq_, H', ⟨lr_ _⟩, ⟨by refine vV_ ?_; exact vm_ (fV_ (fV_ (fV_ (fV_ (fV_ (vm_ I.out (fun m hk => (⟨hk, hk.2⟩ : _ ∧ m ≠ c)))))))) (fun _ hk => ⟨hk.1.1.1, ⟨hk.1.1.2, hk.1.2⟩⟩)⟩, ⟨by refine vV_ ?_; exact vm_ (fV_ (fV_ (fV_ (fV_ (fV_ (vm_ I.out (fun m hk => (⟨hk, hk.2⟩ : _ ∧ m ≠ c)))))))) (fun _ hk => ⟨hk.1.1.1, ⟨hk.1.1.2, hk.1.2⟩⟩)⟩, ⟨by refine bk_ ?_; refine blk_far ?_ l.out _; refine bk_ ?_; refine blk_far ?_ l.out _; refine bk_ ?_; refine blk_far ?_ l.out _; refine bk_ ?_; refine blk_far ?_ l.out _; refine bk_ ?_; refine blk_far ?_ l.out _; refine bk_ ?_; exact p.out⟩, ⟨by refine bk_ ?_; refine bu_ (cs := #[.int .i64 y, .slice E q.length c1, .int .i64 0, .int .i64 0, .int .i64 0]) ?_ 4 _ rfl; refine bk_ ?_; refine bu_ (cs := #[.int .i64 y, .slice E q.length c1, .int .i64 0, .int .i64 0, .int .i64 0]) ?_ 3 _ rfl; refine bk_ ?_; refine bu_ (cs := #[.int .i64 y, .slice E q.length c1, .int .i64 0, .int .i64 0, .int .i64 0]) ?_ 2 _ rfl; refine bk_ ?_; refine bu_ (cs := #[.int .i64 y, .slice none 0 0, .int .i64 0, .int .i64 0, .int .i64 0]) ?_ 1 _ rfl; refine bk_ ?_; refine bu_ (cs := #[.int .i64 0, .slice none 0 0, .int .i64 0, .int .i64 0, .int .i64 0]) ?_ 0 _ rfl; refine bk_ ?_; exact d.out⟩, ⟨bel_⟩⟩
 clear H'
 try clear c1
 try clear p2
 try clear c5
 obtain ⟨a, r, u, b, rfl, HA, M, HO_11, HO_352001, p, d, HB⟩ := hrel
 cases gk with
 | zero => exact absurd HA.out (by simp [dom_made.l0])
 | succ k1 =>
  have H := HA.out
  clear HA
  simp only [dom_made.l0] at H
  by_cases c7 : a < (q.length : Int)
  rotate_left
  ·
   rw [ig_ c7] at H
   have c7b0 : decide (a < (q.length : Int)) = false := df_ c7
   clear c7
   simp only [Option.some.injEq, Prod.mk.injEq] at H
   obtain ⟨rfl, rfl, rfl, rfl, rfl⟩ := H
   have aq := z.out
   have ar := l.out
   obtain ⟨_, _, _, _, _, _, _, _, _, _⟩ := cel5_ d.out
   obtain ⟨_, _, _, _, _, _, _, _, _, _⟩ := cel5_ p.out
   go_wp2
   refine bodyPost_ret (results_cell_row rfl _ _ s 61 #[.int .i64 y, .slice E q.length c1, .int .i64 r, .int .i64 u, .int .i64 b] (0, 0) _ rfl (by refine bk_ ?_; refine bu_ (cs := #[.int .i64 y, .slice E q.length c1, .int .i64 r, .int .i64 u, .int .i64 0]) ?_ 4 _ rfl; refine bk_ ?_; refine bu_ (cs := #[.int .i64 y, .slice E q.length c1, .int .i64 r, .int .i64 0, .int .i64 0]) ?_ 3 _ rfl; refine bk_ ?_; refine bu_ (cs := #[.int .i64 y, .slice E q.length c1, .int .i64 0, .int .i64 0, .int .i64 0]) ?_ 2 _ rfl; refine bk_ ?_; refine bu_ (cs := #[.int .i64 y, .slice none 0 0, .int .i64 0, .int .i64 0, .int .i64 0]) ?_ 1 _ rfl; refine bk_ ?_; refine bu_ (cs := #[.int .i64 0, .slice none 0 0, .int .i64 0, .int .i64 0, .int .i64 0]) ?_ 0 _ rfl; refine bk_ ?_; exact p.out) Tryz.underlying61 rfl kr_) rfl ?_
   exact ⟨_, er_, by refine vV_ ?_; exact vm_ (fV_ (fV_ (fV_ (fV_ (fV_ (vm_ HO_352001.out (fun m hk => (⟨hk, hk.2.1⟩ : _ ∧ m ≠ s)))))))) (fun _ hk => hk.1.1), bel_⟩
  rw [ip_ c7] at H
  have c7b0 : decide (a < (q.length : Int)) = true := dt_ c7
  clear c7
  by_cases c8 : 0 ≤ a
  rotate_left
  ·
   rw [ig_ c8] at H
   exact ab_ H
  rw [ip_ c8] at H
  have c8b0 : decide (0 ≤ a) = true := dt_ c8
  clear c8
  by_cases c9 : a < (q.length : Int)
  rotate_left
  ·
   rw [ig_ c9] at H
   exact ab_ H
  rw [ip_ c9] at H
  have c9b0 : decide (a < (q.length : Int)) = true := dt_ c9
  clear c9
  by_cases c10 : (rd q a) = 0
  ·
   rw [ip_ c10] at H
   exact ab_ H
  rw [ig_ c10] at H
  have c10b0 : ((rd q a) == 0) = false := be_.mpr c10
  have c10b1 : ((rd q a) != 0) = true := ni_.mpr c10
  by_cases c11 : b = 0
  rotate_left
  ·
   rw [ig_ c11] at H
   have c11b0 : (b == 0) = false := be_.mpr c11
   have c11b1 : (b != 0) = true := ni_.mpr c11
   replace H := bo_ H
   obtain ⟨G, ai, H⟩ := H
   try dsimp only at H
   replace H := bo_ H
   obtain ⟨Q, aj, H⟩ := H
   try dsimp only at H
   have H' := a_ H
   clear H
   have p352 : 0 ≤ (a : Int) := dq_
   have B : a < (q.length : Int) := dq_
   obtain ⟨v, J, O⟩ := ai_ (Kd.V_reads' HO_11.out).2.2 a p352 B
   cases J
   replace p352 := et_ p352
   replace B := et_ B
   have ao := z.out
   have ap := l.out
   obtain ⟨_, _, _, _, _, _, _, _, _, _⟩ := cel5_ d.out
   try go_wp2_with (first | ((with_reducible refine gate_callee (f := 102) rfl ?_); refine goesL_ (some 38) rfl rfl Tryz.func102 kr_ rfl #[.int .u64 (rd q a)] rfl ar_ ?_; (with_reducible refine (bits_LeadingZeros64.calls (rd q a) G _ ai.out).mono ?_); rintro e w28 ⟨rfl, hb⟩; refine ⟨_, rfl, ?_⟩; replace HO_11 := a_ (vb_ (vV_ HO_11.out) hb); replace HO_352001 := a_ (vb_ (vV_ HO_352001.out) hb); replace p := a_ (bq_ p.out hb); replace d := a_ (bq_ d.out hb); replace HB := hq_ hb; clear hb; obtain ⟨_, _, _, _, _, _, _, _, _, _⟩ := cel5_ d.out))
   obtain ⟨w30, hq_⟩ : ∃ x, x = (w28.setCell ⟨c, 3, none⟩ (.int .i64 (wrap64 ((wrap64 ((wrap64 ((wrap64 (y + (wrap64 (64 * a)))) + 64)) - 1)) - G)))) := ⟨_, rfl⟩
   replace HO_11 : Aside0 (Kd.V (Kd.int .u64) 87 w30 w.heap.size (fun m => (P1_ m ∨ w.heap.size ≤ m) ∧ m ≠ s ∧ m ≠ c) (.slice (some v) q.length c1) q) := ⟨by subst hq_; refine vV_ ?_; exact vm_ (fV_ (vm_ HO_11.out (fun m hk => (⟨hk, hk.2.2⟩ : _ ∧ m ≠ c)))) (fun _ hk => ⟨hk.1.1, ⟨hk.1.2.1, hk.1.2.2⟩⟩)⟩
   replace HO_352001 : Aside0 (Kd.V (Kd.int .u64) 87 w30 w.heap.size (fun m => (P1_ m ∨ w.heap.size ≤ m) ∧ m ≠ s ∧ m ≠ c) (.slice (some v) q.length c1) q) := ⟨by subst hq_; refine vV_ ?_; exact vm_ (fV_ (vm_ HO_352001.out (fun m hk => (⟨hk, hk.2.2⟩ : _ ∧ m ≠ c)))) (fun _ hk => ⟨hk.1.1, ⟨hk.1.2.1, hk.1.2.2⟩⟩)⟩
   replace p : Aside0 (w30.heap[s]? = some (.cells #[.int .i64 0, .slice none 0 0, .int .i64 0, .int .i64 0, .int .i64 0] 61 (0, 0))) := ⟨by subst hq_; refine bk_ ?_; refine blk_far ?_ l.out _; refine bk_ ?_; exact p.out⟩
   replace d : Aside0 (w30.heap[c]? = some (.cells #[.int .i64 y, .slice (some v) q.length c1, .int .i64 r, .int .i64 (wrap64 ((wrap64 ((wrap64 ((wrap64 (y + (wrap64 (64 * a)))) + 64)) - 1)) - G)), .int .i64 b] 61 (0, 0))) := ⟨by subst hq_; refine bk_ ?_; refine bu_ (cs := #[.int .i64 y, .slice (some v) q.length c1, .int .i64 r, .int .i64 u, .int .i64 b]) ?_ 3 _ rfl; refine bk_ ?_; exact d.out⟩
   replace HB : Aside0 (Below w.heap.size w w30) := ⟨by subst hq_; exact bel_⟩
   rw [← hq_]
   clear hq_
   replace HO_11 := a_ (Kd.V_drew HO_11.out)
   replace HO_352001 := a_ (Kd.V_drew HO_352001.out)
   replace p := a_ (blk_drew p.out)
   replace d := a_ (blk_drew d.out)
   replace HB := a_ (below_drew1 HB.out)
   refine start_ (n := 7) (S := fun w' => w'.cell? ⟨c, 0, none⟩ = some (.int .i64 y) ∧ w'.cell? ⟨c, 1, none⟩ = some (.slice (some v) q.length c1) ∧ w'.cell? ⟨c, 2, none⟩ = some (.int .i64 r) ∧ w'.cell? ⟨c, 3, none⟩ = some (.int .i64 (wrap64 ((wrap64 ((wrap64 ((wrap64 (y + (wrap64 (64 * a)))) + 64)) - 1)) - G))) ∧ w'.cell? ⟨c, 4, none⟩ = some (.int .i64 b)) (ds := [6]) #[false, false, false, false, false, false, false] kr_ rfl rfl (ca5_ d.out) (fun hHeld => ?_)
   generalize w30.drew = w31 at HO_11 HO_352001 p d HB hHeld ⊢
   refine pn_ 0 41 kr_ ?_
   refine pn_ 2 43 kr_ ?_
   refine tn_ 1 42 kr_ hHeld ?_
   refine onn_ 3 44 #[true, true, true, true, false, false, false] rfl rfl kr_ (by decide) (fun K hK => ?_)
   refine goes_ Tryz.func103 kr_ rfl #[.int .u64 (rd q a)] (by rfl) rfl rfl ar_ ?_
   with_reducible refine (bits_OnesCount64.calls (rd q a) Q _ aj.out).mono ?_
   rintro e w' ⟨rfl, ⟨nd, rfl⟩⟩
   refine ⟨_, rfl, ?_⟩
   refine hK.out _ _ (ca5_ d.out) (fun hHeld => ?_)
   clear hK K
   refine nor_ (N := some 44) ?_
   refine pn_ 4 45 kr_ ?_
   refine pn_ 5 46 kr_ ?_
   refine last_ (i := 6) (N := none) #[true, true, true, true, true, true, true] rfl rfl kr_ (by decide) (fun K hK => ?_)
   have ax : w31.cell? ⟨c, 4, none⟩ = some (.int .i64 b) := (blk_cell d.out 4).trans rfl
   have hfs32 := blk_frozen d.out 4
   have hns32_0 := l.out
   have hms32_0 := z.out
   refine skip_ (w1 := ?_) (by rfl) rfl ?_ ?_
   rotate_left
   ·
    go_simp
    rfl
   refine hK.out _ _ ?_
   clear hK K
   refine done_ kr_ ?_
   try go_wp2
   go_roundg k1
   case measure => have := M.out; omega
   exact ⟨(wrap64 (a + 1)), (r), (wrap64 ((wrap64 ((wrap64 ((wrap64 (y + (wrap64 (64 * a)))) + 64)) - 1)) - G)), (wrap64 (b + Q)), eq_, H', ⟨by have := M.out; omega⟩, ⟨by refine vV_ ?_; exact vm_ (fV_ (vm_ HO_11.out (fun m hk => (⟨hk, hk.2.2⟩ : _ ∧ m ≠ c)))) (fun _ hk => ⟨hk.1.1, ⟨hk.1.2.1, hk.1.2.2⟩⟩)⟩, ⟨by refine vV_ ?_; exact vm_ (fV_ (vm_ HO_352001.out (fun m hk => (⟨hk, hk.2.2⟩ : _ ∧ m ≠ c)))) (fun _ hk => ⟨hk.1.1, ⟨hk.1.2.1, hk.1.2.2⟩⟩)⟩, ⟨by refine bk_ ?_; refine blk_far ?_ l.out _; refine bk_ ?_; exact p.out⟩, ⟨by refine bk_ ?_; refine bu_ (cs := #[.int .i64 y, .slice (some v) q.length c1, .int .i64 r, .int .i64 (wrap64 ((wrap64 ((wrap64 ((wrap64 (y + (wrap64 (64 * a)))) + 64)) - 1)) - G)), .int .i64 b]) ?_ 4 _ rfl; refine bk_ ?_; exact d.out⟩, ⟨bel_⟩⟩
  rw [ip_ c11] at H
  have c11b0 : (b == 0) = true := beq_iff_eq.mpr c11
  have c11b1 : (b != 0) = false := bn_.mpr c11
  clear c11
  replace H := bo_ H
  obtain ⟨A, af, H⟩ := H
  try dsimp only at H
  replace H := bo_ H
  obtain ⟨F, ag, H⟩ := H
  try dsimp only at H
  replace H := bo_ H
  obtain ⟨P, ah, H⟩ := H
  try dsimp only at H
  have H' := a_ H
  clear H
  have p352 : 0 ≤ (a : Int) := dq_
  have B : a < (q.length : Int) := dq_
  obtain ⟨v, J, O⟩ := ai_ (Kd.V_reads' HO_11.out).2.2 a p352 B
  cases J
  replace p352 := et_ p352
  replace B := et_ B
  have am := z.out
  have an := l.out
  obtain ⟨_, _, _, _, _, _, _, _, _, _⟩ := cel5_ d.out
  try go_wp2_with (first | ((with_reducible refine gate_callee (f := 55) rfl ?_); refine goesL_ (some 28) rfl rfl Tryz.func55 kr_ rfl #[.int .u64 (rd q a)] rfl ar_ ?_; (with_reducible refine (bits_TrailingZeros64.calls (rd q a) A _ ?_ af.out).mono ?_); exact ca_ ((cb_ HRtab.out HB.out)); rintro e w' ⟨rfl, ⟨nd, rfl⟩⟩; refine ⟨_, rfl, ?_⟩; (try (rw [drewN_self wr]; generalize hq_ : World.drewN wr _ = wr; replace HO_11 : Aside0 (Kd.V (Kd.int .u64) 87 wr w.heap.size (fun m => (P1_ m ∨ w.heap.size ≤ m) ∧ m ≠ s ∧ m ≠ c) (.slice (some v) q.length c1) q) := ⟨by rw [← hq_]; exact (vV_ HO_11.out)⟩; replace HO_352001 : Aside0 (Kd.V (Kd.int .u64) 87 wr w.heap.size (fun m => (P1_ m ∨ w.heap.size ≤ m) ∧ m ≠ s ∧ m ≠ c) (.slice (some v) q.length c1) q) := ⟨by rw [← hq_]; exact (vV_ HO_352001.out)⟩; replace p : Aside0 (wr.heap[s]? = some (.cells #[.int .i64 0, .slice none 0 0, .int .i64 0, .int .i64 0, .int .i64 0] 61 (0, 0))) := ⟨by rw [← hq_]; exact (bk_ p.out)⟩; replace d : Aside0 (wr.heap[c]? = some (.cells #[.int .i64 y, .slice (some v) q.length c1, .int .i64 r, .int .i64 u, .int .i64 b] 61 (0, 0))) := ⟨by rw [← hq_]; exact (bk_ d.out)⟩; replace HB : Aside0 (Below w.heap.size w wr) := ⟨by rw [← hq_]; exact bel_⟩; clear hq_)); (try (obtain ⟨_, _, _, _, _, _, _, _, _, _⟩ := cel5_ p.out)); (try (obtain ⟨_, _, _, _, _, _, _, _, _, _⟩ := cel5_ d.out))) | ((with_reducible refine gate_callee (f := 102) rfl ?_); refine goesL_ (some 38) rfl rfl Tryz.func102 kr_ rfl #[.int .u64 (rd q a)] rfl ar_ ?_; (with_reducible refine (bits_LeadingZeros64.calls (rd q a) F _ ag.out).mono ?_); rintro e w19 ⟨rfl, hb⟩; refine ⟨_, rfl, ?_⟩; replace HO_11 := a_ (vb_ (by refine vV_ ?_; exact (vm_ (fV_ (vm_ HO_11.out (fun m hk => (⟨hk, hk.2.2⟩ : _ ∧ m ≠ c)))) (fun _ h_ => h_.1))) hb); replace HO_352001 := a_ (vb_ (by refine vV_ ?_; exact (vm_ (fV_ (vm_ HO_352001.out (fun m hk => (⟨hk, hk.2.2⟩ : _ ∧ m ≠ c)))) (fun _ h_ => h_.1))) hb); replace p := a_ (bb_ (g := s) (o := .cells #[.int .i64 0, .slice none 0 0, .int .i64 0, .int .i64 0, .int .i64 0] 61 (0, 0)) (by refine bk_ ?_; refine blk_far ?_ l.out _; refine bk_ ?_; exact p.out) hb); replace d := a_ (bb_ (g := c) (o := .cells #[.int .i64 y, .slice (some v) q.length c1, .int .i64 (wrap64 ((wrap64 (y + (wrap64 (64 * a)))) + A)), .int .i64 u, .int .i64 b] 61 (0, 0)) (by refine bk_ ?_; refine bu_ (cs := #[.int .i64 y, .slice (some v) q.length c1, .int .i64 r, .int .i64 u, .int .i64 b]) ?_ 2 _ rfl; refine bk_ ?_; exact d.out) hb); replace HB := hq_ hb; clear hb; obtain ⟨_, _, _, _, _, _, _, _, _, _⟩ := cel5_ d.out))
  obtain ⟨w21, hq_⟩ : ∃ x, x = (w19.setCell ⟨c, 3, none⟩ (.int .i64 (wrap64 ((wrap64 ((wrap64 ((wrap64 (y + (wrap64 (64 * a)))) + 64)) - 1)) - F)))) := ⟨_, rfl⟩
  replace HO_11 : Aside0 (Kd.V (Kd.int .u64) 87 w21 w.heap.size (fun m => (P1_ m ∨ w.heap.size ≤ m) ∧ m ≠ s ∧ m ≠ c) (.slice (some v) q.length c1) q) := ⟨by subst hq_; refine vV_ ?_; exact vm_ (fV_ (vm_ HO_11.out (fun m hk => (⟨hk, hk.2.2⟩ : _ ∧ m ≠ c)))) (fun _ hk => ⟨hk.1.1, ⟨hk.1.2.1, hk.1.2.2⟩⟩)⟩
  replace HO_352001 : Aside0 (Kd.V (Kd.int .u64) 87 w21 w.heap.size (fun m => (P1_ m ∨ w.heap.size ≤ m) ∧ m ≠ s ∧ m ≠ c) (.slice (some v) q.length c1) q) := ⟨by subst hq_; refine vV_ ?_; exact vm_ (fV_ (vm_ HO_352001.out (fun m hk => (⟨hk, hk.2.2⟩ : _ ∧ m ≠ c)))) (fun _ hk => ⟨hk.1.1, ⟨hk.1.2.1, hk.1.2.2⟩⟩)⟩
  replace p : Aside0 (w21.heap[s]? = some (.cells #[.int .i64 0, .slice none 0 0, .int .i64 0, .int .i64 0, .int .i64 0] 61 (0, 0))) := ⟨by subst hq_; refine bk_ ?_; refine blk_far ?_ l.out _; refine bk_ ?_; exact p.out⟩
  replace d : Aside0 (w21.heap[c]? = some (.cells #[.int .i64 y, .slice (some v) q.length c1, .int .i64 (wrap64 ((wrap64 (y + (wrap64 (64 * a)))) + A)), .int .i64 (wrap64 ((wrap64 ((wrap64 ((wrap64 (y + (wrap64 (64 * a)))) + 64)) - 1)) - F)), .int .i64 b] 61 (0, 0))) := ⟨by subst hq_; refine bk_ ?_; refine bu_ (cs := #[.int .i64 y, .slice (some v) q.length c1, .int .i64 (wrap64 ((wrap64 (y + (wrap64 (64 * a)))) + A)), .int .i64 u, .int .i64 b]) ?_ 3 _ rfl; refine bk_ ?_; exact d.out⟩
  replace HB : Aside0 (Below w.heap.size w w21) := ⟨by subst hq_; exact bel_⟩
  rw [← hq_]
  clear hq_
  replace HO_11 := a_ (Kd.V_drew HO_11.out)
  replace HO_352001 := a_ (Kd.V_drew HO_352001.out)
  replace p := a_ (blk_drew p.out)
  replace d := a_ (blk_drew d.out)
  replace HB := a_ (below_drew1 HB.out)
  refine start_ (n := 7) (S := fun w' => w'.cell? ⟨c, 0, none⟩ = some (.int .i64 y) ∧ w'.cell? ⟨c, 1, none⟩ = some (.slice (some v) q.length c1) ∧ w'.cell? ⟨c, 2, none⟩ = some (.int .i64 (wrap64 ((wrap64 (y + (wrap64 (64 * a)))) + A))) ∧ w'.cell? ⟨c, 3, none⟩ = some (.int .i64 (wrap64 ((wrap64 ((wrap64 ((wrap64 (y + (wrap64 (64 * a)))) + 64)) - 1)) - F))) ∧ w'.cell? ⟨c, 4, none⟩ = some (.int .i64 b)) (ds := [6]) #[false, false, false, false, false, false, false] kr_ rfl rfl (ca5_ d.out) (fun hHeld => ?_)
  generalize w21.drew = w22 at HO_11 HO_352001 p d HB hHeld ⊢
  refine pn_ 0 41 kr_ ?_
  refine pn_ 2 43 kr_ ?_
  refine tn_ 1 42 kr_ hHeld ?_
  refine onn_ 3 44 #[true, true, true, true, false, false, false] rfl rfl kr_ (by decide) (fun K hK => ?_)
  refine goes_ Tryz.func103 kr_ rfl #[.int .u64 (rd q a)] (by rfl) rfl rfl ar_ ?_
  with_reducible refine (bits_OnesCount64.calls (rd q a) P _ ah.out).mono ?_
  rintro e w' ⟨rfl, ⟨nd, rfl⟩⟩
  refine ⟨_, rfl, ?_⟩
  refine hK.out _ _ (ca5_ d.out) (fun hHeld => ?_)
  clear hK K
  refine nor_ (N := some 44) ?_
  refine pn_ 4 45 kr_ ?_
  refine pn_ 5 46 kr_ ?_
  refine last_ (i := 6) (N := none) #[true, true, true, true, true, true, true] rfl rfl kr_ (by decide) (fun K hK => ?_)
  have aw : w22.cell? ⟨c, 4, none⟩ = some (.int .i64 b) := (blk_cell d.out 4).trans rfl
  have hfs23 := blk_frozen d.out 4
  have hns23_0 := l.out
  have hms23_0 := z.out
  refine skip_ (w1 := ?_) (by rfl) rfl ?_ ?_
  rotate_left
  ·
   go_simp
   rfl
  refine hK.out _ _ ?_
  clear hK K
  refine done_ kr_ ?_
  try go_wp2
  go_roundg k1
  case measure => have := M.out; omega
  exact ⟨(wrap64 (a + 1)), (wrap64 ((wrap64 (y + (wrap64 (64 * a)))) + A)), (wrap64 ((wrap64 ((wrap64 ((wrap64 (y + (wrap64 (64 * a)))) + 64)) - 1)) - F)), (wrap64 (b + P)), eq_, H', ⟨by have := M.out; omega⟩, ⟨by refine vV_ ?_; exact vm_ (fV_ (vm_ HO_11.out (fun m hk => (⟨hk, hk.2.2⟩ : _ ∧ m ≠ c)))) (fun _ hk => ⟨hk.1.1, ⟨hk.1.2.1, hk.1.2.2⟩⟩)⟩, ⟨by refine vV_ ?_; exact vm_ (fV_ (vm_ HO_352001.out (fun m hk => (⟨hk, hk.2.2⟩ : _ ∧ m ≠ c)))) (fun _ hk => ⟨hk.1.1, ⟨hk.1.2.1, hk.1.2.2⟩⟩)⟩, ⟨by refine bk_ ?_; refine blk_far ?_ l.out _; refine bk_ ?_; exact p.out⟩, ⟨by refine bk_ ?_; refine bu_ (cs := #[.int .i64 y, .slice (some v) q.length c1, .int .i64 (wrap64 ((wrap64 (y + (wrap64 (64 * a)))) + A)), .int .i64 (wrap64 ((wrap64 ((wrap64 ((wrap64 (y + (wrap64 (64 * a)))) + 64)) - 1)) - F)), .int .i64 b]) ?_ 4 _ rfl; refine bk_ ?_; exact d.out⟩, ⟨bel_⟩⟩

/-! ### dom_place: function 59 -/
def dom_place.f (a : Int) : Option (Int) := some (Go.bits .andNot .i64 a 63)
set_option maxHeartbeats 8000000 in
set_option maxRecDepth 100000 in
theorem dom_place.calls (a : Int) (r : Int) (w : World) (h : dom_place.f a = some r) :
  Calls Tryz.prog 59 #[.int .i64 a] w fun e w' => e = .returned (.int .i64 r) ∧ Drawn0 w w' := by
 unfold dom_place.f at h
 have H := h
 clear h
 obtain rfl := si_ H
 go_enter Tryz.func59, Tryz.ntmps59
 go_wp2
 go_ret
 exact ⟨by first | rfl | (simp; done) | (simp [*]; done), by repeat (first | exact d0_ _ | apply Drawn0.step)⟩

/-! ### num_Mul: function 30 -/
mutual
def num_Mul.j0 : Nat → Int → Int → Bool → Option (Int × Bool)
 | 0, _, _, _ => none
 | k + 1, a, b, c => if c = true then (some (0, true)) else (if a = (-1) then (if b = (-9223372036854775808) then (num_Mul.j1 k a b true) else (if b = (-1) then (num_Mul.j1 k a b (a == (-9223372036854775808))) else (num_Mul.j1 k a b false))) else (if b = (-1) then (num_Mul.j1 k a b (a == (-9223372036854775808))) else (num_Mul.j1 k a b false)))
def num_Mul.j1 : Nat → Int → Int → Bool → Option (Int × Bool)
 | 0, _, _, _ => none
 | k + 1, b, a, c => if c = true then (some (0, false)) else (if a = 0 then (none) else (if (wrap64 (Int.tdiv (wrap64 (b * a)) a)) = b then (some (wrap64 (b * a), true)) else (some (0, false))))
end
def num_Mul.f (k : Nat) (a : Int) (b : Int) : Option (Int × Bool) := if a = 0 then (num_Mul.j0 k a b true) else (num_Mul.j0 k a b (b == 0))
theorem num_Mul.mono_l : ∀ k, (∀ a b c, LeO (num_Mul.j0 k a b c) (num_Mul.j0 (k + 1) a b c)) ∧ (∀ a b c, LeO (num_Mul.j1 k a b c) (num_Mul.j1 (k + 1) a b c))
 | 0 => by refine ⟨?_, ?_⟩ <;> (intros; exact LeO.none _)
 | k + 1 => by
  obtain ⟨ih0, ih1⟩ := num_Mul.mono_l k
  refine ⟨?_, ?_⟩ <;> intros
  all_goals first | unfold num_Mul.j0 | unfold num_Mul.j1
  all_goals exact leo_
theorem num_Mul.mono : ∀ a b k, LeO (num_Mul.f k a b) (num_Mul.f (k + 1) a b) := by
 intro a b k
 obtain ⟨ih0, ih1⟩ := num_Mul.mono_l k
 unfold num_Mul.f
 exact leo_
set_option maxHeartbeats 8000000 in
set_option maxRecDepth 100000 in
theorem num_Mul.calls (k : Nat) (b : Int) (a : Int) (l : Int) (m : Bool) (w : World) (h : num_Mul.f k b a = some (l, m)) :
  Calls Tryz.prog 30 #[.int .i64 b, .int .i64 a] w fun e w' => e = .returned (.tuple #[.int .i64 l, .bool m]) ∧ Drawn0 w w' := by
 unfold num_Mul.f at h
 have H := h
 clear h
 have n := a_ H
 clear H
 go_enter Tryz.func30, Tryz.ntmps30
 go_upto_region 1 with (fail)
 go_cut [12] (fun p wc => ∃ (kq : Nat) (c : Bool), p = .bool c ∧ Aside0 (num_Mul.j0 kq b a c = some (l, m)) ∧ Aside0 (kq ≤ k) ∧ Drawn0 w wc)
 case first =>
  have H := n.out
  clear n
  by_cases c4 : b = 0
  ·
   rw [ip_ c4] at H
   have c4b0 : (b == 0) = true := beq_iff_eq.mpr c4
   have c4b1 : (b != 0) = false := bn_.mpr c4
   clear c4
   (first | rw [c4b0] | (simp only [i64_w, i32_w]; rw [c4b0]) | skip)
   have H' := a_ H
   clear H
   go_wp2
   go_meet
   exact ⟨_, (true), eq_, H', ⟨by first | omega | exact lr_ _⟩, by repeat (first | exact d0_ _ | apply Drawn0.step)⟩
  rw [ig_ c4] at H
  have c4b0 : (b == 0) = false := be_.mpr c4
  have c4b1 : (b != 0) = true := ni_.mpr c4
  (first | rw [c4b0] | (simp only [i64_w, i32_w]; rw [c4b0]) | skip)
  have H' := a_ H
  clear H
  go_wp2
  go_meet
  exact ⟨_, ((a == 0)), eq_, H', ⟨by first | omega | exact lr_ _⟩, by repeat (first | exact d0_ _ | apply Drawn0.step)⟩
 clear n
 try clear p2
 try clear c3
 try clear c4
 try clear c4b0
 try clear c4b1
 obtain ⟨kq, c, rfl, HA, g, ⟨mc2, rfl⟩⟩ := hcut
 cases kq with
 | zero => exact absurd HA.out (by simp [num_Mul.j0])
 | succ kj2 =>
  have H := HA.out
  clear HA
  simp only [num_Mul.j0] at H
  by_cases c5 : c = true
  ·
   subst c5
   rw [ip_ rfl] at H
   simp only [Option.some.injEq, Prod.mk.injEq] at H
   obtain ⟨rfl, rfl⟩ := H
   go_wp2
   go_ret2
   exact ⟨by first | rfl | (simp; done) | (simp [*]; done), by repeat (first | exact d0_ _ | apply Drawn0.step)⟩
  replace c5 := bf_.mpr c5
  subst c5
  have H1 : (if b = (-1) then (if a = (-9223372036854775808) then (num_Mul.j1 kj2 b a true) else (if a = (-1) then (num_Mul.j1 kj2 b a (b == (-9223372036854775808))) else (num_Mul.j1 kj2 b a false))) else (if a = (-1) then (num_Mul.j1 kj2 b a (b == (-9223372036854775808))) else (num_Mul.j1 kj2 b a false))) = some (l, m) := by rw [ig_ (show ¬ (false = true) by decide)] at H; exact H
  clear H
  have H := H1
  clear H1
  have o := a_ H
  clear H
  go_upto_region 3 with (fail)
  go_cut [26] (fun q wc => ∃ (kq : Nat) (d : Bool), q = .bool d ∧ Aside0 (num_Mul.j1 kq b a d = some (l, m)) ∧ Aside0 (kq ≤ kj2) ∧ Drawn0 w wc)
  case first =>
   have H := o.out
   clear o
   by_cases c7 : b = (-1)
   rotate_left
   ·
    rw [ig_ c7] at H
    have c7b0 : (b == (-1)) = false := be_.mpr c7
    have c7b1 : (b != (-1)) = true := ni_.mpr c7
    (first | rw [c7b0] | (simp only [i64_w, i32_w]; rw [c7b0]) | skip)
    by_cases c10 : a = (-1)
    rotate_left
    ·
     rw [ig_ c10] at H
     have c10b0 : (a == (-1)) = false := be_.mpr c10
     have c10b1 : (a != (-1)) = true := ni_.mpr c10
     have H' := a_ H
     clear H
     go_wp2
     go_meet
     exact ⟨_, (false), eq_, H', ⟨by have := g.out; first | omega | exact lr_ _⟩, by repeat (first | exact d0_ _ | apply Drawn0.step)⟩
    rw [ip_ c10] at H
    have c10b0 : (a == (-1)) = true := beq_iff_eq.mpr c10
    have c10b1 : (a != (-1)) = false := bn_.mpr c10
    clear c10
    have H' := a_ H
    clear H
    go_wp2
    go_meet
    exact ⟨_, ((b == (-9223372036854775808))), eq_, H', ⟨by have := g.out; first | omega | exact lr_ _⟩, by repeat (first | exact d0_ _ | apply Drawn0.step)⟩
   rw [ip_ c7] at H
   have c7b0 : (b == (-1)) = true := beq_iff_eq.mpr c7
   have c7b1 : (b != (-1)) = false := bn_.mpr c7
   clear c7
   (first | rw [c7b0] | (simp only [i64_w, i32_w]; rw [c7b0]) | skip)
   by_cases c8 : a = (-9223372036854775808)
   ·
    rw [ip_ c8] at H
    have c8b0 : (a == (-9223372036854775808)) = true := beq_iff_eq.mpr c8
    have c8b1 : (a != (-9223372036854775808)) = false := bn_.mpr c8
    clear c8
    have H' := a_ H
    clear H
    go_wp2
    go_meet
    exact ⟨_, (true), eq_, H', ⟨by have := g.out; first | omega | exact lr_ _⟩, by repeat (first | exact d0_ _ | apply Drawn0.step)⟩
   rw [ig_ c8] at H
   have c8b0 : (a == (-9223372036854775808)) = false := be_.mpr c8
   have c8b1 : (a != (-9223372036854775808)) = true := ni_.mpr c8
   by_cases c9 : a = (-1)
   rotate_left
   ·
    rw [ig_ c9] at H
    have c9b0 : (a == (-1)) = false := be_.mpr c9
    have c9b1 : (a != (-1)) = true := ni_.mpr c9
    have H' := a_ H
    clear H
    go_wp2
    go_meet
    exact ⟨_, (false), eq_, H', ⟨by have := g.out; first | omega | exact lr_ _⟩, by repeat (first | exact d0_ _ | apply Drawn0.step)⟩
   rw [ip_ c9] at H
   have c9b0 : (a == (-1)) = true := beq_iff_eq.mpr c9
   have c9b1 : (a != (-1)) = false := bn_.mpr c9
   clear c9
   have H' := a_ H
   clear H
   go_wp2
   go_meet
   exact ⟨_, ((b == (-9223372036854775808))), eq_, H', ⟨by have := g.out; first | omega | exact lr_ _⟩, by repeat (first | exact d0_ _ | apply Drawn0.step)⟩
  clear o
  try clear c1
  try clear c2
  try clear p2
  try clear c3
  try clear c4
  try clear c4b0
  try clear c4b1
  try clear c5
  try clear c7
  try clear c7b0
  try clear c7b1
  try clear c8
  try clear c8b0
  try clear c8b1
  try clear c9
  try clear c9b0
  try clear c9b1
  try clear c10
  try clear c10b0
  try clear c10b1
  try clear p2
  obtain ⟨kq, d, rfl, HA, r, ⟨mc5, rfl⟩⟩ := hcut
  cases kq with
  | zero => exact absurd HA.out (by simp [num_Mul.j1])
  | succ kj5 =>
   have H := HA.out
   clear HA
   simp only [num_Mul.j1] at H
   by_cases c11 : d = true
   ·
    subst c11
    rw [ip_ rfl] at H
    simp only [Option.some.injEq, Prod.mk.injEq] at H
    obtain ⟨rfl, rfl⟩ := H
    go_wp2
    go_ret2
    exact ⟨by first | rfl | (simp; done) | (simp [*]; done), by repeat (first | exact d0_ _ | apply Drawn0.step)⟩
   replace c11 := bf_.mpr c11
   subst c11
   have H1 : (if a = 0 then (none) else (if (wrap64 (Int.tdiv (wrap64 (b * a)) a)) = b then (some (wrap64 (b * a), true)) else (some (0, false)))) = some (l, m) := by rw [ig_ (show ¬ (false = true) by decide)] at H; exact H
   clear H
   have H := H1
   clear H1
   by_cases c12 : a = 0
   ·
    rw [ip_ c12] at H
    exact ab_ H
   rw [ig_ c12] at H
   have c12b0 : (a == 0) = false := be_.mpr c12
   have c12b1 : (a != 0) = true := ni_.mpr c12
   by_cases c13 : (wrap64 (Int.tdiv (wrap64 (b * a)) a)) = b
   rotate_left
   ·
    rw [ig_ c13] at H
    have c13b0 : ((wrap64 (Int.tdiv (wrap64 (b * a)) a)) == b) = false := be_.mpr c13
    have c13b1 : ((wrap64 (Int.tdiv (wrap64 (b * a)) a)) != b) = true := ni_.mpr c13
    simp only [Option.some.injEq, Prod.mk.injEq] at H
    obtain ⟨rfl, rfl⟩ := H
    go_wp2
    go_ret2
    exact ⟨by first | rfl | (simp; done) | (simp [*]; done), by repeat (first | exact d0_ _ | apply Drawn0.step)⟩
   rw [ip_ c13] at H
   have c13b0 : ((wrap64 (Int.tdiv (wrap64 (b * a)) a)) == b) = true := beq_iff_eq.mpr c13
   have c13b1 : ((wrap64 (Int.tdiv (wrap64 (b * a)) a)) != b) = false := bn_.mpr c13
   clear c13
   simp only [Option.some.injEq, Prod.mk.injEq] at H
   obtain ⟨rfl, rfl⟩ := H
   go_wp2
   go_ret2
   exact ⟨by first | rfl | (simp; done) | (simp [*]; done), by repeat (first | exact d0_ _ | apply Drawn0.step)⟩

/-! ### num_right: function 68 -/
def num_right.f (b : Int) (a : Int) : Option (Bool) := if a = 0 then (some false) else (if a = (-1) then (some (b != (-9223372036854775808))) else (some true))
set_option maxHeartbeats 8000000 in
set_option maxRecDepth 100000 in
theorem num_right.calls (b : Int) (a : Int) (r : Bool) (w : World) (h : num_right.f b a = some r) :
  Calls Tryz.prog 68 #[.int .i64 b, .int .i64 a] w fun e w' => e = .returned (.bool r) ∧ Drawn0 w w' := by
 unfold num_right.f at h
 have H := h
 clear h
 by_cases c3 : a = 0
 ·
  rw [ip_ c3] at H
  have c3b0 : (a == 0) = true := beq_iff_eq.mpr c3
  have c3b1 : (a != 0) = false := bn_.mpr c3
  clear c3
  obtain rfl := si_ H
  go_enter Tryz.func68, Tryz.ntmps68
  go_wp2
  go_ret
  exact ⟨by first | rfl | (simp; done) | (simp [*]; done), by repeat (first | exact d0_ _ | apply Drawn0.step)⟩
 rw [ig_ c3] at H
 have c3b0 : (a == 0) = false := be_.mpr c3
 have c3b1 : (a != 0) = true := ni_.mpr c3
 by_cases c4 : a = (-1)
 ·
  rw [ip_ c4] at H
  have c4b0 : (a == (-1)) = true := beq_iff_eq.mpr c4
  have c4b1 : (a != (-1)) = false := bn_.mpr c4
  clear c4
  obtain rfl := si_ H
  go_enter Tryz.func68, Tryz.ntmps68
  go_wp2
  go_ret
  exact ⟨by first | rfl | (simp; done) | (simp [*]; done), by repeat (first | exact d0_ _ | apply Drawn0.step)⟩
 rw [ig_ c4] at H
 have c4b0 : (a == (-1)) = false := be_.mpr c4
 have c4b1 : (a != (-1)) = true := ni_.mpr c4
 obtain rfl := si_ H
 go_enter Tryz.func68, Tryz.ntmps68
 go_wp2
 go_ret
 exact ⟨by first | rfl | (simp; done) | (simp [*]; done), by repeat (first | exact d0_ _ | apply Drawn0.step)⟩

/-! ### num_Quo: function 31 -/
def num_Quo.f (c : Int) (a : Int) : Option (Int × Bool) := (num_right.f c a).bind fun b => (if b = true then (if a = 0 then (none) else (some (wrap64 (Int.tdiv c a), true))) else (some (0, false)))
set_option maxHeartbeats 8000000 in
set_option maxRecDepth 100000 in
theorem num_Quo.calls (b : Int) (a : Int) (c : Int) (d : Bool) (w : World) (h : num_Quo.f b a = some (c, d)) :
  Calls Tryz.prog 31 #[.int .i64 b, .int .i64 a] w fun e w' => e = .returned (.tuple #[.int .i64 c, .bool d]) ∧ Drawn0 w w' := by
 unfold num_Quo.f at h
 have H := h
 clear h
 replace H := bo_ H
 obtain ⟨g, l, H⟩ := H
 try dsimp only at H
 by_cases c4 : g = true
 rotate_left
 ·
  replace c4 := bf_.mpr c4
  subst c4
  have H1 : (some (0, false)) = some (c, d) := by rw [ig_ (show ¬ (false = true) by decide)] at H; exact H
  clear H
  have H := H1
  clear H1
  simp only [Option.some.injEq, Prod.mk.injEq] at H
  obtain ⟨rfl, rfl⟩ := H
  go_enter Tryz.func31, Tryz.ntmps31
  go_wp2_with (first | ((with_reducible refine gate_callee (f := 68) rfl ?_); refine goesL_ (some 8) rfl rfl Tryz.func68 kr_ rfl #[.int .i64 b, .int .i64 a] rfl ar_ ?_; (with_reducible refine (num_right.calls b a false _ l.out).mono ?_); rintro e w' ⟨rfl, ⟨nd, rfl⟩⟩; refine ⟨_, rfl, ?_⟩))
  go_ret2
  exact ⟨by first | rfl | (simp; done) | (simp [*]; done), by repeat (first | exact d0_ _ | apply Drawn0.step)⟩
 subst c4
 rw [ip_ rfl] at H
 by_cases c5 : a = 0
 ·
  rw [ip_ c5] at H
  exact ab_ H
 rw [ig_ c5] at H
 have c5b0 : (a == 0) = false := be_.mpr c5
 have c5b1 : (a != 0) = true := ni_.mpr c5
 simp only [Option.some.injEq, Prod.mk.injEq] at H
 obtain ⟨rfl, rfl⟩ := H
 go_enter Tryz.func31, Tryz.ntmps31
 go_wp2_with (first | ((with_reducible refine gate_callee (f := 68) rfl ?_); refine goesL_ (some 8) rfl rfl Tryz.func68 kr_ rfl #[.int .i64 b, .int .i64 a] rfl ar_ ?_; (with_reducible refine (num_right.calls b a true _ l.out).mono ?_); rintro e w' ⟨rfl, ⟨nd, rfl⟩⟩; refine ⟨_, rfl, ?_⟩))
 go_ret2
 exact ⟨by first | rfl | (simp; done) | (simp [*]; done), by repeat (first | exact d0_ _ | apply Drawn0.step)⟩

/-! ### num_Rem: function 32 -/
def num_Rem.f (c : Int) (a : Int) : Option (Int × Bool) := (num_right.f c a).bind fun b => (if b = true then (if a = 0 then (none) else (some (Int.tmod c a, true))) else (some (0, false)))
set_option maxHeartbeats 8000000 in
set_option maxRecDepth 100000 in
theorem num_Rem.calls (b : Int) (a : Int) (c : Int) (d : Bool) (w : World) (h : num_Rem.f b a = some (c, d)) :
  Calls Tryz.prog 32 #[.int .i64 b, .int .i64 a] w fun e w' => e = .returned (.tuple #[.int .i64 c, .bool d]) ∧ Drawn0 w w' := by
 unfold num_Rem.f at h
 have H := h
 clear h
 replace H := bo_ H
 obtain ⟨g, l, H⟩ := H
 try dsimp only at H
 by_cases c4 : g = true
 rotate_left
 ·
  replace c4 := bf_.mpr c4
  subst c4
  have H1 : (some (0, false)) = some (c, d) := by rw [ig_ (show ¬ (false = true) by decide)] at H; exact H
  clear H
  have H := H1
  clear H1
  simp only [Option.some.injEq, Prod.mk.injEq] at H
  obtain ⟨rfl, rfl⟩ := H
  go_enter Tryz.func32, Tryz.ntmps32
  go_wp2_with (first | ((with_reducible refine gate_callee (f := 68) rfl ?_); refine goesL_ (some 8) rfl rfl Tryz.func68 kr_ rfl #[.int .i64 b, .int .i64 a] rfl ar_ ?_; (with_reducible refine (num_right.calls b a false _ l.out).mono ?_); rintro e w' ⟨rfl, ⟨nd, rfl⟩⟩; refine ⟨_, rfl, ?_⟩))
  go_ret2
  exact ⟨by first | rfl | (simp; done) | (simp [*]; done), by repeat (first | exact d0_ _ | apply Drawn0.step)⟩
 subst c4
 rw [ip_ rfl] at H
 by_cases c5 : a = 0
 ·
  rw [ip_ c5] at H
  exact ab_ H
 rw [ig_ c5] at H
 have c5b0 : (a == 0) = false := be_.mpr c5
 have c5b1 : (a != 0) = true := ni_.mpr c5
 simp only [Option.some.injEq, Prod.mk.injEq] at H
 obtain ⟨rfl, rfl⟩ := H
 go_enter Tryz.func32, Tryz.ntmps32
 go_wp2_with (first | ((with_reducible refine gate_callee (f := 68) rfl ?_); refine goesL_ (some 8) rfl rfl Tryz.func68 kr_ rfl #[.int .i64 b, .int .i64 a] rfl ar_ ?_; (with_reducible refine (num_right.calls b a true _ l.out).mono ?_); rintro e w' ⟨rfl, ⟨nd, rfl⟩⟩; refine ⟨_, rfl, ?_⟩))
 go_ret2
 exact ⟨by first | rfl | (simp; done) | (simp [*]; done), by repeat (first | exact d0_ _ | apply Drawn0.step)⟩

end Go.Proofs.YtbhhbgoamomacaaGreatDoor.XMulRefuses
