-- by xprint.py, a program of this session, over the kit's print
import Derived.Test.YtijjhobjmehhoaaGreatDoorXGAlx0
import Derived.Test.YtijjhobjmehhoaaGreatDoorXGAlx4
import Derived.Test.YtijjhobjmehhoaaGreatDoorXGAlx5
import Derived.Test.YtijjhobjmehhoaaGreatDoorSq
namespace Go.Proofs.YtijjhobjmehhoaaGreatDoor.XGccAll
open Go.RowKit Go.Proofs.YtijjhobjmehhoaaGreatDoor.Sq Go.Proofs.YtijjhobjmehhoaaGreatDoorW.PrintWords Go.Proofs.YtijjhobjmehhoaaGreatDoorW.PrintLast Go.Proofs.YtijjhobjmehhoaaGreatDoorW.PrintMore
attribute [local go_sem] max2_int min2_int max_two min_two max_three min_three max_four min_four   -- for this text's walks alone
set_option linter.unusedVariables false
set_option linter.unusedSimpArgs false

/-! ### dom_made: function 66 -/
def dom_made.l0 : Nat → Int → List Int → Int → Int → Int → List Int → Int → Int → Int → Option (Int × List Int × Int × Int × Int)
 | 0, _, _, _, _, _, _, _, _, _ => none
 | k + 1, n, e, m, a, c, d, g, l, b => if a < m then (if 0 ≤ a then (if a < (e.length : Int) then (if (rd e a) = 0 then (dom_made.l0 k n e m (wrap64 (a + 1)) c d g l b) else (if b = 0 then ((bits_TrailingZeros64.f (rd e a)).bind fun o => ((bits_LeadingZeros64.f (rd e a)).bind fun p => ((bits_OnesCount64.f (rd e a)).bind fun q => (dom_made.l0 k n e m (wrap64 (a + 1)) c d (wrap64 ((wrap64 (n + (wrap64 (64 * a)))) + o)) (wrap64 ((wrap64 ((wrap64 ((wrap64 (n + (wrap64 (64 * a)))) + 64)) - 1)) - p)) (wrap64 (b + q)))))) else ((bits_LeadingZeros64.f (rd e a)).bind fun r => ((bits_OnesCount64.f (rd e a)).bind fun s => (dom_made.l0 k n e m (wrap64 (a + 1)) c d g (wrap64 ((wrap64 ((wrap64 ((wrap64 (n + (wrap64 (64 * a)))) + 64)) - 1)) - r)) (wrap64 (b + s))))))) else (none)) else (none)) else (some (c, d, g, l, b))
def dom_made.f (k : Nat) (b : Int) (a : List Int) : Option (Int × List Int × Int × Int × Int) := dom_made.l0 k b a (a.length : Int) 0 b a 0 0 0
theorem dom_made.mono_l : ∀ k, (∀ a b c d e f g l m, LeO (dom_made.l0 k a b c d e f g l m) (dom_made.l0 (k + 1) a b c d e f g l m))
 | 0 => by intros; exact LeO.none _
 | k + 1 => by
  have ih0 := dom_made.mono_l k
  intro a b c d e f g l m
  unfold dom_made.l0
  exact leo_
theorem dom_made.mono : ∀ a b k, LeO (dom_made.f k a b) (dom_made.f (k + 1) a b) := by
 intro a b k
 have ih0 := dom_made.mono_l k
 unfold dom_made.f
 exact leo_
set_option maxHeartbeats 8000000 in
set_option maxRecDepth 100000 in
theorem dom_made.calls (k : Nat) (y : Int) (P1_ : Nat → Prop) (E : Option Addr) (c1 : Nat) (q : List Int) (Y : Int) (Z : List Int) (r3 : Int) (r4 : Int) (r5 : Int) (w : World) (ad : Kd.V (Kd.int .u64) 84 w w.heap.size (fun m => P1_ m) (.slice E q.length c1) q) (hrtab : Kd.C (Kd.int .u8) w (some ⟨0, 0, none⟩) tabL.length tabL) (h : dom_made.f k y q = some (Y, Z, r3, r4, r5)) :
  Calls Tryz.prog 66 #[.int .i64 y, .slice E q.length c1] w fun e w' => ∃ X : Value, e = .returned (.agg #[.int .i64 Y, X, .int .i64 r3, .int .i64 r4, .int .i64 r5]) ∧ Kd.V (Kd.int .u64) 84 w' w.heap.size (fun m => (P1_ m ∨ w.heap.size ≤ m)) X Z ∧ Below w.heap.size w w' := by
 have hu58 := Tryz.underlying58
 have J := a_ (show Kd.V (Kd.int .u64) 84 w w.heap.size (fun m => (P1_ m ∨ w.heap.size ≤ m)) (.slice E q.length c1) q from vm_ ad (fun m hk => .inl hk))
 have HRtab := a_ hrtab
 clear hrtab
 have HB := a_ (Below.refl w.heap.size w)
 unfold dom_made.f at h
 have H := h
 clear h
 have H' := a_ H
 clear H
 go_enter Tryz.func66, Tryz.ntmps66
 go_wp2_with (first | ((with_reducible refine gate_dst (N := 4) rfl ?_); refine bxe_ (N := 4) (cs := #[.int .i64 0, .slice none 0 0, .int .i64 0, .int .i64 0, .int .i64 0]) (t := 58) ?_; intro u hg w3 hbox hb; replace J := a_ (vb_ (Kd.V_elderB (vV_ J.out) u (Nat.le_of_eq hg.symm)) hb); have p := a_ (hbox); have U := a_ (by rw [hg]; exact (bz_ bel_) : w.heap.size ≤ u); have ak := U; replace HB := hq_ hb; clear hb hbox hg) | ((with_reducible refine gate_dst (N := 5) rfl ?_); refine bxe_ (N := 5) (cs := #[.int .i64 0, .slice none 0 0, .int .i64 0, .int .i64 0, .int .i64 0]) (t := 58) ?_; intro c hg w4 hbox hb; replace J := a_ (vb_ (Kd.V_elderB (vV_ J.out) c (Nat.le_of_eq hg.symm)) hb); have d := a_ (hbox); have W := a_ (by rw [hg]; exact (bz_ bel_) : w.heap.size ≤ c); have al := W; replace HB := hq_ hb; have l := a_ ((by rw [hg]; exact Nat.ne_of_lt (blk_lt (bk_ p.out)) : u ≠ c)); have z := a_ ((by rw [hg]; exact Nat.ne_of_gt (blk_lt (bk_ p.out)) : c ≠ u)); replace p := a_ (bq_ p.out hb); clear hb hbox hg; have au := z.out; have av := l.out; obtain ⟨_, _, _, _, _, _, _, _, _, _⟩ := cel5_ d.out))
 go_loopg [13] k (fun kq ae w' => ∃ (a : Int) (r : Int) (s : Int) (b : Int), ae = .int .i64 a ∧ Aside0 (dom_made.l0 kq y q (q.length : Int) a y q r s b = some (Y, Z, r3, r4, r5)) ∧ Aside0 (kq ≤ k) ∧ Aside0 (Kd.V (Kd.int .u64) 84 w' w.heap.size (fun m => (P1_ m ∨ w.heap.size ≤ m) ∧ m ≠ u ∧ m ≠ c) (.slice E q.length c1) q) ∧ Aside0 (Kd.V (Kd.int .u64) 84 w' w.heap.size (fun m => (P1_ m ∨ w.heap.size ≤ m) ∧ m ≠ u ∧ m ≠ c) (.slice E q.length c1) q) ∧ Aside0 (w'.heap[u]? = some (.cells #[.int .i64 0, (.slice none 0 0), .int .i64 0, .int .i64 0, .int .i64 0] 58 (0, 0))) ∧ Aside0 (w'.heap[c]? = some (.cells #[.int .i64 y, (.slice E q.length c1), .int .i64 r, .int .i64 s, .int .i64 b] 58 (0, 0))) ∧ Aside0 (Below w.heap.size w w'))
 case atStart => exact ⟨(0), (0), (0), (0), eq_, H', ⟨lr_ _⟩, ⟨by refine vV_ ?_; exact vm_ (fV_ (fV_ (fV_ (fV_ (fV_ (vm_ J.out (fun m hk => (⟨hk, hk.2⟩ : _ ∧ m ≠ c)))))))) (fun _ hk => ⟨hk.1.1.1, ⟨hk.1.1.2, hk.1.2⟩⟩)⟩, ⟨by refine vV_ ?_; exact vm_ (fV_ (fV_ (fV_ (fV_ (fV_ (vm_ J.out (fun m hk => (⟨hk, hk.2⟩ : _ ∧ m ≠ c)))))))) (fun _ hk => ⟨hk.1.1.1, ⟨hk.1.1.2, hk.1.2⟩⟩)⟩, ⟨by refine bk_ ?_; refine blk_far ?_ l.out _; refine bk_ ?_; refine blk_far ?_ l.out _; refine bk_ ?_; refine blk_far ?_ l.out _; refine bk_ ?_; refine blk_far ?_ l.out _; refine bk_ ?_; refine blk_far ?_ l.out _; refine bk_ ?_; exact p.out⟩, ⟨by refine bk_ ?_; refine bu_ (cs := #[.int .i64 y, .slice E q.length c1, .int .i64 0, .int .i64 0, .int .i64 0]) ?_ 4 _ rfl; refine bk_ ?_; refine bu_ (cs := #[.int .i64 y, .slice E q.length c1, .int .i64 0, .int .i64 0, .int .i64 0]) ?_ 3 _ rfl; refine bk_ ?_; refine bu_ (cs := #[.int .i64 y, .slice E q.length c1, .int .i64 0, .int .i64 0, .int .i64 0]) ?_ 2 _ rfl; refine bk_ ?_; refine bu_ (cs := #[.int .i64 y, .slice none 0 0, .int .i64 0, .int .i64 0, .int .i64 0]) ?_ 1 _ rfl; refine bk_ ?_; refine bu_ (cs := #[.int .i64 0, .slice none 0 0, .int .i64 0, .int .i64 0, .int .i64 0]) ?_ 0 _ rfl; refine bk_ ?_; exact d.out⟩, ⟨bel_⟩⟩
 clear H'
 try clear c1
 try clear p2
 try clear c5
 try clear c6
 obtain ⟨a, r, s, b, rfl, HA, M, HO_11, HO_196001, p, d, HB⟩ := hrel
 cases gk with
 | zero => exact absurd HA.out (by simp [dom_made.l0])
 | succ k1 =>
  have H := HA.out
  clear HA
  simp only [dom_made.l0] at H
  replace H := cf_ H
  rcases H with ⟨c7b0, H⟩ | ⟨c7b0, H⟩
  ·
   simp only [Option.some.injEq, Prod.mk.injEq] at H
   obtain ⟨rfl, rfl, rfl, rfl, rfl⟩ := H
   have aq := z.out
   have ar := l.out
   obtain ⟨_, _, _, _, _, _, _, _, _, _⟩ := cel5_ d.out
   obtain ⟨_, _, _, _, _, _, _, _, _, _⟩ := cel5_ p.out
   go_wp2
   refine bodyPost_ret (results_cell_row rfl _ _ u 58 #[.int .i64 y, .slice E q.length c1, .int .i64 r, .int .i64 s, .int .i64 b] (0, 0) _ rfl (by refine bk_ ?_; refine bu_ (cs := #[.int .i64 y, .slice E q.length c1, .int .i64 r, .int .i64 s, .int .i64 0]) ?_ 4 _ rfl; refine bk_ ?_; refine bu_ (cs := #[.int .i64 y, .slice E q.length c1, .int .i64 r, .int .i64 0, .int .i64 0]) ?_ 3 _ rfl; refine bk_ ?_; refine bu_ (cs := #[.int .i64 y, .slice E q.length c1, .int .i64 0, .int .i64 0, .int .i64 0]) ?_ 2 _ rfl; refine bk_ ?_; refine bu_ (cs := #[.int .i64 y, .slice none 0 0, .int .i64 0, .int .i64 0, .int .i64 0]) ?_ 1 _ rfl; refine bk_ ?_; refine bu_ (cs := #[.int .i64 0, .slice none 0 0, .int .i64 0, .int .i64 0, .int .i64 0]) ?_ 0 _ rfl; refine bk_ ?_; exact p.out) Tryz.underlying58 rfl kr_) rfl ?_
   exact ⟨_, er_, by refine vV_ ?_; exact vm_ (fV_ (fV_ (fV_ (fV_ (fV_ (vm_ HO_196001.out (fun m hk => (⟨hk, hk.2.1⟩ : _ ∧ m ≠ u)))))))) (fun _ hk => hk.1.1), bel_⟩
  replace H := gu_ H
  obtain ⟨c8b0, H⟩ := H
  replace H := gu_ H
  obtain ⟨c9b0, H⟩ := H
  replace H := eg_ H
  rcases H with ⟨-, c10b0, c10b1, H⟩ | ⟨c10, c10b0, c10b1, H⟩
  ·
   have H' := a_ H
   clear H
   have p196 : 0 ≤ (a : Int) := dq_
   have A : a < (q.length : Int) := dq_
   obtain ⟨v, I, O⟩ := ai_ (Kd.V_reads' HO_11.out).2.2 a p196 A
   cases I
   replace p196 := et_ p196
   replace A := et_ A
   go_wp2
   go_roundg k1
   case measure => have := M.out; omega
   exact ⟨(wrap64 (a + 1)), (r), (s), (b), eq_, H', ⟨by have := M.out; omega⟩, ⟨vV_ HO_11.out⟩, ⟨vV_ HO_196001.out⟩, ⟨bk_ p.out⟩, ⟨bk_ d.out⟩, ⟨bel_⟩⟩
  replace H := ef_ H
  rcases H with ⟨c11, c11b0, c11b1, H⟩ | ⟨-, c11b0, c11b1, H⟩
  ·
   replace H := bo_ H
   obtain ⟨G, ai, H⟩ := H
   try dsimp only at H
   replace H := bo_ H
   obtain ⟨Q, aj, H⟩ := H
   try dsimp only at H
   have H' := a_ H
   clear H
   have p196 : 0 ≤ (a : Int) := dq_
   have A : a < (q.length : Int) := dq_
   obtain ⟨v, I, O⟩ := ai_ (Kd.V_reads' HO_11.out).2.2 a p196 A
   cases I
   replace p196 := et_ p196
   replace A := et_ A
   have ao := z.out
   have ap := l.out
   obtain ⟨_, _, _, _, _, _, _, _, _, _⟩ := cel5_ d.out
   try go_wp2_with (first | ((with_reducible refine gate_callee (f := 88) rfl ?_); refine goesL_ (some 38) rfl rfl Tryz.func88 kr_ rfl #[.int .u64 (rd q a)] rfl ar_ ?_; (with_reducible refine (bits_LeadingZeros64.calls (rd q a) G _ ai.out).mono ?_); rintro e w28 ⟨rfl, hb⟩; refine ⟨_, rfl, ?_⟩; replace HO_11 := a_ (vb_ (vV_ HO_11.out) hb); replace HO_196001 := a_ (vb_ (vV_ HO_196001.out) hb); replace p := a_ (bq_ p.out hb); replace d := a_ (bq_ d.out hb); replace HB := hq_ hb; clear hb; obtain ⟨_, _, _, _, _, _, _, _, _, _⟩ := cel5_ d.out))
   obtain ⟨w30, hq_⟩ : ∃ x, x = (w28.setCell ⟨c, 3, none⟩ (.int .i64 (wrap64 ((wrap64 ((wrap64 ((wrap64 (y + (wrap64 (64 * a)))) + 64)) - 1)) - G)))) := ⟨_, rfl⟩
   replace HO_11 : Aside0 (Kd.V (Kd.int .u64) 84 w30 w.heap.size (fun m => (P1_ m ∨ w.heap.size ≤ m) ∧ m ≠ u ∧ m ≠ c) (.slice (some v) q.length c1) q) := ⟨by subst hq_; refine vV_ ?_; exact vm_ (fV_ (vm_ HO_11.out (fun m hk => (⟨hk, hk.2.2⟩ : _ ∧ m ≠ c)))) (fun _ hk => ⟨hk.1.1, ⟨hk.1.2.1, hk.1.2.2⟩⟩)⟩
   replace HO_196001 : Aside0 (Kd.V (Kd.int .u64) 84 w30 w.heap.size (fun m => (P1_ m ∨ w.heap.size ≤ m) ∧ m ≠ u ∧ m ≠ c) (.slice (some v) q.length c1) q) := ⟨by subst hq_; refine vV_ ?_; exact vm_ (fV_ (vm_ HO_196001.out (fun m hk => (⟨hk, hk.2.2⟩ : _ ∧ m ≠ c)))) (fun _ hk => ⟨hk.1.1, ⟨hk.1.2.1, hk.1.2.2⟩⟩)⟩
   replace p : Aside0 (w30.heap[u]? = some (.cells #[.int .i64 0, .slice none 0 0, .int .i64 0, .int .i64 0, .int .i64 0] 58 (0, 0))) := ⟨by subst hq_; refine bk_ ?_; refine blk_far ?_ l.out _; refine bk_ ?_; exact p.out⟩
   replace d : Aside0 (w30.heap[c]? = some (.cells #[.int .i64 y, .slice (some v) q.length c1, .int .i64 r, .int .i64 (wrap64 ((wrap64 ((wrap64 ((wrap64 (y + (wrap64 (64 * a)))) + 64)) - 1)) - G)), .int .i64 b] 58 (0, 0))) := ⟨by subst hq_; refine bk_ ?_; refine bu_ (cs := #[.int .i64 y, .slice (some v) q.length c1, .int .i64 r, .int .i64 s, .int .i64 b]) ?_ 3 _ rfl; refine bk_ ?_; exact d.out⟩
   replace HB : Aside0 (Below w.heap.size w w30) := ⟨by subst hq_; exact bel_⟩
   rw [← hq_]
   clear hq_
   replace HO_11 := a_ (Kd.V_drew HO_11.out)
   replace HO_196001 := a_ (Kd.V_drew HO_196001.out)
   replace p := a_ (blk_drew p.out)
   replace d := a_ (blk_drew d.out)
   replace HB := a_ (below_drew1 HB.out)
   refine start_ (n := 7) (S := fun w' => w'.cell? ⟨c, 0, none⟩ = some (.int .i64 y) ∧ w'.cell? ⟨c, 1, none⟩ = some (.slice (some v) q.length c1) ∧ w'.cell? ⟨c, 2, none⟩ = some (.int .i64 r) ∧ w'.cell? ⟨c, 3, none⟩ = some (.int .i64 (wrap64 ((wrap64 ((wrap64 ((wrap64 (y + (wrap64 (64 * a)))) + 64)) - 1)) - G))) ∧ w'.cell? ⟨c, 4, none⟩ = some (.int .i64 b)) (ds := [6]) #[false, false, false, false, false, false, false] kr_ rfl rfl (ca5_ d.out) (fun hHeld => ?_)
   generalize w30.drew = w31 at HO_11 HO_196001 p d HB hHeld ⊢
   refine pn_ 0 41 kr_ ?_
   refine pn_ 2 43 kr_ ?_
   refine tn_ 1 42 kr_ hHeld ?_
   refine onn_ 3 44 #[true, true, true, true, false, false, false] rfl rfl kr_ (by decide) (fun K hK => ?_)
   refine goes_ Tryz.func89 kr_ rfl #[.int .u64 (rd q a)] (by rfl) rfl rfl ar_ ?_
   with_reducible refine (bits_OnesCount64.calls (rd q a) Q _ aj.out).mono ?_
   rintro e w' ⟨rfl, ⟨nd, rfl⟩⟩
   refine ⟨_, rfl, ?_⟩
   refine hK.out _ _ (ca5_ d.out) (fun hHeld => ?_)
   clear hK K
   refine nor_ (N := some 44) ?_
   refine pn_ 4 45 kr_ ?_
   refine pn_ 5 46 kr_ ?_
   refine last_ (i := 6) (N := none) #[true, true, true, true, true, true, true] rfl rfl kr_ (by decide) (fun K hK => ?_)
   have ax : w31.cell? ⟨c, 4, none⟩ = some (.int .i64 b) := (blk_cell d.out 4).trans rfl
   have hfs32 := blk_frozen d.out 4
   have hns32_0 := l.out
   have hms32_0 := z.out
   refine skip_ (w1 := ?_) (by rfl) rfl ?_ ?_
   rotate_left
   ·
    go_simp
    rfl
   refine hK.out _ _ ?_
   clear hK K
   refine done_ kr_ ?_
   try go_wp2
   go_roundg k1
   case measure => have := M.out; omega
   exact ⟨(wrap64 (a + 1)), (r), (wrap64 ((wrap64 ((wrap64 ((wrap64 (y + (wrap64 (64 * a)))) + 64)) - 1)) - G)), (wrap64 (b + Q)), eq_, H', ⟨by have := M.out; omega⟩, ⟨by refine vV_ ?_; exact vm_ (fV_ (vm_ HO_11.out (fun m hk => (⟨hk, hk.2.2⟩ : _ ∧ m ≠ c)))) (fun _ hk => ⟨hk.1.1, ⟨hk.1.2.1, hk.1.2.2⟩⟩)⟩, ⟨by refine vV_ ?_; exact vm_ (fV_ (vm_ HO_196001.out (fun m hk => (⟨hk, hk.2.2⟩ : _ ∧ m ≠ c)))) (fun _ hk => ⟨hk.1.1, ⟨hk.1.2.1, hk.1.2.2⟩⟩)⟩, ⟨by refine bk_ ?_; refine blk_far ?_ l.out _; refine bk_ ?_; exact p.out⟩, ⟨by refine bk_ ?_; refine bu_ (cs := #[.int .i64 y, .slice (some v) q.length c1, .int .i64 r, .int .i64 (wrap64 ((wrap64 ((wrap64 ((wrap64 (y + (wrap64 (64 * a)))) + 64)) - 1)) - G)), .int .i64 b]) ?_ 4 _ rfl; refine bk_ ?_; exact d.out⟩, ⟨bel_⟩⟩
  replace H := bo_ H
  obtain ⟨B, af, H⟩ := H
  try dsimp only at H
  replace H := bo_ H
  obtain ⟨F, ag, H⟩ := H
  try dsimp only at H
  replace H := bo_ H
  obtain ⟨P, ah, H⟩ := H
  try dsimp only at H
  have H' := a_ H
  clear H
  have p196 : 0 ≤ (a : Int) := dq_
  have A : a < (q.length : Int) := dq_
  obtain ⟨v, I, O⟩ := ai_ (Kd.V_reads' HO_11.out).2.2 a p196 A
  cases I
  replace p196 := et_ p196
  replace A := et_ A
  have am := z.out
  have an := l.out
  obtain ⟨_, _, _, _, _, _, _, _, _, _⟩ := cel5_ d.out
  try go_wp2_with (first | ((with_reducible refine gate_callee (f := 48) rfl ?_); refine goesL_ (some 28) rfl rfl Tryz.func48 kr_ rfl #[.int .u64 (rd q a)] rfl ar_ ?_; (with_reducible refine (bits_TrailingZeros64.calls (rd q a) B _ ?_ af.out).mono ?_); exact ca_ ((cb_ HRtab.out HB.out)); rintro e w' ⟨rfl, ⟨nd, rfl⟩⟩; refine ⟨_, rfl, ?_⟩; (try (rw [drewN_self wr]; generalize hq_ : World.drewN wr _ = wr; replace HO_11 : Aside0 (Kd.V (Kd.int .u64) 84 wr w.heap.size (fun m => (P1_ m ∨ w.heap.size ≤ m) ∧ m ≠ u ∧ m ≠ c) (.slice (some v) q.length c1) q) := ⟨by rw [← hq_]; exact (vV_ HO_11.out)⟩; replace HO_196001 : Aside0 (Kd.V (Kd.int .u64) 84 wr w.heap.size (fun m => (P1_ m ∨ w.heap.size ≤ m) ∧ m ≠ u ∧ m ≠ c) (.slice (some v) q.length c1) q) := ⟨by rw [← hq_]; exact (vV_ HO_196001.out)⟩; replace p : Aside0 (wr.heap[u]? = some (.cells #[.int .i64 0, .slice none 0 0, .int .i64 0, .int .i64 0, .int .i64 0] 58 (0, 0))) := ⟨by rw [← hq_]; exact (bk_ p.out)⟩; replace d : Aside0 (wr.heap[c]? = some (.cells #[.int .i64 y, .slice (some v) q.length c1, .int .i64 r, .int .i64 s, .int .i64 b] 58 (0, 0))) := ⟨by rw [← hq_]; exact (bk_ d.out)⟩; replace HB : Aside0 (Below w.heap.size w wr) := ⟨by rw [← hq_]; exact bel_⟩; clear hq_)); (try (obtain ⟨_, _, _, _, _, _, _, _, _, _⟩ := cel5_ p.out)); (try (obtain ⟨_, _, _, _, _, _, _, _, _, _⟩ := cel5_ d.out))) | ((with_reducible refine gate_callee (f := 88) rfl ?_); refine goesL_ (some 38) rfl rfl Tryz.func88 kr_ rfl #[.int .u64 (rd q a)] rfl ar_ ?_; (with_reducible refine (bits_LeadingZeros64.calls (rd q a) F _ ag.out).mono ?_); rintro e w19 ⟨rfl, hb⟩; refine ⟨_, rfl, ?_⟩; replace HO_11 := a_ (vb_ (by refine vV_ ?_; exact (vm_ (fV_ (vm_ HO_11.out (fun m hk => (⟨hk, hk.2.2⟩ : _ ∧ m ≠ c)))) (fun _ h_ => h_.1))) hb); replace HO_196001 := a_ (vb_ (by refine vV_ ?_; exact (vm_ (fV_ (vm_ HO_196001.out (fun m hk => (⟨hk, hk.2.2⟩ : _ ∧ m ≠ c)))) (fun _ h_ => h_.1))) hb); replace p := a_ (bb_ (g := u) (o := .cells #[.int .i64 0, .slice none 0 0, .int .i64 0, .int .i64 0, .int .i64 0] 58 (0, 0)) (by refine bk_ ?_; refine blk_far ?_ l.out _; refine bk_ ?_; exact p.out) hb); replace d := a_ (bb_ (g := c) (o := .cells #[.int .i64 y, .slice (some v) q.length c1, .int .i64 (wrap64 ((wrap64 (y + (wrap64 (64 * a)))) + B)), .int .i64 s, .int .i64 b] 58 (0, 0)) (by refine bk_ ?_; refine bu_ (cs := #[.int .i64 y, .slice (some v) q.length c1, .int .i64 r, .int .i64 s, .int .i64 b]) ?_ 2 _ rfl; refine bk_ ?_; exact d.out) hb); replace HB := hq_ hb; clear hb; obtain ⟨_, _, _, _, _, _, _, _, _, _⟩ := cel5_ d.out))
  obtain ⟨w21, hq_⟩ : ∃ x, x = (w19.setCell ⟨c, 3, none⟩ (.int .i64 (wrap64 ((wrap64 ((wrap64 ((wrap64 (y + (wrap64 (64 * a)))) + 64)) - 1)) - F)))) := ⟨_, rfl⟩
  replace HO_11 : Aside0 (Kd.V (Kd.int .u64) 84 w21 w.heap.size (fun m => (P1_ m ∨ w.heap.size ≤ m) ∧ m ≠ u ∧ m ≠ c) (.slice (some v) q.length c1) q) := ⟨by subst hq_; refine vV_ ?_; exact vm_ (fV_ (vm_ HO_11.out (fun m hk => (⟨hk, hk.2.2⟩ : _ ∧ m ≠ c)))) (fun _ hk => ⟨hk.1.1, ⟨hk.1.2.1, hk.1.2.2⟩⟩)⟩
  replace HO_196001 : Aside0 (Kd.V (Kd.int .u64) 84 w21 w.heap.size (fun m => (P1_ m ∨ w.heap.size ≤ m) ∧ m ≠ u ∧ m ≠ c) (.slice (some v) q.length c1) q) := ⟨by subst hq_; refine vV_ ?_; exact vm_ (fV_ (vm_ HO_196001.out (fun m hk => (⟨hk, hk.2.2⟩ : _ ∧ m ≠ c)))) (fun _ hk => ⟨hk.1.1, ⟨hk.1.2.1, hk.1.2.2⟩⟩)⟩
  replace p : Aside0 (w21.heap[u]? = some (.cells #[.int .i64 0, .slice none 0 0, .int .i64 0, .int .i64 0, .int .i64 0] 58 (0, 0))) := ⟨by subst hq_; refine bk_ ?_; refine blk_far ?_ l.out _; refine bk_ ?_; exact p.out⟩
  replace d : Aside0 (w21.heap[c]? = some (.cells #[.int .i64 y, .slice (some v) q.length c1, .int .i64 (wrap64 ((wrap64 (y + (wrap64 (64 * a)))) + B)), .int .i64 (wrap64 ((wrap64 ((wrap64 ((wrap64 (y + (wrap64 (64 * a)))) + 64)) - 1)) - F)), .int .i64 b] 58 (0, 0))) := ⟨by subst hq_; refine bk_ ?_; refine bu_ (cs := #[.int .i64 y, .slice (some v) q.length c1, .int .i64 (wrap64 ((wrap64 (y + (wrap64 (64 * a)))) + B)), .int .i64 s, .int .i64 b]) ?_ 3 _ rfl; refine bk_ ?_; exact d.out⟩
  replace HB : Aside0 (Below w.heap.size w w21) := ⟨by subst hq_; exact bel_⟩
  rw [← hq_]
  clear hq_
  replace HO_11 := a_ (Kd.V_drew HO_11.out)
  replace HO_196001 := a_ (Kd.V_drew HO_196001.out)
  replace p := a_ (blk_drew p.out)
  replace d := a_ (blk_drew d.out)
  replace HB := a_ (below_drew1 HB.out)
  refine start_ (n := 7) (S := fun w' => w'.cell? ⟨c, 0, none⟩ = some (.int .i64 y) ∧ w'.cell? ⟨c, 1, none⟩ = some (.slice (some v) q.length c1) ∧ w'.cell? ⟨c, 2, none⟩ = some (.int .i64 (wrap64 ((wrap64 (y + (wrap64 (64 * a)))) + B))) ∧ w'.cell? ⟨c, 3, none⟩ = some (.int .i64 (wrap64 ((wrap64 ((wrap64 ((wrap64 (y + (wrap64 (64 * a)))) + 64)) - 1)) - F))) ∧ w'.cell? ⟨c, 4, none⟩ = some (.int .i64 b)) (ds := [6]) #[false, false, false, false, false, false, false] kr_ rfl rfl (ca5_ d.out) (fun hHeld => ?_)
  generalize w21.drew = w22 at HO_11 HO_196001 p d HB hHeld ⊢
  refine pn_ 0 41 kr_ ?_
  refine pn_ 2 43 kr_ ?_
  refine tn_ 1 42 kr_ hHeld ?_
  refine onn_ 3 44 #[true, true, true, true, false, false, false] rfl rfl kr_ (by decide) (fun K hK => ?_)
  refine goes_ Tryz.func89 kr_ rfl #[.int .u64 (rd q a)] (by rfl) rfl rfl ar_ ?_
  with_reducible refine (bits_OnesCount64.calls (rd q a) P _ ah.out).mono ?_
  rintro e w' ⟨rfl, ⟨nd, rfl⟩⟩
  refine ⟨_, rfl, ?_⟩
  refine hK.out _ _ (ca5_ d.out) (fun hHeld => ?_)
  clear hK K
  refine nor_ (N := some 44) ?_
  refine pn_ 4 45 kr_ ?_
  refine pn_ 5 46 kr_ ?_
  refine last_ (i := 6) (N := none) #[true, true, true, true, true, true, true] rfl rfl kr_ (by decide) (fun K hK => ?_)
  have aw : w22.cell? ⟨c, 4, none⟩ = some (.int .i64 b) := (blk_cell d.out 4).trans rfl
  have hfs23 := blk_frozen d.out 4
  have hns23_0 := l.out
  have hms23_0 := z.out
  refine skip_ (w1 := ?_) (by rfl) rfl ?_ ?_
  rotate_left
  ·
   go_simp
   rfl
  refine hK.out _ _ ?_
  clear hK K
  refine done_ kr_ ?_
  try go_wp2
  go_roundg k1
  case measure => have := M.out; omega
  exact ⟨(wrap64 (a + 1)), (wrap64 ((wrap64 (y + (wrap64 (64 * a)))) + B)), (wrap64 ((wrap64 ((wrap64 ((wrap64 (y + (wrap64 (64 * a)))) + 64)) - 1)) - F)), (wrap64 (b + P)), eq_, H', ⟨by have := M.out; omega⟩, ⟨by refine vV_ ?_; exact vm_ (fV_ (vm_ HO_11.out (fun m hk => (⟨hk, hk.2.2⟩ : _ ∧ m ≠ c)))) (fun _ hk => ⟨hk.1.1, ⟨hk.1.2.1, hk.1.2.2⟩⟩)⟩, ⟨by refine vV_ ?_; exact vm_ (fV_ (vm_ HO_196001.out (fun m hk => (⟨hk, hk.2.2⟩ : _ ∧ m ≠ c)))) (fun _ hk => ⟨hk.1.1, ⟨hk.1.2.1, hk.1.2.2⟩⟩)⟩, ⟨by refine bk_ ?_; refine blk_far ?_ l.out _; refine bk_ ?_; exact p.out⟩, ⟨by refine bk_ ?_; refine bu_ (cs := #[.int .i64 y, .slice (some v) q.length c1, .int .i64 (wrap64 ((wrap64 (y + (wrap64 (64 * a)))) + B)), .int .i64 (wrap64 ((wrap64 ((wrap64 ((wrap64 (y + (wrap64 (64 * a)))) + 64)) - 1)) - F)), .int .i64 b]) ?_ 4 _ rfl; refine bk_ ?_; exact d.out⟩, ⟨bel_⟩⟩

/-! ### slices_CloneU64: function 104 -/
def slices_CloneU64.f (a : List Int) : Option (List Int) := if a.length < 17592186044416 then some a else none
theorem infoU64 : (Tryz.prog.info? 84).map (fun i => (i.zero, i.size, i.bytes)) = some (some (.int .u64 0), 1, 8) := by kernel_rfl
theorem slices_CloneU64.calls (l : Option Addr) (c0 : Nat) (d : List Int) (r : List Int) (w : World) (g : Kd.C (Kd.int .u64) w l d.length d) (p : d.length ≤ c0) (h : slices_CloneU64.f d = some r) :
  Calls Tryz.prog 104 #[.slice l d.length c0] w fun e w' => ∃ v_ : Value, e = .returned v_ ∧ Kd.R (Kd.int .u64) 84 w' w.heap.size (fun _ => True) v_ r ∧ Below w.heap.size w w' := by
 unfold slices_CloneU64.f at h
 by_cases hb : d.length < 17592186044416
 rotate_left
 · rw [if_neg hb] at h; cases h
 rw [if_pos hb] at h
 obtain rfl := Option.some.inj h
 clear h
 rcases l with _ | ad
 ·
  have h0 : d = [] := by
   rcases Nat.eq_zero_or_pos d.length with h0 | h0
   · exact List.eq_nil_of_length_eq_zero h0
   obtain ⟨ad, e, _⟩ := g.2.2 h0; cases e
  subst h0
  have qT : ∀ (w : World) (a : Option Addr) (n c n' c' : Nat), (binOp .eql 56 (.slice a n c) (.slice none n' c')).run Tryz.prog w = .ok (.bool a.isNone) w := fun w a n c n' c' => Lib.run_eql_slice_nil w _ _ a n c n' c' Tryz.underlying56
  clear g hb
  go_enter Tryz.func104, Tryz.ntmps104
  go_wp2
  go_ret
  exact ⟨_, rfl, Kd.R_nil _ _ _ _ _, Below.refl _ _⟩
 have hnil : ∀ (W : World), (binOp .eql 56 (.slice (some ad) d.length c0) (.slice none 0 0)).run Tryz.prog W = .ok (.bool false) W := fun W => Lib.run_eql_slice_nil W 56 84 (some ad) d.length c0 0 0 Tryz.underlying56
 have HR := Aside0.mk g
 have HL := Aside0.mk hb
 clear g hb
 go_enter Tryz.func104, Tryz.ntmps104
 go_wp2_with (first | ((with_reducible refine gate_dst (N := 5) rfl ?_); refine Kd.R_lit (Kd.int .u64) _ 84 ?hg (N := 5) ?hd (xs := ([] : List Int)) (inner := []) (ok := fun _ => True) (okp := fun _ => True) ?hr ?hp (fun _ hk => hk) trivial (Below.refl _ _) (Nat.le_refl _) (by simp) ?_; (case hd => rfl); (case hg => rfl); (case hr => first | (go_simp; done) | (go_simp; rfl)); (case hp => exact Reps.none _ _); intro o w1 hR hB hG hat; have HO := Aside0.mk hR; have HB := Aside0.mk hB; clear hR hB hG hat) | ((with_reducible refine gate_builtin (b := .append) (xs := #[.tmp 5, .tmp 6]) rfl ?_); at_builtin; refine Kd.R_append_row (Value.int .u64) (0 : Int) (h1 := fun _ => rfl) (w0 := w) w.heap.size rfl (.tmp 5) (.tmp 6) 56 84 (.int .u64 0) 8 rfl Tryz.underlying56 infoU64 rfl (by decide) o [] d (some ad) d.length c0 (fun _ => True) rfl rfl (fun _ _ => trivial) HO.out (Kd.C_below HR.out HB.out) HB.out HB.out.size (by have := HL.out; simp only [List.length_nil]; omega) ?_; intro q w2 hR hB hG hat; have m := Aside0.mk hR; have HB2 := Aside0.mk hB; clear hR hB hG hat))
 go_ret
 exact ⟨_, rfl, m.out, HB2.out⟩

-- NOT PRINTED: function 84 (dom_Dom_less)

/-! ### dom_Dom_Without_1: function 85 -/
def dom_Dom_Without_1.f (b : Int) (d : Int) (a : Int) : Option (Int) := (dom_place.f a).bind fun c => (if b = c then (if 0 ≤ (wrap64 (a - b)) then (some (Go.bits .xor .u64 18446744073709551615 (shl .u64 1 (wrap64 (a - b))))) else (none)) else (some 18446744073709551615))
set_option maxHeartbeats 8000000 in
set_option maxRecDepth 100000 in
theorem dom_Dom_Without_1.calls (l : Int) (p : Int) (B2 : Nat) (b : Int) (r : Int) (w : World) (hbx2 : w.heap[B2]? = some (.cells #[.int .i64 b] 3 (0, 0))) (h : dom_Dom_Without_1.f l p b = some r) :
  Calls Tryz.prog 85 #[.int .i64 l, .int .u64 p, .pointer (some ⟨B2, 0, none⟩)] w fun e w' => e = .returned (.int .u64 r) ∧ Drawn0 w w' := by
 have BKc2 := a_ hbx2
 clear hbx2
 unfold dom_Dom_Without_1.f at h
 have H := h
 clear h
 replace H := bo_ H
 obtain ⟨c, n, H⟩ := H
 try dsimp only at H
 replace H := ef_ H
 rcases H with ⟨c5, c5b0, c5b1, H⟩ | ⟨-, c5b0, c5b1, H⟩
 ·
  obtain rfl := si_ H
  obtain ⟨_, _⟩ := cel1_ BKc2.out
  go_enter Tryz.func85, Tryz.ntmps85
  go_wp2_with (first | ((with_reducible refine gate_callee (f := 51) rfl ?_); refine goesL_ (some 8) rfl rfl Tryz.func51 kr_ rfl #[.int .i64 b] rfl ar_ ?_; (with_reducible refine (dom_place.calls b c _ n.out).mono ?_); rintro e w' ⟨rfl, ⟨nd, rfl⟩⟩; refine ⟨_, rfl, ?_⟩))
  go_ret
  exact ⟨by first | rfl | (simp; done) | (simp [*]; done), by repeat (first | exact d0_ _ | apply Drawn0.step)⟩
 obtain ⟨a, g⟩ : ∃ j_ : Int, (wrap64 (b - l)) = j_ := ⟨_, rfl⟩
 replace H : (if 0 ≤ (a) then (some (Go.bits .xor .u64 18446744073709551615 (shl .u64 1 (a)))) else (none)) = some r := by first | (rw [g] at H; exact H) | (simp only [g] at H ⊢; exact H)
 (try rw [g] at n)
 have hji6w : (IntKind.i64.wrap (b - l)) = a := (i64_w _).trans g
 replace H := ge_ H
 obtain ⟨c7b0, c7b1, H⟩ := H
 obtain ⟨m, d⟩ : ∃ j_ : Int, (shl .u64 1 (a)) = j_ := ⟨_, rfl⟩
 replace H : (some (Go.bits .xor .u64 18446744073709551615 (m))) = some r := by first | (rw [d] at H; exact H) | (simp only [d] at H ⊢; exact H)
 (try rw [d] at n)
 have o : (IntKind.u64.wrap (1 * 2 ^ min (a).toNat 64)) = m := d
 have hji8z : (a) ≤ 64 → (IntKind.u64.wrap (1 * 2 ^ (a).toNat)) = m := shl_small d
 have hji8u : (IntKind.u64.wrap (2 ^ min (a).toNat 64)) = m := by have h_ := o; rw [Int.one_mul] at h_; exact h_
 have hji8v : (a) ≤ 64 → (IntKind.u64.wrap (2 ^ (a).toNat)) = m := fun hle_ => by have h_ := hji8z hle_; rw [Int.one_mul] at h_; exact h_
 obtain rfl := si_ H
 obtain ⟨_, _⟩ := cel1_ BKc2.out
 go_enter Tryz.func85, Tryz.ntmps85
 go_wp2_with (first | ((with_reducible refine gate_callee (f := 51) rfl ?_); refine goesL_ (some 8) rfl rfl Tryz.func51 kr_ rfl #[.int .i64 b] rfl ar_ ?_; (with_reducible refine (dom_place.calls b c _ n.out).mono ?_); rintro e w' ⟨rfl, ⟨nd, rfl⟩⟩; refine ⟨_, rfl, ?_⟩))
 go_ret
 exact ⟨by first | rfl | (simp; done) | (simp only [← g, ← d] <;> (first | rfl | simp)) | (simp [*]; done), by repeat (first | exact d0_ _ | apply Drawn0.step)⟩

end Go.Proofs.YtijjhobjmehhoaaGreatDoor.XGccAll
