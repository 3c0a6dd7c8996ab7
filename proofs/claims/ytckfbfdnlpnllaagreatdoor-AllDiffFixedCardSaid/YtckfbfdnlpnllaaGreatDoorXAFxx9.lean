-- by xprint.py, a program of this session, over the kit's print
import Derived.Test.YtckfbfdnlpnllaaGreatDoorXAFxx0
import Derived.Test.YtckfbfdnlpnllaaGreatDoorXAFxx1
import Derived.Test.YtckfbfdnlpnllaaGreatDoorXAFxx4
import Derived.Test.YtckfbfdnlpnllaaGreatDoorXAFxx5
import Derived.Test.YtckfbfdnlpnllaaGreatDoorXAFxx6
import Derived.Test.YtckfbfdnlpnllaaGreatDoorSq
namespace Go.Proofs.YtckfbfdnlpnllaaGreatDoor.XAllDiffFixed
open Go.RowKit Go.Proofs.YtckfbfdnlpnllaaGreatDoor.Sq Go.Proofs.YtckfbfdnlpnllaaGreatDoorW.PrintWords Go.Proofs.YtckfbfdnlpnllaaGreatDoorW.PrintLast Go.Proofs.YtckfbfdnlpnllaaGreatDoorW.PrintMore
attribute [local go_sem] max2_int min2_int max_two min_two max_three min_three max_four min_four   -- for this text's walks alone
set_option linter.unusedVariables false
set_option linter.unusedSimpArgs false

/-! ### dom_Range: function 26 -/
mutual
def dom_Range.j0 : Nat → Int → Int → Bool → Option (Int × List Int × Int × Int × Int × Int)
 | 0, _, _, _ => none
 | k + 1, b, c, d => if d = true then (none) else (if b > c then (none) else (if (wrap64 (c - b)) ≥ 65536 then (none) else ((dom_room.f b c).bind fun a => (dom_Range.l0 k c b a.1 a.2.1 a.2.2.1 a.2.2.2.1 a.2.2.2.2))))
def dom_Range.l0 : Nat → Int → Int → Int → List Int → Int → Int → Int → Option (Int × List Int × Int × Int × Int × Int)
 | 0, _, _, _, _, _, _, _ => none
 | k + 1, m, d, a, b, e, g, l => if d ≤ m then (if 0 ≤ (wrap64 (Int.tdiv (wrap64 (d - a)) 64)) then (if (wrap64 (Int.tdiv (wrap64 (d - a)) 64)) < (b.length : Int) then (if 0 ≤ (Int.tmod (wrap64 (d - a)) 64) then (dom_Range.l0 k m (wrap64 (d + 1)) a (b.set ((wrap64 (Int.tdiv (wrap64 (d - a)) 64)) : Int).toNat (Go.bits .or .u64 (rd b (wrap64 (Int.tdiv (wrap64 (d - a)) 64))) (shl .u64 1 (Int.tmod (wrap64 (d - a)) 64)))) e g l) else (none)) else (none)) else (none)) else ((dom_made.f k a b).bind fun c => (some (c.1, c.2.1, c.2.2.1, c.2.2.2.1, c.2.2.2.2, 0)))
end
def dom_Range.f (k : Nat) (a : Int) (b : Int) : Option (Int × List Int × Int × Int × Int × Int) := (dom_in.f a).bind fun c => (if c = true then ((dom_in.f b).bind fun d => (dom_Range.j0 k a b (!d))) else (dom_Range.j0 k a b true))
theorem dom_Range.mono_l : ∀ k, (∀ a b c, LeO (dom_Range.j0 k a b c) (dom_Range.j0 (k + 1) a b c)) ∧ (∀ a b c d e f g, LeO (dom_Range.l0 k a b c d e f g) (dom_Range.l0 (k + 1) a b c d e f g))
 | 0 => by refine ⟨?_, ?_⟩ <;> (intros; exact LeO.none _)
 | k + 1 => by
  obtain ⟨ih0, ih1⟩ := dom_Range.mono_l k
  have m0 := @dom_made.mono
  refine ⟨?_, ?_⟩ <;> intros
  all_goals first | unfold dom_Range.j0 | unfold dom_Range.l0
  all_goals exact leo_
theorem dom_Range.mono : ∀ a b k, LeO (dom_Range.f k a b) (dom_Range.f (k + 1) a b) := by
 intro a b k
 obtain ⟨ih0, ih1⟩ := dom_Range.mono_l k
 unfold dom_Range.f
 have m0 := @dom_made.mono
 exact leo_
def dom_Range.T11 : Bool × List (List Nat × List Nat) := (true, [([], []), ([0], [0]), ([], []), ([], []), ([3], [3]), ([2, 4], [2, 4]), ([5], [5]), ([1, 6], [1, 6]), ([7], [7]), ([], []), ([], []), ([10], [10]), ([9, 11], [9, 11]), ([12], [12]), ([13], [13]), ([8, 14], [8, 14]), ([1, 6, 0, 1, 2, 3, 4, 5, 6, 7, 8, 9, 10, 11, 12, 13, 14, 15], [1, 6]), ([16, 15, 0, 1, 2, 3, 4, 5, 6, 7, 8, 9, 10, 11, 12, 13, 14, 15], [15, 16])])
def dom_Range.B11 : List Nat := [0, 1, 0, 0, 8, 28, 60, 127, 255, 0, 0, 1024, 3584, 7680, 15872, 32767, 65535, 131071]
theorem dom_Range.tab11 : rtab .any (opsOf Tryz.f26 11) = dom_Range.T11 := by kernel_rfl
theorem dom_Range.bits11 : waitsOk dom_Range.T11.2 dom_Range.B11 = true := by kernel_rfl
set_option maxHeartbeats 8000000 in
set_option maxRecDepth 100000 in
theorem dom_Range.calls (k : Nat) (v : Int) (p : Int) (Q : Int) (U : List Int) (W : Int) (X : Int) (Y : Int) (Z : Int) (w : World) (hrtab : Kd.C (Kd.int .u8) w (some ⟨0, 0, none⟩) tabL.length tabL) (h : dom_Range.f k v p = some (Q, U, W, X, Y, Z)) :
  Calls Tryz.prog 26 #[.int .i64 v, .int .i64 p] w fun e w' => ∃ aI : Value, e = .returned (.tuple #[.agg #[.int .i64 Q, aI, .int .i64 W, .int .i64 X, .int .i64 Y], .int .i64 Z]) ∧ Kd.V (Kd.int .u64) 81 w' w.heap.size (fun u => (w.heap.size ≤ u)) aI U ∧ Below w.heap.size w w' := by
 have hu57 := Tryz.underlying57
 have HRtab := a_ hrtab
 clear hrtab
 have HB := a_ (Below.refl w.heap.size w)
 unfold dom_Range.f at h
 have H := h
 clear h
 have am := a_ H
 clear H
 go_enter Tryz.func26, Tryz.ntmps26
 go_upto_region 1 with (first | ((with_reducible refine gate_dst (N := 4) rfl ?_); refine bxe_ (N := 4) (cs := #[.int .i64 0, .slice none 0 0, .int .i64 0, .int .i64 0, .int .i64 0]) (t := 57) ?_; intro r hg w4 hbox hb; have b := a_ (hbox); have aD := a_ (by rw [hg]; exact (bz_ bel_) : w.heap.size ≤ r); have aE := aD; replace HB := hq_ hb; clear hb hbox hg))
 (try simp only [Act.put, List.setIfInBounds_toArray, List.set_cons_zero, List.set_cons_succ])
 go_cut [8] (fun v8 wc => ∃ (kq : Nat) (aa : Bool), v8 = .bool aa ∧ Aside0 (dom_Range.j0 kq v p aa = some (Q, U, W, X, Y, Z)) ∧ Aside0 (kq ≤ k) ∧ Aside0 (wc.heap[r]? = some (.cells #[.int .i64 0, (.slice none 0 0), .int .i64 0, .int .i64 0, .int .i64 0] 57 (0, 0))) ∧ Aside0 (Below w.heap.size w wc))
 case first =>
  have H := am.out
  clear am
  replace H := bo_ H
  obtain ⟨aL, A5, H⟩ := H
  try dsimp only at H
  by_cases c6 : aL = true
  ·
   subst c6
   rw [ip_ rfl] at H
   replace H := bo_ H
   obtain ⟨an, A7, H⟩ := H
   try dsimp only at H
   have H' := a_ H
   clear H
   go_wp2_with (first | ((with_reducible refine gate_callee (f := 49) rfl ?_); refine goesL_ (some 10) rfl rfl Tryz.func49 kr_ rfl #[.int .i64 v] rfl ar_ ?_; (with_reducible refine (dom_in.calls v true _ A5.out).mono ?_); rintro e w' ⟨rfl, ⟨nd, rfl⟩⟩; refine ⟨_, rfl, ?_⟩) | (go_at_call 49; (with_reducible refine (dom_in.calls p an _ A7.out).mono ?_); rintro e w' ⟨rfl, ⟨nd, rfl⟩⟩))
   go_meet
   exact ⟨_, (!an), eq_, H', ⟨by first | omega | exact lr_ _⟩, ⟨bk_ b.out⟩, ⟨bel_⟩⟩
  replace c6 := bf_.mpr c6
  subst c6
  have H1 : (dom_Range.j0 k v p true) = some (Q, U, W, X, Y, Z) := by rw [ig_ (show ¬ (false = true) by decide)] at H; exact H
  clear H
  have H := H1
  clear H1
  have H' := a_ H
  clear H
  go_wp2_with (first | ((with_reducible refine gate_callee (f := 49) rfl ?_); refine goesL_ (some 10) rfl rfl Tryz.func49 kr_ rfl #[.int .i64 v] rfl ar_ ?_; (with_reducible refine (dom_in.calls v false _ A5.out).mono ?_); rintro e w' ⟨rfl, ⟨nd, rfl⟩⟩; refine ⟨_, rfl, ?_⟩))
  go_meet
  exact ⟨_, (true), eq_, H', ⟨by first | omega | exact lr_ _⟩, ⟨bk_ b.out⟩, ⟨bel_⟩⟩
 clear am
 try clear c2
 try clear p2
 try clear c4
 try clear c6
 obtain ⟨kq, aa, rfl, HA, aJ, b, HB⟩ := hcut
 cases kq with
 | zero => exact absurd HA.out (by simp [dom_Range.j0])
 | succ kj2 =>
  have H := HA.out
  clear HA
  simp only [dom_Range.j0] at H
  by_cases c8 : aa = true
  ·
   subst c8
   rw [ip_ rfl] at H
   exact ab_ H
  replace c8 := bf_.mpr c8
  subst c8
  have H1 : (if v > p then (none) else (if (wrap64 (p - v)) ≥ 65536 then (none) else ((dom_room.f v p).bind fun A => (dom_Range.l0 kj2 p v A.1 A.2.1 A.2.2.1 A.2.2.2.1 A.2.2.2.2)))) = some (Q, U, W, X, Y, Z) := by rw [ig_ (show ¬ (false = true) by decide)] at H; exact H
  clear H
  have H := H1
  clear H1
  by_cases c9 : v > p
  ·
   rw [ip_ c9] at H
   exact ab_ H
  rw [ig_ c9] at H
  have c9b0 : decide (p < v) = false := df_ c9
  clear c9
  by_cases c10 : (wrap64 (p - v)) ≥ 65536
  ·
   rw [ip_ c10] at H
   exact ab_ H
  rw [ig_ c10] at H
  have c10b0 : decide (65536 ≤ (wrap64 (p - v))) = false := df_ c10
  clear c10
  replace H := bs_.mp H
  obtain ⟨⟨g, E, s, x, y⟩, ao, H⟩ := H
  try dsimp only at H
  have aR := a_ ao
  clear ao
  have H' := a_ H
  clear H
  go_wp2_with (first | ((with_reducible refine gate_callee (f := 53) rfl ?_); refine goesL_ (some 31) rfl rfl Tryz.func53 kr_ rfl #[.int .i64 v, .int .i64 p] rfl ar_ ?_; (with_reducible refine (dom_room.calls v p g E s x y _ aR.out).mono ?_); rintro e w12 ⟨a2, rfl, ah, hb⟩; refine ⟨_, rfl, ?_⟩; have J := a_ (Kd.R_lower (Kd.R_newM (M := fun u => (w.heap.size ≤ u)) ah (bz_ bel_) (fun u h_ => h_)) (bz_ bel_)); replace b := a_ (bq_ b.out hb); replace HB := hq_ hb; clear hb ah) | ((with_reducible refine gate_dst (N := 6) rfl ?_); refine bxe_ (N := 6) (cs := #[.int .i64 0, .slice none 0 0, .int .i64 0, .int .i64 0, .int .i64 0]) (t := 57) ?_; intro o hg w13 hbox hb; replace J := a_ (rb_ (vR_ J.out) hb); have d := a_ (hbox); have aF := a_ (by rw [hg]; exact (bz_ bel_) : w.heap.size ≤ o); have aG := aF; replace HB := hq_ hb; have l := a_ ((by rw [hg]; exact Nat.ne_of_lt (blk_lt (bk_ b.out)) : r ≠ o)); have I := a_ ((by rw [hg]; exact Nat.ne_of_gt (blk_lt (bk_ b.out)) : o ≠ r)); replace b := a_ (bq_ b.out hb); clear hb hbox hg; have aT := I.out; have aU := l.out; obtain ⟨_, _, _, _, _, _, _, _, _, _⟩ := cel5_ d.out; obtain ⟨ab, ac, aM⟩ := Kd.R_slice J.out; subst aM))
  go_loopg [7] kj2 (fun kq v7 w' => ∃ (m : Int) (a : List Int) (u283001 : Value), v7 = .int .i64 m ∧ Aside0 (dom_Range.l0 kq p m g a s x y = some (Q, U, W, X, Y, Z)) ∧ Aside0 (kq ≤ kj2) ∧ Aside0 (Kd.R (Kd.int .u64) 81 w' w.heap.size (fun u => (w.heap.size ≤ u)) u283001 a) ∧ Aside0 (w'.heap[r]? = some (.cells #[.int .i64 0, (.slice none 0 0), .int .i64 0, .int .i64 0, .int .i64 0] 57 (0, 0))) ∧ Aside0 (w'.heap[o]? = some (.cells #[.int .i64 g, u283001, .int .i64 s, .int .i64 x, .int .i64 y] 57 (0, 0))) ∧ Aside0 (Below w.heap.size w w'))
  case atStart => exact ⟨(v), (E), (.slice ab E.length ac), eq_, H', ⟨lr_ _⟩, ⟨by refine vR_ ?_; exact rm_ (fR_ (fR_ (fR_ (fR_ (fR_ (rt_ J.out d.out (by decide))))))) (fun _ hk => hk.1.1)⟩, ⟨by refine bk_ ?_; refine blk_far ?_ l.out _; refine bk_ ?_; refine blk_far ?_ l.out _; refine bk_ ?_; refine blk_far ?_ l.out _; refine bk_ ?_; refine blk_far ?_ l.out _; refine bk_ ?_; refine blk_far ?_ l.out _; refine bk_ ?_; exact b.out⟩, ⟨by refine bk_ ?_; refine bu_ (cs := #[.int .i64 g, .slice ab E.length ac, .int .i64 s, .int .i64 x, .int .i64 0]) ?_ 4 _ rfl; refine bk_ ?_; refine bu_ (cs := #[.int .i64 g, .slice ab E.length ac, .int .i64 s, .int .i64 0, .int .i64 0]) ?_ 3 _ rfl; refine bk_ ?_; refine bu_ (cs := #[.int .i64 g, .slice ab E.length ac, .int .i64 0, .int .i64 0, .int .i64 0]) ?_ 2 _ rfl; refine bk_ ?_; refine bu_ (cs := #[.int .i64 g, .slice none 0 0, .int .i64 0, .int .i64 0, .int .i64 0]) ?_ 1 _ rfl; refine bk_ ?_; refine bu_ (cs := #[.int .i64 0, .slice none 0 0, .int .i64 0, .int .i64 0, .int .i64 0]) ?_ 0 _ rfl; refine bk_ ?_; exact d.out⟩, ⟨bel_⟩⟩
  clear H'
  try clear c1
  try clear c2
  try clear p2
  try clear c4
  try clear c5
  try clear c6
  try clear p6
  try clear c8
  try clear c9
  try clear c9b0
  try clear c10
  try clear c10b0
  try clear c14
  try clear p2
  obtain ⟨m, a, u283001, rfl, HA, aK, HO_283001, b, d, HB⟩ := hrel
  cases gk with
  | zero => exact absurd HA.out (by simp [dom_Range.l0])
  | succ k2 =>
   have H := HA.out
   clear HA
   simp only [dom_Range.l0] at H
   by_cases c17 : m ≤ p
   rotate_left
   ·
    rw [ig_ c17] at H
    have c17b0 : decide (m ≤ p) = false := df_ c17
    clear c17
    replace H := bs_.mp H
    obtain ⟨⟨G, P, ae, aj, az⟩, aA, H⟩ := H
    try dsimp only at H
    have aS := a_ aA
    clear aA
    simp only [Option.some.injEq, Prod.mk.injEq] at H
    obtain ⟨rfl, rfl, rfl, rfl, rfl, rfl⟩ := H
    have aW := I.out
    have aX := l.out
    obtain ⟨_, _, _, _, _, _, _, _, _, _⟩ := cel5_ d.out
    obtain ⟨aB, aC, aO⟩ := Kd.R_slice HO_283001.out
    subst aO
    go_wp2_with (first | ((with_reducible refine gate_callee (f := 54) rfl ?_); refine goesL_ (some 59) rfl rfl Tryz.func54 kr_ rfl #[.int .i64 g, .slice aB a.length aC] rfl ar_ ?_; (with_reducible refine (dom_made.calls k2 g (fun u => some u = (.slice aB a.length aC : Value).ownBlock) _ _ a G P ae aj az _ ?_ ?_ aS.out).mono ?_); exact Kd.R_V (Kd.R_tight rfl (rt_ (rt_ (HO_283001.out) b.out (by decide)) d.out (by decide))); exact ca_ ((cb_ HRtab.out HB.out)); rintro e w32 ⟨a6, rfl, ah, hb⟩; refine ⟨_, rfl, ?_⟩; have al := a_ (Kd.V_lower (vm_ (ok' := fun u => (w.heap.size ≤ u) ∧ u ≠ r ∧ u ≠ o) ah (fun u hk_ => ⟨Or.elim hk_ (fun hs_ => ((rt_ (rt_ (HO_283001.out) b.out (by decide)) d.out (by decide)).1 u hs_.symm).1.1) (fun hn_ => (Nat.le_trans (bz_ bel_) hn_)), Or.elim hk_ (fun hs_ => ((rt_ (rt_ (HO_283001.out) b.out (by decide)) d.out (by decide)).1 u hs_.symm).1.2) (fun hn_ => (Kd.freshB (bk_ b.out) u hn_)), Or.elim hk_ (fun hs_ => ((rt_ (rt_ (HO_283001.out) b.out (by decide)) d.out (by decide)).1 u hs_.symm).2) (fun hn_ => (Kd.freshB (bk_ d.out) u hn_))⟩)) (bz_ bel_)); replace b := a_ (bq_ b.out hb); replace HB := hq_ hb; clear hb ah; obtain ⟨_, _, _, _, _, _, _, _, _, _⟩ := cel5_ b.out; obtain ⟨af, ag, aP⟩ := Kd.V_slice al.out; subst aP))
    refine bodyPost_ret (results_ct rfl _ _ r 57 #[.int .i64 G, .slice af P.length ag, .int .i64 ae, .int .i64 aj, .int .i64 az] (0, 0) _ rfl (by refine bk_ ?_; refine bu_ (cs := #[.int .i64 G, .slice af P.length ag, .int .i64 ae, .int .i64 aj, .int .i64 0]) ?_ 4 _ rfl; refine bk_ ?_; refine bu_ (cs := #[.int .i64 G, .slice af P.length ag, .int .i64 ae, .int .i64 0, .int .i64 0]) ?_ 3 _ rfl; refine bk_ ?_; refine bu_ (cs := #[.int .i64 G, .slice af P.length ag, .int .i64 0, .int .i64 0, .int .i64 0]) ?_ 2 _ rfl; refine bk_ ?_; refine bu_ (cs := #[.int .i64 G, .slice none 0 0, .int .i64 0, .int .i64 0, .int .i64 0]) ?_ 1 _ rfl; refine bk_ ?_; refine bu_ (cs := #[.int .i64 0, .slice none 0 0, .int .i64 0, .int .i64 0, .int .i64 0]) ?_ 0 _ rfl; refine bk_ ?_; exact b.out) Tryz.underlying57 rfl kr_) rfl ?_
    exact ⟨_, er_, by refine vV_ ?_; exact vm_ (fV_ (fV_ (fV_ (fV_ (fV_ (vm_ al.out (fun u hk => (⟨hk, hk.2.1⟩ : _ ∧ u ≠ r)))))))) (fun _ hk => hk.1.1), bel_⟩
   rw [ip_ c17] at H
   have c17b0 : decide (m ≤ p) = true := dt_ c17
   clear c17
   obtain ⟨c, ad⟩ : ∃ j_ : Int, (wrap64 (Int.tdiv (wrap64 (m - g)) 64)) = j_ := ⟨_, rfl⟩
   replace H : (if 0 ≤ (c) then (if (c) < (a.length : Int) then (if 0 ≤ (Int.tmod (wrap64 (m - g)) 64) then (dom_Range.l0 k2 p (wrap64 (m + 1)) g (a.set ((c) : Int).toNat (Go.bits .or .u64 (rd a (c)) (shl .u64 1 (Int.tmod (wrap64 (m - g)) 64)))) s x y) else (none)) else (none)) else (none)) = some (Q, U, W, X, Y, Z) := by first | (rw [ad] at H; exact H) | (simp only [ad] at H ⊢; exact H)
   have hji18w : (IntKind.i64.wrap (Int.tdiv (wrap64 (m - g)) 64)) = c := (i64_w _).trans ad
   by_cases c19 : 0 ≤ (c)
   rotate_left
   ·
    rw [ig_ c19] at H
    exact ab_ H
   rw [ip_ c19] at H
   have c19b0 : decide (0 ≤ (c)) = true := dt_ c19
   clear c19
   by_cases c20 : (c) < (a.length : Int)
   rotate_left
   ·
    rw [ig_ c20] at H
    exact ab_ H
   rw [ip_ c20] at H
   have c20b0 : decide ((c) < (a.length : Int)) = true := dt_ c20
   clear c20
   obtain ⟨q, ak⟩ : ∃ j_ : Int, (Int.tmod (wrap64 (m - g)) 64) = j_ := ⟨_, rfl⟩
   replace H : (if 0 ≤ (q) then (dom_Range.l0 k2 p (wrap64 (m + 1)) g (a.set ((c) : Int).toNat (Go.bits .or .u64 (rd a (c)) (shl .u64 1 (q)))) s x y) else (none)) = some (Q, U, W, X, Y, Z) := by first | (rw [ak] at H; exact H) | (simp only [ak] at H ⊢; exact H)
   by_cases c22 : 0 ≤ (q)
   rotate_left
   ·
    rw [ig_ c22] at H
    exact ab_ H
   rw [ip_ c22] at H
   have c22b0 := et_ c22
   have c22b1 : decide (0 ≤ (q)) = true := dt_ c22
   clear c22
   obtain ⟨z, O⟩ : ∃ j_ : Int, (shl .u64 1 (q)) = j_ := ⟨_, rfl⟩
   replace H : (dom_Range.l0 k2 p (wrap64 (m + 1)) g (a.set ((c) : Int).toNat (Go.bits .or .u64 (rd a (c)) (z))) s x y) = some (Q, U, W, X, Y, Z) := by first | (rw [O] at H; exact H) | (simp only [O] at H ⊢; exact H)
   have ap : (IntKind.u64.wrap (1 * 2 ^ min (q).toNat 64)) = z := O
   have hji23z : (q) ≤ 64 → (IntKind.u64.wrap (1 * 2 ^ (q).toNat)) = z := shl_small O
   have hji23u : (IntKind.u64.wrap (2 ^ min (q).toNat 64)) = z := by have h_ := ap; rw [Int.one_mul] at h_; exact h_
   have hji23v : (q) ≤ 64 → (IntKind.u64.wrap (2 ^ (q).toNat)) = z := fun hle_ => by have h_ := hji23z hle_; rw [Int.one_mul] at h_; exact h_
   obtain ⟨aq, B⟩ : ∃ y_ : List Int, y_ = (a.set ((c) : Int).toNat (Go.bits .or .u64 (rd a (c)) (z))) := ⟨_, rfl⟩
   replace H : (dom_Range.l0 k2 p (wrap64 (m + 1)) g aq s x y) = some (Q, U, W, X, Y, Z) := h2_ H B
   have aH := a_ B
   clear B
   have H' := a_ H
   clear H
   try go_wp2
   replace HO_283001 := a_ (Kd.R_drew HO_283001.out)
   replace b := a_ (blk_drew b.out)
   replace d := a_ (blk_drew d.out)
   replace HB := a_ (below_drew1 HB.out)
   obtain ⟨a4, ar, au⟩ := Kd.R_slice HO_283001.out
   (first | subst au | (injection au with f1_ f2_ f3_; have f4_ := f1_.symm; have f5_ := f3_.symm; clear f1_ f2_ f3_; subst f4_; subst f5_))
   have p283 : 0 ≤ ((c) : Int) := dq_
   have ai : (c) < (a.length : Int) := dq_
   obtain ⟨aV, aN, F⟩ := ai_ (rr_ HO_283001.out).2.2 (c) p283 ai
   cases aN
   replace p283 := et_ p283
   replace ai := et_ ai
   have p24 : 0 ≤ ((c) : Int) := dq_
   have av : ((c) : Int) < ((a.length : Int) : Int) := dq_
   obtain ⟨go24, a5, aw, ax, gl24, cl24, HG24⟩ := Kd.R_form HO_283001.out (by omega)
   (first | cases aw | (injection aw with ea_ en_ ec_; (first | subst ea_ | (injection ea_ with ea_; subst ea_)); subst ec_; clear en_))
   have GB24 := a_ ax
   have GG24 := a_ HG24
   clear ax gl24 HG24
   (first | simp only [add_plain] at F | skip)
   obtain ⟨ay, hf24_0⟩ := Kd.R_celln 0 HO_283001.out ((c) : Int) p24 av
   replace p24 := et_ p24
   replace av := et_ av
   have HP27 := Kd.R_putn HO_283001.out ((c) : Int) (Go.bits .or .u64 (rd a (c)) (z))
   rw [← aH.out] at HP27
   have HQ27 := a_ HP27
   clear HP27
   refine start_ (n := 18) (S := fun w' => w'.cell? ⟨o, 0, none⟩ = some (.int .i64 g) ∧ w'.cell? ⟨o, 1, none⟩ = some (.slice (some ⟨go24, 0, none⟩) a.length ar) ∧ w'.cell? ⟨o, 2, none⟩ = some (.int .i64 s) ∧ w'.cell? ⟨o, 3, none⟩ = some (.int .i64 x) ∧ w'.cell? ⟨o, 4, none⟩ = some (.int .i64 y) ∧ w'.cell? ⟨go24, ((c)).toNat, none⟩ = some (.int .u64 (rd a (c)))) (ds := [17]) #[false, false, false, false, false, false, false, false, false, false, false, false, false, false, false, false, false, false] kr_ rfl rfl (cb5_ d.out (F)) (fun hHeld => ?_); refine with_tabW dom_Range.tab11 dom_Range.bits11 (fun HT_ HW_ => ?_)
   generalize wr.drew = w25 at HO_283001 b d HB GG24 HQ27 hf24_0 ay F hHeld ⊢
   refine pn_ 0 38 ao_ ?_
   refine pn_ 2 40 ao_ ?_
   refine pn_ 3 41 ao_ ?_
   refine pn_ 9 47 ao_ ?_
   refine pn_ 10 48 ao_ ?_
   refine tn_ 1 39 tw_ hHeld ?_
   refine tn_ 4 42 tw_ hHeld ?_
   refine pn_ 5 43 ao_ ?_
   refine pn_ 6 44 ao_ ?_
   refine pn_ 7 45 ao_ ?_
   refine tn_ 8 46 tw_ hHeld ?_
   refine tn_ 11 49 tw_ hHeld ?_
   refine pn_ 12 50 ao_ ?_
   refine pn_ 13 51 ao_ ?_
   refine pn_ 14 52 ao_ ?_
   refine pn_ 15 53 ao_ ?_
   refine pn_ 16 54 ao_ ?_
   refine last_ (i := 17) (N := none) #[true, true, true, true, true, true, true, true, true, true, true, true, true, true, true, true, true, true] rfl rfl on_ (by decide) (fun K hK => ?_)
   refine skip_ (w1 := ?_) (by rfl) rfl ?_ ?_
   rotate_left
   ·
    go_simp
    rfl
   refine hK.out _ _ ?_
   clear hK K
   refine done_ dn_ ?_
   try go_wp2
   go_roundg k2
   case measure => have := aJ.out; have := aK.out; omega
   exact ⟨(wrap64 (m + 1)), (aq), (.slice (some ⟨go24, 0, none⟩) a.length ar), eq_, H', ⟨by have := aJ.out; have := aK.out; omega⟩, ⟨vR_ HQ27.out⟩, ⟨by refine bk_ ?_; refine blk_far ?_ (by have h_ := Kd.R_ne HO_283001.out b.out (by decide); intro e_; exact h_ (by rw [e_]; rfl)) _; refine bk_ ?_; exact b.out⟩, ⟨by refine bk_ ?_; refine blk_far ?_ (by have h_ := Kd.R_ne HO_283001.out d.out (by decide); intro e_; exact h_ (by rw [e_]; rfl)) _; refine bk_ ?_; exact d.out⟩, ⟨by repeat (first | (with_reducible first | exact HB.out | apply below_alloc | apply pw_below_drewN | apply below_drew1 | refine below_set ?_ GB24.out | refine below_set ?_ aE.out | refine below_set ?_ aG.out) | exact HB.out)⟩⟩

/-! ### slices_Equal_int_int: function 28 -/
def slices_Equal_int_int.l0 : Nat → List Int → List Int → Int → Int → Option (Bool)
 | 0, _, _, _, _ => none
 | k + 1, c, d, b, a => if a < b then (if 0 ≤ a then (if a < (c.length : Int) then (if a < (d.length : Int) then (if (rd c a) = (rd d a) then (slices_Equal_int_int.l0 k c d b (wrap64 (a + 1))) else (none)) else (none)) else (none)) else (none)) else (some true)
def slices_Equal_int_int.f (k : Nat) (a : List Int) (b : List Int) : Option (Bool) := if (a.length : Int) = (b.length : Int) then (slices_Equal_int_int.l0 k a b (a.length : Int) 0) else (none)
theorem slices_Equal_int_int.mono_l : ∀ k, (∀ a b c d, LeO (slices_Equal_int_int.l0 k a b c d) (slices_Equal_int_int.l0 (k + 1) a b c d))
 | 0 => by intros; exact LeO.none _
 | k + 1 => by
  have ih0 := slices_Equal_int_int.mono_l k
  intro a b c d
  unfold slices_Equal_int_int.l0
  exact leo_
theorem slices_Equal_int_int.mono : ∀ a b k, LeO (slices_Equal_int_int.f k a b) (slices_Equal_int_int.f (k + 1) a b) := by
 intro a b k
 have ih0 := slices_Equal_int_int.mono_l k
 unfold slices_Equal_int_int.f
 exact leo_
set_option maxHeartbeats 8000000 in
set_option maxRecDepth 100000 in
theorem slices_Equal_int_int.calls (k : Nat) (v : Option Addr) (c0 : Nat) (b : List Int) (x : Option Addr) (c1 : Nat) (c : List Int) (r : Bool) (w : World) (l : Kd.C (Kd.int .i64) w v b.length b) (m : b.length ≤ c0) (n : Kd.C (Kd.int .i64) w x c.length c) (o : c.length ≤ c1) (h : slices_Equal_int_int.f k b c = some r) :
  Calls Tryz.prog 28 #[.slice v b.length c0, .slice x c.length c1] w fun e w' => e = .returned (.bool r) ∧ Drawn0 w w' := by
 have y := a_ l
 have F := a_ m
 clear l m
 have z := a_ n
 have G := a_ o
 clear n o
 unfold slices_Equal_int_int.f at h
 have H := h
 clear h
 by_cases c3 : (b.length : Int) = (c.length : Int)
 rotate_left
 ·
  rw [ig_ c3] at H
  exact ab_ H
 rw [ip_ c3] at H
 have c3b0 : ((b.length : Int) == (c.length : Int)) = true := beq_iff_eq.mpr c3
 have c3b1 : ((b.length : Int) != (c.length : Int)) = false := bn_.mpr c3
 have c3b2 : (b.length == c.length) = true := by first | simpa using c3 | (simp at c3 ⊢; omega)
 clear c3
 have H' := a_ H
 clear H
 go_enter Tryz.func28, Tryz.ntmps28
 go_wp2
 repeat (go_quiet (fail); try go_wp2)
 go_loopg [13] k (fun kq A w' => ∃ (a : Int), A = .int .i64 a ∧ Aside0 (slices_Equal_int_int.l0 kq b c (b.length : Int) a = some r) ∧ Aside0 (kq ≤ k) ∧ Drawn0 w w')
 case atStart => exact ⟨(0), eq_, H', ⟨lr_ _⟩, by repeat (first | exact d0_ _ | apply Drawn0.step)⟩
 clear H'
 try clear c1
 try clear c2
 try clear p2
 try clear c3
 try clear c3b0
 try clear c3b1
 try clear c3b2
 obtain ⟨a, rfl, HA, p, ⟨m1, rfl⟩⟩ := hrel
 cases gk with
 | zero => exact absurd HA.out (by simp [slices_Equal_int_int.l0])
 | succ k1 =>
  have H := HA.out
  clear HA
  simp only [slices_Equal_int_int.l0] at H
  by_cases c4 : a < (b.length : Int)
  rotate_left
  ·
   rw [ig_ c4] at H
   have c4b0 : decide (a < (b.length : Int)) = false := df_ c4
   clear c4
   obtain rfl := si_ H
   go_wp2
   repeat (go_quiet (fail); try go_wp2)
   go_ret
   exact ⟨by first | rfl | (simp; done) | (simp [*]; done), by repeat (first | exact d0_ _ | apply Drawn0.step)⟩
  rw [ip_ c4] at H
  have c4b0 : decide (a < (b.length : Int)) = true := dt_ c4
  clear c4
  by_cases c5 : 0 ≤ a
  rotate_left
  ·
   rw [ig_ c5] at H
   exact ab_ H
  rw [ip_ c5] at H
  have c5b0 : decide (0 ≤ a) = true := dt_ c5
  clear c5
  by_cases c6 : a < (b.length : Int)
  rotate_left
  ·
   rw [ig_ c6] at H
   exact ab_ H
  rw [ip_ c6] at H
  have c6b0 : decide (a < (b.length : Int)) = true := dt_ c6
  clear c6
  by_cases c7 : a < (c.length : Int)
  rotate_left
  ·
   rw [ig_ c7] at H
   exact ab_ H
  rw [ip_ c7] at H
  have c7b0 : decide (a < (c.length : Int)) = true := dt_ c7
  clear c7
  by_cases c8 : (rd b a) = (rd c a)
  rotate_left
  ·
   rw [ig_ c8] at H
   exact ab_ H
  rw [ip_ c8] at H
  have c8b0 : ((rd b a) == (rd c a)) = true := beq_iff_eq.mpr c8
  have c8b1 : ((rd b a) != (rd c a)) = false := bn_.mpr c8
  clear c8
  have H' := a_ H
  clear H
  have p292 : 0 ≤ (a : Int) := dq_
  have d : a < (b.length : Int) := dq_
  obtain ⟨B, q, t⟩ := ai_ y.out a p292 d
  cases q
  replace p292 := et_ p292
  replace d := et_ d
  have p293 : 0 ≤ (a : Int) := dq_
  have g : a < (c.length : Int) := dq_
  obtain ⟨E, s, u⟩ := ai_ z.out a p293 g
  cases s
  replace p293 := et_ p293
  replace g := et_ g
  go_wp2
  repeat (go_quiet (fail); try go_wp2)
  go_roundg k1
  case measure => have := p.out; omega
  exact ⟨(wrap64 (a + 1)), eq_, H', ⟨by have := p.out; omega⟩, by repeat (first | exact d0_ _ | apply Drawn0.step)⟩

end Go.Proofs.YtckfbfdnlpnllaaGreatDoor.XAllDiffFixed
