-- by xprint.py, a program of this session, over the kit's print
import Derived.Test.YtijjhobjmehhoaaGreatDoorXGAlx0
import Derived.Test.YtijjhobjmehhoaaGreatDoorXGAlx1
import Derived.Test.YtijjhobjmehhoaaGreatDoorXGAlx4
import Derived.Test.YtijjhobjmehhoaaGreatDoorXGAlx5
import Derived.Test.YtijjhobjmehhoaaGreatDoorSq
namespace Go.Proofs.YtijjhobjmehhoaaGreatDoor.XGccAll
open Go.RowKit Go.Proofs.YtijjhobjmehhoaaGreatDoor.Sq Go.Proofs.YtijjhobjmehhoaaGreatDoorW.PrintWords Go.Proofs.YtijjhobjmehhoaaGreatDoorW.PrintLast Go.Proofs.YtijjhobjmehhoaaGreatDoorW.PrintMore
attribute [local go_sem] max2_int min2_int max_two min_two max_three min_three max_four min_four   -- for this text's walks alone
set_option linter.unusedVariables false
set_option linter.unusedSimpArgs false

/-! ### dom_Dom_List: function 21 -/
mutual
def dom_Dom_List.l0 : Nat → List Int → List Int → Int → Int → Int → List Int → Int → Int → Int → Option (List Int)
 | 0, _, _, _, _, _, _, _, _, _ => none
 | k + 1, l, g, m, a, b, c, d, e, f => if a < m then (if 0 ≤ a then (if a < (g.length : Int) then (dom_Dom_List.l1 k l a (rd g a) g m a b c d e f) else (none)) else (none)) else (some l)
def dom_Dom_List.l1 : Nat → List Int → Int → Int → List Int → Int → Int → Int → List Int → Int → Int → Int → Option (List Int)
 | 0, _, _, _, _, _, _, _, _, _, _, _ => none
 | k + 1, l, n, g, o, p, q, a, b, c, d, e => if g = 0 then (dom_Dom_List.l0 k l o p (wrap64 (q + 1)) a b c d e) else ((bits_TrailingZeros64.f g).bind fun m => (if l.length < 17592186044416 then (dom_Dom_List.l1 k (l ++ [wrap64 ((wrap64 (a + (wrap64 (64 * n)))) + m)]) n (Go.bits .and .u64 g (IntKind.u64.wrap (g - 1))) o p q a b c d e) else (none)))
end
def dom_Dom_List.f (k : Nat) (b : Int) (a : List Int) (c : Int) (d : Int) (e : Int) : Option (List Int) := dom_Dom_List.l0 k ([] : List Int) a (a.length : Int) 0 b a c d e
theorem dom_Dom_List.mono_l : ∀ k, (∀ a b c d e f g l m, LeO (dom_Dom_List.l0 k a b c d e f g l m) (dom_Dom_List.l0 (k + 1) a b c d e f g l m)) ∧ (∀ a b c d e f g l m o n, LeO (dom_Dom_List.l1 k a b c d e f g l m o n) (dom_Dom_List.l1 (k + 1) a b c d e f g l m o n))
 | 0 => by refine ⟨?_, ?_⟩ <;> (intros; exact LeO.none _)
 | k + 1 => by
  obtain ⟨ih0, ih1⟩ := dom_Dom_List.mono_l k
  refine ⟨?_, ?_⟩ <;> intros
  all_goals first | unfold dom_Dom_List.l0 | unfold dom_Dom_List.l1
  all_goals exact leo_
theorem dom_Dom_List.mono : ∀ a b c d e k, LeO (dom_Dom_List.f k a b c d e) (dom_Dom_List.f (k + 1) a b c d e) := by
 intro a b c d e k
 obtain ⟨ih0, ih1⟩ := dom_Dom_List.mono_l k
 unfold dom_Dom_List.f
 exact leo_
def dom_Dom_List.T7 : Bool × List (List Nat × List Nat) := (true, [([], []), ([], []), ([1], [1]), ([], []), ([3], [3]), ([2, 4], [2, 4]), ([], []), ([6], [6]), ([5, 7], [5, 7]), ([8], [8]), ([0, 9, 7], [0, 9]), ([10, 10, 0, 1, 2, 3, 4, 5, 6, 7, 8, 9, 10], [0, 10])])
def dom_Dom_List.B7 : List Nat := [0, 0, 2, 0, 8, 30, 0, 64, 254, 510, 1023, 2047]
theorem dom_Dom_List.tab7 : rtab .any (opsOf Tryz.f21 7) = dom_Dom_List.T7 := by kernel_rfl
theorem dom_Dom_List.bits7 : waitsOk dom_Dom_List.T7.2 dom_Dom_List.B7 = true := by kernel_rfl
set_option maxHeartbeats 8000000 in
set_option maxRecDepth 100000 in
theorem dom_Dom_List.calls (k : Nat) (g : Int) (x : Option Addr) (c0_1 : Nat) (b : List Int) (m : Int) (o : Int) (p : Int) (r : List Int) (w : World) (B : Kd.C (Kd.int .u64) w x b.length b) (E : b.length ≤ c0_1) (hrtab : Kd.C (Kd.int .u8) w (some ⟨0, 0, none⟩) tabL.length tabL) (h : dom_Dom_List.f k g b m o p = some r) :
  Calls Tryz.prog 21 #[.agg #[.int .i64 g, .slice x b.length c0_1, .int .i64 m, .int .i64 o, .int .i64 p]] w fun e w' => ∃ U : Value, e = .returned (U) ∧ Kd.R (Kd.int .i64) 3 w' w.heap.size (fun _ => True) U r ∧ Below w.heap.size w w' := by
 have hu58 := Tryz.underlying58
 have M := a_ B
 have X := a_ E
 clear B E
 have HRtab := a_ hrtab
 clear hrtab
 have HB := a_ (Below.refl w.heap.size w)
 unfold dom_Dom_List.f at h
 have H := h
 clear h
 have H' := a_ H
 clear H
 go_enter Tryz.func21, Tryz.ntmps21
 go_wp2_with (first | ((with_reducible refine gate_dst (N := 1) rfl ?_); refine bxe_ (N := 1) (cs := #[.int .i64 g, .slice x b.length c0_1, .int .i64 m, .int .i64 o, .int .i64 p]) (t := 58) ?_; intro l hg w2 hbox hb; have a := a_ (hbox); have O := a_ (by rw [hg]; exact (bz_ bel_) : w.heap.size ≤ l); have Y := O; replace HB := hq_ hb; clear hb hbox hg; obtain ⟨_, _, _, _, _, _, _, _, _, _⟩ := cel5_ a.out))
 go_loopg [3, 9] k (fun kq V Z w' => ∃ (y : List Int) (c : Int), Z = .int .i64 c ∧ Aside0 (dom_Dom_List.l0 kq y b (b.length : Int) c g b m o p = some r) ∧ Aside0 (kq ≤ k) ∧ Aside0 (Kd.R (Kd.int .i64) 3 w' w.heap.size (fun _ => True) V y) ∧ Aside0 (w'.heap[l]? = some (.cells #[.int .i64 g, (.slice x b.length c0_1), .int .i64 m, .int .i64 o, .int .i64 p] 58 (0, 0))) ∧ Aside0 (Below w.heap.size w w'))
 case atStart => exact ⟨(([] : List Int)), (0), eq_, H', ⟨lr_ _⟩, ⟨nil_⟩, ⟨bk_ a.out⟩, ⟨bel_⟩⟩
 clear H'
 try clear c2
 try clear p2
 obtain ⟨y, c, rfl, HA, F, HO_3, a, HB⟩ := hrel
 cases gk with
 | zero => exact absurd HA.out (by simp [dom_Dom_List.l0])
 | succ k1 =>
  have H := HA.out
  clear HA
  simp only [dom_Dom_List.l0] at H
  replace H := cf_ H
  rcases H with ⟨c4b0, H⟩ | ⟨c4b0, H⟩
  ·
   obtain rfl := si_ H
   go_wp2
   go_ret
   exact ⟨_, er_, vR_ HO_3.out, bel_⟩
  replace H := gu_ H
  obtain ⟨c5b0, H⟩ := H
  replace H := gu_ H
  obtain ⟨c6b0, H⟩ := H
  have H' := a_ H
  clear H
  obtain ⟨G, W, q, p305, z⟩ := aj_ M HB c
  cases W
  go_wp2
  go_loopg [3, 5] k1 (fun kq V v5 w' => ∃ (s : List Int) (d : Int), v5 = .int .u64 d ∧ Aside0 (dom_Dom_List.l1 kq s c d b (b.length : Int) c g b m o p = some r) ∧ Aside0 (kq ≤ k1) ∧ Aside0 (Kd.R (Kd.int .i64) 3 w' w.heap.size (fun _ => True) V s) ∧ Aside0 (w'.heap[l]? = some (.cells #[.int .i64 g, (.slice (some G) b.length c0_1), .int .i64 m, .int .i64 o, .int .i64 p] 58 (0, 0))) ∧ Aside0 (Below w.heap.size w w'))
  case atStart => exact ⟨(y), (rd b c), eq_, H', ⟨lr_ _⟩, ⟨vR_ HO_3.out⟩, ⟨bk_ a.out⟩, ⟨bel_⟩⟩
  clear H'
  try clear c2
  try clear p2
  try clear p3
  try clear q3
  try clear ad
  try clear c4
  try clear c4b0
  try clear c5
  try clear c5b0
  try clear c6
  try clear c6b0
  try clear q
  try clear p2
  try clear p305
  try clear z
  obtain ⟨s, d, rfl, HA, I, HO_3, a, HB⟩ := hrel
  cases gk with
  | zero => exact absurd HA.out (by simp [dom_Dom_List.l1])
  | succ k2 =>
   have H := HA.out
   clear HA
   simp only [dom_Dom_List.l1] at H
   replace H := eg_ H
   rcases H with ⟨-, c7b0, c7b1, H⟩ | ⟨c7, c7b0, c7b1, H⟩
   ·
    have H' := a_ H
    clear H
    go_wp2
    go_roundg k2
    case measure => have := F.out; have := I.out; omega
    exact ⟨(s), (wrap64 (c + 1)), eq_, H', ⟨by have := F.out; have := I.out; omega⟩, ⟨vR_ HO_3.out⟩, ⟨bk_ a.out⟩, ⟨bel_⟩⟩
   replace H := bo_ H
   obtain ⟨A, A8, H⟩ := H
   try dsimp only at H
   replace H := ga_ H
   obtain ⟨LMc9, H⟩ := H
   obtain ⟨J, u⟩ : ∃ y_ : List Int, y_ = (s ++ [wrap64 ((wrap64 (g + (wrap64 (64 * c)))) + A)]) := ⟨_, rfl⟩
   replace H : (dom_Dom_List.l1 k2 J c (Go.bits .and .u64 d (IntKind.u64.wrap (d - 1))) b (b.length : Int) c g b m o p) = some r := h2_ H u
   have P := a_ u
   clear u
   have H' := a_ H
   clear H
   try go_wp2
   replace HO_3 := a_ (Kd.R_drew HO_3.out)
   replace a := a_ (blk_drew a.out)
   replace HB := a_ (below_drew1 HB.out)
   refine start_ (n := 12) (S := fun w' => w'.cell? ⟨l, 0, none⟩ = some (.int .i64 g) ∧ w'.cell? ⟨l, 1, none⟩ = some (.slice (some G) b.length c0_1) ∧ w'.cell? ⟨l, 2, none⟩ = some (.int .i64 m) ∧ w'.cell? ⟨l, 3, none⟩ = some (.int .i64 o) ∧ w'.cell? ⟨l, 4, none⟩ = some (.int .i64 p)) (ds := []) #[false, false, false, false, false, false, false, false, false, false, false, false] kr_ rfl rfl (ca5_ a.out) (fun hHeld => ?_); refine with_tabW dom_Dom_List.tab7 dom_Dom_List.bits7 (fun HT_ HW_ => ?_)
   generalize wr.drew = w10 at HO_3 a HB hHeld ⊢
   refine pn_ 0 20 ao_ ?_
   refine pn_ 1 21 ao_ ?_
   refine pn_ 3 23 ao_ ?_
   refine pn_ 4 24 ao_ ?_
   refine pn_ 6 26 ao_ ?_
   refine tn_ 2 22 tw_ hHeld ?_
   refine pn_ 5 25 ao_ ?_
   refine onn_ 7 27 #[true, true, true, true, true, true, true, true, false, false, false, false] rfl rfl on_ (by decide) (fun K hK => ?_)
   refine goes_ Tryz.func48 kr_ rfl #[.int .u64 d] (by rfl) rfl rfl ar_ ?_
   with_reducible refine (bits_TrailingZeros64.calls d A _ ?_ A8.out).mono ?_
   exact ca_ ((cb_ HRtab.out HB.out))
   rintro e w' ⟨rfl, ⟨nd, rfl⟩⟩
   refine ⟨_, rfl, ?_⟩
   refine hK.out _ _ (ca5_ a.out) (fun hHeld => ?_)
   clear hK K
   refine nor_ (N := some 27) ?_
   refine pn_ 8 28 ao_ ?_
   refine onn_ 9 29 #[true, true, true, true, true, true, true, true, true, true, false, false] rfl rfl on_ (by decide) (fun K hK => ?_)
   refine value_ (w1 := ?_) (v := ?_) (by rfl) rfl ?_ ?_
   rotate_left 2
   ·
    go_simp
    constructor
    · rfl
    rfl
   refine hK.out _ _ ⟨(blk_cell (blk_alloc a.out _) 0).trans rfl, (blk_cell (blk_alloc a.out _) 1).trans rfl, (blk_cell (blk_alloc a.out _) 2).trans rfl, (blk_cell (blk_alloc a.out _) 3).trans rfl, (blk_cell (blk_alloc a.out _) 4).trans rfl⟩ (fun hHeld => ?_)
   clear hK K
   refine nor_ (N := some 29) ?_
   refine onn_ 10 30 #[true, true, true, true, true, true, true, true, true, true, true, false] rfl rfl on_ (by decide) (fun K hK => ?_)
   refine Kd.R_append_step (Kd.int .i64) (w0 := w) w.heap.size (by rfl) (.tmp 20) (.tmp 29) 30 3 (.int .i64 0) 8 rfl Tryz.underlying30 info3 rfl (by decide) (by omega) u3 s (wrap64 ((wrap64 (g + (wrap64 (64 * c)))) + A)) [.int .i64 (wrap64 ((wrap64 (g + (wrap64 (64 * c)))) + A))] (fun _ => True) (fun _ => False) rfl rfl ?aP (fun _ hk => hk.elim) ?aF ?aO ?aB ?aS ?aL ?_
   (case aP => exact rfl)
   (case aB => exact bel_)
   (case aF => exact (fun _ _ => trivial))
   (case aO => exact (vR_ HO_3.out))
   (case aS => exact (bz_ bel_))
   (case aL => have := LMc9.out; omega)
   intro ac w11 ho hb hg hat
   rw [← P.out] at ho
   replace a := a_ (blk_grown (bk_ a.out) hg (Kd.R_ne HO_3.out a.out (by decide)))
   replace HB := a_ (hb)
   have Q := a_ (ho)
   clear HO_3 ho hb hg hat
   refine hK.out _ _ (ca5_ a.out) (fun hHeld => ?_)
   clear hK K
   refine nor_ (N := some 30) ?_
   refine pn_ 11 3 ao_ ?_
   refine done_ dn_ ?_
   try go_wp2
   go_roundg k2
   case measure => have := F.out; have := I.out; omega
   exact ⟨(J), (Go.bits .and .u64 d (IntKind.u64.wrap (d - 1))), eq_, H', ⟨by have := F.out; have := I.out; omega⟩, ⟨vR_ Q.out⟩, ⟨bk_ a.out⟩, ⟨bel_⟩⟩

/-! ### dom_Of_1: function 62 -/
def dom_Of_1.f (b : Int) : Option (Bool) := (dom_in.f b).bind fun a => (some (!a))
set_option maxHeartbeats 8000000 in
set_option maxRecDepth 100000 in
theorem dom_Of_1.calls (a : Int) (r : Bool) (w : World) (h : dom_Of_1.f a = some r) :
  Calls Tryz.prog 62 #[.int .i64 a] w fun e w' => e = .returned (.bool r) ∧ Drawn0 w w' := by
 unfold dom_Of_1.f at h
 have H := h
 clear h
 replace H := bo_ H
 obtain ⟨b, c, H⟩ := H
 try dsimp only at H
 obtain rfl := si_ H
 go_enter Tryz.func62, Tryz.ntmps62
 go_wp2_with (first | ((with_reducible refine gate_callee (f := 49) rfl ?_); refine goesL_ (some 4) rfl rfl Tryz.func49 kr_ rfl #[.int .i64 a] rfl ar_ ?_; (with_reducible refine (dom_in.calls a b _ c.out).mono ?_); rintro e w' ⟨rfl, ⟨nd, rfl⟩⟩; refine ⟨_, rfl, ?_⟩))
 go_ret
 exact ⟨by first | rfl | (simp; done) | (simp [*]; done), by repeat (first | exact d0_ _ | apply Drawn0.step)⟩

/-! ### slices_Max_int: function 63 -/
def slices_Max_int.f (a : List Int) : Option Int := if a = [] then none else some (a.foldl mx (rd a 0))
theorem slices_Max_int.calls (c : Option Addr) (c0 : Nat) (a : List Int) (r : Int) (w : World) (b : Kd.C (Kd.int .i64) w c a.length a) (g : a.length ≤ c0) (h : slices_Max_int.f a = some r) :
  Calls Tryz.prog 63 #[.slice c a.length c0] w fun e w' => e = .returned (.int .i64 r) ∧ Drawn0 w w' := by
 unfold slices_Max_int.f at h
 by_cases hn : a = []
 · rw [if_pos hn] at h; cases h
 rw [if_neg hn] at h
 have hn0 : 0 < a.length := by cases a with | nil => exact absurd rfl hn | cons => simp
 have hbig : a.length ≤ 9223372036854775807 := b.2.1
 have HE := Aside0.mk (Option.some.inj h)
 have HR := Aside0.mk b
 have l : decide (a.length < 1) = false := decide_eq_false (by omega)
 have n : decide ((a.length : Int) < 1) = false := decide_eq_false (by omega)
 obtain ⟨ad, rfl, hcell0⟩ := Kd.at_int HR.out 0 (by omega) (by omega)
 clear h b hn
 have d : w.cell? (ad.add 0) = some (.int .i64 (rd a 0)) := hcell0
 have o : w.cell? ad = some (.int .i64 (rd a 0)) := (show ad.add 0 = ad by cases ad; simp [Addr.add]) ▸ d
 clear hcell0
 go_enter Tryz.func63, Tryz.ntmps63
 go_wp2
 go_loopg [3, 4] a.length (fun gg s4 s5 wr => ∃ kk : Nat, kk ≤ a.length ∧ 1 ≤ kk ∧ a.length - kk ≤ gg ∧ s5 = .int .i64 kk ∧ s4 = .int .i64 ((a.take kk).foldl mx (rd a 0)) ∧ Aside0 (Drawn0 w wr))
 case atStart => exact ⟨1, by omega, by omega, by omega, rfl, by rw [show (1 : Nat) = 0 + 1 from rfl, fold_step hn0]; show Value.int .i64 (rd a 0) = .int .i64 (mx (rd a 0) (rd a 0)); rw [mx_self], ⟨Drawn0.refl _⟩⟩
 obtain ⟨kk, hkk, h1, hg, rfl, rfl, BW⟩ := hrel
 obtain ⟨⟨m, rfl⟩⟩ := BW
 by_cases hlt : kk < a.length
 rotate_left
 ·
  have : kk = a.length := by omega
  subst this
  have HS := Aside0.mk (show (a.take a.length).foldl mx (rd a 0) = r by rw [List.take_length]; exact HE.out)
  generalize (a.take a.length).foldl mx (rd a 0) = y at *
  go_wp2
  go_ret
  exact ⟨by rw [HS.out]; rfl, ⟨_, rfl⟩⟩
 have hltz : (kk : Int) < (a.length : Int) := by omega
 obtain ⟨ad', had, hcell⟩ := Kd.at_int HR.out (kk : Int) (by omega) hltz
 obtain rfl := Option.some.inj had
 rw [Int.toNat_natCast] at hcell
 have hcell' : (w.drewN m).cell? (ad.add kk) = some (.int .i64 (rd a kk)) := by rw [World.cell?_drewN]; exact hcell
 have HS := Aside0.mk (fold_step (op := mx) (z := rd a 0) hlt)
 clear hcell had
 generalize (a.take kk).foldl mx (rd a 0) = y at *
 go_wp2
 all_goals
  go_roundg (a.length - (kk + 1))
  case measure => omega
  case rel =>
   exact ⟨kk + 1, by omega, by omega, by omega, by go_num, by rw [HS.out]; unfold mx; first | rw [if_pos (by omega)] | rw [if_neg (by omega)], ⟨⟨_, rfl⟩⟩⟩

/-! ### slices_Min_int: function 64 -/
def slices_Min_int.f (a : List Int) : Option Int := if a = [] then none else some (a.foldl mn (rd a 0))
theorem slices_Min_int.calls (c : Option Addr) (c0 : Nat) (a : List Int) (r : Int) (w : World) (b : Kd.C (Kd.int .i64) w c a.length a) (g : a.length ≤ c0) (h : slices_Min_int.f a = some r) :
  Calls Tryz.prog 64 #[.slice c a.length c0] w fun e w' => e = .returned (.int .i64 r) ∧ Drawn0 w w' := by
 unfold slices_Min_int.f at h
 by_cases hn : a = []
 · rw [if_pos hn] at h; cases h
 rw [if_neg hn] at h
 have hn0 : 0 < a.length := by cases a with | nil => exact absurd rfl hn | cons => simp
 have hbig : a.length ≤ 9223372036854775807 := b.2.1
 have HE := Aside0.mk (Option.some.inj h)
 have HR := Aside0.mk b
 have l : decide (a.length < 1) = false := decide_eq_false (by omega)
 have n : decide ((a.length : Int) < 1) = false := decide_eq_false (by omega)
 obtain ⟨ad, rfl, hcell0⟩ := Kd.at_int HR.out 0 (by omega) (by omega)
 clear h b hn
 have d : w.cell? (ad.add 0) = some (.int .i64 (rd a 0)) := hcell0
 have o : w.cell? ad = some (.int .i64 (rd a 0)) := (show ad.add 0 = ad by cases ad; simp [Addr.add]) ▸ d
 clear hcell0
 go_enter Tryz.func64, Tryz.ntmps64
 go_wp2
 go_loopg [3, 4] a.length (fun gg s4 s5 wr => ∃ kk : Nat, kk ≤ a.length ∧ 1 ≤ kk ∧ a.length - kk ≤ gg ∧ s5 = .int .i64 kk ∧ s4 = .int .i64 ((a.take kk).foldl mn (rd a 0)) ∧ Aside0 (Drawn0 w wr))
 case atStart => exact ⟨1, by omega, by omega, by omega, rfl, by rw [show (1 : Nat) = 0 + 1 from rfl, fold_step hn0]; show Value.int .i64 (rd a 0) = .int .i64 (mn (rd a 0) (rd a 0)); rw [mn_self], ⟨Drawn0.refl _⟩⟩
 obtain ⟨kk, hkk, h1, hg, rfl, rfl, BW⟩ := hrel
 obtain ⟨⟨m, rfl⟩⟩ := BW
 by_cases hlt : kk < a.length
 rotate_left
 ·
  have : kk = a.length := by omega
  subst this
  have HS := Aside0.mk (show (a.take a.length).foldl mn (rd a 0) = r by rw [List.take_length]; exact HE.out)
  generalize (a.take a.length).foldl mn (rd a 0) = y at *
  go_wp2
  go_ret
  exact ⟨by rw [HS.out]; rfl, ⟨_, rfl⟩⟩
 have hltz : (kk : Int) < (a.length : Int) := by omega
 obtain ⟨ad', had, hcell⟩ := Kd.at_int HR.out (kk : Int) (by omega) hltz
 obtain rfl := Option.some.inj had
 rw [Int.toNat_natCast] at hcell
 have hcell' : (w.drewN m).cell? (ad.add kk) = some (.int .i64 (rd a kk)) := by rw [World.cell?_drewN]; exact hcell
 have HS := Aside0.mk (fold_step (op := mn) (z := rd a 0) hlt)
 clear hcell had
 generalize (a.take kk).foldl mn (rd a 0) = y at *
 go_wp2
 all_goals
  go_roundg (a.length - (kk + 1))
  case measure => omega
  case rel =>
   exact ⟨kk + 1, by omega, by omega, by omega, by go_num, by rw [HS.out]; unfold mn; first | rw [if_pos (by omega)] | rw [if_neg (by omega)], ⟨⟨_, rfl⟩⟩⟩

/-! ### dom_room: function 65 -/
def dom_room.f (d : Int) (e : Int) : Option (Int × List Int × Int × Int × Int) := (dom_place.f d).bind fun c => ((dom_place.f e).bind fun a => ((dom_place.f d).bind fun b => (if 0 ≤ (wrap64 ((wrap64 (Int.tdiv (wrap64 (a - b)) 64)) + 1)) then (if (wrap64 ((wrap64 (Int.tdiv (wrap64 (a - b)) 64)) + 1) : Int).toNat ≤ 35184372088832 then (some (c, (List.replicate (wrap64 ((wrap64 (Int.tdiv (wrap64 (a - b)) 64)) + 1) : Int).toNat 0), 0, 0, 0)) else (none)) else (none))))
set_option maxHeartbeats 8000000 in
set_option maxRecDepth 100000 in
theorem dom_room.calls (v : Int) (x : Int) (y : Int) (z : List Int) (A : Int) (B : Int) (C : Int) (w : World) (h : dom_room.f v x = some (y, z, A, B, C)) :
  Calls Tryz.prog 65 #[.int .i64 v, .int .i64 x] w fun e w' => ∃ F : Value, e = .returned (.agg #[.int .i64 y, F, .int .i64 A, .int .i64 B, .int .i64 C]) ∧ Kd.R (Kd.int .u64) 84 w' w.heap.size (fun _ => True) F z ∧ Below w.heap.size w w' := by
 have hu58 := Tryz.underlying58
 have HB := a_ (Below.refl w.heap.size w)
 unfold dom_room.f at h
 have H := h
 clear h
 replace H := bo_ H
 obtain ⟨b, I, H⟩ := H
 try dsimp only at H
 replace H := bo_ H
 obtain ⟨q, J, H⟩ := H
 try dsimp only at H
 replace H := bo_ H
 obtain ⟨r, K, H⟩ := H
 try dsimp only at H
 obtain ⟨c, d⟩ : ∃ j_ : Int, (wrap64 ((wrap64 (Int.tdiv (wrap64 (q - r)) 64)) + 1)) = j_ := ⟨_, rfl⟩
 replace H : (if 0 ≤ (c) then (if (c : Int).toNat ≤ 35184372088832 then (some (b, (List.replicate (c : Int).toNat 0), 0, 0, 0)) else (none)) else (none)) = some (y, z, A, B, C) := by first | (rw [d] at H; exact H) | (simp only [d] at H ⊢; exact H)
 (try rw [d] at I)
 (try rw [d] at J)
 (try rw [d] at K)
 have hji6w : (IntKind.i64.wrap ((wrap64 (Int.tdiv (wrap64 (q - r)) 64)) + 1)) = c := (i64_w _).trans d
 replace H := ge_ H
 obtain ⟨c7b0, c7b1, H⟩ := H
 replace H := ge_ H
 obtain ⟨c8b0, c8b1, H⟩ := H
 obtain ⟨m, g⟩ : ∃ y_ : List Int, y_ = (List.replicate (c : Int).toNat 0) := ⟨_, rfl⟩
 replace H : (some (b, m, 0, 0, 0)) = some (y, z, A, B, C) := h2_ H g
 have s := a_ g
 clear g
 simp only [Option.some.injEq, Prod.mk.injEq] at H
 obtain ⟨rfl, rfl, rfl, rfl, rfl⟩ := H
 go_enter Tryz.func65, Tryz.ntmps65
 go_wp2_with (first | ((with_reducible refine gate_dst (N := 4) rfl ?_); refine bxe_ (N := 4) (cs := #[.int .i64 0, .slice none 0 0, .int .i64 0, .int .i64 0, .int .i64 0]) (t := 58) ?_; intro l hg w9 hbox hb; have a := a_ (hbox); have E := a_ (by rw [hg]; exact (bz_ bel_) : w.heap.size ≤ l); have M := E; replace HB := hq_ hb; clear hb hbox hg) | ((with_reducible refine gate_callee (f := 51) rfl ?_); refine goesL_ (some 6) rfl rfl Tryz.func51 kr_ rfl #[.int .i64 v] rfl ar_ ?_; (with_reducible refine (dom_place.calls v b _ I.out).mono ?_); rintro e w' ⟨rfl, ⟨nd, rfl⟩⟩; refine ⟨_, rfl, ?_⟩; (try (rw [drewN_self w9]; generalize hq_ : World.drewN w9 _ = w9; replace a : Aside0 (w9.heap[l]? = some (.cells #[.int .i64 0, .slice none 0 0, .int .i64 0, .int .i64 0, .int .i64 0] 58 (0, 0))) := ⟨by rw [← hq_]; exact (bk_ a.out)⟩; replace HB : Aside0 (Below w.heap.size w w9) := ⟨by rw [← hq_]; exact bel_⟩; clear hq_)); (try (obtain ⟨_, _, _, _, _, _, _, _, _, _⟩ := cel5_ a.out))) | ((with_reducible refine gate_callee (f := 51) rfl ?_); refine goesL_ (some 8) rfl rfl Tryz.func51 kr_ rfl #[.int .i64 x] rfl ar_ ?_; (with_reducible refine (dom_place.calls x q _ J.out).mono ?_); rintro e w' ⟨rfl, ⟨nd, rfl⟩⟩; refine ⟨_, rfl, ?_⟩; (try (rw [drewN_self w9]; generalize hq_ : World.drewN w9 _ = w9; replace a : Aside0 (w9.heap[l]? = some (.cells #[.int .i64 0, .slice none 0 0, .int .i64 0, .int .i64 0, .int .i64 0] 58 (0, 0))) := ⟨by rw [← hq_]; exact (bk_ a.out)⟩; replace HB : Aside0 (Below w.heap.size w w9) := ⟨by rw [← hq_]; exact bel_⟩; clear hq_)); (try (obtain ⟨_, _, _, _, _, _, _, _, _, _⟩ := cel5_ a.out))) | ((with_reducible refine gate_callee (f := 51) rfl ?_); refine goesL_ (some 10) rfl rfl Tryz.func51 kr_ rfl #[.int .i64 v] rfl ar_ ?_; (with_reducible refine (dom_place.calls v r _ K.out).mono ?_); rintro e w' ⟨rfl, ⟨nd, rfl⟩⟩; refine ⟨_, rfl, ?_⟩; (try (rw [drewN_self w9]; generalize hq_ : World.drewN w9 _ = w9; replace a : Aside0 (w9.heap[l]? = some (.cells #[.int .i64 0, .slice none 0 0, .int .i64 0, .int .i64 0, .int .i64 0] 58 (0, 0))) := ⟨by rw [← hq_]; exact (bk_ a.out)⟩; replace HB : Aside0 (Below w.heap.size w w9) := ⟨by rw [← hq_]; exact bel_⟩; clear hq_)); (try (obtain ⟨_, _, _, _, _, _, _, _, _, _⟩ := cel5_ a.out))) | ((with_reducible refine gate_dst (N := 14) rfl ?_); refine Kd.R_make (Kd.int .u64) _ 84 rfl (N := 14) rfl 56 _ _ rfl c rfl rfl Tryz.underlying56 (.int .u64 0) 8 info84 rfl (by decide) (by omega) 0 (ok := fun _ => True) (okp := fun _ => True) rfl (fun _ hk => hk) trivial (dq_) (Nat.le_trans (Nat.mul_le_mul_right _ (dq_ : c.toNat ≤ 35184372088832)) (by omega)) (Below.refl _ _) (lr_ _) ?_; intro O w13 n hb hg_ hnew_; clear hg_ hnew_; (first | rw [← s.out] at n | (simp only [Int.reduceToNat] at n; rw [← s.out] at n)); have u := a_ (Kd.R_lower n (bz_ bel_)); replace a := a_ (bq_ a.out hb); replace HB := hq_ hb; clear hb n; obtain ⟨o, p, G⟩ := Kd.R_slice u.out; subst G; obtain ⟨_, _, _, _, _, _, _, _, _, _⟩ := cel5_ a.out))
 refine bodyPost_ret (results_cell_row rfl _ _ l 58 #[.int .i64 b, .slice o m.length p, .int .i64 0, .int .i64 0, .int .i64 0] (0, 0) _ rfl (by refine bk_ ?_; refine bu_ (cs := #[.int .i64 b, .slice o m.length p, .int .i64 0, .int .i64 0, .int .i64 0]) ?_ 4 _ rfl; refine bk_ ?_; refine bu_ (cs := #[.int .i64 b, .slice o m.length p, .int .i64 0, .int .i64 0, .int .i64 0]) ?_ 3 _ rfl; refine bk_ ?_; refine bu_ (cs := #[.int .i64 b, .slice o m.length p, .int .i64 0, .int .i64 0, .int .i64 0]) ?_ 2 _ rfl; refine bk_ ?_; refine bu_ (cs := #[.int .i64 b, .slice none 0 0, .int .i64 0, .int .i64 0, .int .i64 0]) ?_ 1 _ rfl; refine bk_ ?_; refine bu_ (cs := #[.int .i64 0, .slice none 0 0, .int .i64 0, .int .i64 0, .int .i64 0]) ?_ 0 _ rfl; refine bk_ ?_; exact a.out) Tryz.underlying58 rfl kr_) rfl ?_
 exact ⟨_, by first | rfl | (simp [errW_none, errW_some] <;> rfl) | (simp only [← d]; first | rfl | (simp [errW_none, errW_some] <;> rfl)) | (simp [*, errW_none, errW_some] <;> rfl), by refine vR_ ?_; exact rm_ (fR_ (fR_ (fR_ (fR_ (fR_ (rt_ u.out a.out (by decide))))))) (fun _ hk => trivial), bel_⟩

/-! ### slices_IndexFunc_int_int_87_at_dom_Of_1: function 87 -/
def slices_IndexFunc_int_int_87_at_dom_Of_1.l0 : Nat → List Int → Int → Int → Option (Int)
 | 0, _, _, _ => none
 | k + 1, b, d, a => if a < d then (if 0 ≤ a then (if a < (b.length : Int) then ((dom_Of_1.f (rd b a)).bind fun c => (if c = true then (some a) else (slices_IndexFunc_int_int_87_at_dom_Of_1.l0 k b d (wrap64 (a + 1))))) else (none)) else (none)) else (some (-1))
def slices_IndexFunc_int_int_87_at_dom_Of_1.f (k : Nat) (a : List Int)  : Option (Int) := slices_IndexFunc_int_int_87_at_dom_Of_1.l0 k a (a.length : Int) 0
theorem slices_IndexFunc_int_int_87_at_dom_Of_1.mono_l : ∀ k, (∀ a b c, LeO (slices_IndexFunc_int_int_87_at_dom_Of_1.l0 k a b c) (slices_IndexFunc_int_int_87_at_dom_Of_1.l0 (k + 1) a b c))
 | 0 => by intros; exact LeO.none _
 | k + 1 => by
  have ih0 := slices_IndexFunc_int_int_87_at_dom_Of_1.mono_l k
  intro a b c
  unfold slices_IndexFunc_int_int_87_at_dom_Of_1.l0
  exact leo_
theorem slices_IndexFunc_int_int_87_at_dom_Of_1.mono : ∀ a k, LeO (slices_IndexFunc_int_int_87_at_dom_Of_1.f k a) (slices_IndexFunc_int_int_87_at_dom_Of_1.f (k + 1) a) := by
 intro a k
 have ih0 := slices_IndexFunc_int_int_87_at_dom_Of_1.mono_l k
 unfold slices_IndexFunc_int_int_87_at_dom_Of_1.f
 exact leo_
set_option maxHeartbeats 8000000 in
set_option maxRecDepth 100000 in
theorem slices_IndexFunc_int_int_87_at_dom_Of_1.calls (k : Nat) (s : Option Addr) (c0 : Nat) (b : List Int)  (r : Int) (w : World) (m : Kd.C (Kd.int .i64) w s b.length b) (n : b.length ≤ c0) (h : slices_IndexFunc_int_int_87_at_dom_Of_1.f k b = some r) :
  Calls Tryz.prog 87 #[.slice s b.length c0, .func (.func 62) #[] #[]] w fun e w' => e = .returned (.int .i64 r) ∧ Drawn0 w w' := by
 have o := a_ m
 have v := a_ n
 clear m n
 unfold slices_IndexFunc_int_int_87_at_dom_Of_1.f at h
 have H := h
 clear h
 have H' := a_ H
 clear H
 go_enter Tryz.func87, Tryz.ntmps87
 go_wp2
 go_loopg [8] k (fun kq u w' => ∃ (a : Int), u = .int .i64 a ∧ Aside0 (slices_IndexFunc_int_int_87_at_dom_Of_1.l0 kq b (b.length : Int) a = some r) ∧ Aside0 (kq ≤ k) ∧ Drawn0 w w')
 case atStart => exact ⟨(0), eq_, H', ⟨lr_ _⟩, by repeat (first | exact d0_ _ | apply Drawn0.step)⟩
 clear H'
 try clear p2
 obtain ⟨a, rfl, HA, p, ⟨m1, rfl⟩⟩ := hrel
 cases gk with
 | zero => exact absurd HA.out (by simp [slices_IndexFunc_int_int_87_at_dom_Of_1.l0])
 | succ k1 =>
  have H := HA.out
  clear HA
  simp only [slices_IndexFunc_int_int_87_at_dom_Of_1.l0] at H
  replace H := cf_ H
  rcases H with ⟨c3b0, H⟩ | ⟨c3b0, H⟩
  ·
   obtain rfl := si_ H
   go_wp2
   go_ret
   exact ⟨by first | rfl | (simp; done) | (simp [*]; done), by repeat (first | exact d0_ _ | apply Drawn0.step)⟩
  replace H := gu_ H
  obtain ⟨c4b0, H⟩ := H
  replace H := gu_ H
  obtain ⟨c5b0, H⟩ := H
  replace H := bo_ H
  obtain ⟨q, t, H⟩ := H
  try dsimp only at H
  replace H := ht_ H
  rcases H with ⟨rfl, H⟩ | ⟨rfl, H⟩
  ·
   obtain rfl := si_ H
   obtain ⟨l, d, g, p318, c⟩ := ak_ o a
   cases d
   go_wp2_with (first | (go_at_call 62; (with_reducible refine (dom_Of_1.calls (rd b a) true _ t.out).mono ?_); rintro e w' ⟨rfl, ⟨nd, rfl⟩⟩))
   go_ret
   exact ⟨by first | rfl | (simp; done) | (simp [*]; done), by repeat (first | exact d0_ _ | apply Drawn0.step)⟩
  have H' := a_ H
  clear H
  obtain ⟨l, d, g, p318, c⟩ := ak_ o a
  cases d
  go_wp2_with (first | (go_at_call 62; (with_reducible refine (dom_Of_1.calls (rd b a) false _ t.out).mono ?_); rintro e w' ⟨rfl, ⟨nd, rfl⟩⟩))
  go_roundg k1
  case measure => have := p.out; omega
  exact ⟨(wrap64 (a + 1)), eq_, H', ⟨by have := p.out; omega⟩, by repeat (first | exact d0_ _ | apply Drawn0.step)⟩

/-! ### slices_ContainsFunc_int_int_61_at_dom_Of_1: function 61 -/
def slices_ContainsFunc_int_int_61_at_dom_Of_1.f (k : Nat) (b : List Int)  : Option (Bool) := (slices_IndexFunc_int_int_87_at_dom_Of_1.f k b).bind fun a => (some (decide (a ≥ 0)))
theorem slices_ContainsFunc_int_int_61_at_dom_Of_1.mono : ∀ a k, LeO (slices_ContainsFunc_int_int_61_at_dom_Of_1.f k a) (slices_ContainsFunc_int_int_61_at_dom_Of_1.f (k + 1) a) := by
 intro a k
 unfold slices_ContainsFunc_int_int_61_at_dom_Of_1.f
 have m0 := @slices_IndexFunc_int_int_87_at_dom_Of_1.mono
 exact leo_
set_option maxHeartbeats 8000000 in
set_option maxRecDepth 100000 in
theorem slices_ContainsFunc_int_int_61_at_dom_Of_1.calls (k : Nat) (d : Option Addr) (c0 : Nat) (a : List Int)  (r : Bool) (w : World) (b : Kd.C (Kd.int .i64) w d a.length a) (c : a.length ≤ c0) (h : slices_ContainsFunc_int_int_61_at_dom_Of_1.f k a = some r) :
  Calls Tryz.prog 61 #[.slice d a.length c0, .func (.func 62) #[] #[]] w fun e w' => e = .returned (.bool r) ∧ Drawn0 w w' := by
 have l := a_ b
 have m := a_ c
 clear b c
 unfold slices_ContainsFunc_int_int_61_at_dom_Of_1.f at h
 have H := h
 clear h
 replace H := bo_ H
 obtain ⟨g, n, H⟩ := H
 try dsimp only at H
 obtain rfl := si_ H
 go_enter Tryz.func61, Tryz.ntmps61
 go_wp2_with (first | ((with_reducible refine gate_callee (f := 87) rfl ?_); refine goesL_ (some 7) rfl rfl Tryz.func87 kr_ rfl #[.slice d a.length c0, .func (.func 62) #[] #[]] rfl ar_ ?_; (with_reducible refine (slices_IndexFunc_int_int_87_at_dom_Of_1.calls k _ _ a g _ ?_ ?_ n.out).mono ?_); exact ca_ (l.out); exact m.out; rintro e w' ⟨rfl, ⟨nd, rfl⟩⟩; refine ⟨_, rfl, ?_⟩))
 go_ret
 exact ⟨by first | rfl | (simp; done) | (simp [*]; done), by repeat (first | exact d0_ _ | apply Drawn0.step)⟩

end Go.Proofs.YtijjhobjmehhoaaGreatDoor.XGccAll
