-- by xprint.py, a program of this session, over the kit's print
import Derived.Test.YtijjhobjmehhoaaGreatDoorXGFix0
import Derived.Test.YtijjhobjmehhoaaGreatDoorXGFix20
import Derived.Test.YtijjhobjmehhoaaGreatDoorXGFix22
import Derived.Test.YtijjhobjmehhoaaGreatDoorXGFix23
import Derived.Test.YtijjhobjmehhoaaGreatDoorSq
namespace Go.Proofs.YtijjhobjmehhoaaGreatDoor.XGccFilters
open Go.RowKit Go.Proofs.YtijjhobjmehhoaaGreatDoor.Sq Go.Proofs.YtijjhobjmehhoaaGreatDoorW.PrintWords Go.Proofs.YtijjhobjmehhoaaGreatDoorW.PrintLast Go.Proofs.YtijjhobjmehhoaaGreatDoorW.PrintMore
attribute [local go_sem] max2_int min2_int max_two min_two max_three min_three max_four min_four   -- for this text's walks alone
set_option linter.unusedVariables false
set_option linter.unusedSimpArgs false

/-! ### jigsawref20_Filter: function 12 -/
mutual
def jigsawref20_Filter.l0 : Nat → List (List Int) → Int → Int → List Int → List Int → List Int → List Int → List Int → Int → List (List Int) → Option ((List (List Int)) × Bool)
 | 0, _, _, _, _, _, _, _, _, _, _ => none
 | k + 1, m, n, a, b, c, d, e, f, g, l => if n < 100000 then (jigsawref20_Filter.l1 k m n m 0 a b c d e f g l) else (some (([] : List (List Int)), false))
def jigsawref20_Filter.l1 : Nat → List (List Int) → Int → List (List Int) → Int → Int → List Int → List Int → List Int → List Int → List Int → Int → List (List Int) → Option ((List (List Int)) × Bool)
 | 0, _, _, _, _, _, _, _, _, _, _, _, _ => none
 | k + 1, p, q, r, o, d, e, g, a, b, c, l, m => if o < (a.length : Int) then (if 0 ≤ o then ((jigsawref20_Counts.f k p (rd a o)).bind fun n => (if o < (c.length : Int) then (if n.1 > (rd c o) then (jigsawref20_Filter.j2 k p q r o n.1 true d e g a b c l m) else (if o < (b.length : Int) then (jigsawref20_Filter.j2 k p q r o n.1 (decide (n.2 < (rd b o))) d e g a b c l m) else (none))) else (none))) else (none)) else ((jigsawref10_Same.f k r p).bind fun s => (if s = true then (some (p, true)) else (jigsawref20_Filter.l0 k p (wrap64 (q + 1)) d e g a b c l m)))
def jigsawref20_Filter.j2 : Nat → List (List Int) → Int → List (List Int) → Int → Int → Bool → Int → List Int → List Int → List Int → List Int → List Int → Int → List (List Int) → Option ((List (List Int)) × Bool)
 | 0, _, _, _, _, _, _, _, _, _, _, _, _, _, _ => none
 | k + 1, p, q, r, n, s, t, c, d, e, a, g, b, l, m => if t = true then (some (([] : List (List Int)), false)) else (if 0 ≤ n then (if n < (b.length : Int) then (if s = (rd b n) then (if n < (a.length : Int) then ((jigsawref20_each.f k p 0 (rd a n)).bind fun o => (jigsawref20_Filter.j3 k o q r n c d e a g b l m)) else (none)) else (jigsawref20_Filter.j3 k p q r n c d e a g b l m)) else (none)) else (none))
def jigsawref20_Filter.j3 : Nat → List (List Int) → Int → List (List Int) → Int → Int → List Int → List Int → List Int → List Int → List Int → Int → List (List Int) → Option ((List (List Int)) × Bool)
 | 0, _, _, _, _, _, _, _, _, _, _, _, _ => none
 | k + 1, p, r, s, n, c, d, e, a, b, g, l, m => if 0 ≤ n then (if n < (a.length : Int) then ((jigsawref20_Counts.f k p (rd a n)).bind fun o => (if n < (b.length : Int) then (if o.2 < (rd b n) then (some (([] : List (List Int)), false)) else (if o.2 = (rd b n) then ((jigsawref20_each.f k p 1 (rd a n)).bind fun q => (jigsawref20_Filter.l1 k q r s (wrap64 (n + 1)) c d e a b g l m)) else (jigsawref20_Filter.l1 k p r s (wrap64 (n + 1)) c d e a b g l m))) else (none))) else (none)) else (none)
end
def jigsawref20_Filter.f (k : Nat) (a : Int) (b : List Int) (c : List Int) (d : List Int) (e : List Int) (g : List Int) (l : Int) (m : List (List Int)) (o : List (List Int)) : Option ((List (List Int)) × Bool) := (jigsawref10_Fits.f k a b c d e g l m o 21 21).bind fun n => (if n = true then (jigsawref20_Filter.l0 k o 0 a b c d e g l m) else (none))
theorem jigsawref20_Filter.mono_l : ∀ k, (∀ c d e f g l m n o p, LeO (jigsawref20_Filter.l0 k c d e f g l m n o p) (jigsawref20_Filter.l0 (k + 1) c d e f g l m n o p)) ∧ (∀ c d e f g l m n o p a b, LeO (jigsawref20_Filter.l1 k c d e f g l m n o p a b) (jigsawref20_Filter.l1 (k + 1) c d e f g l m n o p a b)) ∧ (∀ c d e f g l m n o p a b q s, LeO (jigsawref20_Filter.j2 k c d e f g l m n o p a b q s) (jigsawref20_Filter.j2 (k + 1) c d e f g l m n o p a b q s)) ∧ (∀ c d e f g l m n o p a b, LeO (jigsawref20_Filter.j3 k c d e f g l m n o p a b) (jigsawref20_Filter.j3 (k + 1) c d e f g l m n o p a b))
 | 0 => by refine ⟨?_, ?_, ?_, ?_⟩ <;> (intros; exact LeO.none _)
 | k + 1 => by
  obtain ⟨ih0, ih1, ih2, ih3⟩ := jigsawref20_Filter.mono_l k
  have m0 := @jigsawref10_Fits.mono
  have m1 := @jigsawref10_Same.mono
  have m2 := @jigsawref20_Counts.mono
  have m3 := @jigsawref20_each.mono
  refine ⟨?_, ?_, ?_, ?_⟩ <;> intros
  all_goals first | unfold jigsawref20_Filter.l0 | unfold jigsawref20_Filter.l1 | unfold jigsawref20_Filter.j2 | unfold jigsawref20_Filter.j3
  all_goals exact leo_
theorem jigsawref20_Filter.mono : ∀ a b c d e g l m n k, LeO (jigsawref20_Filter.f k a b c d e g l m n) (jigsawref20_Filter.f (k + 1) a b c d e g l m n) := by
 intro a b c d e g l m n k
 obtain ⟨ih0, ih1, ih2, ih3⟩ := jigsawref20_Filter.mono_l k
 unfold jigsawref20_Filter.f
 have m0 := @jigsawref10_Fits.mono
 have m1 := @jigsawref10_Same.mono
 have m2 := @jigsawref20_Counts.mono
 have m3 := @jigsawref20_each.mono
 exact leo_
set_option maxHeartbeats 8000000 in
set_option maxRecDepth 100000 in
theorem jigsawref20_Filter.calls (k : Nat) (x : Int) (U : Option Addr) (c0_1 : Nat) (p : List Int) (W : Option Addr) (c0_2 : Nat) (q : List Int) (ai : Option Addr) (c0_3 : Nat) (b : List Int) (X : Option Addr) (c0_4 : Nat) (d : List Int) (ad : Option Addr) (c0_5 : Nat) (g : List Int) (y : Int) (Y : Option Addr) (c0_7 : Nat) (r : List (List Int)) (P1_ : Nat → Prop) (A1 : Option Addr) (c1 : Nat) (l1 : List (List Int)) (r1 : List (List Int)) (r2 : Bool) (w : World) (aN : Kd.C (Kd.int .i64) w U p.length p) (aO : p.length ≤ c0_1) (aP : Kd.C (Kd.int .i64) w W q.length q) (aQ : q.length ≤ c0_2) (aR : Kd.C (Kd.int .i64) w ai b.length b) (aS : b.length ≤ c0_3) (aT : Kd.C (Kd.int .i64) w X d.length d) (aU : d.length ≤ c0_4) (aV : Kd.C (Kd.int .i64) w ad g.length g) (aW : g.length ≤ c0_5) (aX : Kd.C (Kd.slice 3 (Kd.int .i64)) w Y r.length r) (aY : r.length ≤ c0_7) (bN : Kd.V (Kd.slice 3 (Kd.int .i64)) 30 w w.heap.size (fun l => P1_ l) (.slice A1 l1.length c1) l1) (h : jigsawref20_Filter.f k x p q b d g y r l1 = some (r1, r2)) :
  Calls Tryz.prog 12 #[.agg #[.int .i64 x, .slice U p.length c0_1, .slice W q.length c0_2, .slice ai b.length c0_3, .slice X d.length c0_4, .slice ad g.length c0_5, .int .i64 y, .slice Y r.length c0_7], .slice A1 l1.length c1] w fun e w' => ∃ bo : Value, e = .returned (.tuple #[bo, .bool r2]) ∧ Kd.V (Kd.slice 3 (Kd.int .i64)) 30 w' w.heap.size (fun l => (P1_ l ∨ w.heap.size ≤ l)) bo r1 ∧ Below w.heap.size w w' := by
 have hu32 := Tryz.underlying32
 have a8 := a_ aN
 have a9 := a_ aO
 clear aN aO
 have ba := a_ aP
 have bb := a_ aQ
 clear aP aQ
 have M := a_ aR
 have bc := a_ aS
 clear aR aS
 have O := a_ aT
 have bd := a_ aU
 clear aT aU
 have am := a_ aV
 have be := a_ aW
 clear aV aW
 have bf := a_ aX
 have bg := a_ aY
 clear aX aY
 have ao := a_ (show Kd.V (Kd.slice 3 (Kd.int .i64)) 30 w w.heap.size (fun l => (P1_ l ∨ w.heap.size ≤ l)) (.slice A1 l1.length c1) l1 from vm_ bN (fun l hk => .inl hk))
 have HB := a_ (Below.refl w.heap.size w)
 unfold jigsawref20_Filter.f at h
 have H := h
 clear h
 replace H := bo_ H
 obtain ⟨bq, A3, H⟩ := H
 try dsimp only at H
 by_cases c4 : bq = true
 rotate_left
 ·
  replace c4 := bf_.mpr c4
  subst c4
  have H1 : (none) = some (r1, r2) := by rw [ig_ (show ¬ (false = true) by decide)] at H; exact H
  clear H
  have H := H1
  clear H1
  exact ab_ H
 subst c4
 rw [ip_ rfl] at H
 have H' := a_ H
 clear H
 go_enter Tryz.func12, Tryz.ntmps12
 go_wp2_with (first | ((with_reducible refine gate_dst (N := 2) rfl ?_); refine bxe_ (N := 2) (cs := #[.int .i64 x, .slice U p.length c0_1, .slice W q.length c0_2, .slice ai b.length c0_3, .slice X d.length c0_4, .slice ad g.length c0_5, .int .i64 y, .slice Y r.length c0_7]) (t := 32) ?_; intro m hg w5 hbox hb; replace ao := a_ (vb_ (Kd.V_elderB (vV_ ao.out) m (Nat.le_of_eq hg.symm)) hb); have c := a_ (hbox); have bh := a_ (by rw [hg]; exact (bz_ bel_) : w.heap.size ≤ m); have bV := bh; replace HB := hq_ hb; clear hb hbox hg; obtain ⟨_, _, _, _, _, _, _, _, _, _, _, _, _, _, _, _⟩ := cel8_ c.out) | ((with_reducible refine gate_callee (f := 17) rfl ?_); refine goesL_ (some 15) rfl rfl Tryz.func17 kr_ rfl #[.agg #[.int .i64 x, .slice U p.length c0_1, .slice W q.length c0_2, .slice ai b.length c0_3, .slice X d.length c0_4, .slice ad g.length c0_5, .int .i64 y, .slice Y r.length c0_7], .slice A1 l1.length c1, .int .i64 21, .int .i64 21] rfl ar_ ?_; (with_reducible refine (jigsawref10_Fits.calls k x _ _ p _ _ q _ _ b _ _ d _ _ g y _ _ r _ _ l1 21 21 true _ ?_ ?_ ?_ ?_ ?_ ?_ ?_ ?_ ?_ ?_ ?_ ?_ ?_ ?_ A3.out).mono ?_); exact ca_ ((cb_ a8.out HB.out)); exact a9.out; exact ca_ ((cb_ ba.out HB.out)); exact bb.out; exact ca_ ((cb_ M.out HB.out)); exact bc.out; exact ca_ ((cb_ O.out HB.out)); exact bd.out; exact ca_ ((cb_ am.out HB.out)); exact be.out; exact ca_ ((cb_ bf.out HB.out)); exact bg.out; exact ca_ ((Kd.V_reads' ao.out).2.2); exact (Kd.V_reads' ao.out).2.1; rintro e w7 ⟨rfl, hb⟩; refine ⟨_, rfl, ?_⟩; replace ao := a_ (vb_ (vV_ ao.out) hb); replace c := a_ (bq_ c.out hb); replace HB := hq_ hb; clear hb))
 go_loopg [1, 7] k (fun kq v1 v7 w' => ∃ (s : List (List Int)) (A : Int), v7 = .int .i64 A ∧ Aside0 (jigsawref20_Filter.l0 kq s A x p q b d g y r = some (r1, r2)) ∧ Aside0 (kq ≤ k) ∧ Aside0 (Kd.V (Kd.slice 3 (Kd.int .i64)) 30 w' w.heap.size (fun l => (P1_ l ∨ w.heap.size ≤ l) ∧ l ≠ m) v1 s) ∧ Aside0 (w'.heap[m]? = some (.cells #[.int .i64 x, (.slice U p.length c0_1), (.slice W q.length c0_2), (.slice ai b.length c0_3), (.slice X d.length c0_4), (.slice ad g.length c0_5), .int .i64 y, (.slice Y r.length c0_7)] 32 (0, 0))) ∧ Aside0 (Below w.heap.size w w'))
 case atStart => exact ⟨(l1), (0), eq_, H', ⟨lr_ _⟩, ⟨vV_ ao.out⟩, ⟨bk_ c.out⟩, ⟨bel_⟩⟩
 clear H'
 try clear c1
 try clear p2
 try clear c4
 obtain ⟨s, A, rfl, HA, ab, HO_1, c, HB⟩ := hrel
 cases gk with
 | zero => exact absurd HA.out (by simp [jigsawref20_Filter.l0])
 | succ k1 =>
  have H := HA.out
  clear HA
  simp only [jigsawref20_Filter.l0] at H
  by_cases c8 : A < 100000
  rotate_left
  ·
   rw [ig_ c8] at H
   have c8b0 : decide (A < 100000) = false := df_ c8
   clear c8
   simp only [Option.some.injEq, Prod.mk.injEq] at H
   obtain ⟨rfl, rfl⟩ := H
   go_wp2
   go_ret2
   exact ⟨_, er_, (by exact Kd.V_nil _ _ _ _ _), bel_⟩
  rw [ip_ c8] at H
  have c8b0 : decide (A < 100000) = true := dt_ c8
  clear c8
  have H' := a_ H
  clear H
  go_wp2
  obtain ⟨aD, aE, bO⟩ := Kd.V_slice HO_1.out
  subst bO
  go_loopg [1, 9] k1 (fun kq v1 v9 w' => ∃ (u : List (List Int)) (a : Int), v9 = .int .i64 a ∧ Aside0 (jigsawref20_Filter.l1 kq u A s a x p q b d g y r = some (r1, r2)) ∧ Aside0 (kq ≤ k1) ∧ Aside0 (Kd.V (Kd.slice 3 (Kd.int .i64)) 30 w' w.heap.size (fun l => (P1_ l ∨ w.heap.size ≤ l) ∧ l ≠ m) v1 u) ∧ Aside0 (Kd.V (Kd.slice 3 (Kd.int .i64)) 30 w' w.heap.size (fun l => (P1_ l ∨ w.heap.size ≤ l) ∧ l ≠ m) (.slice aD s.length aE) s) ∧ Aside0 (w'.heap[m]? = some (.cells #[.int .i64 x, (.slice U p.length c0_1), (.slice W q.length c0_2), (.slice ai b.length c0_3), (.slice X d.length c0_4), (.slice ad g.length c0_5), .int .i64 y, (.slice Y r.length c0_7)] 32 (0, 0))) ∧ Aside0 (Below w.heap.size w w'))
  case atStart => exact ⟨(s), (0), eq_, H', ⟨lr_ _⟩, ⟨vV_ HO_1.out⟩, ⟨vV_ HO_1.out⟩, ⟨bk_ c.out⟩, ⟨bel_⟩⟩
  clear H'
  try clear c1
  try clear p2
  try clear c4
  try clear c8
  try clear c8b0
  try clear p2
  obtain ⟨u, a, rfl, HA, ac, HO_1, HO_8, c, HB⟩ := hrel
  cases gk with
  | zero => exact absurd HA.out (by simp [jigsawref20_Filter.l1])
  | succ k2 =>
   have H := HA.out
   clear HA
   simp only [jigsawref20_Filter.l1] at H
   by_cases c9 : a < (b.length : Int)
   rotate_left
   ·
    rw [ig_ c9] at H
    have c9b0 : decide (a < (b.length : Int)) = false := df_ c9
    clear c9
    replace H := bo_ H
    obtain ⟨bG, bp, H⟩ := H
    try dsimp only at H
    by_cases c45 : bG = true
    ·
     subst c45
     rw [ip_ rfl] at H
     simp only [Option.some.injEq, Prod.mk.injEq] at H
     obtain ⟨rfl, rfl⟩ := H
     obtain ⟨_, _, _, _, _, _, _, _, _, _, _, _, _, _, _, _⟩ := cel8_ c.out
     obtain ⟨bH, bI, bJ⟩ := Kd.V_slice HO_1.out
     subst bJ
     go_wp2_with (first | ((with_reducible refine gate_callee (f := 14) rfl ?_); refine goesL_ (some 103) rfl rfl Tryz.func14 kr_ rfl #[.slice aD s.length aE, .slice bH u.length bI] rfl ar_ ?_; (with_reducible refine (jigsawref10_Same.calls k2 _ _ s _ _ u true _ ?_ ?_ ?_ ?_ bp.out).mono ?_); exact ca_ ((Kd.V_reads' HO_8.out).2.2); exact (Kd.V_reads' HO_8.out).2.1; exact ca_ ((Kd.V_reads' HO_1.out).2.2); exact (Kd.V_reads' HO_1.out).2.1; rintro e w' ⟨rfl, ⟨nd, rfl⟩⟩; refine ⟨_, rfl, ?_⟩))
     go_ret2
     exact ⟨_, er_, by refine vV_ ?_; exact vm_ HO_1.out (fun _ hk => hk.1), bel_⟩
    replace c45 := bf_.mpr c45
    subst c45
    have H1 : (jigsawref20_Filter.l0 k2 u (wrap64 (A + 1)) x p q b d g y r) = some (r1, r2) := by rw [ig_ (show ¬ (false = true) by decide)] at H; exact H
    clear H
    have H := H1
    clear H1
    have H' := a_ H
    clear H
    obtain ⟨_, _, _, _, _, _, _, _, _, _, _, _, _, _, _, _⟩ := cel8_ c.out
    obtain ⟨bK, bL, bM⟩ := Kd.V_slice HO_1.out
    subst bM
    go_wp2_with (first | ((with_reducible refine gate_callee (f := 14) rfl ?_); refine goesL_ (some 103) rfl rfl Tryz.func14 kr_ rfl #[.slice aD s.length aE, .slice bK u.length bL] rfl ar_ ?_; (with_reducible refine (jigsawref10_Same.calls k2 _ _ s _ _ u false _ ?_ ?_ ?_ ?_ bp.out).mono ?_); exact ca_ ((Kd.V_reads' HO_8.out).2.2); exact (Kd.V_reads' HO_8.out).2.1; exact ca_ ((Kd.V_reads' HO_1.out).2.2); exact (Kd.V_reads' HO_1.out).2.1; rintro e w' ⟨rfl, ⟨nd, rfl⟩⟩; refine ⟨_, rfl, ?_⟩))
    go_roundg k2
    case measure => have := ab.out; have := ac.out; omega
    exact ⟨(u), (wrap64 (A + 1)), eq_, H', ⟨by have := ab.out; have := ac.out; omega⟩, ⟨vV_ HO_1.out⟩, ⟨bk_ c.out⟩, ⟨bel_⟩⟩
   rw [ip_ c9] at H
   have c9b0 : decide (a < (b.length : Int)) = true := dt_ c9
   clear c9
   by_cases c10 : 0 ≤ a
   rotate_left
   ·
    rw [ig_ c10] at H
    exact ab_ H
   rw [ip_ c10] at H
   have c10b0 : decide (0 ≤ a) = true := dt_ c10
   clear c10
   replace H := bs_.mp H
   obtain ⟨⟨E, a0⟩, a1, H⟩ := H
   try dsimp only at H
   have bP := a_ a1
   clear a1
   have aF := a_ H
   clear H
   obtain ⟨_, _, _, _, _, _, _, _, _, _, _, _, _, _, _, _⟩ := cel8_ c.out
   have p590 : 0 ≤ (a : Int) := dq_
   have ap : a < (b.length : Int) := dq_
   obtain ⟨P, br, J⟩ := ai_ M.out a p590 ap
   cases br
   replace J := hx_ HB J
   replace p590 := et_ p590
   replace ap := et_ ap
   obtain ⟨aG, aH, bs⟩ := Kd.V_slice HO_1.out
   subst bs
   go_upto_region 12 with (first | ((with_reducible refine gate_callee (f := 31) rfl ?_); refine goesL_ (some 37) rfl rfl Tryz.func31 kr_ rfl #[.slice aG u.length aH, .int .i64 (rd b a)] rfl ar_ ?_; (with_reducible refine (jigsawref20_Counts.calls k2 _ _ u (rd b a) E a0 _ ?_ ?_ bP.out).mono ?_); exact ca_ ((Kd.V_reads' HO_1.out).2.2); exact (Kd.V_reads' HO_1.out).2.1; rintro e w' ⟨rfl, ⟨nd, rfl⟩⟩; refine ⟨_, rfl, ?_⟩))
   (try simp only [Act.put, List.setIfInBounds_toArray, List.set_cons_zero, List.set_cons_succ])
   go_cut [55] (fun bQ wc => ∃ (kq : Nat) (af : Bool), bQ = .bool af ∧ Aside0 (jigsawref20_Filter.j2 kq u A s a E af x p q b d g y r = some (r1, r2)) ∧ Aside0 (kq ≤ k2) ∧ Aside0 (Kd.V (Kd.slice 3 (Kd.int .i64)) 30 wc w.heap.size (fun l => (P1_ l ∨ w.heap.size ≤ l) ∧ l ≠ m) (.slice aG u.length aH) u) ∧ Aside0 (Kd.V (Kd.slice 3 (Kd.int .i64)) 30 wc w.heap.size (fun l => (P1_ l ∨ w.heap.size ≤ l) ∧ l ≠ m) (.slice aD s.length aE) s) ∧ Aside0 (wc.heap[m]? = some (.cells #[.int .i64 x, (.slice U p.length c0_1), (.slice W q.length c0_2), (.slice (some P) b.length c0_3), (.slice X d.length c0_4), (.slice ad g.length c0_5), .int .i64 y, (.slice Y r.length c0_7)] 32 (0, 0))) ∧ Aside0 (Below w.heap.size w wc))
   case first =>
    have H := aF.out
    clear aF
    by_cases c15 : a < (g.length : Int)
    rotate_left
    ·
     rw [ig_ c15] at H
     exact ab_ H
    rw [ip_ c15] at H
    have c15b0 : decide (a < (g.length : Int)) = true := dt_ c15
    clear c15
    (first | rw [c15b0] | (simp only [i64_w, i32_w]; rw [c15b0]) | skip)
    by_cases c16 : E > (rd g a)
    ·
     rw [ip_ c16] at H
     have c16b0 : decide ((rd g a) < E) = true := dt_ c16
     clear c16
     have H' := a_ H
     clear H
     obtain ⟨_, _, _, _, _, _, _, _, _, _, _, _, _, _, _, _⟩ := cel8_ c.out
     have p593 : 0 ≤ (a : Int) := dq_
     have Q : a < (g.length : Int) := dq_
     obtain ⟨bi, aI, v⟩ := ai_ am.out a p593 Q
     cases aI
     replace v := hx_ HB v
     replace p593 := et_ p593
     replace Q := et_ Q
     go_wp2
     go_meet
     exact ⟨_, (true), eq_, H', ⟨by have := ab.out; have := ac.out; first | omega | exact lr_ _⟩, ⟨vV_ HO_1.out⟩, ⟨vV_ HO_8.out⟩, ⟨bk_ c.out⟩, ⟨bel_⟩⟩
    rw [ig_ c16] at H
    have c16b0 : decide ((rd g a) < E) = false := df_ c16
    clear c16
    by_cases c18 : a < (d.length : Int)
    rotate_left
    ·
     rw [ig_ c18] at H
     exact ab_ H
    rw [ip_ c18] at H
    have c18b0 : decide (a < (d.length : Int)) = true := dt_ c18
    clear c18
    have H' := a_ H
    clear H
    obtain ⟨_, _, _, _, _, _, _, _, _, _, _, _, _, _, _, _⟩ := cel8_ c.out
    have p593 : 0 ≤ (a : Int) := dq_
    have Q : a < (g.length : Int) := dq_
    obtain ⟨bi, aI, v⟩ := ai_ am.out a p593 Q
    cases aI
    replace v := hx_ HB v
    replace p593 := et_ p593
    replace Q := et_ Q
    have p594 : 0 ≤ (a : Int) := dq_
    have aq : a < (d.length : Int) := dq_
    obtain ⟨bW, bu, K⟩ := ai_ O.out a p594 aq
    cases bu
    replace K := hx_ HB K
    replace p594 := et_ p594
    replace aq := et_ aq
    go_wp2
    go_meet
    exact ⟨_, (decide (a0 < (rd d a))), eq_, H', ⟨by have := ab.out; have := ac.out; first | omega | exact lr_ _⟩, ⟨vV_ HO_1.out⟩, ⟨vV_ HO_8.out⟩, ⟨bk_ c.out⟩, ⟨bel_⟩⟩
   clear aF
   try clear c1
   try clear p2
   try clear c3
   try clear c4
   try clear p5
   try clear q5
   try clear bS
   try clear c8
   try clear c8b0
   try clear c9
   try clear c9b0
   try clear c10
   try clear c10b0
   try clear c12
   try clear c15
   try clear c15b0
   try clear c16
   try clear c16b0
   try clear c17
   try clear c18
   try clear c18b0
   try clear J
   try clear v
   try clear K
   try clear p2
   try clear p590
   try clear p593
   try clear p594
   try clear ap
   try clear Q
   try clear aq
   obtain ⟨kq, af, rfl, HA, aj, HO_1, HO_8, c, HB⟩ := hcut
   (try simp only [ag])
   (try simp only [ag] at c)
   (try simp only [ag] at HO_1)
   cases kq with
   | zero => exact absurd HA.out (by simp [jigsawref20_Filter.j2])
   | succ kj11 =>
    have H := HA.out
    clear HA
    simp only [jigsawref20_Filter.j2] at H
    by_cases c20 : af = true
    ·
     subst c20
     rw [ip_ rfl] at H
     simp only [Option.some.injEq, Prod.mk.injEq] at H
     obtain ⟨rfl, rfl⟩ := H
     go_wp2
     go_ret2
     exact ⟨_, er_, (by exact Kd.V_nil _ _ _ _ _), bel_⟩
    replace c20 := bf_.mpr c20
    subst c20
    have H1 : (if 0 ≤ a then (if a < (g.length : Int) then (if E = (rd g a) then (if a < (b.length : Int) then ((jigsawref20_each.f kj11 u 0 (rd b a)).bind fun ay => (jigsawref20_Filter.j3 kj11 ay A s a x p q b d g y r)) else (none)) else (jigsawref20_Filter.j3 kj11 u A s a x p q b d g y r)) else (none)) else (none)) = some (r1, r2) := by rw [ig_ (show ¬ (false = true) by decide)] at H; exact H
    clear H
    have H := H1
    clear H1
    by_cases c21 : 0 ≤ a
    rotate_left
    ·
     rw [ig_ c21] at H
     exact ab_ H
    rw [ip_ c21] at H
    have c21b0 : decide (0 ≤ a) = true := dt_ c21
    clear c21
    by_cases c22 : a < (g.length : Int)
    rotate_left
    ·
     rw [ig_ c22] at H
     exact ab_ H
    rw [ip_ c22] at H
    have c22b0 : decide (a < (g.length : Int)) = true := dt_ c22
    clear c22
    have aJ := a_ H
    clear H
    obtain ⟨_, _, _, _, _, _, _, _, _, _, _, _, _, _, _, _⟩ := cel8_ c.out
    have p595 : 0 ≤ (a : Int) := dq_
    have az : a < (g.length : Int) := dq_
    obtain ⟨bj, bv, Z⟩ := ai_ am.out a p595 az
    cases bv
    replace Z := hx_ HB Z
    replace p595 := et_ p595
    replace az := et_ az
    go_upto_if 62 with (fail)
    go_cut [1] (fun v1 wc => ∃ (kq : Nat) (z : List (List Int)), Aside0 (jigsawref20_Filter.j3 kq z A s a x p q b d g y r = some (r1, r2)) ∧ Aside0 (kq ≤ kj11) ∧ Aside0 (Kd.V (Kd.slice 3 (Kd.int .i64)) 30 wc w.heap.size (fun l => (P1_ l ∨ w.heap.size ≤ l) ∧ l ≠ m) v1 z) ∧ Aside0 (Kd.V (Kd.slice 3 (Kd.int .i64)) 30 wc w.heap.size (fun l => (P1_ l ∨ w.heap.size ≤ l) ∧ l ≠ m) (.slice aD s.length aE) s) ∧ Aside0 (wc.heap[m]? = some (.cells #[.int .i64 x, (.slice U p.length c0_1), (.slice W q.length c0_2), (.slice (some P) b.length c0_3), (.slice X d.length c0_4), (.slice (some bj) g.length c0_5), .int .i64 y, (.slice Y r.length c0_7)] 32 (0, 0))) ∧ Aside0 (Below w.heap.size w wc))
    case first =>
     have H := aJ.out
     clear aJ
     by_cases c25 : E = (rd g a)
     rotate_left
     ·
      rw [ig_ c25] at H
      have c25b0 : (E == (rd g a)) = false := be_.mpr c25
      have c25b1 : (E != (rd g a)) = true := ni_.mpr c25
      (first | rw [c25b0] | (simp only [i64_w, i32_w]; rw [c25b0]) | skip)
      have H' := a_ H
      clear H
      go_wp2
      go_meet
      exact ⟨_, (u), H', ⟨by have := ab.out; have := ac.out; have := aj.out; first | omega | exact lr_ _⟩, ⟨vV_ HO_1.out⟩, ⟨vV_ HO_8.out⟩, ⟨bk_ c.out⟩, ⟨bel_⟩⟩
     rw [ip_ c25] at H
     have c25b0 : (E == (rd g a)) = true := beq_iff_eq.mpr c25
     have c25b1 : (E != (rd g a)) = false := bn_.mpr c25
     clear c25
     (first | rw [c25b0] | (simp only [i64_w, i32_w]; rw [c25b0]) | skip)
     by_cases c26 : a < (b.length : Int)
     rotate_left
     ·
      rw [ig_ c26] at H
      exact ab_ H
     rw [ip_ c26] at H
     have c26b0 : decide (a < (b.length : Int)) = true := dt_ c26
     clear c26
     replace H := bo_ H
     obtain ⟨ay, bT, H⟩ := H
     try dsimp only at H
     have H' := a_ H
     clear H
     obtain ⟨_, _, _, _, _, _, _, _, _, _, _, _, _, _, _, _⟩ := cel8_ c.out
     have p596 : 0 ≤ (a : Int) := dq_
     have aA : a < (b.length : Int) := dq_
     obtain ⟨bk, bw, aa⟩ := ai_ M.out a p596 aA
     obtain rfl : P = bk := (by injection bw)
     replace aa := hx_ HB aa
     replace p596 := et_ p596
     replace aA := et_ aA
     go_wp2_with (first | ((with_reducible refine gate_callee (f := 32) rfl ?_); refine goesL_ (some 69) rfl rfl Tryz.func32 kr_ rfl #[.slice aG u.length aH, .int .i64 0, .int .i64 (rd b a)] rfl ar_ ?_; (with_reducible refine (jigsawref20_each.calls kj11 (fun l => ((P1_ l ∨ w.heap.size ≤ l) ∧ l ≠ m)) _ _ u 0 (rd b a) ay _ ?_ bT.out).mono ?_); exact HO_1.out; rintro e w29 ⟨b0, rfl, al, hb⟩; refine ⟨_, rfl, ?_⟩; replace HO_8 := a_ (Kd.V_elder' (vV_ HO_8.out) (Kd.N_base al) hb); have bl := a_ (Kd.N_lower (nm_ (ok' := fun l => (P1_ l ∨ w.heap.size ≤ l) ∧ l ≠ m) al (fun l hk_ => ⟨Or.elim hk_ (fun hs_ => hs_.1) (fun hn_ => (.inr (Nat.le_trans (bz_ bel_) hn_))), Or.elim hk_ (fun hs_ => hs_.2) (fun hn_ => (Kd.freshB (bk_ c.out) l hn_))⟩)) (bz_ bel_)); replace c := a_ (bq_ c.out hb); replace HB := hq_ hb; clear hb al))
     go_meet
     exact ⟨_, (ay), H', ⟨by have := ab.out; have := ac.out; have := aj.out; first | omega | exact lr_ _⟩, ⟨Kd.N_V (vN_ bl.out)⟩, ⟨by refine vV_ ?_; exact vm_ HO_8.out (fun _ hk => ⟨hk.1.1, hk.1.2⟩)⟩, ⟨bk_ c.out⟩, ⟨bel_⟩⟩
    clear aJ
    try clear c1
    try clear c2
    try clear p2
    try clear c3
    try clear c4
    try clear p5
    try clear q5
    try clear bS
    try clear c8
    try clear c8b0
    try clear c9
    try clear c9b0
    try clear c10
    try clear c10b0
    try clear c12
    try clear c15
    try clear c15b0
    try clear c16
    try clear c16b0
    try clear c17
    try clear c18
    try clear c18b0
    try clear c20
    try clear c21
    try clear c21b0
    try clear c22
    try clear c22b0
    try clear c25
    try clear c25b0
    try clear c25b1
    try clear c26
    try clear c26b0
    try clear J
    try clear v
    try clear K
    try clear Z
    try clear aa
    try clear p2
    try clear p5
    try clear p590
    try clear p593
    try clear p594
    try clear p595
    try clear p596
    try clear q5
    try clear ap
    try clear Q
    try clear aq
    try clear az
    try clear aA
    obtain ⟨kq, z, HA, aB, HO_1, HO_8, c, HB⟩ := hcut
    cases kq with
    | zero => exact absurd HA.out (by simp [jigsawref20_Filter.j3])
    | succ kj22 =>
     have H := HA.out
     clear HA
     simp only [jigsawref20_Filter.j3] at H
     by_cases c30 : 0 ≤ a
     rotate_left
     ·
      rw [ig_ c30] at H
      exact ab_ H
     rw [ip_ c30] at H
     have c30b0 : decide (0 ≤ a) = true := dt_ c30
     clear c30
     by_cases c31 : a < (b.length : Int)
     rotate_left
     ·
      rw [ig_ c31] at H
      exact ab_ H
     rw [ip_ c31] at H
     have c31b0 : decide (a < (b.length : Int)) = true := dt_ c31
     clear c31
     replace H := bs_.mp H
     obtain ⟨⟨aK, F⟩, a2, H⟩ := H
     try dsimp only at H
     have a3 := a_ a2
     clear a2
     by_cases c33 : a < (d.length : Int)
     rotate_left
     ·
      rw [ig_ c33] at H
      exact ab_ H
     rw [ip_ c33] at H
     have c33b0 : decide (a < (d.length : Int)) = true := dt_ c33
     clear c33
     by_cases c34 : F < (rd d a)
     ·
      rw [ip_ c34] at H
      have c34b0 : decide (F < (rd d a)) = true := dt_ c34
      clear c34
      simp only [Option.some.injEq, Prod.mk.injEq] at H
      obtain ⟨rfl, rfl⟩ := H
      obtain ⟨_, _, _, _, _, _, _, _, _, _, _, _, _, _, _, _⟩ := cel8_ c.out
      have p600 : 0 ≤ (a : Int) := dq_
      have G : a < (b.length : Int) := dq_
      obtain ⟨ah, ar, n⟩ := ai_ M.out a p600 G
      obtain rfl : P = ah := (by injection ar)
      replace n := hx_ HB n
      replace p600 := et_ p600
      replace G := et_ G
      obtain ⟨bx, bz, bA⟩ := Kd.V_slice HO_1.out
      subst bA
      go_wp2_with (first | ((with_reducible refine gate_callee (f := 31) rfl ?_); refine goesL_ (some 77) rfl rfl Tryz.func31 kr_ rfl #[.slice bx z.length bz, .int .i64 (rd b a)] rfl ar_ ?_; (with_reducible refine (jigsawref20_Counts.calls kj22 _ _ z (rd b a) aK F _ ?_ ?_ a3.out).mono ?_); exact ca_ ((Kd.V_reads' HO_1.out).2.2); exact (Kd.V_reads' HO_1.out).2.1; rintro e w' ⟨rfl, ⟨nd, rfl⟩⟩; refine ⟨_, rfl, ?_⟩; have p603 : 0 ≤ (a : Int) := dq_; have I : a < (d.length : Int) := dq_; obtain ⟨an, au, o⟩ := ai_ O.out a p603 I; cases au; replace o := hx_ HB o; replace p603 := et_ p603; replace I := et_ I))
      go_ret2
      exact ⟨_, er_, (by exact Kd.V_nil _ _ _ _ _), bel_⟩
     rw [ig_ c34] at H
     have c34b0 : decide (F < (rd d a)) = false := df_ c34
     clear c34
     by_cases c37 : F = (rd d a)
     rotate_left
     ·
      rw [ig_ c37] at H
      have c37b0 : (F == (rd d a)) = false := be_.mpr c37
      have c37b1 : (F != (rd d a)) = true := ni_.mpr c37
      have H' := a_ H
      clear H
      obtain ⟨_, _, _, _, _, _, _, _, _, _, _, _, _, _, _, _⟩ := cel8_ c.out
      have p600 : 0 ≤ (a : Int) := dq_
      have G : a < (b.length : Int) := dq_
      obtain ⟨ah, ar, n⟩ := ai_ M.out a p600 G
      obtain rfl : P = ah := (by injection ar)
      replace n := hx_ HB n
      replace p600 := et_ p600
      replace G := et_ G
      obtain ⟨bD, bE, bF⟩ := Kd.V_slice HO_1.out
      subst bF
      go_wp2_with (first | ((with_reducible refine gate_callee (f := 31) rfl ?_); refine goesL_ (some 77) rfl rfl Tryz.func31 kr_ rfl #[.slice bD z.length bE, .int .i64 (rd b a)] rfl ar_ ?_; (with_reducible refine (jigsawref20_Counts.calls kj22 _ _ z (rd b a) aK F _ ?_ ?_ a3.out).mono ?_); exact ca_ ((Kd.V_reads' HO_1.out).2.2); exact (Kd.V_reads' HO_1.out).2.1; rintro e w' ⟨rfl, ⟨nd, rfl⟩⟩; refine ⟨_, rfl, ?_⟩; have p603 : 0 ≤ (a : Int) := dq_; have I : a < (d.length : Int) := dq_; obtain ⟨an, au, o⟩ := ai_ O.out a p603 I; cases au; replace o := hx_ HB o; replace p603 := et_ p603; replace I := et_ I; have p604 : 0 ≤ (a : Int) := dq_; have ae : a < (d.length : Int) := dq_; obtain ⟨aC, aL, B⟩ := ai_ O.out a p604 ae; obtain rfl : an = aC := (by injection aL); replace B := hx_ HB B; replace p604 := et_ p604; replace ae := et_ ae))
      (try simp only [← ag])
      go_roundg kj22
      case measure => have := ab.out; have := ac.out; have := aj.out; have := aB.out; omega
      exact ⟨(z), (wrap64 (a + 1)), eq_, H', ⟨by have := ab.out; have := ac.out; have := aj.out; have := aB.out; omega⟩, ⟨vV_ HO_1.out⟩, ⟨vV_ HO_8.out⟩, ⟨bk_ c.out⟩, ⟨bel_⟩⟩
     rw [ip_ c37] at H
     have c37b0 : (F == (rd d a)) = true := beq_iff_eq.mpr c37
     have c37b1 : (F != (rd d a)) = false := bn_.mpr c37
     clear c37
     replace H := bo_ H
     obtain ⟨a4, bU, H⟩ := H
     try dsimp only at H
     have H' := a_ H
     clear H
     obtain ⟨_, _, _, _, _, _, _, _, _, _, _, _, _, _, _, _⟩ := cel8_ c.out
     have p600 : 0 ≤ (a : Int) := dq_
     have G : a < (b.length : Int) := dq_
     obtain ⟨ah, ar, n⟩ := ai_ M.out a p600 G
     obtain rfl : P = ah := (by injection ar)
     replace n := hx_ HB n
     replace p600 := et_ p600
     replace G := et_ G
     obtain ⟨a5, a6, bB⟩ := Kd.V_slice HO_1.out
     subst bB
     go_wp2_with (first | ((with_reducible refine gate_callee (f := 31) rfl ?_); refine goesL_ (some 77) rfl rfl Tryz.func31 kr_ rfl #[.slice a5 z.length a6, .int .i64 (rd b a)] rfl ar_ ?_; (with_reducible refine (jigsawref20_Counts.calls kj22 _ _ z (rd b a) aK F _ ?_ ?_ a3.out).mono ?_); exact ca_ ((Kd.V_reads' HO_1.out).2.2); exact (Kd.V_reads' HO_1.out).2.1; rintro e w' ⟨rfl, ⟨nd, rfl⟩⟩; refine ⟨_, rfl, ?_⟩; have p603 : 0 ≤ (a : Int) := dq_; have I : a < (d.length : Int) := dq_; obtain ⟨an, au, o⟩ := ai_ O.out a p603 I; cases au; replace o := hx_ HB o; replace p603 := et_ p603; replace I := et_ I; have p604 : 0 ≤ (a : Int) := dq_; have ae : a < (d.length : Int) := dq_; obtain ⟨aC, aL, B⟩ := ai_ O.out a p604 ae; obtain rfl : an = aC := (by injection aL); replace B := hx_ HB B; replace p604 := et_ p604; replace ae := et_ ae; have p605 : 0 ≤ (a : Int) := dq_; have aM : a < (b.length : Int) := dq_; obtain ⟨bm, bC, ak⟩ := ai_ M.out a p605 aM; obtain rfl : P = bm := (by injection bC); replace ak := hx_ HB ak; replace p605 := et_ p605; replace aM := et_ aM) | ((with_reducible refine gate_callee (f := 32) rfl ?_); refine goesL_ (some 100) rfl rfl Tryz.func32 kr_ rfl #[.slice a5 z.length a6, .int .i64 1, .int .i64 (rd b a)] rfl ar_ ?_; (with_reducible refine (jigsawref20_each.calls kj22 (fun l => ((P1_ l ∨ w.heap.size ≤ l) ∧ l ≠ m)) _ _ z 1 (rd b a) a4 _ ?_ bU.out).mono ?_); exact HO_1.out; rintro e w41 ⟨b1, rfl, al, hb⟩; refine ⟨_, rfl, ?_⟩; replace HO_1 := a_ (Kd.V_elder' (vV_ HO_1.out) (Kd.N_base al) hb); replace HO_8 := a_ (Kd.V_elder' (vV_ HO_8.out) (Kd.N_base al) hb); have bn := a_ (Kd.N_lower (nm_ (ok' := fun l => (P1_ l ∨ w.heap.size ≤ l) ∧ l ≠ m) al (fun l hk_ => ⟨Or.elim hk_ (fun hs_ => hs_.1) (fun hn_ => (.inr (Nat.le_trans (bz_ bel_) hn_))), Or.elim hk_ (fun hs_ => hs_.2) (fun hn_ => (Kd.freshB (bk_ c.out) l hn_))⟩)) (bz_ bel_)); replace c := a_ (bq_ c.out hb); replace HB := hq_ hb; clear hb al))
     (try simp only [← ag])
     go_roundg kj22
     case measure => have := ab.out; have := ac.out; have := aj.out; have := aB.out; omega
     exact ⟨(a4), (wrap64 (a + 1)), eq_, H', ⟨by have := ab.out; have := ac.out; have := aj.out; have := aB.out; omega⟩, ⟨Kd.N_V (vN_ bn.out)⟩, ⟨by refine vV_ ?_; exact vm_ HO_8.out (fun _ hk => ⟨hk.1.1, hk.1.2⟩)⟩, ⟨bk_ c.out⟩, ⟨bel_⟩⟩

end Go.Proofs.YtijjhobjmehhoaaGreatDoor.XGccFilters
