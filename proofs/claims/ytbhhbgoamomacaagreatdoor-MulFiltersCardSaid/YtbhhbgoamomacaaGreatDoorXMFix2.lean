-- by xprint.py, a program of this session, over the kit's print
import Derived.Test.YtbhhbgoamomacaaGreatDoorXMFix0
import Derived.Test.YtbhhbgoamomacaaGreatDoorXMFix1
import Derived.Test.YtbhhbgoamomacaaGreatDoorSq
namespace Go.Proofs.YtbhhbgoamomacaaGreatDoor.XMulFilters
open Go.RowKit Go.Proofs.YtbhhbgoamomacaaGreatDoor.Sq Go.Proofs.YtbhhbgoamomacaaGreatDoorW.PrintWords Go.Proofs.YtbhhbgoamomacaaGreatDoorW.PrintLast Go.Proofs.YtbhhbgoamomacaaGreatDoorW.PrintMore
attribute [local go_sem] max2_int min2_int max_two min_two max_three min_three max_four min_four   -- for this text's walks alone
set_option linter.unusedVariables false
set_option linter.unusedSimpArgs false

/-! ### jigsawref06_Make: function 18 -/
mutual
def jigsawref06_Make.j0 : Nat → Int → ByteArray → Int → Int → List Int → List Int → List Int → Int → Int → Int → Int → Option (Int × List Int × List Int × List Int × List Int × List Int × Int × (List (List Int)))
 | 0, _, _, _, _, _, _, _, _, _, _, _ => none
 | k + 1, m, n, o, a, b, c, d, e, f, g, l => if o > 4 then (jigsawref06_Make.j1 k m n a b c d e f g l) else (jigsawref06_Make.j1 k m n a b c d e f g l)
def jigsawref06_Make.j1 : Nat → Int → ByteArray → Int → List Int → List Int → List Int → Int → Int → Int → Int → Option (Int × List Int × List Int × List Int × List Int × List Int × Int × (List (List Int)))
 | 0, _, _, _, _, _, _, _, _, _, _ => none
 | k + 1, v, b, q, c, r, s, t, u, a, d => (jigsawref06_has.f k b 118).bind fun e => (if e > 0 then ((jigsawref06_has.f k b 118).bind fun g => ((jigsawref06_places.f k c g v).bind fun l => ((jigsawref06_has.f k b 119).bind fun m => (if m > 0 then (none) else ((jigsawref06_has.f k b 87).bind fun n => (if n > 0 then (none) else ((jigsawref06_has.f k b 99).bind fun o => (if o > 0 then (none) else (if a = 11 then (none) else ((jigsawref06_has.f k b 107).bind fun p => (if p > 0 then (none) else (if a = 19 then (none) else (if a = 21 then (none) else (if a = 18 then (none) else (some (a, l, ([] : List Int), ([] : List Int), ([] : List Int), ([] : List Int), d, ([] : List (List Int)))))))))))))))))) else (none))
end
def jigsawref06_Make.f (k : Nat) (a : Int) (b : List Int) (d : List Int) (e : List Int) (g : Int) (l : Int) (m : Int) : Option (Int × List Int × List Int × List Int × List Int × List Int × Int × (List (List Int))) := (jigsawref06_Shapes.f).bind fun c => (if 0 ≤ (wrap64 (1 + (Int.tmod (wrap64 (a)) 23))) then (if (wrap64 (1 + (Int.tmod (wrap64 (a)) 23))) < (c.length : Int) then (if (b.length : Int) < 1 then (jigsawref06_Make.j0 k m (rdOf ByteArray.empty c (wrap64 (1 + (Int.tmod (wrap64 (a)) 23)))) 1 a b d e g l (wrap64 (1 + (Int.tmod (wrap64 (a)) 23))) 0) else (jigsawref06_Make.j0 k m (rdOf ByteArray.empty c (wrap64 (1 + (Int.tmod (wrap64 (a)) 23)))) (b.length : Int) a b d e g l (wrap64 (1 + (Int.tmod (wrap64 (a)) 23))) 0)) else (none)) else (none))
theorem jigsawref06_Make.mono_l : ∀ k, (∀ a b c d e f g l m n o, LeO (jigsawref06_Make.j0 k a b c d e f g l m n o) (jigsawref06_Make.j0 (k + 1) a b c d e f g l m n o)) ∧ (∀ a b c d e f g l m n, LeO (jigsawref06_Make.j1 k a b c d e f g l m n) (jigsawref06_Make.j1 (k + 1) a b c d e f g l m n))
 | 0 => ⟨fun _ _ _ _ _ _ _ _ _ _ _ r h => by simp [jigsawref06_Make.j0] at h, fun _ _ _ _ _ _ _ _ _ _ r h => by simp [jigsawref06_Make.j1] at h⟩
 | k + 1 => by
  obtain ⟨ih0, ih1⟩ := jigsawref06_Make.mono_l k
  refine ⟨?_, ?_⟩
  ·
   intro a b c d e f g l m n o
   unfold jigsawref06_Make.j0
   have m0 := @jigsawref06_has.mono
   have m1 := @jigsawref06_places.mono
   exact leo_
  ·
   intro a b c d e f g l m n
   unfold jigsawref06_Make.j1
   have m0 := @jigsawref06_has.mono
   have m1 := @jigsawref06_places.mono
   exact leo_
theorem jigsawref06_Make.mono : ∀ a b c d e g l k, LeO (jigsawref06_Make.f k a b c d e g l) (jigsawref06_Make.f (k + 1) a b c d e g l) := by
 intro a b c d e g l k
 obtain ⟨ih0, ih1⟩ := jigsawref06_Make.mono_l k
 unfold jigsawref06_Make.f
 have m0 := @jigsawref06_has.mono
 have m1 := @jigsawref06_places.mono
 exact leo_
set_option maxHeartbeats 8000000 in
set_option maxRecDepth 100000 in
theorem jigsawref06_Make.calls (k : Nat) (u : Int) (F : Option Addr) (c0_1 : Nat) (m : List Int) (I : Option Addr) (c0_2 : Nat) (q : List Int) (J : Option Addr) (c0_3 : Nat) (r : List Int) (A : Int) (B : Int) (a1 : Int) (r1 : Int) (r2 : List Int) (r3 : List Int) (r4 : List Int) (r5 : List Int) (r6 : List Int) (r7 : Int) (r8 : List (List Int)) (w : World) (an : Kd.C (Kd.int .u8) w F m.length m) (ao : m.length ≤ c0_1) (aF : Kd.C (Kd.int .u8) w I q.length q) (ap : q.length ≤ c0_2) (aG : Kd.C (Kd.int .i8) w J r.length r) (aq : r.length ≤ c0_3) (h : jigsawref06_Make.f k u m q r A B a1 = some (r1, r2, r3, r4, r5, r6, r7, r8)) :
  Calls Tryz.prog 18 #[.agg #[.int .u8 u, .slice F m.length c0_1, .slice I q.length c0_2, .slice J r.length c0_3, .int .i16 A, .int .u8 B], .int .i64 a1] w fun e w' => ∃ X Y Z aa ab aM : Value, e = .returned (.agg #[.int .i64 r1, X, Y, Z, aa, ab, .int .i64 r7, aM]) ∧ Kd.R (Kd.int .i64) 3 w' w.heap.size (fun s => some s ≠ (Y : Value).ownBlock ∧ some s ≠ (Z : Value).ownBlock ∧ some s ≠ (aa : Value).ownBlock ∧ some s ≠ (ab : Value).ownBlock) X r2 ∧ Kd.R (Kd.int .i64) 3 w' w.heap.size (fun s => some s ≠ (X : Value).ownBlock ∧ some s ≠ (Z : Value).ownBlock ∧ some s ≠ (aa : Value).ownBlock ∧ some s ≠ (ab : Value).ownBlock) Y r3 ∧ Kd.R (Kd.int .i64) 3 w' w.heap.size (fun s => some s ≠ (X : Value).ownBlock ∧ some s ≠ (Y : Value).ownBlock ∧ some s ≠ (aa : Value).ownBlock ∧ some s ≠ (ab : Value).ownBlock) Z r4 ∧ Kd.R (Kd.int .i64) 3 w' w.heap.size (fun s => some s ≠ (X : Value).ownBlock ∧ some s ≠ (Y : Value).ownBlock ∧ some s ≠ (Z : Value).ownBlock ∧ some s ≠ (ab : Value).ownBlock) aa r5 ∧ Kd.R (Kd.int .i64) 3 w' w.heap.size (fun s => some s ≠ (X : Value).ownBlock ∧ some s ≠ (Y : Value).ownBlock ∧ some s ≠ (Z : Value).ownBlock ∧ some s ≠ (aa : Value).ownBlock) ab r6 ∧ Kd.S (Kd.slice 3 (Kd.int .i64)) 30 w' w.heap.size (fun s => some s ≠ (X : Value).ownBlock ∧ some s ≠ (Y : Value).ownBlock ∧ some s ≠ (Z : Value).ownBlock ∧ some s ≠ (aa : Value).ownBlock ∧ some s ≠ (ab : Value).ownBlock) aM r8 ∧ Below w.heap.size w w' := by
 have hu26 := Tryz.underlying26
 have hu32 := Tryz.underlying32
 have aH := a_ an
 have aI := a_ ao
 clear an ao
 have a3 := a_ ap
 clear aF ap
 have a4 := a_ aq
 clear aG aq
 have HB := a_ (Below.refl w.heap.size w)
 unfold jigsawref06_Make.f at h
 have H := h
 clear h
 replace H := bo_ H
 obtain ⟨p, A3, H⟩ := H
 try dsimp only at H
 obtain ⟨a, E⟩ : ∃ j_ : Int, (wrap64 (1 + (Int.tmod (wrap64 (u)) 23))) = j_ := ⟨_, rfl⟩
 replace H : (if 0 ≤ (a) then (if (a) < (p.length : Int) then (if (m.length : Int) < 1 then (jigsawref06_Make.j0 k a1 (rdOf ByteArray.empty p (a)) 1 u m q r A B a 0) else (jigsawref06_Make.j0 k a1 (rdOf ByteArray.empty p (a)) (m.length : Int) u m q r A B a 0)) else (none)) else (none)) = some (r1, r2, r3, r4, r5, r6, r7, r8) := by first | (rw [E] at H; exact H) | (simp only [E] at H ⊢; exact H)
 (try rw [E] at A3)
 have hji4w : (IntKind.i64.wrap (1 + (Int.tmod (wrap64 (u)) 23))) = a := (i64_w _).trans E
 by_cases c5 : 0 ≤ (a)
 ·
  rw [ip_ c5] at H
  have c5b0 : decide (0 ≤ (a)) = true := dt_ c5
  clear c5
  by_cases c6 : (a) < (p.length : Int)
  ·
   rw [ip_ c6] at H
   have c6b0 : decide ((a) < (p.length : Int)) = true := dt_ c6
   clear c6
   have aD := a_ H
   clear H
   go_enter Tryz.func18, Tryz.ntmps18
   try go_wp2_with (first | ((with_reducible refine gate_dst (N := 2) rfl ?_); refine bxe_ (N := 2) (cs := #[.int .u8 u, .slice F m.length c0_1, .slice I q.length c0_2, .slice J r.length c0_3, .int .i16 A, .int .u8 B]) (t := 26) ?_; intro z hg w8 hbox hb; have b := a_ (hbox); have aJ := a_ (by rw [hg]; exact (bz_ bel_) : w.heap.size ≤ z); have a5 := aJ; replace HB := hq_ hb; clear hb hbox hg) | ((with_reducible refine gate_dst (N := 4) rfl ?_); refine bxe_ (N := 4) (cs := #[.int .i64 0, .slice none 0 0, .slice none 0 0, .slice none 0 0, .slice none 0 0, .slice none 0 0, .int .i64 0, .slice none 0 0]) (t := 32) ?_; intro y hg w9 hbox hb; have c := a_ (hbox); have aK := a_ (by rw [hg]; exact (bz_ bel_) : w.heap.size ≤ y); have a6 := aK; replace HB := hq_ hb; have Q := a_ ((by rw [hg]; exact Nat.ne_of_lt (blk_lt (bk_ b.out)) : z ≠ y)); have U := a_ ((by rw [hg]; exact Nat.ne_of_gt (blk_lt (bk_ b.out)) : y ≠ z)); replace b := a_ (bb_ (bk_ b.out) hb); clear hb hbox hg; have a7 := Q.out; have a8 := U.out; obtain ⟨_, _, _, _, _, _, _, _, _, _, _, _⟩ := cel6_ b.out) | ((with_reducible refine gate_dst (N := 5) rfl ?_); refine bxe_ (N := 5) (cs := #[.int .i64 0, .slice none 0 0, .slice none 0 0, .slice none 0 0, .slice none 0 0, .slice none 0 0, .int .i64 0, .slice none 0 0]) (t := 32) ?_; intro g hg w12 hbox hb; have d := a_ (hbox); have aL := a_ (by rw [hg]; exact (bz_ bel_) : w.heap.size ≤ g); have a9 := aL; replace HB := hq_ hb; have o := a_ ((by rw [hg]; exact Nat.ne_of_lt (blk_lt (bk_ b.out)) : z ≠ g)); have V := a_ ((by rw [hg]; exact Nat.ne_of_gt (blk_lt (bk_ b.out)) : g ≠ z)); replace b := a_ (bb_ (bk_ b.out) hb); have l := a_ ((by rw [hg]; exact Nat.ne_of_lt (blk_lt (bk_ c.out)) : y ≠ g)); have W := a_ ((by rw [hg]; exact Nat.ne_of_gt (blk_lt (bk_ c.out)) : g ≠ y)); replace c := a_ (bb_ (bk_ c.out) hb); clear hb hbox hg; have ba := V.out; have bb := o.out; have bc := W.out; have bd := l.out; obtain ⟨_, _, _, _, _, _, _, _, _, _, _, _, _, _, _, _⟩ := cel8_ d.out))
   obtain ⟨w16, hq_⟩ : ∃ x, x = ((((((((w12.setCell ⟨g, 0, none⟩ (.int .i64 a)).setCell ⟨g, 1, none⟩ (.slice none 0 0)).setCell ⟨g, 2, none⟩ (.slice none 0 0)).setCell ⟨g, 3, none⟩ (.slice none 0 0)).setCell ⟨g, 4, none⟩ (.slice none 0 0)).setCell ⟨g, 5, none⟩ (.slice none 0 0)).setCell ⟨g, 6, none⟩ (.int .i64 0)).setCell ⟨g, 7, none⟩ (.slice none 0 0)) := ⟨_, rfl⟩
   replace b : Aside0 (w16.heap[z]? = some (.cells #[.int .u8 u, .slice F m.length c0_1, .slice I q.length c0_2, .slice J r.length c0_3, .int .i16 A, .int .u8 B] 26 (0, 0))) := ⟨by subst hq_; refine bk_ ?_; refine blk_far ?_ o.out _; refine bk_ ?_; refine blk_far ?_ o.out _; refine bk_ ?_; refine blk_far ?_ o.out _; refine bk_ ?_; refine blk_far ?_ o.out _; refine bk_ ?_; refine blk_far ?_ o.out _; refine bk_ ?_; refine blk_far ?_ o.out _; refine bk_ ?_; refine blk_far ?_ o.out _; refine bk_ ?_; refine blk_far ?_ o.out _; refine bk_ ?_; exact b.out⟩
   replace c : Aside0 (w16.heap[y]? = some (.cells #[.int .i64 0, .slice none 0 0, .slice none 0 0, .slice none 0 0, .slice none 0 0, .slice none 0 0, .int .i64 0, .slice none 0 0] 32 (0, 0))) := ⟨by subst hq_; refine bk_ ?_; refine blk_far ?_ l.out _; refine bk_ ?_; refine blk_far ?_ l.out _; refine bk_ ?_; refine blk_far ?_ l.out _; refine bk_ ?_; refine blk_far ?_ l.out _; refine bk_ ?_; refine blk_far ?_ l.out _; refine bk_ ?_; refine blk_far ?_ l.out _; refine bk_ ?_; refine blk_far ?_ l.out _; refine bk_ ?_; refine blk_far ?_ l.out _; refine bk_ ?_; exact c.out⟩
   replace d : Aside0 (w16.heap[g]? = some (.cells #[.int .i64 a, .slice none 0 0, .slice none 0 0, .slice none 0 0, .slice none 0 0, .slice none 0 0, .int .i64 0, .slice none 0 0] 32 (0, 0))) := ⟨by subst hq_; refine bk_ ?_; refine bu_ (cs := #[.int .i64 a, .slice none 0 0, .slice none 0 0, .slice none 0 0, .slice none 0 0, .slice none 0 0, .int .i64 0, .slice none 0 0]) ?_ 7 _ rfl; refine bk_ ?_; refine bu_ (cs := #[.int .i64 a, .slice none 0 0, .slice none 0 0, .slice none 0 0, .slice none 0 0, .slice none 0 0, .int .i64 0, .slice none 0 0]) ?_ 6 _ rfl; refine bk_ ?_; refine bu_ (cs := #[.int .i64 a, .slice none 0 0, .slice none 0 0, .slice none 0 0, .slice none 0 0, .slice none 0 0, .int .i64 0, .slice none 0 0]) ?_ 5 _ rfl; refine bk_ ?_; refine bu_ (cs := #[.int .i64 a, .slice none 0 0, .slice none 0 0, .slice none 0 0, .slice none 0 0, .slice none 0 0, .int .i64 0, .slice none 0 0]) ?_ 4 _ rfl; refine bk_ ?_; refine bu_ (cs := #[.int .i64 a, .slice none 0 0, .slice none 0 0, .slice none 0 0, .slice none 0 0, .slice none 0 0, .int .i64 0, .slice none 0 0]) ?_ 3 _ rfl; refine bk_ ?_; refine bu_ (cs := #[.int .i64 a, .slice none 0 0, .slice none 0 0, .slice none 0 0, .slice none 0 0, .slice none 0 0, .int .i64 0, .slice none 0 0]) ?_ 2 _ rfl; refine bk_ ?_; refine bu_ (cs := #[.int .i64 a, .slice none 0 0, .slice none 0 0, .slice none 0 0, .slice none 0 0, .slice none 0 0, .int .i64 0, .slice none 0 0]) ?_ 1 _ rfl; refine bk_ ?_; refine bu_ (cs := #[.int .i64 0, .slice none 0 0, .slice none 0 0, .slice none 0 0, .slice none 0 0, .slice none 0 0, .int .i64 0, .slice none 0 0]) ?_ 0 _ rfl; refine bk_ ?_; exact d.out⟩
   replace HB : Aside0 (Below w.heap.size w w16) := ⟨by subst hq_; exact bel_⟩
   rw [← hq_]
   clear hq_
   replace b := a_ (blk_drew b.out)
   replace c := a_ (blk_drew c.out)
   replace d := a_ (blk_drew d.out)
   replace HB := a_ (below_drew1 HB.out)
   refine start_ (n := 6) (S := fun w' => w'.cell? ⟨g, 0, none⟩ = some (.int .i64 a) ∧ w'.cell? ⟨g, 1, none⟩ = some (.slice none 0 0) ∧ w'.cell? ⟨g, 2, none⟩ = some (.slice none 0 0) ∧ w'.cell? ⟨g, 3, none⟩ = some (.slice none 0 0) ∧ w'.cell? ⟨g, 4, none⟩ = some (.slice none 0 0) ∧ w'.cell? ⟨g, 5, none⟩ = some (.slice none 0 0) ∧ w'.cell? ⟨g, 6, none⟩ = some (.int .i64 0) ∧ w'.cell? ⟨g, 7, none⟩ = some (.slice none 0 0)) (ds := []) #[false, false, false, false, false, false] kr_ rfl rfl (ca8_ d.out) (fun hHeld => ?_)
   generalize w16.drew = w17 at b c d HB hHeld ⊢
   refine pu_ (i := 1) (N := some 20) kr_ ?_
   refine tak_ (i := 2) (N := some 21) kr_ hHeld ?_
   refine one_ (i := 0) (N := some 19) #[true, true, true, false, false, false] rfl rfl kr_ (by decide) (fun K hK => ?_)
   refine goes_ Tryz.func42 kr_ rfl #[] (by rfl) rfl rfl ar_ ?_
   with_reducible refine (jigsawref06_Shapes.calls p _ A3.out).mono ?_
   rintro e w18 ⟨bl, rfl, af, hb⟩
   refine ⟨_, rfl, ?_⟩
   have ar := a_ (Kd.R_lower af (bz_ bel_))
   replace b := a_ (bb_ (bk_ b.out) hb)
   replace c := a_ (bb_ (bk_ c.out) hb)
   replace d := a_ (bb_ (bk_ d.out) hb)
   replace HB := hq_ hb
   clear hb af
   obtain ⟨bm, bn, aE⟩ := Kd.R_slice ar.out
   (first | subst aE | (injection aE with f1_ f2_ f3_; have f4_ := f1_.symm; have f5_ := f3_.symm; clear f1_ f2_ f3_; subst f4_; subst f5_))
   have p117 : 0 ≤ ((a) : Int) := dq_
   have ac : (a) < (p.length : Int) := dq_
   obtain ⟨be, aP, ad⟩ := Kd.at_string (rr_ ar.out).2.2 (a) p117 ac
   cases aP
   replace p117 := et_ p117
   replace ac := et_ ac
   refine hK.out _ _ (ca8_ d.out) (fun hHeld => ?_)
   clear hK K
   refine nor_ (N := some 19) ?_
   refine pu_ (i := 3) (N := some 22) kr_ ?_
   refine one_ (i := 4) (N := some 23) #[true, true, true, true, true, false] rfl rfl kr_ (by decide) (fun K hK => ?_)
   skip
   refine value_ (w1 := ?_) (v := ?_) (by rfl) rfl ?_ ?_
   rotate_left 2
   ·
    go_simp
    constructor
    ·
     rfl
    ·
     rfl
   skip
   refine hK.out _ _ (ca8_ d.out) (fun hHeld => ?_)
   clear hK K
   refine nor_ (N := some 23) ?_
   refine pu_ (i := 5) (N := some 6) kr_ ?_
   refine done_ kr_ ?_
   obtain ⟨_, _, _, _, _, _, _, _, _, _, _, _⟩ := cel6_ b.out
   go_upto_if 28 with (fail)
   go_cut [7] (fun v7 wc => ∃ (kq : Nat) (P : Int), v7 = .int .i64 P ∧ Aside0 (jigsawref06_Make.j0 kq a1 (rdOf ByteArray.empty p (a)) P u m q r A B a 0 = some (r1, r2, r3, r4, r5, r6, r7, r8)) ∧ Aside0 (kq ≤ k) ∧ Aside0 (wc.heap[z]? = some (.cells #[.int .u8 u, (.slice F m.length c0_1), (.slice I q.length c0_2), (.slice J r.length c0_3), .int .i16 A, .int .u8 B] 26 (0, 0))) ∧ Aside0 (wc.heap[y]? = some (.cells #[.int .i64 0, (.slice none 0 0), (.slice none 0 0), (.slice none 0 0), (.slice none 0 0), (.slice none 0 0), .int .i64 0, (.slice none 0 0)] 32 (0, 0))) ∧ Aside0 (wc.heap[g]? = some (.cells #[.int .i64 a, (.slice none 0 0), (.slice none 0 0), (.slice none 0 0), (.slice none 0 0), (.slice none 0 0), .int .i64 0, (.slice none 0 0)] 32 (0, 0))) ∧ Aside0 (Below w.heap.size w wc))
   case first =>
    have H := aD.out
    clear aD
    by_cases c21 : (m.length : Int) < 1
    ·
     rw [ip_ c21] at H
     have c21b0 : decide ((m.length : Int) < 1) = true := dt_ c21
     have c21b1 : decide (m.length < 1) = true := dt_ (by omega)
     clear c21
     (first | rw [c21b0] | (simp only [i64_w, i32_w]; rw [c21b0]) | skip)
     have H' := a_ H
     clear H
     go_wp2
     go_meet
     case rel => exact ⟨_, (1), eq_, H', ⟨by first | omega | exact lr_ _⟩, ⟨bk_ b.out⟩, ⟨bk_ c.out⟩, ⟨bk_ d.out⟩, ⟨bel_⟩⟩
    ·
     rw [ig_ c21] at H
     have c21b0 : decide ((m.length : Int) < 1) = false := df_ c21
     have c21b1 : decide (m.length < 1) = false := df_ (by omega)
     clear c21
     (first | rw [c21b0] | (simp only [i64_w, i32_w]; rw [c21b0]) | skip)
     have H' := a_ H
     clear H
     go_wp2
     go_meet
     case rel => exact ⟨_, ((m.length : Int)), eq_, H', ⟨by first | omega | exact lr_ _⟩, ⟨bk_ b.out⟩, ⟨bk_ c.out⟩, ⟨bk_ d.out⟩, ⟨bel_⟩⟩
   case rest =>
    clear aD
    try clear c1
    try clear p1
    try clear q1
    try clear aU
    try clear c2
    try clear p2
    try clear c4
    try clear c5
    try clear c5b0
    try clear c6
    try clear c6b0
    try clear p6
    try clear c10
    try clear p11
    try clear aN
    try clear aQ
    try clear c13
    try clear c14
    try clear c18
    try clear c21
    try clear c21b0
    try clear c21b1
    try clear ad
    try clear p117
    try clear ac
    obtain ⟨kq, P, rfl, HA, aO, b, c, d, HB⟩ := hcut
    cases kq with
    | zero => exact absurd HA.out (by simp [jigsawref06_Make.j0])
    | succ kj6 =>
     have H := HA.out
     clear HA
     simp only [jigsawref06_Make.j0] at H
     have ag := a_ H
     clear H
     go_upto_if 30 with (fail)
     go_cut [] (fun wc => ∃ (kq : Nat), Aside0 (jigsawref06_Make.j1 kq a1 (rdOf ByteArray.empty p (a)) u m q r A B a 0 = some (r1, r2, r3, r4, r5, r6, r7, r8)) ∧ Aside0 (kq ≤ kj6) ∧ Aside0 (wc.heap[z]? = some (.cells #[.int .u8 u, (.slice F m.length c0_1), (.slice I q.length c0_2), (.slice J r.length c0_3), .int .i16 A, .int .u8 B] 26 (0, 0))) ∧ Aside0 (wc.heap[y]? = some (.cells #[.int .i64 0, (.slice none 0 0), (.slice none 0 0), (.slice none 0 0), (.slice none 0 0), (.slice none 0 0), .int .i64 0, (.slice none 0 0)] 32 (0, 0))) ∧ Aside0 (wc.heap[g]? = some (.cells #[.int .i64 a, (.slice none 0 0), (.slice none 0 0), (.slice none 0 0), (.slice none 0 0), (.slice none 0 0), .int .i64 0, (.slice none 0 0)] 32 (0, 0))) ∧ Aside0 (Below w.heap.size w wc))
     case first =>
      have H := ag.out
      clear ag
      by_cases c23 : P > 4
      ·
       rw [ip_ c23] at H
       have c23b0 : decide (4 < P) = true := dt_ c23
       clear c23
       (first | rw [c23b0] | (simp only [i64_w, i32_w]; rw [c23b0]) | skip)
       have H' := a_ H
       clear H
       go_wp2
       go_meet
       case rel => exact ⟨_, H', ⟨by have := aO.out; first | omega | exact lr_ _⟩, ⟨bk_ b.out⟩, ⟨bk_ c.out⟩, ⟨bk_ d.out⟩, ⟨bel_⟩⟩
      ·
       rw [ig_ c23] at H
       have c23b0 : decide (4 < P) = false := df_ c23
       clear c23
       (first | rw [c23b0] | (simp only [i64_w, i32_w]; rw [c23b0]) | skip)
       have H' := a_ H
       clear H
       go_wp2
       go_meet
       case rel => exact ⟨_, H', ⟨by have := aO.out; first | omega | exact lr_ _⟩, ⟨bk_ b.out⟩, ⟨bk_ c.out⟩, ⟨bk_ d.out⟩, ⟨bel_⟩⟩
     case rest =>
      clear ag
      try clear c1
      try clear p1
      try clear q1
      try clear aU
      try clear c2
      try clear p2
      try clear c4
      try clear c5
      try clear c5b0
      try clear c6
      try clear c6b0
      try clear p6
      try clear c10
      try clear p11
      try clear aN
      try clear aQ
      try clear c13
      try clear c14
      try clear c18
      try clear c21
      try clear c21b0
      try clear c21b1
      try clear c23
      try clear c23b0
      try clear ad
      try clear p1
      try clear p11
      try clear p117
      try clear p2
      try clear p6
      try clear q1
      try clear aN
      try clear ac
      obtain ⟨kq, HA, bp, b, c, d, HB⟩ := hcut
      cases kq with
      | zero => exact absurd HA.out (by simp [jigsawref06_Make.j1])
      | succ kj21 =>
       have H := HA.out
       clear HA
       simp only [jigsawref06_Make.j1] at H
       replace H := bo_ H
       obtain ⟨ah, aV, H⟩ := H
       try dsimp only at H
       by_cases c25 : ah > 0
       ·
        rw [ip_ c25] at H
        have c25b0 : decide (0 < ah) = true := dt_ c25
        clear c25
        replace H := bo_ H
        obtain ⟨ai, aW, H⟩ := H
        try dsimp only at H
        replace H := bo_ H
        obtain ⟨G, aX, H⟩ := H
        try dsimp only at H
        replace H := bo_ H
        obtain ⟨aj, aY, H⟩ := H
        try dsimp only at H
        by_cases c29 : aj > 0
        ·
         rw [ip_ c29] at H
         exact absurd H (by simp)
        ·
         rw [ig_ c29] at H
         have c29b0 : decide (0 < aj) = false := df_ c29
         clear c29
         replace H := bo_ H
         obtain ⟨ak, aZ, H⟩ := H
         try dsimp only at H
         by_cases c31 : ak > 0
         ·
          rw [ip_ c31] at H
          exact absurd H (by simp)
         ·
          rw [ig_ c31] at H
          have c31b0 : decide (0 < ak) = false := df_ c31
          clear c31
          replace H := bo_ H
          obtain ⟨al, a0, H⟩ := H
          try dsimp only at H
          by_cases c33 : al > 0
          ·
           rw [ip_ c33] at H
           exact absurd H (by simp)
          ·
           rw [ig_ c33] at H
           have c33b0 : decide (0 < al) = false := df_ c33
           clear c33
           by_cases c34 : a = 11
           ·
            rw [ip_ c34] at H
            exact absurd H (by simp)
           ·
            rw [ig_ c34] at H
            have c34b0 : (a == 11) = false := be_.mpr c34
            have c34b1 : (a != 11) = true := ni_.mpr c34
            replace H := bo_ H
            obtain ⟨am, a2, H⟩ := H
            try dsimp only at H
            by_cases c36 : am > 0
            ·
             rw [ip_ c36] at H
             exact absurd H (by simp)
            ·
             rw [ig_ c36] at H
             have c36b0 : decide (0 < am) = false := df_ c36
             clear c36
             by_cases c37 : a = 19
             ·
              rw [ip_ c37] at H
              exact absurd H (by simp)
             ·
              rw [ig_ c37] at H
              have c37b0 : (a == 19) = false := be_.mpr c37
              have c37b1 : (a != 19) = true := ni_.mpr c37
              by_cases c38 : a = 21
              ·
               rw [ip_ c38] at H
               exact absurd H (by simp)
              ·
               rw [ig_ c38] at H
               have c38b0 : (a == 21) = false := be_.mpr c38
               have c38b1 : (a != 21) = true := ni_.mpr c38
               by_cases c39 : a = 18
               ·
                rw [ip_ c39] at H
                exact absurd H (by simp)
               ·
                rw [ig_ c39] at H
                have c39b0 : (a == 18) = false := be_.mpr c39
                have c39b1 : (a != 18) = true := ni_.mpr c39
                simp only [Option.some.injEq, Prod.mk.injEq] at H
                obtain ⟨rfl, rfl, rfl, rfl, rfl, rfl, rfl, rfl⟩ := H
                go_wp2_with (first | ((with_reducible refine gate_callee (f := 43) rfl ?_); refine goesL_ (some 32) rfl rfl Tryz.func43 kr_ rfl #[.string (rdOf ByteArray.empty p (a)), .int .u8 118] rfl (by (try simp only [List.map_toArray, List.map_cons, List.map_nil]); first | done | (simp only [E]; rfl) | rfl | (simp only [List.length_drop, List.length_take]; rfl)) ?_; (with_reducible refine (jigsawref06_has.calls kj21 (rdOf ByteArray.empty p (a)) 118 ah _ aV.out).mono ?_); rintro e w' ⟨rfl, ⟨nd, rfl⟩⟩; refine ⟨_, rfl, ?_⟩; (try (rw [drewN_self wc]; generalize hq_ : World.drewN wc _ = wc; replace b : Aside0 (wc.heap[z]? = some (.cells #[.int .u8 u, .slice F m.length c0_1, .slice I q.length c0_2, .slice J r.length c0_3, .int .i16 A, .int .u8 B] 26 (0, 0))) := ⟨by rw [← hq_]; exact (bk_ b.out)⟩; replace c : Aside0 (wc.heap[y]? = some (.cells #[.int .i64 0, .slice none 0 0, .slice none 0 0, .slice none 0 0, .slice none 0 0, .slice none 0 0, .int .i64 0, .slice none 0 0] 32 (0, 0))) := ⟨by rw [← hq_]; exact (bk_ c.out)⟩; replace d : Aside0 (wc.heap[g]? = some (.cells #[.int .i64 a, .slice none 0 0, .slice none 0 0, .slice none 0 0, .slice none 0 0, .slice none 0 0, .int .i64 0, .slice none 0 0] 32 (0, 0))) := ⟨by rw [← hq_]; exact (bk_ d.out)⟩; replace HB : Aside0 (Below w.heap.size w wc) := ⟨by rw [← hq_]; exact bel_⟩; clear hq_)); (try (obtain ⟨_, _, _, _, _, _, _, _, _, _, _, _⟩ := cel6_ b.out)); (try (obtain ⟨_, _, _, _, _, _, _, _, _, _, _, _, _, _, _, _⟩ := cel8_ c.out)); (try (obtain ⟨_, _, _, _, _, _, _, _, _, _, _, _, _, _, _, _⟩ := cel8_ d.out))) | ((with_reducible refine gate_callee (f := 43) rfl ?_); refine goesL_ (some 35) rfl rfl Tryz.func43 kr_ rfl #[.string (rdOf ByteArray.empty p (a)), .int .u8 118] rfl (by (try simp only [List.map_toArray, List.map_cons, List.map_nil]); first | done | (simp only [E]; rfl) | rfl | (simp only [List.length_drop, List.length_take]; rfl)) ?_; (with_reducible refine (jigsawref06_has.calls kj21 (rdOf ByteArray.empty p (a)) 118 ai _ aW.out).mono ?_); rintro e w' ⟨rfl, ⟨nd, rfl⟩⟩; refine ⟨_, rfl, ?_⟩; (try (rw [drewN_self wc]; generalize hq_ : World.drewN wc _ = wc; replace b : Aside0 (wc.heap[z]? = some (.cells #[.int .u8 u, .slice F m.length c0_1, .slice I q.length c0_2, .slice J r.length c0_3, .int .i16 A, .int .u8 B] 26 (0, 0))) := ⟨by rw [← hq_]; exact (bk_ b.out)⟩; replace c : Aside0 (wc.heap[y]? = some (.cells #[.int .i64 0, .slice none 0 0, .slice none 0 0, .slice none 0 0, .slice none 0 0, .slice none 0 0, .int .i64 0, .slice none 0 0] 32 (0, 0))) := ⟨by rw [← hq_]; exact (bk_ c.out)⟩; replace d : Aside0 (wc.heap[g]? = some (.cells #[.int .i64 a, .slice none 0 0, .slice none 0 0, .slice none 0 0, .slice none 0 0, .slice none 0 0, .int .i64 0, .slice none 0 0] 32 (0, 0))) := ⟨by rw [← hq_]; exact (bk_ d.out)⟩; replace HB : Aside0 (Below w.heap.size w wc) := ⟨by rw [← hq_]; exact bel_⟩; clear hq_)); (try (obtain ⟨_, _, _, _, _, _, _, _, _, _, _, _⟩ := cel6_ b.out)); (try (obtain ⟨_, _, _, _, _, _, _, _, _, _, _, _, _, _, _, _⟩ := cel8_ c.out)); (try (obtain ⟨_, _, _, _, _, _, _, _, _, _, _, _, _, _, _, _⟩ := cel8_ d.out)); have bf := Q.out; have bg := U.out; have bh := o.out; have bi := V.out; obtain ⟨_, _, _, _, _, _, _, _, _, _, _, _⟩ := cel6_ b.out) | ((with_reducible refine gate_callee (f := 44) rfl ?_); refine goesL_ (some 40) rfl rfl Tryz.func44 kr_ rfl #[.slice F m.length c0_1, .int .i64 ai, .int .i64 a1] rfl ar_ ?_; (with_reducible refine (jigsawref06_places.calls kj21 _ _ m ai a1 G _ ?_ ?_ aX.out).mono ?_); exact ca_ ((cb_ aH.out HB.out)); exact aI.out; rintro e w49 ⟨bq, rfl, af, hb⟩; refine ⟨_, rfl, ?_⟩; have au := a_ (Kd.R_lower af (bz_ bel_)); replace c := a_ (bb_ (bk_ c.out) hb); replace d := a_ (bb_ (bk_ d.out) hb); replace HB := hq_ hb; clear hb af; obtain ⟨M, O, aR⟩ := Kd.R_slice au.out; subst aR; have bj := W.out; have bk := l.out; obtain ⟨_, _, _, _, _, _, _, _, _, _, _, _, _, _, _, _⟩ := cel8_ d.out) | ((with_reducible refine gate_callee (f := 43) rfl ?_); refine goesL_ (some 43) rfl rfl Tryz.func43 kr_ rfl #[.string (rdOf ByteArray.empty p (a)), .int .u8 119] rfl (by (try simp only [List.map_toArray, List.map_cons, List.map_nil]); first | done | (simp only [E]; rfl) | rfl | (simp only [List.length_drop, List.length_take]; rfl)) ?_; (with_reducible refine (jigsawref06_has.calls kj21 (rdOf ByteArray.empty p (a)) 119 aj _ aY.out).mono ?_); rintro e w' ⟨rfl, ⟨nd, rfl⟩⟩; refine ⟨_, rfl, ?_⟩) | ((with_reducible refine gate_callee (f := 43) rfl ?_); refine goesL_ (some 51) rfl rfl Tryz.func43 kr_ rfl #[.string (rdOf ByteArray.empty p (a)), .int .u8 87] rfl (by (try simp only [List.map_toArray, List.map_cons, List.map_nil]); first | done | (simp only [E]; rfl) | rfl | (simp only [List.length_drop, List.length_take]; rfl)) ?_; (with_reducible refine (jigsawref06_has.calls kj21 (rdOf ByteArray.empty p (a)) 87 ak _ aZ.out).mono ?_); rintro e w' ⟨rfl, ⟨nd, rfl⟩⟩; refine ⟨_, rfl, ?_⟩) | ((with_reducible refine gate_callee (f := 43) rfl ?_); refine goesL_ (some 60) rfl rfl Tryz.func43 kr_ rfl #[.string (rdOf ByteArray.empty p (a)), .int .u8 99] rfl (by (try simp only [List.map_toArray, List.map_cons, List.map_nil]); first | done | (simp only [E]; rfl) | rfl | (simp only [List.length_drop, List.length_take]; rfl)) ?_; (with_reducible refine (jigsawref06_has.calls kj21 (rdOf ByteArray.empty p (a)) 99 al _ a0.out).mono ?_); rintro e w' ⟨rfl, ⟨nd, rfl⟩⟩; refine ⟨_, rfl, ?_⟩) | ((with_reducible refine gate_callee (f := 43) rfl ?_); refine goesL_ (some 80) rfl rfl Tryz.func43 kr_ rfl #[.string (rdOf ByteArray.empty p (a)), .int .u8 107] rfl (by (try simp only [List.map_toArray, List.map_cons, List.map_nil]); first | done | (simp only [E]; rfl) | rfl | (simp only [List.length_drop, List.length_take]; rfl)) ?_; (with_reducible refine (jigsawref06_has.calls kj21 (rdOf ByteArray.empty p (a)) 107 am _ a2.out).mono ?_); rintro e w' ⟨rfl, ⟨nd, rfl⟩⟩; refine ⟨_, rfl, ?_⟩; obtain ⟨_, _, _, _, _, _, _, _, _, _, _, _, _, _, _, _⟩ := cel8_ c.out))
                refine bodyPost_ret (results_cell_row rfl _ _ y 32 #[.int .i64 a, .slice M G.length O, .slice none 0 0, .slice none 0 0, .slice none 0 0, .slice none 0 0, .int .i64 0, .slice none 0 0] (0, 0) _ rfl (by refine bk_ ?_; refine bu_ (cs := #[.int .i64 a, .slice M G.length O, .slice none 0 0, .slice none 0 0, .slice none 0 0, .slice none 0 0, .int .i64 0, .slice none 0 0]) ?_ 7 _ rfl; refine bk_ ?_; refine bu_ (cs := #[.int .i64 a, .slice M G.length O, .slice none 0 0, .slice none 0 0, .slice none 0 0, .slice none 0 0, .int .i64 0, .slice none 0 0]) ?_ 6 _ rfl; refine bk_ ?_; refine bu_ (cs := #[.int .i64 a, .slice M G.length O, .slice none 0 0, .slice none 0 0, .slice none 0 0, .slice none 0 0, .int .i64 0, .slice none 0 0]) ?_ 5 _ rfl; refine bk_ ?_; refine bu_ (cs := #[.int .i64 a, .slice M G.length O, .slice none 0 0, .slice none 0 0, .slice none 0 0, .slice none 0 0, .int .i64 0, .slice none 0 0]) ?_ 4 _ rfl; refine bk_ ?_; refine bu_ (cs := #[.int .i64 a, .slice M G.length O, .slice none 0 0, .slice none 0 0, .slice none 0 0, .slice none 0 0, .int .i64 0, .slice none 0 0]) ?_ 3 _ rfl; refine bk_ ?_; refine bu_ (cs := #[.int .i64 a, .slice M G.length O, .slice none 0 0, .slice none 0 0, .slice none 0 0, .slice none 0 0, .int .i64 0, .slice none 0 0]) ?_ 2 _ rfl; refine bk_ ?_; refine bu_ (cs := #[.int .i64 a, .slice none 0 0, .slice none 0 0, .slice none 0 0, .slice none 0 0, .slice none 0 0, .int .i64 0, .slice none 0 0]) ?_ 1 _ rfl; refine bk_ ?_; refine bu_ (cs := #[.int .i64 0, .slice none 0 0, .slice none 0 0, .slice none 0 0, .slice none 0 0, .slice none 0 0, .int .i64 0, .slice none 0 0]) ?_ 0 _ rfl; refine bk_ ?_; refine blk_far ?_ l.out _; refine bk_ ?_; exact c.out) Tryz.underlying32 rfl kr_) rfl ?_
                exact ⟨_, _, _, _, _, _, by first | rfl | (simp [errW_none, errW_some] <;> rfl) | (simp only [← E]; first | rfl | (simp [errW_none, errW_some] <;> rfl)) | (simp [*, errW_none, errW_some] <;> rfl), by refine vR_ ?_; exact rm_ (fR_ (fR_ (fR_ (fR_ (fR_ (fR_ (fR_ (fR_ (Kd.R_far (rt_ (rt_ au.out d.out (by decide)) c.out (by decide)) (fun _ hk => hk.1.2) (.slice M G.length O)))))))))) (fun _ hk => ⟨(by simp [Value.ownBlock]), ⟨(by simp [Value.ownBlock]), ⟨(by simp [Value.ownBlock]), (by simp [Value.ownBlock])⟩⟩⟩), by first | exact Kd.R_nil _ _ _ _ _ | exact Kd.N_nil _ _ _ _ _ | exact Kd.V_nil _ _ _ _ _ | exact Kd.Q_nil _ _ _ _ _ | exact Kd.S_nil _ _ _ _ _, by first | exact Kd.R_nil _ _ _ _ _ | exact Kd.N_nil _ _ _ _ _ | exact Kd.V_nil _ _ _ _ _ | exact Kd.Q_nil _ _ _ _ _ | exact Kd.S_nil _ _ _ _ _, by first | exact Kd.R_nil _ _ _ _ _ | exact Kd.N_nil _ _ _ _ _ | exact Kd.V_nil _ _ _ _ _ | exact Kd.Q_nil _ _ _ _ _ | exact Kd.S_nil _ _ _ _ _, by first | exact Kd.R_nil _ _ _ _ _ | exact Kd.N_nil _ _ _ _ _ | exact Kd.V_nil _ _ _ _ _ | exact Kd.Q_nil _ _ _ _ _ | exact Kd.S_nil _ _ _ _ _, by first | exact Kd.S_nil _ _ _ _ _ | exact Kd.N_nil _ _ _ _ _ | exact Kd.V_nil _ _ _ _ _ | exact Kd.Q_nil _ _ _ _ _ | exact Kd.R_nil _ _ _ _ _, bel_⟩
       ·
        rw [ig_ c25] at H
        exact absurd H (by simp)
  ·
   rw [ig_ c6] at H
   exact absurd H (by simp)
 ·
  rw [ig_ c5] at H
  exact absurd H (by simp)

/-! ### jigsawref02_Has: function 78 -/
def jigsawref02_Has.l0 : Nat → List Int → Int → Int → Option (Bool)
 | 0, _, _, _ => none
 | k + 1, b, c, a => if a < (b.length : Int) then (if 0 ≤ a then (if (rd b a) = c then (some true) else (jigsawref02_Has.l0 k b c (wrap64 (a + 1)))) else (none)) else (some false)
def jigsawref02_Has.f (k : Nat) (a : List Int) (b : Int) : Option (Bool) := jigsawref02_Has.l0 k a b 0
theorem jigsawref02_Has.mono_l : ∀ k, (∀ a b c, LeO (jigsawref02_Has.l0 k a b c) (jigsawref02_Has.l0 (k + 1) a b c))
 | 0 => fun _ _ _ r h => by simp [jigsawref02_Has.l0] at h
 | k + 1 => by
  have ih0 := jigsawref02_Has.mono_l k
  ·
   intro a b c
   unfold jigsawref02_Has.l0
   exact leo_
theorem jigsawref02_Has.mono : ∀ a b k, LeO (jigsawref02_Has.f k a b) (jigsawref02_Has.f (k + 1) a b) := by
 intro a b k
 have ih0 := jigsawref02_Has.mono_l k
 unfold jigsawref02_Has.f
 exact leo_
set_option maxHeartbeats 8000000 in
set_option maxRecDepth 100000 in
theorem jigsawref02_Has.calls (k : Nat) (s : Option Addr) (c0 : Nat) (b : List Int) (d : Int) (r : Bool) (w : World) (n : Kd.C (Kd.int .i64) w s b.length b) (o : b.length ≤ c0) (h : jigsawref02_Has.f k b d = some r) :
  Calls Tryz.prog 78 #[.slice s b.length c0, .int .i64 d] w fun e w' => e = .returned (.bool r) ∧ Drawn0 w w' := by
 have p := a_ n
 have u := a_ o
 clear n o
 unfold jigsawref02_Has.f at h
 have H := h
 clear h
 have H' := a_ H
 clear H
 go_enter Tryz.func78, Tryz.ntmps78
 go_wp2
 go_loopg [5] k (fun kq t w' => ∃ (a : Int), t = .int .i64 a ∧ Aside0 (jigsawref02_Has.l0 kq b d a = some r) ∧ Aside0 (kq ≤ k) ∧ Drawn0 w w')
 case atStart => exact ⟨(0), eq_, H', ⟨lr_ _⟩, by repeat (first | exact d0_ _ | apply Drawn0.step)⟩
 case round =>
  clear H'
  try clear p2
  obtain ⟨a, rfl, HA, q, ⟨m1, rfl⟩⟩ := hrel
  cases gk with
  | zero => exact absurd HA.out (by simp [jigsawref02_Has.l0])
  | succ k1 =>
   have H := HA.out
   clear HA
   simp only [jigsawref02_Has.l0] at H
   by_cases c3 : a < (b.length : Int)
   ·
    rw [ip_ c3] at H
    have c3b0 : decide (a < (b.length : Int)) = true := dt_ c3
    clear c3
    by_cases c4 : 0 ≤ a
    ·
     rw [ip_ c4] at H
     have c4b0 : decide (0 ≤ a) = true := dt_ c4
     clear c4
     by_cases c5 : (rd b a) = d
     ·
      rw [ip_ c5] at H
      have c5b0 : ((rd b a) == d) = true := beq_iff_eq.mpr c5
      have c5b1 : ((rd b a) != d) = false := bn_.mpr c5
      clear c5
      obtain rfl := si_ H
      have p127 : 0 ≤ (a : Int) := dq_
      have c : a < (b.length : Int) := dq_
      obtain ⟨m, g, l⟩ := ai_ p.out a p127 c
      cases g
      replace p127 := et_ p127
      replace c := et_ c
      go_wp2
      go_ret
      exact ⟨by first | rfl | (simp; done) | (simp [*]; done), by repeat (first | exact d0_ _ | apply Drawn0.step)⟩
     ·
      rw [ig_ c5] at H
      have c5b0 : ((rd b a) == d) = false := be_.mpr c5
      have c5b1 : ((rd b a) != d) = true := ni_.mpr c5
      have H' := a_ H
      clear H
      have p127 : 0 ≤ (a : Int) := dq_
      have c : a < (b.length : Int) := dq_
      obtain ⟨m, g, l⟩ := ai_ p.out a p127 c
      cases g
      replace p127 := et_ p127
      replace c := et_ c
      go_wp2
      go_roundg k1
      case measure => have := q.out; omega
      case rel => exact ⟨(wrap64 (a + 1)), eq_, H', ⟨by have := q.out; omega⟩, by repeat (first | exact d0_ _ | apply Drawn0.step)⟩
    ·
     rw [ig_ c4] at H
     exact absurd H (by simp)
   ·
    rw [ig_ c3] at H
    have c3b0 : decide (a < (b.length : Int)) = false := df_ c3
    clear c3
    obtain rfl := si_ H
    go_wp2
    go_ret
    exact ⟨by first | rfl | (simp; done) | (simp [*]; done), by repeat (first | exact d0_ _ | apply Drawn0.step)⟩

end Go.Proofs.YtbhhbgoamomacaaGreatDoor.XMulFilters
