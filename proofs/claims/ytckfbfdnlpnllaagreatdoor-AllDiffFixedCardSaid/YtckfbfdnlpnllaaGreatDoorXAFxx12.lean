-- by xprint.py, a program of this session, over the kit's print
import Derived.Test.YtckfbfdnlpnllaaGreatDoorXAFxx0
import Derived.Test.YtckfbfdnlpnllaaGreatDoorXAFxx11
import Derived.Test.YtckfbfdnlpnllaaGreatDoorSq
namespace Go.Proofs.YtckfbfdnlpnllaaGreatDoor.XAllDiffFixed
open Go.RowKit Go.Proofs.YtckfbfdnlpnllaaGreatDoor.Sq Go.Proofs.YtckfbfdnlpnllaaGreatDoorW.PrintWords Go.Proofs.YtckfbfdnlpnllaaGreatDoorW.PrintLast Go.Proofs.YtckfbfdnlpnllaaGreatDoorW.PrintMore
attribute [local go_sem] max2_int min2_int max_two min_two max_three min_three max_four min_four   -- for this text's walks alone
set_option linter.unusedVariables false
set_option linter.unusedSimpArgs false

/-! ### jigsawref06_Make: function 18 -/
mutual
def jigsawref06_Make.j0 : Nat → Int → ByteArray → Int → Int → List Int → List Int → List Int → Int → Int → Int → Int → Option (Int × List Int × List Int × List Int × List Int × List Int × Int × (List (List Int)))
 | 0, _, _, _, _, _, _, _, _, _, _, _ => none
 | k + 1, m, n, o, a, b, c, d, e, f, g, l => if o > 4 then (jigsawref06_Make.j1 k m n 4 a b c d e f g l) else (jigsawref06_Make.j1 k m n o a b c d e f g l)
def jigsawref06_Make.j1 : Nat → Int → ByteArray → Int → Int → List Int → List Int → List Int → Int → Int → Int → Int → Option (Int × List Int × List Int × List Int × List Int × List Int × Int × (List (List Int)))
 | 0, _, _, _, _, _, _, _, _, _, _, _ => none
 | k + 1, u, d, v, p, b, q, r, s, t, a, c => (jigsawref06_has.f k d 118).bind fun e => (if e > 0 then (none) else ((jigsawref06_places.f k b v u).bind fun g => ((jigsawref06_has.f k d 119).bind fun l => (if l > 0 then (none) else ((jigsawref06_has.f k d 87).bind fun m => (if m > 0 then (none) else ((jigsawref06_has.f k d 99).bind fun n => (if n > 0 then (none) else (if a = 11 then (none) else ((jigsawref06_has.f k d 107).bind fun o => (if o > 0 then (none) else (if a = 19 then (none) else (if a = 21 then (none) else (if a = 18 then (none) else (some (a, g, ([] : List Int), ([] : List Int), ([] : List Int), ([] : List Int), c, ([] : List (List Int))))))))))))))))))
end
def jigsawref06_Make.f (k : Nat) (a : Int) (b : List Int) (d : List Int) (e : List Int) (g : Int) (l : Int) (m : Int) : Option (Int × List Int × List Int × List Int × List Int × List Int × Int × (List (List Int))) := (jigsawref06_Shapes.f).bind fun c => (if 0 ≤ (wrap64 (1 + (Int.tmod (wrap64 (a)) 23))) then (if (wrap64 (1 + (Int.tmod (wrap64 (a)) 23))) < (c.length : Int) then (if (b.length : Int) < 1 then (jigsawref06_Make.j0 k m (rdOf ByteArray.empty c (wrap64 (1 + (Int.tmod (wrap64 (a)) 23)))) 1 a b d e g l (wrap64 (1 + (Int.tmod (wrap64 (a)) 23))) 0) else (jigsawref06_Make.j0 k m (rdOf ByteArray.empty c (wrap64 (1 + (Int.tmod (wrap64 (a)) 23)))) (b.length : Int) a b d e g l (wrap64 (1 + (Int.tmod (wrap64 (a)) 23))) 0)) else (none)) else (none))
theorem jigsawref06_Make.mono_l : ∀ k, (∀ b c d e f g l m n o a, LeO (jigsawref06_Make.j0 k b c d e f g l m n o a) (jigsawref06_Make.j0 (k + 1) b c d e f g l m n o a)) ∧ (∀ b c d e f g l m n o a, LeO (jigsawref06_Make.j1 k b c d e f g l m n o a) (jigsawref06_Make.j1 (k + 1) b c d e f g l m n o a))
 | 0 => by refine ⟨?_, ?_⟩ <;> (intros; exact LeO.none _)
 | k + 1 => by
  obtain ⟨ih0, ih1⟩ := jigsawref06_Make.mono_l k
  have m0 := @jigsawref06_has.mono
  have m1 := @jigsawref06_places.mono
  refine ⟨?_, ?_⟩ <;> intros
  all_goals first | unfold jigsawref06_Make.j0 | unfold jigsawref06_Make.j1
  all_goals exact leo_
theorem jigsawref06_Make.mono : ∀ a b c d e g l k, LeO (jigsawref06_Make.f k a b c d e g l) (jigsawref06_Make.f (k + 1) a b c d e g l) := by
 intro a b c d e g l k
 obtain ⟨ih0, ih1⟩ := jigsawref06_Make.mono_l k
 unfold jigsawref06_Make.f
 have m0 := @jigsawref06_has.mono
 have m1 := @jigsawref06_places.mono
 exact leo_
set_option maxHeartbeats 8000000 in
set_option maxRecDepth 100000 in
theorem jigsawref06_Make.calls (k : Nat) (u : Int) (G : Option Addr) (c0_1 : Nat) (m : List Int) (M : Option Addr) (c0_2 : Nat) (r : List Int) (O : Option Addr) (c0_3 : Nat) (s : List Int) (A : Int) (B : Int) (a1 : Int) (r1 : Int) (r2 : List Int) (r3 : List Int) (r4 : List Int) (r5 : List Int) (r6 : List Int) (r7 : Int) (r8 : List (List Int)) (w : World) (an : Kd.C (Kd.int .u8) w G m.length m) (ao : m.length ≤ c0_1) (aF : Kd.C (Kd.int .u8) w M r.length r) (ap : r.length ≤ c0_2) (aG : Kd.C (Kd.int .i8) w O s.length s) (aq : s.length ≤ c0_3) (h : jigsawref06_Make.f k u m r s A B a1 = some (r1, r2, r3, r4, r5, r6, r7, r8)) :
  Calls Tryz.prog 18 #[.agg #[.int .u8 u, .slice G m.length c0_1, .slice M r.length c0_2, .slice O s.length c0_3, .int .i16 A, .int .u8 B], .int .i64 a1] w fun e w' => ∃ Y Z aa ab ac aM : Value, e = .returned (.agg #[.int .i64 r1, Y, Z, aa, ab, ac, .int .i64 r7, aM]) ∧ Kd.R (Kd.int .i64) 3 w' w.heap.size (fun q => some q ≠ Z.ownBlock ∧ some q ≠ aa.ownBlock ∧ some q ≠ ab.ownBlock ∧ some q ≠ ac.ownBlock) Y r2 ∧ Kd.R (Kd.int .i64) 3 w' w.heap.size (fun q => some q ≠ Y.ownBlock ∧ some q ≠ aa.ownBlock ∧ some q ≠ ab.ownBlock ∧ some q ≠ ac.ownBlock) Z r3 ∧ Kd.R (Kd.int .i64) 3 w' w.heap.size (fun q => some q ≠ Y.ownBlock ∧ some q ≠ Z.ownBlock ∧ some q ≠ ab.ownBlock ∧ some q ≠ ac.ownBlock) aa r4 ∧ Kd.R (Kd.int .i64) 3 w' w.heap.size (fun q => some q ≠ Y.ownBlock ∧ some q ≠ Z.ownBlock ∧ some q ≠ aa.ownBlock ∧ some q ≠ ac.ownBlock) ab r5 ∧ Kd.R (Kd.int .i64) 3 w' w.heap.size (fun q => some q ≠ Y.ownBlock ∧ some q ≠ Z.ownBlock ∧ some q ≠ aa.ownBlock ∧ some q ≠ ab.ownBlock) ac r6 ∧ Kd.S (Kd.slice 3 (Kd.int .i64)) 30 w' w.heap.size (fun q => some q ≠ Y.ownBlock ∧ some q ≠ Z.ownBlock ∧ some q ≠ aa.ownBlock ∧ some q ≠ ab.ownBlock ∧ some q ≠ ac.ownBlock) aM r8 ∧ Below w.heap.size w w' := by
 have hu26 := Tryz.underlying26
 have hu32 := Tryz.underlying32
 have aH := a_ an
 have aI := a_ ao
 clear an ao
 have a0 := a_ ap
 clear aF ap
 have a2 := a_ aq
 clear aG aq
 have HB := a_ (Below.refl w.heap.size w)
 unfold jigsawref06_Make.f at h
 have H := h
 clear h
 replace H := bo_ H
 obtain ⟨p, A3, H⟩ := H
 try dsimp only at H
 obtain ⟨a, E⟩ : ∃ j_ : Int, (wrap64 (1 + (Int.tmod (wrap64 (u)) 23))) = j_ := ⟨_, rfl⟩
 replace H : (if 0 ≤ (a) then (if (a) < (p.length : Int) then (if (m.length : Int) < 1 then (jigsawref06_Make.j0 k a1 (rdOf ByteArray.empty p (a)) 1 u m r s A B a 0) else (jigsawref06_Make.j0 k a1 (rdOf ByteArray.empty p (a)) (m.length : Int) u m r s A B a 0)) else (none)) else (none)) = some (r1, r2, r3, r4, r5, r6, r7, r8) := by first | (rw [E] at H; exact H) | (simp only [E] at H ⊢; exact H)
 (try rw [E] at A3)
 have hji4w : (IntKind.i64.wrap (1 + (Int.tmod (wrap64 (u)) 23))) = a := (i64_w _).trans E
 by_cases c5 : 0 ≤ (a)
 rotate_left
 ·
  rw [ig_ c5] at H
  exact ab_ H
 rw [ip_ c5] at H
 have c5b0 : decide (0 ≤ (a)) = true := dt_ c5
 clear c5
 by_cases c6 : (a) < (p.length : Int)
 rotate_left
 ·
  rw [ig_ c6] at H
  exact ab_ H
 rw [ip_ c6] at H
 have c6b0 : decide ((a) < (p.length : Int)) = true := dt_ c6
 clear c6
 have aD := a_ H
 clear H
 go_enter Tryz.func18, Tryz.ntmps18
 try go_wp2_with (first | ((with_reducible refine gate_dst (N := 2) rfl ?_); refine bxe_ (N := 2) (cs := #[.int .u8 u, .slice G m.length c0_1, .slice M r.length c0_2, .slice O s.length c0_3, .int .i16 A, .int .u8 B]) (t := 26) ?_; intro z hg w8 hbox hb; have b := a_ (hbox); have aJ := a_ (by rw [hg]; exact (bz_ bel_) : w.heap.size ≤ z); have a3 := aJ; replace HB := hq_ hb; clear hb hbox hg) | ((with_reducible refine gate_dst (N := 4) rfl ?_); refine bxe_ (N := 4) (cs := #[.int .i64 0, .slice none 0 0, .slice none 0 0, .slice none 0 0, .slice none 0 0, .slice none 0 0, .int .i64 0, .slice none 0 0]) (t := 32) ?_; intro y hg w9 hbox hb; have c := a_ (hbox); have aK := a_ (by rw [hg]; exact (bz_ bel_) : w.heap.size ≤ y); have a4 := aK; replace HB := hq_ hb; have U := a_ ((by rw [hg]; exact Nat.ne_of_lt (blk_lt (bk_ b.out)) : z ≠ y)); have V := a_ ((by rw [hg]; exact Nat.ne_of_gt (blk_lt (bk_ b.out)) : y ≠ z)); replace b := a_ (bq_ b.out hb); clear hb hbox hg; have a5 := U.out; have a6 := V.out; obtain ⟨_, _, _, _, _, _, _, _, _, _, _, _⟩ := cel6_ b.out) | ((with_reducible refine gate_dst (N := 5) rfl ?_); refine bxe_ (N := 5) (cs := #[.int .i64 0, .slice none 0 0, .slice none 0 0, .slice none 0 0, .slice none 0 0, .slice none 0 0, .int .i64 0, .slice none 0 0]) (t := 32) ?_; intro d hg w12 hbox hb; have g := a_ (hbox); have aL := a_ (by rw [hg]; exact (bz_ bel_) : w.heap.size ≤ d); have a7 := aL; replace HB := hq_ hb; have o := a_ ((by rw [hg]; exact Nat.ne_of_lt (blk_lt (bk_ b.out)) : z ≠ d)); have W := a_ ((by rw [hg]; exact Nat.ne_of_gt (blk_lt (bk_ b.out)) : d ≠ z)); replace b := a_ (bq_ b.out hb); have l := a_ ((by rw [hg]; exact Nat.ne_of_lt (blk_lt (bk_ c.out)) : y ≠ d)); have X := a_ ((by rw [hg]; exact Nat.ne_of_gt (blk_lt (bk_ c.out)) : d ≠ y)); replace c := a_ (bq_ c.out hb); clear hb hbox hg; have a8 := W.out; have a9 := o.out; have ba := X.out; have bb := l.out; obtain ⟨_, _, _, _, _, _, _, _, _, _, _, _, _, _, _, _⟩ := cel8_ g.out))
 obtain ⟨w16, hq_⟩ : ∃ x, x = ((((((((w12.setCell ⟨d, 0, none⟩ (.int .i64 a)).setCell ⟨d, 1, none⟩ (.slice none 0 0)).setCell ⟨d, 2, none⟩ (.slice none 0 0)).setCell ⟨d, 3, none⟩ (.slice none 0 0)).setCell ⟨d, 4, none⟩ (.slice none 0 0)).setCell ⟨d, 5, none⟩ (.slice none 0 0)).setCell ⟨d, 6, none⟩ (.int .i64 0)).setCell ⟨d, 7, none⟩ (.slice none 0 0)) := ⟨_, rfl⟩
 replace b : Aside0 (w16.heap[z]? = some (.cells #[.int .u8 u, .slice G m.length c0_1, .slice M r.length c0_2, .slice O s.length c0_3, .int .i16 A, .int .u8 B] 26 (0, 0))) := ⟨by subst hq_; refine bk_ ?_; refine blk_far ?_ o.out _; refine bk_ ?_; refine blk_far ?_ o.out _; refine bk_ ?_; refine blk_far ?_ o.out _; refine bk_ ?_; refine blk_far ?_ o.out _; refine bk_ ?_; refine blk_far ?_ o.out _; refine bk_ ?_; refine blk_far ?_ o.out _; refine bk_ ?_; refine blk_far ?_ o.out _; refine bk_ ?_; refine blk_far ?_ o.out _; refine bk_ ?_; exact b.out⟩
 replace c : Aside0 (w16.heap[y]? = some (.cells #[.int .i64 0, .slice none 0 0, .slice none 0 0, .slice none 0 0, .slice none 0 0, .slice none 0 0, .int .i64 0, .slice none 0 0] 32 (0, 0))) := ⟨by subst hq_; refine bk_ ?_; refine blk_far ?_ l.out _; refine bk_ ?_; refine blk_far ?_ l.out _; refine bk_ ?_; refine blk_far ?_ l.out _; refine bk_ ?_; refine blk_far ?_ l.out _; refine bk_ ?_; refine blk_far ?_ l.out _; refine bk_ ?_; refine blk_far ?_ l.out _; refine bk_ ?_; refine blk_far ?_ l.out _; refine bk_ ?_; refine blk_far ?_ l.out _; refine bk_ ?_; exact c.out⟩
 replace g : Aside0 (w16.heap[d]? = some (.cells #[.int .i64 a, .slice none 0 0, .slice none 0 0, .slice none 0 0, .slice none 0 0, .slice none 0 0, .int .i64 0, .slice none 0 0] 32 (0, 0))) := ⟨by subst hq_; refine bk_ ?_; refine bu_ (cs := #[.int .i64 a, .slice none 0 0, .slice none 0 0, .slice none 0 0, .slice none 0 0, .slice none 0 0, .int .i64 0, .slice none 0 0]) ?_ 7 _ rfl; refine bk_ ?_; refine bu_ (cs := #[.int .i64 a, .slice none 0 0, .slice none 0 0, .slice none 0 0, .slice none 0 0, .slice none 0 0, .int .i64 0, .slice none 0 0]) ?_ 6 _ rfl; refine bk_ ?_; refine bu_ (cs := #[.int .i64 a, .slice none 0 0, .slice none 0 0, .slice none 0 0, .slice none 0 0, .slice none 0 0, .int .i64 0, .slice none 0 0]) ?_ 5 _ rfl; refine bk_ ?_; refine bu_ (cs := #[.int .i64 a, .slice none 0 0, .slice none 0 0, .slice none 0 0, .slice none 0 0, .slice none 0 0, .int .i64 0, .slice none 0 0]) ?_ 4 _ rfl; refine bk_ ?_; refine bu_ (cs := #[.int .i64 a, .slice none 0 0, .slice none 0 0, .slice none 0 0, .slice none 0 0, .slice none 0 0, .int .i64 0, .slice none 0 0]) ?_ 3 _ rfl; refine bk_ ?_; refine bu_ (cs := #[.int .i64 a, .slice none 0 0, .slice none 0 0, .slice none 0 0, .slice none 0 0, .slice none 0 0, .int .i64 0, .slice none 0 0]) ?_ 2 _ rfl; refine bk_ ?_; refine bu_ (cs := #[.int .i64 a, .slice none 0 0, .slice none 0 0, .slice none 0 0, .slice none 0 0, .slice none 0 0, .int .i64 0, .slice none 0 0]) ?_ 1 _ rfl; refine bk_ ?_; refine bu_ (cs := #[.int .i64 0, .slice none 0 0, .slice none 0 0, .slice none 0 0, .slice none 0 0, .slice none 0 0, .int .i64 0, .slice none 0 0]) ?_ 0 _ rfl; refine bk_ ?_; exact g.out⟩
 replace HB : Aside0 (Below w.heap.size w w16) := ⟨by subst hq_; exact bel_⟩
 rw [← hq_]
 clear hq_
 replace b := a_ (blk_drew b.out)
 replace c := a_ (blk_drew c.out)
 replace g := a_ (blk_drew g.out)
 replace HB := a_ (below_drew1 HB.out)
 refine start_ (n := 6) (S := fun w' => w'.cell? ⟨d, 0, none⟩ = some (.int .i64 a) ∧ w'.cell? ⟨d, 1, none⟩ = some (.slice none 0 0) ∧ w'.cell? ⟨d, 2, none⟩ = some (.slice none 0 0) ∧ w'.cell? ⟨d, 3, none⟩ = some (.slice none 0 0) ∧ w'.cell? ⟨d, 4, none⟩ = some (.slice none 0 0) ∧ w'.cell? ⟨d, 5, none⟩ = some (.slice none 0 0) ∧ w'.cell? ⟨d, 6, none⟩ = some (.int .i64 0) ∧ w'.cell? ⟨d, 7, none⟩ = some (.slice none 0 0)) (ds := []) #[false, false, false, false, false, false] kr_ rfl rfl (ca8_ g.out) (fun hHeld => ?_)
 generalize w16.drew = w17 at b c g HB hHeld ⊢
 refine pn_ 1 20 kr_ ?_
 refine tn_ 2 21 kr_ hHeld ?_
 refine onn_ 0 19 #[true, true, true, false, false, false] rfl rfl kr_ (by decide) (fun K hK => ?_)
 refine goes_ Tryz.func35 kr_ rfl #[] (by rfl) rfl rfl ar_ ?_
 with_reducible refine (jigsawref06_Shapes.calls p _ A3.out).mono ?_
 rintro e w18 ⟨bj, rfl, ag, hb⟩
 refine ⟨_, rfl, ?_⟩
 have ar := a_ (Kd.R_lower ag (bz_ bel_))
 replace b := a_ (bq_ b.out hb)
 replace c := a_ (bq_ c.out hb)
 replace g := a_ (bq_ g.out hb)
 replace HB := hq_ hb
 clear hb ag
 obtain ⟨bk, bl, aE⟩ := Kd.R_slice ar.out
 (first | subst aE | (injection aE with f1_ f2_ f3_; have f4_ := f1_.symm; have f5_ := f3_.symm; clear f1_ f2_ f3_; subst f4_; subst f5_))
 have p386 : 0 ≤ ((a) : Int) := dq_
 have ad : (a) < (p.length : Int) := dq_
 obtain ⟨bc, aO, ae⟩ := Kd.at_string (rr_ ar.out).2.2 (a) p386 ad
 cases aO
 replace p386 := et_ p386
 replace ad := et_ ad
 refine hK.out _ _ (ca8_ g.out) (fun hHeld => ?_)
 clear hK K
 refine nor_ (N := some 19) ?_
 refine pn_ 3 22 kr_ ?_
 refine onn_ 4 23 #[true, true, true, true, true, false] rfl rfl kr_ (by decide) (fun K hK => ?_)
 skip
 refine value_ (w1 := ?_) (v := ?_) (by rfl) rfl ?_ ?_
 rotate_left 2
 ·
  go_simp
  constructor
  · rfl
  rfl
 skip
 refine hK.out _ _ (ca8_ g.out) (fun hHeld => ?_)
 clear hK K
 refine nor_ (N := some 23) ?_
 refine pn_ 5 6 kr_ ?_
 refine done_ kr_ ?_
 obtain ⟨_, _, _, _, _, _, _, _, _, _, _, _⟩ := cel6_ b.out
 go_upto_if 28 with (fail)
 go_cut [7] (fun v7 wc => ∃ (kq : Nat) (P : Int), v7 = .int .i64 P ∧ Aside0 (jigsawref06_Make.j0 kq a1 (rdOf ByteArray.empty p (a)) P u m r s A B a 0 = some (r1, r2, r3, r4, r5, r6, r7, r8)) ∧ Aside0 (kq ≤ k) ∧ Aside0 (wc.heap[z]? = some (.cells #[.int .u8 u, (.slice G m.length c0_1), (.slice M r.length c0_2), (.slice O s.length c0_3), .int .i16 A, .int .u8 B] 26 (0, 0))) ∧ Aside0 (wc.heap[y]? = some (.cells #[.int .i64 0, (.slice none 0 0), (.slice none 0 0), (.slice none 0 0), (.slice none 0 0), (.slice none 0 0), .int .i64 0, (.slice none 0 0)] 32 (0, 0))) ∧ Aside0 (wc.heap[d]? = some (.cells #[.int .i64 a, (.slice none 0 0), (.slice none 0 0), (.slice none 0 0), (.slice none 0 0), (.slice none 0 0), .int .i64 0, (.slice none 0 0)] 32 (0, 0))) ∧ Aside0 (Below w.heap.size w wc))
 case first =>
  have H := aD.out
  clear aD
  by_cases c21 : (m.length : Int) < 1
  ·
   rw [ip_ c21] at H
   have c21b0 : decide ((m.length : Int) < 1) = true := dt_ c21
   have c21b1 : decide (m.length < 1) = true := dt_ (by omega)
   clear c21
   (first | rw [c21b0] | (simp only [i64_w, i32_w]; rw [c21b0]) | skip)
   have H' := a_ H
   clear H
   go_wp2
   go_meet
   exact ⟨_, (1), eq_, H', ⟨by first | omega | exact lr_ _⟩, ⟨bk_ b.out⟩, ⟨bk_ c.out⟩, ⟨bk_ g.out⟩, ⟨bel_⟩⟩
  rw [ig_ c21] at H
  have c21b0 : decide ((m.length : Int) < 1) = false := df_ c21
  have c21b1 : decide (m.length < 1) = false := df_ (by omega)
  clear c21
  (first | rw [c21b0] | (simp only [i64_w, i32_w]; rw [c21b0]) | skip)
  have H' := a_ H
  clear H
  go_wp2
  go_meet
  exact ⟨_, ((m.length : Int)), eq_, H', ⟨by first | omega | exact lr_ _⟩, ⟨bk_ b.out⟩, ⟨bk_ c.out⟩, ⟨bk_ g.out⟩, ⟨bel_⟩⟩
 clear aD
 try clear c1
 try clear c2
 try clear p2
 try clear c3
 try clear p3
 try clear q3
 try clear aT
 try clear c5
 try clear c5b0
 try clear c6
 try clear c6b0
 try clear p6
 try clear c10
 try clear c13
 try clear c14
 try clear c18
 try clear c21
 try clear c21b0
 try clear c21b1
 try clear ae
 try clear p386
 try clear ad
 obtain ⟨kq, P, rfl, HA, aN, b, c, g, HB⟩ := hcut
 cases kq with
 | zero => exact absurd HA.out (by simp [jigsawref06_Make.j0])
 | succ kj6 =>
  have H := HA.out
  clear HA
  simp only [jigsawref06_Make.j0] at H
  have ah := a_ H
  clear H
  go_upto_if 30 with (fail)
  go_cut [7] (fun v7 wc => ∃ (kq : Nat) (Q : Int), v7 = .int .i64 Q ∧ Aside0 (jigsawref06_Make.j1 kq a1 (rdOf ByteArray.empty p (a)) Q u m r s A B a 0 = some (r1, r2, r3, r4, r5, r6, r7, r8)) ∧ Aside0 (kq ≤ kj6) ∧ Aside0 (wc.heap[z]? = some (.cells #[.int .u8 u, (.slice G m.length c0_1), (.slice M r.length c0_2), (.slice O s.length c0_3), .int .i16 A, .int .u8 B] 26 (0, 0))) ∧ Aside0 (wc.heap[y]? = some (.cells #[.int .i64 0, (.slice none 0 0), (.slice none 0 0), (.slice none 0 0), (.slice none 0 0), (.slice none 0 0), .int .i64 0, (.slice none 0 0)] 32 (0, 0))) ∧ Aside0 (wc.heap[d]? = some (.cells #[.int .i64 a, (.slice none 0 0), (.slice none 0 0), (.slice none 0 0), (.slice none 0 0), (.slice none 0 0), .int .i64 0, (.slice none 0 0)] 32 (0, 0))) ∧ Aside0 (Below w.heap.size w wc))
  case first =>
   have H := ah.out
   clear ah
   by_cases c23 : P > 4
   ·
    rw [ip_ c23] at H
    have c23b0 : decide (4 < P) = true := dt_ c23
    clear c23
    (first | rw [c23b0] | (simp only [i64_w, i32_w]; rw [c23b0]) | skip)
    have H' := a_ H
    clear H
    go_wp2
    go_meet
    exact ⟨_, (4), eq_, H', ⟨by have := aN.out; first | omega | exact lr_ _⟩, ⟨bk_ b.out⟩, ⟨bk_ c.out⟩, ⟨bk_ g.out⟩, ⟨bel_⟩⟩
   rw [ig_ c23] at H
   have c23b0 : decide (4 < P) = false := df_ c23
   clear c23
   (first | rw [c23b0] | (simp only [i64_w, i32_w]; rw [c23b0]) | skip)
   have H' := a_ H
   clear H
   go_wp2
   go_meet
   exact ⟨_, (P), eq_, H', ⟨by have := aN.out; first | omega | exact lr_ _⟩, ⟨bk_ b.out⟩, ⟨bk_ c.out⟩, ⟨bk_ g.out⟩, ⟨bel_⟩⟩
  clear ah
  try clear c1
  try clear c2
  try clear p2
  try clear c3
  try clear p3
  try clear q3
  try clear aT
  try clear c5
  try clear c5b0
  try clear c6
  try clear c6b0
  try clear p6
  try clear c10
  try clear c13
  try clear c14
  try clear c18
  try clear c21
  try clear c21b0
  try clear c21b1
  try clear c23
  try clear c23b0
  try clear ae
  try clear p2
  try clear p3
  try clear p386
  try clear p6
  try clear q3
  try clear ad
  obtain ⟨kq, Q, rfl, HA, bm, b, c, g, HB⟩ := hcut
  cases kq with
  | zero => exact absurd HA.out (by simp [jigsawref06_Make.j1])
  | succ kj21 =>
   have H := HA.out
   clear HA
   simp only [jigsawref06_Make.j1] at H
   replace H := bo_ H
   obtain ⟨ai, aU, H⟩ := H
   try dsimp only at H
   by_cases c25 : ai > 0
   ·
    rw [ip_ c25] at H
    exact ab_ H
   rw [ig_ c25] at H
   have c25b0 : decide (0 < ai) = false := df_ c25
   clear c25
   replace H := bo_ H
   obtain ⟨F, aV, H⟩ := H
   try dsimp only at H
   replace H := bo_ H
   obtain ⟨aj, aW, H⟩ := H
   try dsimp only at H
   by_cases c28 : aj > 0
   ·
    rw [ip_ c28] at H
    exact ab_ H
   rw [ig_ c28] at H
   have c28b0 : decide (0 < aj) = false := df_ c28
   clear c28
   replace H := bo_ H
   obtain ⟨ak, aX, H⟩ := H
   try dsimp only at H
   by_cases c30 : ak > 0
   ·
    rw [ip_ c30] at H
    exact ab_ H
   rw [ig_ c30] at H
   have c30b0 : decide (0 < ak) = false := df_ c30
   clear c30
   replace H := bo_ H
   obtain ⟨al, aY, H⟩ := H
   try dsimp only at H
   by_cases c32 : al > 0
   ·
    rw [ip_ c32] at H
    exact ab_ H
   rw [ig_ c32] at H
   have c32b0 : decide (0 < al) = false := df_ c32
   clear c32
   by_cases c33 : a = 11
   ·
    rw [ip_ c33] at H
    exact ab_ H
   rw [ig_ c33] at H
   have c33b0 : (a == 11) = false := be_.mpr c33
   have c33b1 : (a != 11) = true := ni_.mpr c33
   replace H := bo_ H
   obtain ⟨am, aZ, H⟩ := H
   try dsimp only at H
   by_cases c35 : am > 0
   ·
    rw [ip_ c35] at H
    exact ab_ H
   rw [ig_ c35] at H
   have c35b0 : decide (0 < am) = false := df_ c35
   clear c35
   by_cases c36 : a = 19
   ·
    rw [ip_ c36] at H
    exact ab_ H
   rw [ig_ c36] at H
   have c36b0 : (a == 19) = false := be_.mpr c36
   have c36b1 : (a != 19) = true := ni_.mpr c36
   by_cases c37 : a = 21
   ·
    rw [ip_ c37] at H
    exact ab_ H
   rw [ig_ c37] at H
   have c37b0 : (a == 21) = false := be_.mpr c37
   have c37b1 : (a != 21) = true := ni_.mpr c37
   by_cases c38 : a = 18
   ·
    rw [ip_ c38] at H
    exact ab_ H
   rw [ig_ c38] at H
   have c38b0 : (a == 18) = false := be_.mpr c38
   have c38b1 : (a != 18) = true := ni_.mpr c38
   simp only [Option.some.injEq, Prod.mk.injEq] at H
   obtain ⟨rfl, rfl, rfl, rfl, rfl, rfl, rfl, rfl⟩ := H
   go_wp2_with (first | ((with_reducible refine gate_callee (f := 36) rfl ?_); refine goesL_ (some 32) rfl rfl Tryz.func36 kr_ rfl #[.string (rdOf ByteArray.empty p (a)), .int .u8 118] rfl (by (try simp only [List.map_toArray, List.map_cons, List.map_nil]); first | done | (simp only [E]; rfl) | rfl | (simp only [List.length_drop, List.length_take]; rfl)) ?_; (with_reducible refine (jigsawref06_has.calls kj21 (rdOf ByteArray.empty p (a)) 118 ai _ aU.out).mono ?_); rintro e w' ⟨rfl, ⟨nd, rfl⟩⟩; refine ⟨_, rfl, ?_⟩; (try (rw [drewN_self wc]; generalize hq_ : World.drewN wc _ = wc; replace b : Aside0 (wc.heap[z]? = some (.cells #[.int .u8 u, .slice G m.length c0_1, .slice M r.length c0_2, .slice O s.length c0_3, .int .i16 A, .int .u8 B] 26 (0, 0))) := ⟨by rw [← hq_]; exact (bk_ b.out)⟩; replace c : Aside0 (wc.heap[y]? = some (.cells #[.int .i64 0, .slice none 0 0, .slice none 0 0, .slice none 0 0, .slice none 0 0, .slice none 0 0, .int .i64 0, .slice none 0 0] 32 (0, 0))) := ⟨by rw [← hq_]; exact (bk_ c.out)⟩; replace g : Aside0 (wc.heap[d]? = some (.cells #[.int .i64 a, .slice none 0 0, .slice none 0 0, .slice none 0 0, .slice none 0 0, .slice none 0 0, .int .i64 0, .slice none 0 0] 32 (0, 0))) := ⟨by rw [← hq_]; exact (bk_ g.out)⟩; replace HB : Aside0 (Below w.heap.size w wc) := ⟨by rw [← hq_]; exact bel_⟩; clear hq_)); (try (obtain ⟨_, _, _, _, _, _, _, _, _, _, _, _⟩ := cel6_ b.out)); (try (obtain ⟨_, _, _, _, _, _, _, _, _, _, _, _, _, _, _, _⟩ := cel8_ c.out)); (try (obtain ⟨_, _, _, _, _, _, _, _, _, _, _, _, _, _, _, _⟩ := cel8_ g.out)); have bd := U.out; have be := V.out; have bf := o.out; have bg := W.out; obtain ⟨_, _, _, _, _, _, _, _, _, _, _, _⟩ := cel6_ b.out) | ((with_reducible refine gate_callee (f := 37) rfl ?_); refine goesL_ (some 40) rfl rfl Tryz.func37 kr_ rfl #[.slice G m.length c0_1, .int .i64 Q, .int .i64 a1] rfl ar_ ?_; (with_reducible refine (jigsawref06_places.calls kj21 _ _ m Q a1 F _ ?_ ?_ aV.out).mono ?_); exact ca_ ((cb_ aH.out HB.out)); exact aI.out; rintro e w45 ⟨bn, rfl, ag, hb⟩; refine ⟨_, rfl, ?_⟩; have au := a_ (Kd.R_lower ag (bz_ bel_)); replace c := a_ (bq_ c.out hb); replace g := a_ (bq_ g.out hb); replace HB := hq_ hb; clear hb ag; obtain ⟨I, J, aQ⟩ := Kd.R_slice au.out; subst aQ; have bh := X.out; have bi := l.out; obtain ⟨_, _, _, _, _, _, _, _, _, _, _, _, _, _, _, _⟩ := cel8_ g.out) | ((with_reducible refine gate_callee (f := 36) rfl ?_); refine goesL_ (some 43) rfl rfl Tryz.func36 kr_ rfl #[.string (rdOf ByteArray.empty p (a)), .int .u8 119] rfl (by (try simp only [List.map_toArray, List.map_cons, List.map_nil]); first | done | (simp only [E]; rfl) | rfl | (simp only [List.length_drop, List.length_take]; rfl)) ?_; (with_reducible refine (jigsawref06_has.calls kj21 (rdOf ByteArray.empty p (a)) 119 aj _ aW.out).mono ?_); rintro e w' ⟨rfl, ⟨nd, rfl⟩⟩; refine ⟨_, rfl, ?_⟩) | ((with_reducible refine gate_callee (f := 36) rfl ?_); refine goesL_ (some 51) rfl rfl Tryz.func36 kr_ rfl #[.string (rdOf ByteArray.empty p (a)), .int .u8 87] rfl (by (try simp only [List.map_toArray, List.map_cons, List.map_nil]); first | done | (simp only [E]; rfl) | rfl | (simp only [List.length_drop, List.length_take]; rfl)) ?_; (with_reducible refine (jigsawref06_has.calls kj21 (rdOf ByteArray.empty p (a)) 87 ak _ aX.out).mono ?_); rintro e w' ⟨rfl, ⟨nd, rfl⟩⟩; refine ⟨_, rfl, ?_⟩) | ((with_reducible refine gate_callee (f := 36) rfl ?_); refine goesL_ (some 60) rfl rfl Tryz.func36 kr_ rfl #[.string (rdOf ByteArray.empty p (a)), .int .u8 99] rfl (by (try simp only [List.map_toArray, List.map_cons, List.map_nil]); first | done | (simp only [E]; rfl) | rfl | (simp only [List.length_drop, List.length_take]; rfl)) ?_; (with_reducible refine (jigsawref06_has.calls kj21 (rdOf ByteArray.empty p (a)) 99 al _ aY.out).mono ?_); rintro e w' ⟨rfl, ⟨nd, rfl⟩⟩; refine ⟨_, rfl, ?_⟩) | ((with_reducible refine gate_callee (f := 36) rfl ?_); refine goesL_ (some 80) rfl rfl Tryz.func36 kr_ rfl #[.string (rdOf ByteArray.empty p (a)), .int .u8 107] rfl (by (try simp only [List.map_toArray, List.map_cons, List.map_nil]); first | done | (simp only [E]; rfl) | rfl | (simp only [List.length_drop, List.length_take]; rfl)) ?_; (with_reducible refine (jigsawref06_has.calls kj21 (rdOf ByteArray.empty p (a)) 107 am _ aZ.out).mono ?_); rintro e w' ⟨rfl, ⟨nd, rfl⟩⟩; refine ⟨_, rfl, ?_⟩; obtain ⟨_, _, _, _, _, _, _, _, _, _, _, _, _, _, _, _⟩ := cel8_ c.out))
   refine bodyPost_ret (results_cell_row rfl _ _ y 32 #[.int .i64 a, .slice I F.length J, .slice none 0 0, .slice none 0 0, .slice none 0 0, .slice none 0 0, .int .i64 0, .slice none 0 0] (0, 0) _ rfl (by refine bk_ ?_; refine bu_ (cs := #[.int .i64 a, .slice I F.length J, .slice none 0 0, .slice none 0 0, .slice none 0 0, .slice none 0 0, .int .i64 0, .slice none 0 0]) ?_ 7 _ rfl; refine bk_ ?_; refine bu_ (cs := #[.int .i64 a, .slice I F.length J, .slice none 0 0, .slice none 0 0, .slice none 0 0, .slice none 0 0, .int .i64 0, .slice none 0 0]) ?_ 6 _ rfl; refine bk_ ?_; refine bu_ (cs := #[.int .i64 a, .slice I F.length J, .slice none 0 0, .slice none 0 0, .slice none 0 0, .slice none 0 0, .int .i64 0, .slice none 0 0]) ?_ 5 _ rfl; refine bk_ ?_; refine bu_ (cs := #[.int .i64 a, .slice I F.length J, .slice none 0 0, .slice none 0 0, .slice none 0 0, .slice none 0 0, .int .i64 0, .slice none 0 0]) ?_ 4 _ rfl; refine bk_ ?_; refine bu_ (cs := #[.int .i64 a, .slice I F.length J, .slice none 0 0, .slice none 0 0, .slice none 0 0, .slice none 0 0, .int .i64 0, .slice none 0 0]) ?_ 3 _ rfl; refine bk_ ?_; refine bu_ (cs := #[.int .i64 a, .slice I F.length J, .slice none 0 0, .slice none 0 0, .slice none 0 0, .slice none 0 0, .int .i64 0, .slice none 0 0]) ?_ 2 _ rfl; refine bk_ ?_; refine bu_ (cs := #[.int .i64 a, .slice none 0 0, .slice none 0 0, .slice none 0 0, .slice none 0 0, .slice none 0 0, .int .i64 0, .slice none 0 0]) ?_ 1 _ rfl; refine bk_ ?_; refine bu_ (cs := #[.int .i64 0, .slice none 0 0, .slice none 0 0, .slice none 0 0, .slice none 0 0, .slice none 0 0, .int .i64 0, .slice none 0 0]) ?_ 0 _ rfl; refine bk_ ?_; refine blk_far ?_ l.out _; refine bk_ ?_; exact c.out) Tryz.underlying32 rfl kr_) rfl ?_
   exact ⟨_, _, _, _, _, _, by first | rfl | (simp [errW_none, errW_some] <;> rfl) | (simp only [← E]; first | rfl | (simp [errW_none, errW_some] <;> rfl)) | (simp [*, errW_none, errW_some] <;> rfl), by refine vR_ ?_; exact rm_ (fR_ (fR_ (fR_ (fR_ (fR_ (fR_ (fR_ (fR_ (Kd.R_far (rt_ (rt_ au.out g.out (by decide)) c.out (by decide)) (fun _ hk => hk.1.2) (.slice I F.length J)))))))))) (fun _ hk => ⟨(by simp [Value.ownBlock]), ⟨(by simp [Value.ownBlock]), ⟨(by simp [Value.ownBlock]), (by simp [Value.ownBlock])⟩⟩⟩), by first | exact Kd.R_nil _ _ _ _ _ | exact Kd.N_nil _ _ _ _ _ | exact Kd.V_nil _ _ _ _ _ | exact Kd.Q_nil _ _ _ _ _ | exact Kd.S_nil _ _ _ _ _, by first | exact Kd.R_nil _ _ _ _ _ | exact Kd.N_nil _ _ _ _ _ | exact Kd.V_nil _ _ _ _ _ | exact Kd.Q_nil _ _ _ _ _ | exact Kd.S_nil _ _ _ _ _, by first | exact Kd.R_nil _ _ _ _ _ | exact Kd.N_nil _ _ _ _ _ | exact Kd.V_nil _ _ _ _ _ | exact Kd.Q_nil _ _ _ _ _ | exact Kd.S_nil _ _ _ _ _, by first | exact Kd.R_nil _ _ _ _ _ | exact Kd.N_nil _ _ _ _ _ | exact Kd.V_nil _ _ _ _ _ | exact Kd.Q_nil _ _ _ _ _ | exact Kd.S_nil _ _ _ _ _, by first | exact Kd.S_nil _ _ _ _ _ | exact Kd.N_nil _ _ _ _ _ | exact Kd.V_nil _ _ _ _ _ | exact Kd.Q_nil _ _ _ _ _ | exact Kd.R_nil _ _ _ _ _, bel_⟩

end Go.Proofs.YtckfbfdnlpnllaaGreatDoor.XAllDiffFixed
