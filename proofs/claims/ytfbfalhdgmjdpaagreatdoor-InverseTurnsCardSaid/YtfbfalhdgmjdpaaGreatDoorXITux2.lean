-- by xprint.py, a program of this session, over the kit's print
import Derived.Test.YtfbfalhdgmjdpaaGreatDoorXITux0
import Derived.Test.YtfbfalhdgmjdpaaGreatDoorXITux1
import Derived.Test.YtfbfalhdgmjdpaaGreatDoorSq
namespace Go.Proofs.YtfbfalhdgmjdpaaGreatDoor.XInverseTurns
open Go.RowKit Go.Proofs.YtfbfalhdgmjdpaaGreatDoor.Sq Go.Proofs.YtfbfalhdgmjdpaaGreatDoorW.PrintWords Go.Proofs.YtfbfalhdgmjdpaaGreatDoorW.PrintLast Go.Proofs.YtfbfalhdgmjdpaaGreatDoorW.PrintMore
attribute [local go_sem] max2_int min2_int max_two min_two max_three min_three max_four min_four   -- for this text's walks alone
set_option linter.unusedVariables false
set_option linter.unusedSimpArgs false

/-! ### jigsawref06_Make: function 18 -/
mutual
def jigsawref06_Make.j0 : Nat → Int → ByteArray → Int → Int → List Int → List Int → List Int → Int → Int → Int → Int → Option (Int × List Int × List Int × List Int × List Int × List Int × Int × (List (List Int)))
 | 0, _, _, _, _, _, _, _, _, _, _, _ => none
 | k + 1, m, n, o, a, b, c, d, e, f, g, l => if o > 4 then (jigsawref06_Make.j1 k m n 4 a b c d e f g l) else (jigsawref06_Make.j1 k m n o a b c d e f g l)
def jigsawref06_Make.j1 : Nat → Int → ByteArray → Int → Int → List Int → List Int → List Int → Int → Int → Int → Int → Option (Int × List Int × List Int × List Int × List Int × List Int × Int × (List (List Int)))
 | 0, _, _, _, _, _, _, _, _, _, _, _ => none
 | k + 1, v, e, x, r, b, c, s, t, u, a, d => (jigsawref06_has.f k e 118).bind fun g => (if g > 0 then (none) else ((jigsawref06_places.f k b x v).bind fun l => ((jigsawref06_has.f k e 119).bind fun m => (if m > 0 then (none) else ((jigsawref06_has.f k e 87).bind fun n => (if n > 0 then ((jigsawref06_places.f k c x v).bind fun o => ((jigsawref06_has.f k e 99).bind fun p => (if p > 0 then (none) else (if a = 11 then (none) else ((jigsawref06_has.f k e 107).bind fun q => (if q > 0 then (none) else (if a = 19 then (none) else (if a = 21 then (none) else (if a = 18 then (none) else (some (a, l, o, ([] : List Int), ([] : List Int), ([] : List Int), d, ([] : List (List Int))))))))))))) else (none)))))))
end
def jigsawref06_Make.f (k : Nat) (a : Int) (b : List Int) (d : List Int) (e : List Int) (g : Int) (l : Int) (m : Int) : Option (Int × List Int × List Int × List Int × List Int × List Int × Int × (List (List Int))) := (jigsawref06_Shapes.f).bind fun c => (if 0 ≤ (wrap64 (1 + (Int.tmod (wrap64 (a)) 23))) then (if (wrap64 (1 + (Int.tmod (wrap64 (a)) 23))) < (c.length : Int) then (if (b.length : Int) < 1 then (jigsawref06_Make.j0 k m (rdOf ByteArray.empty c (wrap64 (1 + (Int.tmod (wrap64 (a)) 23)))) 1 a b d e g l (wrap64 (1 + (Int.tmod (wrap64 (a)) 23))) 0) else (jigsawref06_Make.j0 k m (rdOf ByteArray.empty c (wrap64 (1 + (Int.tmod (wrap64 (a)) 23)))) (b.length : Int) a b d e g l (wrap64 (1 + (Int.tmod (wrap64 (a)) 23))) 0)) else (none)) else (none))
theorem jigsawref06_Make.mono_l : ∀ k, (∀ b c d e f g l m n o a, LeO (jigsawref06_Make.j0 k b c d e f g l m n o a) (jigsawref06_Make.j0 (k + 1) b c d e f g l m n o a)) ∧ (∀ b c d e f g l m n o a, LeO (jigsawref06_Make.j1 k b c d e f g l m n o a) (jigsawref06_Make.j1 (k + 1) b c d e f g l m n o a))
 | 0 => by refine ⟨?_, ?_⟩ <;> (intros; exact LeO.none _)
 | k + 1 => by
  obtain ⟨ih0, ih1⟩ := jigsawref06_Make.mono_l k
  have m0 := @jigsawref06_has.mono
  have m1 := @jigsawref06_places.mono
  refine ⟨?_, ?_⟩ <;> intros
  all_goals first | unfold jigsawref06_Make.j0 | unfold jigsawref06_Make.j1
  all_goals exact leo_
theorem jigsawref06_Make.mono : ∀ a b c d e g l k, LeO (jigsawref06_Make.f k a b c d e g l) (jigsawref06_Make.f (k + 1) a b c d e g l) := by
 intro a b c d e g l k
 obtain ⟨ih0, ih1⟩ := jigsawref06_Make.mono_l k
 unfold jigsawref06_Make.f
 have m0 := @jigsawref06_has.mono
 have m1 := @jigsawref06_places.mono
 exact leo_
set_option maxHeartbeats 8000000 in
set_option maxRecDepth 100000 in
theorem jigsawref06_Make.calls (k : Nat) (A : Int) (O : Option Addr) (c0_1 : Nat) (p : List Int) (P : Option Addr) (c0_2 : Nat) (s : List Int) (X : Option Addr) (c0_3 : Nat) (y : List Int) (E : Int) (F : Int) (a1 : Int) (r1 : Int) (r2 : List Int) (r3 : List Int) (r4 : List Int) (r5 : List Int) (r6 : List Int) (r7 : Int) (r8 : List (List Int)) (w : World) (av : Kd.C (Kd.int .u8) w O p.length p) (aw : p.length ≤ c0_1) (ax : Kd.C (Kd.int .u8) w P s.length s) (ay : s.length ≤ c0_2) (aM : Kd.C (Kd.int .i8) w X y.length y) (az : y.length ≤ c0_3) (h : jigsawref06_Make.f k A p s y E F a1 = some (r1, r2, r3, r4, r5, r6, r7, r8)) :
  Calls Tryz.prog 18 #[.agg #[.int .u8 A, .slice O p.length c0_1, .slice P s.length c0_2, .slice X y.length c0_3, .int .i16 E, .int .u8 F], .int .i64 a1] w fun e w' => ∃ af ag ah ai aj aU : Value, e = .returned (.agg #[.int .i64 r1, af, ag, ah, ai, aj, .int .i64 r7, aU]) ∧ Kd.R (Kd.int .i64) 3 w' w.heap.size (fun u => some u ≠ ag.ownBlock ∧ some u ≠ ah.ownBlock ∧ some u ≠ ai.ownBlock ∧ some u ≠ aj.ownBlock) af r2 ∧ Kd.R (Kd.int .i64) 3 w' w.heap.size (fun u => some u ≠ af.ownBlock ∧ some u ≠ ah.ownBlock ∧ some u ≠ ai.ownBlock ∧ some u ≠ aj.ownBlock) ag r3 ∧ Kd.R (Kd.int .i64) 3 w' w.heap.size (fun u => some u ≠ af.ownBlock ∧ some u ≠ ag.ownBlock ∧ some u ≠ ai.ownBlock ∧ some u ≠ aj.ownBlock) ah r4 ∧ Kd.R (Kd.int .i64) 3 w' w.heap.size (fun u => some u ≠ af.ownBlock ∧ some u ≠ ag.ownBlock ∧ some u ≠ ah.ownBlock ∧ some u ≠ aj.ownBlock) ai r5 ∧ Kd.R (Kd.int .i64) 3 w' w.heap.size (fun u => some u ≠ af.ownBlock ∧ some u ≠ ag.ownBlock ∧ some u ≠ ah.ownBlock ∧ some u ≠ ai.ownBlock) aj r6 ∧ Kd.S (Kd.slice 3 (Kd.int .i64)) 30 w' w.heap.size (fun u => some u ≠ af.ownBlock ∧ some u ≠ ag.ownBlock ∧ some u ≠ ah.ownBlock ∧ some u ≠ ai.ownBlock ∧ some u ≠ aj.ownBlock) aU r8 ∧ Below w.heap.size w w' := by
 have hu26 := Tryz.underlying26
 have hu32 := Tryz.underlying32
 have aN := a_ av
 have aO := a_ aw
 clear av aw
 have aP := a_ ax
 have aQ := a_ ay
 clear ax ay
 have bd := a_ az
 clear aM az
 have HB := a_ (Below.refl w.heap.size w)
 unfold jigsawref06_Make.f at h
 have H := h
 clear h
 replace H := bo_ H
 obtain ⟨r, A3, H⟩ := H
 try dsimp only at H
 obtain ⟨a, G⟩ : ∃ j_ : Int, (wrap64 (1 + (Int.tmod (wrap64 (A)) 23))) = j_ := ⟨_, rfl⟩
 replace H : (if 0 ≤ (a) then (if (a) < (r.length : Int) then (if (p.length : Int) < 1 then (jigsawref06_Make.j0 k a1 (rdOf ByteArray.empty r (a)) 1 A p s y E F a 0) else (jigsawref06_Make.j0 k a1 (rdOf ByteArray.empty r (a)) (p.length : Int) A p s y E F a 0)) else (none)) else (none)) = some (r1, r2, r3, r4, r5, r6, r7, r8) := by first | (rw [G] at H; exact H) | (simp only [G] at H ⊢; exact H)
 (try rw [G] at A3)
 have hji4w : (IntKind.i64.wrap (1 + (Int.tmod (wrap64 (A)) 23))) = a := (i64_w _).trans G
 by_cases c5 : 0 ≤ (a)
 rotate_left
 ·
  rw [ig_ c5] at H
  exact ab_ H
 rw [ip_ c5] at H
 have c5b0 : decide (0 ≤ (a)) = true := dt_ c5
 clear c5
 by_cases c6 : (a) < (r.length : Int)
 rotate_left
 ·
  rw [ig_ c6] at H
  exact ab_ H
 rw [ip_ c6] at H
 have c6b0 : decide ((a) < (r.length : Int)) = true := dt_ c6
 clear c6
 have aK := a_ H
 clear H
 go_enter Tryz.func18, Tryz.ntmps18
 try go_wp2_with (first | ((with_reducible refine gate_dst (N := 2) rfl ?_); refine bxe_ (N := 2) (cs := #[.int .u8 A, .slice O p.length c0_1, .slice P s.length c0_2, .slice X y.length c0_3, .int .i16 E, .int .u8 F]) (t := 26) ?_; intro B hg w8 hbox hb; have b := a_ (hbox); have aR := a_ (by rw [hg]; exact (bz_ bel_) : w.heap.size ≤ B); have be := aR; replace HB := hq_ hb; clear hb hbox hg) | ((with_reducible refine gate_dst (N := 4) rfl ?_); refine bxe_ (N := 4) (cs := #[.int .i64 0, .slice none 0 0, .slice none 0 0, .slice none 0 0, .slice none 0 0, .slice none 0 0, .int .i64 0, .slice none 0 0]) (t := 32) ?_; intro z hg w9 hbox hb; have d := a_ (hbox); have aS := a_ (by rw [hg]; exact (bz_ bel_) : w.heap.size ≤ z); have bf := aS; replace HB := hq_ hb; have ab := a_ ((by rw [hg]; exact Nat.ne_of_lt (blk_lt (bk_ b.out)) : B ≠ z)); have ac := a_ ((by rw [hg]; exact Nat.ne_of_gt (blk_lt (bk_ b.out)) : z ≠ B)); replace b := a_ (bq_ b.out hb); clear hb hbox hg; have bg := ab.out; have bh := ac.out; obtain ⟨_, _, _, _, _, _, _, _, _, _, _, _⟩ := cel6_ b.out) | ((with_reducible refine gate_dst (N := 5) rfl ?_); refine bxe_ (N := 5) (cs := #[.int .i64 0, .slice none 0 0, .slice none 0 0, .slice none 0 0, .slice none 0 0, .slice none 0 0, .int .i64 0, .slice none 0 0]) (t := 32) ?_; intro l hg w12 hbox hb; have c := a_ (hbox); have aT := a_ (by rw [hg]; exact (bz_ bel_) : w.heap.size ≤ l); have bi := aT; replace HB := hq_ hb; have q := a_ ((by rw [hg]; exact Nat.ne_of_lt (blk_lt (bk_ b.out)) : B ≠ l)); have ad := a_ ((by rw [hg]; exact Nat.ne_of_gt (blk_lt (bk_ b.out)) : l ≠ B)); replace b := a_ (bq_ b.out hb); have m := a_ ((by rw [hg]; exact Nat.ne_of_lt (blk_lt (bk_ d.out)) : z ≠ l)); have ae := a_ ((by rw [hg]; exact Nat.ne_of_gt (blk_lt (bk_ d.out)) : l ≠ z)); replace d := a_ (bq_ d.out hb); clear hb hbox hg; have bj := ad.out; have bk := q.out; have bl := ae.out; have bm := m.out; obtain ⟨_, _, _, _, _, _, _, _, _, _, _, _, _, _, _, _⟩ := cel8_ c.out))
 obtain ⟨w16, hq_⟩ : ∃ x, x = ((((((((w12.setCell ⟨l, 0, none⟩ (.int .i64 a)).setCell ⟨l, 1, none⟩ (.slice none 0 0)).setCell ⟨l, 2, none⟩ (.slice none 0 0)).setCell ⟨l, 3, none⟩ (.slice none 0 0)).setCell ⟨l, 4, none⟩ (.slice none 0 0)).setCell ⟨l, 5, none⟩ (.slice none 0 0)).setCell ⟨l, 6, none⟩ (.int .i64 0)).setCell ⟨l, 7, none⟩ (.slice none 0 0)) := ⟨_, rfl⟩
 replace b : Aside0 (w16.heap[B]? = some (.cells #[.int .u8 A, .slice O p.length c0_1, .slice P s.length c0_2, .slice X y.length c0_3, .int .i16 E, .int .u8 F] 26 (0, 0))) := ⟨by subst hq_; refine bk_ ?_; refine blk_far ?_ q.out _; refine bk_ ?_; refine blk_far ?_ q.out _; refine bk_ ?_; refine blk_far ?_ q.out _; refine bk_ ?_; refine blk_far ?_ q.out _; refine bk_ ?_; refine blk_far ?_ q.out _; refine bk_ ?_; refine blk_far ?_ q.out _; refine bk_ ?_; refine blk_far ?_ q.out _; refine bk_ ?_; refine blk_far ?_ q.out _; refine bk_ ?_; exact b.out⟩
 replace d : Aside0 (w16.heap[z]? = some (.cells #[.int .i64 0, .slice none 0 0, .slice none 0 0, .slice none 0 0, .slice none 0 0, .slice none 0 0, .int .i64 0, .slice none 0 0] 32 (0, 0))) := ⟨by subst hq_; refine bk_ ?_; refine blk_far ?_ m.out _; refine bk_ ?_; refine blk_far ?_ m.out _; refine bk_ ?_; refine blk_far ?_ m.out _; refine bk_ ?_; refine blk_far ?_ m.out _; refine bk_ ?_; refine blk_far ?_ m.out _; refine bk_ ?_; refine blk_far ?_ m.out _; refine bk_ ?_; refine blk_far ?_ m.out _; refine bk_ ?_; refine blk_far ?_ m.out _; refine bk_ ?_; exact d.out⟩
 replace c : Aside0 (w16.heap[l]? = some (.cells #[.int .i64 a, .slice none 0 0, .slice none 0 0, .slice none 0 0, .slice none 0 0, .slice none 0 0, .int .i64 0, .slice none 0 0] 32 (0, 0))) := ⟨by subst hq_; refine bk_ ?_; refine bu_ (cs := #[.int .i64 a, .slice none 0 0, .slice none 0 0, .slice none 0 0, .slice none 0 0, .slice none 0 0, .int .i64 0, .slice none 0 0]) ?_ 7 _ rfl; refine bk_ ?_; refine bu_ (cs := #[.int .i64 a, .slice none 0 0, .slice none 0 0, .slice none 0 0, .slice none 0 0, .slice none 0 0, .int .i64 0, .slice none 0 0]) ?_ 6 _ rfl; refine bk_ ?_; refine bu_ (cs := #[.int .i64 a, .slice none 0 0, .slice none 0 0, .slice none 0 0, .slice none 0 0, .slice none 0 0, .int .i64 0, .slice none 0 0]) ?_ 5 _ rfl; refine bk_ ?_; refine bu_ (cs := #[.int .i64 a, .slice none 0 0, .slice none 0 0, .slice none 0 0, .slice none 0 0, .slice none 0 0, .int .i64 0, .slice none 0 0]) ?_ 4 _ rfl; refine bk_ ?_; refine bu_ (cs := #[.int .i64 a, .slice none 0 0, .slice none 0 0, .slice none 0 0, .slice none 0 0, .slice none 0 0, .int .i64 0, .slice none 0 0]) ?_ 3 _ rfl; refine bk_ ?_; refine bu_ (cs := #[.int .i64 a, .slice none 0 0, .slice none 0 0, .slice none 0 0, .slice none 0 0, .slice none 0 0, .int .i64 0, .slice none 0 0]) ?_ 2 _ rfl; refine bk_ ?_; refine bu_ (cs := #[.int .i64 a, .slice none 0 0, .slice none 0 0, .slice none 0 0, .slice none 0 0, .slice none 0 0, .int .i64 0, .slice none 0 0]) ?_ 1 _ rfl; refine bk_ ?_; refine bu_ (cs := #[.int .i64 0, .slice none 0 0, .slice none 0 0, .slice none 0 0, .slice none 0 0, .slice none 0 0, .int .i64 0, .slice none 0 0]) ?_ 0 _ rfl; refine bk_ ?_; exact c.out⟩
 replace HB : Aside0 (Below w.heap.size w w16) := ⟨by subst hq_; exact bel_⟩
 rw [← hq_]
 clear hq_
 replace b := a_ (blk_drew b.out)
 replace d := a_ (blk_drew d.out)
 replace c := a_ (blk_drew c.out)
 replace HB := a_ (below_drew1 HB.out)
 refine start_ (n := 6) (S := fun w' => w'.cell? ⟨l, 0, none⟩ = some (.int .i64 a) ∧ w'.cell? ⟨l, 1, none⟩ = some (.slice none 0 0) ∧ w'.cell? ⟨l, 2, none⟩ = some (.slice none 0 0) ∧ w'.cell? ⟨l, 3, none⟩ = some (.slice none 0 0) ∧ w'.cell? ⟨l, 4, none⟩ = some (.slice none 0 0) ∧ w'.cell? ⟨l, 5, none⟩ = some (.slice none 0 0) ∧ w'.cell? ⟨l, 6, none⟩ = some (.int .i64 0) ∧ w'.cell? ⟨l, 7, none⟩ = some (.slice none 0 0)) (ds := []) #[false, false, false, false, false, false] kr_ rfl rfl (ca8_ c.out) (fun hHeld => ?_)
 generalize w16.drew = w17 at b d c HB hHeld ⊢
 refine pn_ 1 20 kr_ ?_
 refine tn_ 2 21 kr_ hHeld ?_
 refine onn_ 0 19 #[true, true, true, false, false, false] rfl rfl kr_ (by decide) (fun K hK => ?_)
 refine goes_ Tryz.func36 kr_ rfl #[] (by rfl) rfl rfl ar_ ?_
 with_reducible refine (jigsawref06_Shapes.calls r _ A3.out).mono ?_
 rintro e w18 ⟨bv, rfl, Z, hb⟩
 refine ⟨_, rfl, ?_⟩
 have aA := a_ (Kd.R_lower Z (bz_ bel_))
 replace b := a_ (bq_ b.out hb)
 replace d := a_ (bq_ d.out hb)
 replace c := a_ (bq_ c.out hb)
 replace HB := hq_ hb
 clear hb Z
 obtain ⟨bw, bx, aL⟩ := Kd.R_slice aA.out
 (first | subst aL | (injection aL with f1_ f2_ f3_; have f4_ := f1_.symm; have f5_ := f3_.symm; clear f1_ f2_ f3_; subst f4_; subst f5_))
 have p117 : 0 ≤ ((a) : Int) := dq_
 have ak : (a) < (r.length : Int) := dq_
 obtain ⟨bn, aX, am⟩ := Kd.at_string (rr_ aA.out).2.2 (a) p117 ak
 cases aX
 replace p117 := et_ p117
 replace ak := et_ ak
 refine hK.out _ _ (ca8_ c.out) (fun hHeld => ?_)
 clear hK K
 refine nor_ (N := some 19) ?_
 refine pn_ 3 22 kr_ ?_
 refine onn_ 4 23 #[true, true, true, true, true, false] rfl rfl kr_ (by decide) (fun K hK => ?_)
 skip
 refine value_ (w1 := ?_) (v := ?_) (by rfl) rfl ?_ ?_
 rotate_left 2
 ·
  go_simp
  constructor
  · rfl
  rfl
 skip
 refine hK.out _ _ (ca8_ c.out) (fun hHeld => ?_)
 clear hK K
 refine nor_ (N := some 23) ?_
 refine pn_ 5 6 kr_ ?_
 refine done_ kr_ ?_
 obtain ⟨_, _, _, _, _, _, _, _, _, _, _, _⟩ := cel6_ b.out
 go_upto_if 28 with (fail)
 go_cut [7] (fun v7 wc => ∃ (kq : Nat) (Y : Int), v7 = .int .i64 Y ∧ Aside0 (jigsawref06_Make.j0 kq a1 (rdOf ByteArray.empty r (a)) Y A p s y E F a 0 = some (r1, r2, r3, r4, r5, r6, r7, r8)) ∧ Aside0 (kq ≤ k) ∧ Aside0 (wc.heap[B]? = some (.cells #[.int .u8 A, (.slice O p.length c0_1), (.slice P s.length c0_2), (.slice X y.length c0_3), .int .i16 E, .int .u8 F] 26 (0, 0))) ∧ Aside0 (wc.heap[z]? = some (.cells #[.int .i64 0, (.slice none 0 0), (.slice none 0 0), (.slice none 0 0), (.slice none 0 0), (.slice none 0 0), .int .i64 0, (.slice none 0 0)] 32 (0, 0))) ∧ Aside0 (wc.heap[l]? = some (.cells #[.int .i64 a, (.slice none 0 0), (.slice none 0 0), (.slice none 0 0), (.slice none 0 0), (.slice none 0 0), .int .i64 0, (.slice none 0 0)] 32 (0, 0))) ∧ Aside0 (Below w.heap.size w wc))
 case first =>
  have H := aK.out
  clear aK
  by_cases c21 : (p.length : Int) < 1
  ·
   rw [ip_ c21] at H
   have c21b0 : decide ((p.length : Int) < 1) = true := dt_ c21
   have c21b1 : decide (p.length < 1) = true := dt_ (by omega)
   clear c21
   (first | rw [c21b0] | (simp only [i64_w, i32_w]; rw [c21b0]) | skip)
   have H' := a_ H
   clear H
   go_wp2
   go_meet
   exact ⟨_, (1), eq_, H', ⟨by first | omega | exact lr_ _⟩, ⟨bk_ b.out⟩, ⟨bk_ d.out⟩, ⟨bk_ c.out⟩, ⟨bel_⟩⟩
  rw [ig_ c21] at H
  have c21b0 : decide ((p.length : Int) < 1) = false := df_ c21
  have c21b1 : decide (p.length < 1) = false := df_ (by omega)
  clear c21
  (first | rw [c21b0] | (simp only [i64_w, i32_w]; rw [c21b0]) | skip)
  have H' := a_ H
  clear H
  go_wp2
  go_meet
  exact ⟨_, ((p.length : Int)), eq_, H', ⟨by first | omega | exact lr_ _⟩, ⟨bk_ b.out⟩, ⟨bk_ d.out⟩, ⟨bk_ c.out⟩, ⟨bel_⟩⟩
 clear aK
 try clear c1
 try clear p1
 try clear q1
 try clear a5
 try clear c2
 try clear p2
 try clear c3
 try clear c5
 try clear c5b0
 try clear c6
 try clear c6b0
 try clear p6
 try clear c10
 try clear p11
 try clear aV
 try clear aZ
 try clear c13
 try clear c14
 try clear c18
 try clear c21
 try clear c21b0
 try clear c21b1
 try clear am
 try clear p117
 try clear ak
 obtain ⟨kq, Y, rfl, HA, aW, b, d, c, HB⟩ := hcut
 cases kq with
 | zero => exact absurd HA.out (by simp [jigsawref06_Make.j0])
 | succ kj6 =>
  have H := HA.out
  clear HA
  simp only [jigsawref06_Make.j0] at H
  have an := a_ H
  clear H
  go_upto_if 30 with (fail)
  go_cut [7] (fun v7 wc => ∃ (kq : Nat) (I : Int), v7 = .int .i64 I ∧ Aside0 (jigsawref06_Make.j1 kq a1 (rdOf ByteArray.empty r (a)) I A p s y E F a 0 = some (r1, r2, r3, r4, r5, r6, r7, r8)) ∧ Aside0 (kq ≤ kj6) ∧ Aside0 (wc.heap[B]? = some (.cells #[.int .u8 A, (.slice O p.length c0_1), (.slice P s.length c0_2), (.slice X y.length c0_3), .int .i16 E, .int .u8 F] 26 (0, 0))) ∧ Aside0 (wc.heap[z]? = some (.cells #[.int .i64 0, (.slice none 0 0), (.slice none 0 0), (.slice none 0 0), (.slice none 0 0), (.slice none 0 0), .int .i64 0, (.slice none 0 0)] 32 (0, 0))) ∧ Aside0 (wc.heap[l]? = some (.cells #[.int .i64 a, (.slice none 0 0), (.slice none 0 0), (.slice none 0 0), (.slice none 0 0), (.slice none 0 0), .int .i64 0, (.slice none 0 0)] 32 (0, 0))) ∧ Aside0 (Below w.heap.size w wc))
  case first =>
   have H := an.out
   clear an
   by_cases c23 : Y > 4
   ·
    rw [ip_ c23] at H
    have c23b0 : decide (4 < Y) = true := dt_ c23
    clear c23
    (first | rw [c23b0] | (simp only [i64_w, i32_w]; rw [c23b0]) | skip)
    have H' := a_ H
    clear H
    go_wp2
    go_meet
    exact ⟨_, (4), eq_, H', ⟨by have := aW.out; first | omega | exact lr_ _⟩, ⟨bk_ b.out⟩, ⟨bk_ d.out⟩, ⟨bk_ c.out⟩, ⟨bel_⟩⟩
   rw [ig_ c23] at H
   have c23b0 : decide (4 < Y) = false := df_ c23
   clear c23
   (first | rw [c23b0] | (simp only [i64_w, i32_w]; rw [c23b0]) | skip)
   have H' := a_ H
   clear H
   go_wp2
   go_meet
   exact ⟨_, (Y), eq_, H', ⟨by have := aW.out; first | omega | exact lr_ _⟩, ⟨bk_ b.out⟩, ⟨bk_ d.out⟩, ⟨bk_ c.out⟩, ⟨bel_⟩⟩
  clear an
  try clear c1
  try clear p1
  try clear q1
  try clear a5
  try clear c2
  try clear p2
  try clear c3
  try clear c5
  try clear c5b0
  try clear c6
  try clear c6b0
  try clear p6
  try clear c10
  try clear p11
  try clear aV
  try clear aZ
  try clear c13
  try clear c14
  try clear c18
  try clear c21
  try clear c21b0
  try clear c21b1
  try clear c23
  try clear c23b0
  try clear am
  try clear p1
  try clear p11
  try clear p117
  try clear p2
  try clear p6
  try clear q1
  try clear aV
  try clear ak
  obtain ⟨kq, I, rfl, HA, bz, b, d, c, HB⟩ := hcut
  cases kq with
  | zero => exact absurd HA.out (by simp [jigsawref06_Make.j1])
  | succ kj21 =>
   have H := HA.out
   clear HA
   simp only [jigsawref06_Make.j1] at H
   replace H := bo_ H
   obtain ⟨ao, a6, H⟩ := H
   try dsimp only at H
   by_cases c25 : ao > 0
   ·
    rw [ip_ c25] at H
    exact ab_ H
   rw [ig_ c25] at H
   have c25b0 : decide (0 < ao) = false := df_ c25
   clear c25
   replace H := bo_ H
   obtain ⟨J, a7, H⟩ := H
   try dsimp only at H
   replace H := bo_ H
   obtain ⟨ap, a8, H⟩ := H
   try dsimp only at H
   by_cases c28 : ap > 0
   ·
    rw [ip_ c28] at H
    exact ab_ H
   rw [ig_ c28] at H
   have c28b0 : decide (0 < ap) = false := df_ c28
   clear c28
   replace H := bo_ H
   obtain ⟨aq, a9, H⟩ := H
   try dsimp only at H
   by_cases c30 : aq > 0
   rotate_left
   ·
    rw [ig_ c30] at H
    exact ab_ H
   rw [ip_ c30] at H
   have c30b0 : decide (0 < aq) = true := dt_ c30
   clear c30
   replace H := bo_ H
   obtain ⟨M, ba, H⟩ := H
   try dsimp only at H
   replace H := bo_ H
   obtain ⟨ar, bb, H⟩ := H
   try dsimp only at H
   by_cases c33 : ar > 0
   ·
    rw [ip_ c33] at H
    exact ab_ H
   rw [ig_ c33] at H
   have c33b0 : decide (0 < ar) = false := df_ c33
   clear c33
   by_cases c34 : a = 11
   ·
    rw [ip_ c34] at H
    exact ab_ H
   rw [ig_ c34] at H
   have c34b0 : (a == 11) = false := be_.mpr c34
   have c34b1 : (a != 11) = true := ni_.mpr c34
   replace H := bo_ H
   obtain ⟨au, bc, H⟩ := H
   try dsimp only at H
   by_cases c36 : au > 0
   ·
    rw [ip_ c36] at H
    exact ab_ H
   rw [ig_ c36] at H
   have c36b0 : decide (0 < au) = false := df_ c36
   clear c36
   by_cases c37 : a = 19
   ·
    rw [ip_ c37] at H
    exact ab_ H
   rw [ig_ c37] at H
   have c37b0 : (a == 19) = false := be_.mpr c37
   have c37b1 : (a != 19) = true := ni_.mpr c37
   by_cases c38 : a = 21
   ·
    rw [ip_ c38] at H
    exact ab_ H
   rw [ig_ c38] at H
   have c38b0 : (a == 21) = false := be_.mpr c38
   have c38b1 : (a != 21) = true := ni_.mpr c38
   by_cases c39 : a = 18
   ·
    rw [ip_ c39] at H
    exact ab_ H
   rw [ig_ c39] at H
   have c39b0 : (a == 18) = false := be_.mpr c39
   have c39b1 : (a != 18) = true := ni_.mpr c39
   simp only [Option.some.injEq, Prod.mk.injEq] at H
   obtain ⟨rfl, rfl, rfl, rfl, rfl, rfl, rfl, rfl⟩ := H
   go_wp2_with (first | ((with_reducible refine gate_callee (f := 37) rfl ?_); refine goesL_ (some 32) rfl rfl Tryz.func37 kr_ rfl #[.string (rdOf ByteArray.empty r (a)), .int .u8 118] rfl (by (try simp only [List.map_toArray, List.map_cons, List.map_nil]); first | done | (simp only [G]; rfl) | rfl | (simp only [List.length_drop, List.length_take]; rfl)) ?_; (with_reducible refine (jigsawref06_has.calls kj21 (rdOf ByteArray.empty r (a)) 118 ao _ a6.out).mono ?_); rintro e w' ⟨rfl, ⟨nd, rfl⟩⟩; refine ⟨_, rfl, ?_⟩; (try (rw [drewN_self wc]; generalize hq_ : World.drewN wc _ = wc; replace b : Aside0 (wc.heap[B]? = some (.cells #[.int .u8 A, .slice O p.length c0_1, .slice P s.length c0_2, .slice X y.length c0_3, .int .i16 E, .int .u8 F] 26 (0, 0))) := ⟨by rw [← hq_]; exact (bk_ b.out)⟩; replace d : Aside0 (wc.heap[z]? = some (.cells #[.int .i64 0, .slice none 0 0, .slice none 0 0, .slice none 0 0, .slice none 0 0, .slice none 0 0, .int .i64 0, .slice none 0 0] 32 (0, 0))) := ⟨by rw [← hq_]; exact (bk_ d.out)⟩; replace c : Aside0 (wc.heap[l]? = some (.cells #[.int .i64 a, .slice none 0 0, .slice none 0 0, .slice none 0 0, .slice none 0 0, .slice none 0 0, .int .i64 0, .slice none 0 0] 32 (0, 0))) := ⟨by rw [← hq_]; exact (bk_ c.out)⟩; replace HB : Aside0 (Below w.heap.size w wc) := ⟨by rw [← hq_]; exact bel_⟩; clear hq_)); (try (obtain ⟨_, _, _, _, _, _, _, _, _, _, _, _⟩ := cel6_ b.out)); (try (obtain ⟨_, _, _, _, _, _, _, _, _, _, _, _, _, _, _, _⟩ := cel8_ d.out)); (try (obtain ⟨_, _, _, _, _, _, _, _, _, _, _, _, _, _, _, _⟩ := cel8_ c.out)); have bo := ab.out; have bp := ac.out; have bq := q.out; have br := ad.out; obtain ⟨_, _, _, _, _, _, _, _, _, _, _, _⟩ := cel6_ b.out) | ((with_reducible refine gate_callee (f := 38) rfl ?_); refine goesL_ (some 40) rfl rfl Tryz.func38 kr_ rfl #[.slice O p.length c0_1, .int .i64 I, .int .i64 a1] rfl ar_ ?_; (with_reducible refine (jigsawref06_places.calls kj21 _ _ p I a1 J _ ?_ ?_ a7.out).mono ?_); exact ca_ ((cb_ aN.out HB.out)); exact aO.out; rintro e w46 ⟨bA, rfl, Z, hb⟩; refine ⟨_, rfl, ?_⟩; have aa := a_ (Kd.R_lower Z (bz_ bel_)); replace b := a_ (bq_ b.out hb); replace d := a_ (bq_ d.out hb); replace c := a_ (bq_ c.out hb); replace HB := hq_ hb; clear hb Z; obtain ⟨Q, U, a0⟩ := Kd.R_slice aa.out; subst a0; have bs := ae.out; have bu := m.out; obtain ⟨_, _, _, _, _, _, _, _, _, _, _, _, _, _, _, _⟩ := cel8_ c.out) | ((with_reducible refine gate_callee (f := 37) rfl ?_); refine goesL_ (some 43) rfl rfl Tryz.func37 kr_ rfl #[.string (rdOf ByteArray.empty r (a)), .int .u8 119] rfl (by (try simp only [List.map_toArray, List.map_cons, List.map_nil]); first | done | (simp only [G]; rfl) | rfl | (simp only [List.length_drop, List.length_take]; rfl)) ?_; (with_reducible refine (jigsawref06_has.calls kj21 (rdOf ByteArray.empty r (a)) 119 ap _ a8.out).mono ?_); rintro e w' ⟨rfl, ⟨nd, rfl⟩⟩; refine ⟨_, rfl, ?_⟩) | ((with_reducible refine gate_callee (f := 37) rfl ?_); refine goesL_ (some 51) rfl rfl Tryz.func37 kr_ rfl #[.string (rdOf ByteArray.empty r (a)), .int .u8 87] rfl (by (try simp only [List.map_toArray, List.map_cons, List.map_nil]); first | done | (simp only [G]; rfl) | rfl | (simp only [List.length_drop, List.length_take]; rfl)) ?_; (with_reducible refine (jigsawref06_has.calls kj21 (rdOf ByteArray.empty r (a)) 87 aq _ a9.out).mono ?_); rintro e w' ⟨rfl, ⟨nd, rfl⟩⟩; refine ⟨_, rfl, ?_⟩; obtain ⟨_, _, _, _, _, _, _, _, _, _, _, _⟩ := cel6_ b.out) | ((with_reducible refine gate_callee (f := 38) rfl ?_); refine goesL_ (some 57) rfl rfl Tryz.func38 kr_ rfl #[.slice P s.length c0_2, .int .i64 I, .int .i64 a1] rfl ar_ ?_; (with_reducible refine (jigsawref06_places.calls kj21 _ _ s I a1 M _ ?_ ?_ ba.out).mono ?_); exact cb_ aP.out bel_; exact aQ.out; rintro e w51 ⟨bB, rfl, Z, hb⟩; refine ⟨_, rfl, ?_⟩; have aB := a_ (Kd.R_lower (Kd.R_new' Z (rl_ (by refine vR_ ?_; exact (rm_ (fR_ (rt_ aa.out c.out (by decide))) (fun _ h_ => h_.1))))) (bz_ bel_)); replace aa := a_ (Kd.R_elder' (by refine vR_ ?_; exact (rm_ (fR_ (rt_ aa.out c.out (by decide))) (fun _ h_ => h_.1))) (rs_ Z) hb); replace d := a_ (bb_ (g := z) (o := .cells #[.int .i64 0, .slice none 0 0, .slice none 0 0, .slice none 0 0, .slice none 0 0, .slice none 0 0, .int .i64 0, .slice none 0 0] 32 (0, 0)) (by refine bk_ ?_; refine blk_far ?_ m.out _; refine bk_ ?_; exact d.out) hb); replace c := a_ (bb_ (g := l) (o := .cells #[.int .i64 a, .slice Q J.length U, .slice none 0 0, .slice none 0 0, .slice none 0 0, .slice none 0 0, .int .i64 0, .slice none 0 0] 32 (0, 0)) (by refine bk_ ?_; refine bu_ (cs := #[.int .i64 a, .slice none 0 0, .slice none 0 0, .slice none 0 0, .slice none 0 0, .slice none 0 0, .int .i64 0, .slice none 0 0]) ?_ 1 _ rfl; refine bk_ ?_; exact c.out) hb); replace HB := hq_ hb; clear hb Z; obtain ⟨V, W, a2⟩ := Kd.R_slice aB.out; subst a2; obtain ⟨_, _, _, _, _, _, _, _, _, _, _, _, _, _, _, _⟩ := cel8_ c.out) | ((with_reducible refine gate_callee (f := 37) rfl ?_); refine goesL_ (some 60) rfl rfl Tryz.func37 kr_ rfl #[.string (rdOf ByteArray.empty r (a)), .int .u8 99] rfl (by (try simp only [List.map_toArray, List.map_cons, List.map_nil]); first | done | (simp only [G]; rfl) | rfl | (simp only [List.length_drop, List.length_take]; rfl)) ?_; (with_reducible refine (jigsawref06_has.calls kj21 (rdOf ByteArray.empty r (a)) 99 ar _ bb.out).mono ?_); rintro e w' ⟨rfl, ⟨nd, rfl⟩⟩; refine ⟨_, rfl, ?_⟩) | ((with_reducible refine gate_callee (f := 37) rfl ?_); refine goesL_ (some 80) rfl rfl Tryz.func37 kr_ rfl #[.string (rdOf ByteArray.empty r (a)), .int .u8 107] rfl (by (try simp only [List.map_toArray, List.map_cons, List.map_nil]); first | done | (simp only [G]; rfl) | rfl | (simp only [List.length_drop, List.length_take]; rfl)) ?_; (with_reducible refine (jigsawref06_has.calls kj21 (rdOf ByteArray.empty r (a)) 107 au _ bc.out).mono ?_); rintro e w' ⟨rfl, ⟨nd, rfl⟩⟩; refine ⟨_, rfl, ?_⟩; obtain ⟨_, _, _, _, _, _, _, _, _, _, _, _, _, _, _, _⟩ := cel8_ d.out))
   refine bodyPost_ret (results_cell_row rfl _ _ z 32 #[.int .i64 a, .slice Q J.length U, .slice V M.length W, .slice none 0 0, .slice none 0 0, .slice none 0 0, .int .i64 0, .slice none 0 0] (0, 0) _ rfl (by refine bk_ ?_; refine bu_ (cs := #[.int .i64 a, .slice Q J.length U, .slice V M.length W, .slice none 0 0, .slice none 0 0, .slice none 0 0, .int .i64 0, .slice none 0 0]) ?_ 7 _ rfl; refine bk_ ?_; refine bu_ (cs := #[.int .i64 a, .slice Q J.length U, .slice V M.length W, .slice none 0 0, .slice none 0 0, .slice none 0 0, .int .i64 0, .slice none 0 0]) ?_ 6 _ rfl; refine bk_ ?_; refine bu_ (cs := #[.int .i64 a, .slice Q J.length U, .slice V M.length W, .slice none 0 0, .slice none 0 0, .slice none 0 0, .int .i64 0, .slice none 0 0]) ?_ 5 _ rfl; refine bk_ ?_; refine bu_ (cs := #[.int .i64 a, .slice Q J.length U, .slice V M.length W, .slice none 0 0, .slice none 0 0, .slice none 0 0, .int .i64 0, .slice none 0 0]) ?_ 4 _ rfl; refine bk_ ?_; refine bu_ (cs := #[.int .i64 a, .slice Q J.length U, .slice V M.length W, .slice none 0 0, .slice none 0 0, .slice none 0 0, .int .i64 0, .slice none 0 0]) ?_ 3 _ rfl; refine bk_ ?_; refine bu_ (cs := #[.int .i64 a, .slice Q J.length U, .slice none 0 0, .slice none 0 0, .slice none 0 0, .slice none 0 0, .int .i64 0, .slice none 0 0]) ?_ 2 _ rfl; refine bk_ ?_; refine bu_ (cs := #[.int .i64 a, .slice none 0 0, .slice none 0 0, .slice none 0 0, .slice none 0 0, .slice none 0 0, .int .i64 0, .slice none 0 0]) ?_ 1 _ rfl; refine bk_ ?_; refine bu_ (cs := #[.int .i64 0, .slice none 0 0, .slice none 0 0, .slice none 0 0, .slice none 0 0, .slice none 0 0, .int .i64 0, .slice none 0 0]) ?_ 0 _ rfl; refine bk_ ?_; refine blk_far ?_ m.out _; refine bk_ ?_; exact d.out) Tryz.underlying32 rfl kr_) rfl ?_
   exact ⟨_, _, _, _, _, _, by first | rfl | (simp [errW_none, errW_some] <;> rfl) | (simp only [← G]; first | rfl | (simp [errW_none, errW_some] <;> rfl)) | (simp [*, errW_none, errW_some] <;> rfl), by refine vR_ ?_; exact rm_ (fR_ (fR_ (fR_ (fR_ (fR_ (fR_ (fR_ (fR_ (Kd.R_far (rt_ (rt_ aa.out c.out (by decide)) d.out (by decide)) (fun _ hk => hk.1.2) (.slice V M.length W)))))))))) (fun _ hk => ⟨hk.1.1.2, ⟨(by simp [Value.ownBlock]), ⟨(by simp [Value.ownBlock]), (by simp [Value.ownBlock])⟩⟩⟩), by refine vR_ ?_; exact rm_ (fR_ (fR_ (fR_ (fR_ (fR_ (fR_ (fR_ (fR_ (Kd.R_far (rt_ (rt_ aB.out c.out (by decide)) d.out (by decide)) (fun _ hk => hk.1.2) (.slice V M.length W)))))))))) (fun _ hk => ⟨hk.1.1.2, ⟨(by simp [Value.ownBlock]), ⟨(by simp [Value.ownBlock]), (by simp [Value.ownBlock])⟩⟩⟩), by first | exact Kd.R_nil _ _ _ _ _ | exact Kd.N_nil _ _ _ _ _ | exact Kd.V_nil _ _ _ _ _ | exact Kd.Q_nil _ _ _ _ _ | exact Kd.S_nil _ _ _ _ _, by first | exact Kd.R_nil _ _ _ _ _ | exact Kd.N_nil _ _ _ _ _ | exact Kd.V_nil _ _ _ _ _ | exact Kd.Q_nil _ _ _ _ _ | exact Kd.S_nil _ _ _ _ _, by first | exact Kd.R_nil _ _ _ _ _ | exact Kd.N_nil _ _ _ _ _ | exact Kd.V_nil _ _ _ _ _ | exact Kd.Q_nil _ _ _ _ _ | exact Kd.S_nil _ _ _ _ _, by first | exact Kd.S_nil _ _ _ _ _ | exact Kd.N_nil _ _ _ _ _ | exact Kd.V_nil _ _ _ _ _ | exact Kd.Q_nil _ _ _ _ _ | exact Kd.R_nil _ _ _ _ _, bel_⟩

/-! ### jigsawref02_Has: function 66 -/
def jigsawref02_Has.l0 : Nat → List Int → Int → Int → Option (Bool)
 | 0, _, _, _ => none
 | k + 1, b, c, a => if a < (b.length : Int) then (if 0 ≤ a then (if (rd b a) = c then (some true) else (jigsawref02_Has.l0 k b c (wrap64 (a + 1)))) else (none)) else (some false)
def jigsawref02_Has.f (k : Nat) (a : List Int) (b : Int) : Option (Bool) := jigsawref02_Has.l0 k a b 0
theorem jigsawref02_Has.mono_l : ∀ k, (∀ a b c, LeO (jigsawref02_Has.l0 k a b c) (jigsawref02_Has.l0 (k + 1) a b c))
 | 0 => by intros; exact LeO.none _
 | k + 1 => by
  have ih0 := jigsawref02_Has.mono_l k
  intro a b c
  unfold jigsawref02_Has.l0
  exact leo_
theorem jigsawref02_Has.mono : ∀ a b k, LeO (jigsawref02_Has.f k a b) (jigsawref02_Has.f (k + 1) a b) := by
 intro a b k
 have ih0 := jigsawref02_Has.mono_l k
 unfold jigsawref02_Has.f
 exact leo_
set_option maxHeartbeats 8000000 in
set_option maxRecDepth 100000 in
theorem jigsawref02_Has.calls (k : Nat) (s : Option Addr) (c0 : Nat) (b : List Int) (d : Int) (r : Bool) (w : World) (n : Kd.C (Kd.int .i64) w s b.length b) (o : b.length ≤ c0) (h : jigsawref02_Has.f k b d = some r) :
  Calls Tryz.prog 66 #[.slice s b.length c0, .int .i64 d] w fun e w' => e = .returned (.bool r) ∧ Drawn0 w w' := by
 have p := a_ n
 have u := a_ o
 clear n o
 unfold jigsawref02_Has.f at h
 have H := h
 clear h
 have H' := a_ H
 clear H
 go_enter Tryz.func66, Tryz.ntmps66
 go_wp2
 go_loopg [5] k (fun kq t w' => ∃ (a : Int), t = .int .i64 a ∧ Aside0 (jigsawref02_Has.l0 kq b d a = some r) ∧ Aside0 (kq ≤ k) ∧ Drawn0 w w')
 case atStart => exact ⟨(0), eq_, H', ⟨lr_ _⟩, by repeat (first | exact d0_ _ | apply Drawn0.step)⟩
 clear H'
 try clear p2
 obtain ⟨a, rfl, HA, q, ⟨m1, rfl⟩⟩ := hrel
 cases gk with
 | zero => exact absurd HA.out (by simp [jigsawref02_Has.l0])
 | succ k1 =>
  have H := HA.out
  clear HA
  simp only [jigsawref02_Has.l0] at H
  by_cases c3 : a < (b.length : Int)
  rotate_left
  ·
   rw [ig_ c3] at H
   have c3b0 : decide (a < (b.length : Int)) = false := df_ c3
   clear c3
   obtain rfl := si_ H
   go_wp2
   go_ret
   exact ⟨by first | rfl | (simp; done) | (simp [*]; done), by repeat (first | exact d0_ _ | apply Drawn0.step)⟩
  rw [ip_ c3] at H
  have c3b0 : decide (a < (b.length : Int)) = true := dt_ c3
  clear c3
  by_cases c4 : 0 ≤ a
  rotate_left
  ·
   rw [ig_ c4] at H
   exact ab_ H
  rw [ip_ c4] at H
  have c4b0 : decide (0 ≤ a) = true := dt_ c4
  clear c4
  by_cases c5 : (rd b a) = d
  ·
   rw [ip_ c5] at H
   have c5b0 : ((rd b a) == d) = true := beq_iff_eq.mpr c5
   have c5b1 : ((rd b a) != d) = false := bn_.mpr c5
   clear c5
   obtain rfl := si_ H
   have p129 : 0 ≤ (a : Int) := dq_
   have c : a < (b.length : Int) := dq_
   obtain ⟨m, g, l⟩ := ai_ p.out a p129 c
   cases g
   replace p129 := et_ p129
   replace c := et_ c
   go_wp2
   go_ret
   exact ⟨by first | rfl | (simp; done) | (simp [*]; done), by repeat (first | exact d0_ _ | apply Drawn0.step)⟩
  rw [ig_ c5] at H
  have c5b0 : ((rd b a) == d) = false := be_.mpr c5
  have c5b1 : ((rd b a) != d) = true := ni_.mpr c5
  have H' := a_ H
  clear H
  have p129 : 0 ≤ (a : Int) := dq_
  have c : a < (b.length : Int) := dq_
  obtain ⟨m, g, l⟩ := ai_ p.out a p129 c
  cases g
  replace p129 := et_ p129
  replace c := et_ c
  go_wp2
  go_roundg k1
  case measure => have := q.out; omega
  exact ⟨(wrap64 (a + 1)), eq_, H', ⟨by have := q.out; omega⟩, by repeat (first | exact d0_ _ | apply Drawn0.step)⟩

end Go.Proofs.YtfbfalhdgmjdpaaGreatDoor.XInverseTurns
