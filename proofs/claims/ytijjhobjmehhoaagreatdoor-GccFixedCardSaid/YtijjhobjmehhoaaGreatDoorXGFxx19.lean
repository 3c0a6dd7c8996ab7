-- by xprint.py, a program of this session, over the kit's print
import Derived.Test.YtijjhobjmehhoaaGreatDoorXGFxx0
import Derived.Test.YtijjhobjmehhoaaGreatDoorXGFxx17
import Derived.Test.YtijjhobjmehhoaaGreatDoorXGFxx18
import Derived.Test.YtijjhobjmehhoaaGreatDoorSq
namespace Go.Proofs.YtijjhobjmehhoaaGreatDoor.XGccFixed
open Go.RowKit Go.Proofs.YtijjhobjmehhoaaGreatDoor.Sq Go.Proofs.YtijjhobjmehhoaaGreatDoorW.PrintWords Go.Proofs.YtijjhobjmehhoaaGreatDoorW.PrintLast Go.Proofs.YtijjhobjmehhoaaGreatDoorW.PrintMore
attribute [local go_sem] max2_int min2_int max_two min_two max_three min_three max_four min_four   -- for this text's walks alone
set_option linter.unusedVariables false
set_option linter.unusedSimpArgs false

/-! ### jigsawref06_Make: function 18 -/
mutual
def jigsawref06_Make.j0 : Nat → Int → ByteArray → Int → Int → List Int → List Int → List Int → Int → Int → Int → Int → Option (Int × List Int × List Int × List Int × List Int × List Int × Int × (List (List Int)))
 | 0, _, _, _, _, _, _, _, _, _, _, _ => none
 | k + 1, m, n, o, a, b, c, d, e, f, g, l => if o > 4 then (jigsawref06_Make.j1 k m n 4 a b c d e f g l) else (jigsawref06_Make.j1 k m n o a b c d e f g l)
def jigsawref06_Make.j1 : Nat → Int → ByteArray → Int → Int → List Int → List Int → List Int → Int → Int → Int → Int → Option (Int × List Int × List Int × List Int × List Int × List Int × Int × (List (List Int)))
 | 0, _, _, _, _, _, _, _, _, _, _, _ => none
 | k + 1, v, n, u, d, c, e, b, g, l, a, m => (jigsawref06_has.f k n 118).bind fun o => (if o > 0 then (none) else ((jigsawref06_places.f k c u v).bind fun p => ((jigsawref06_has.f k n 119).bind fun q => (if q > 0 then (none) else ((jigsawref06_has.f k n 87).bind fun r => (if r > 0 then (none) else ((jigsawref06_has.f k n 99).bind fun s => (if s > 0 then ((jigsawref06_numbers.f k b 0 u (-1) 5).bind fun x => (if a = 11 then (none) else ((jigsawref06_has.f k n 107).bind fun t => (if t > 0 then (none) else (if a = 19 then (none) else (if a = 21 then (jigsawref06_Make.l0 k (1 + ((b.length : Int) % 3)) 0 d c e b g l a p ([] : List Int) m) else (none))))))) else (none)))))))))
def jigsawref06_Make.l0 : Nat → Int → Int → Int → List Int → List Int → List Int → Int → Int → Int → List Int → List Int → Int → Option (Int × List Int × List Int × List Int × List Int × List Int × Int × (List (List Int)))
 | 0, _, _, _, _, _, _, _, _, _, _, _, _ => none
 | k + 1, p, q, d, e, g, a, b, l, m, n, c, o => if q < p then (if c.length < 17592186044416 then (jigsawref06_Make.l0 k p (wrap64 (q + 1)) d e g a b l m n (c ++ [wrap64 ((Int.tmod (wrap64 (b)) 3) + q)]) o) else (none)) else ((jigsawref06_numbers.f k a 0 p 0 2).bind fun r => (jigsawref06_Make.l1 k p 0 d e g a b l m n c r ([] : List Int) o))
def jigsawref06_Make.l1 : Nat → Int → Int → Int → List Int → List Int → List Int → Int → Int → Int → List Int → List Int → List Int → List Int → Int → Option (Int × List Int × List Int × List Int × List Int × List Int × Int × (List (List Int)))
 | 0, _, _, _, _, _, _, _, _, _, _, _, _, _, _ => none
 | k + 1, r, d, m, n, o, p, q, e, b, f, g, a, c, l => if d < r then (if 0 ≤ d then (if d < (a.length : Int) then (if c.length < 17592186044416 then (jigsawref06_Make.l1 k r (wrap64 (d + 1)) m n o p q e b f g a (c ++ [wrap64 ((rd a d) + (Int.tmod (shr .i64 (wrap64 (e)) d) 3))]) l) else (none)) else (none)) else (none)) else (if b = 18 then (none) else (some (b, f, ([] : List Int), g, a, c, l, ([] : List (List Int)))))
end
def jigsawref06_Make.f (k : Nat) (a : Int) (b : List Int) (d : List Int) (e : List Int) (g : Int) (l : Int) (m : Int) : Option (Int × List Int × List Int × List Int × List Int × List Int × Int × (List (List Int))) := (jigsawref06_Shapes.f).bind fun c => (if 0 ≤ (wrap64 (1 + (Int.tmod (wrap64 (a)) 23))) then (if (wrap64 (1 + (Int.tmod (wrap64 (a)) 23))) < (c.length : Int) then (if (b.length : Int) < 1 then (jigsawref06_Make.j0 k m (rdOf ByteArray.empty c (wrap64 (1 + (Int.tmod (wrap64 (a)) 23)))) 1 a b d e g l (wrap64 (1 + (Int.tmod (wrap64 (a)) 23))) 0) else (jigsawref06_Make.j0 k m (rdOf ByteArray.empty c (wrap64 (1 + (Int.tmod (wrap64 (a)) 23)))) (b.length : Int) a b d e g l (wrap64 (1 + (Int.tmod (wrap64 (a)) 23))) 0)) else (none)) else (none))
theorem jigsawref06_Make.mono_l : ∀ k, (∀ b c d e f g l m n o a, LeO (jigsawref06_Make.j0 k b c d e f g l m n o a) (jigsawref06_Make.j0 (k + 1) b c d e f g l m n o a)) ∧ (∀ b c d e f g l m n o a, LeO (jigsawref06_Make.j1 k b c d e f g l m n o a) (jigsawref06_Make.j1 (k + 1) b c d e f g l m n o a)) ∧ (∀ b c d e f g l m n o a p, LeO (jigsawref06_Make.l0 k b c d e f g l m n o a p) (jigsawref06_Make.l0 (k + 1) b c d e f g l m n o a p)) ∧ (∀ b c d e f g l m n o a p q s, LeO (jigsawref06_Make.l1 k b c d e f g l m n o a p q s) (jigsawref06_Make.l1 (k + 1) b c d e f g l m n o a p q s))
 | 0 => by refine ⟨?_, ?_, ?_, ?_⟩ <;> (intros; exact LeO.none _)
 | k + 1 => by
  obtain ⟨ih0, ih1, ih2, ih3⟩ := jigsawref06_Make.mono_l k
  have m0 := @jigsawref06_has.mono
  have m1 := @jigsawref06_numbers.mono
  have m2 := @jigsawref06_places.mono
  refine ⟨?_, ?_, ?_, ?_⟩ <;> intros
  all_goals first | unfold jigsawref06_Make.j0 | unfold jigsawref06_Make.j1 | unfold jigsawref06_Make.l0 | unfold jigsawref06_Make.l1
  all_goals exact leo_
theorem jigsawref06_Make.mono : ∀ a b c d e g l k, LeO (jigsawref06_Make.f k a b c d e g l) (jigsawref06_Make.f (k + 1) a b c d e g l) := by
 intro a b c d e g l k
 obtain ⟨ih0, ih1, ih2, ih3⟩ := jigsawref06_Make.mono_l k
 unfold jigsawref06_Make.f
 have m0 := @jigsawref06_has.mono
 have m1 := @jigsawref06_numbers.mono
 have m2 := @jigsawref06_places.mono
 exact leo_
def jigsawref06_Make.T37 : Bool × List (List Nat × List Nat) := (true, [([], []), ([0], [0]), ([], []), ([2], [2]), ([], []), ([3, 4], [3, 4]), ([5], [5]), ([], []), ([7], [7]), ([8], [8]), ([], []), ([9, 10], [9, 10]), ([11], [11]), ([6, 12], [6, 12]), ([13], [13]), ([1, 14], [1, 14]), ([0, 1, 2, 3, 4, 5, 6, 7, 8, 9, 10, 11, 12, 13, 14, 15], []), ([16, 15, 15, 0, 1, 2, 3, 4, 5, 6, 7, 8, 9, 10, 11, 12, 13, 14, 15], [15, 16])])
def jigsawref06_Make.B37 : List Nat := [0, 1, 0, 4, 0, 28, 60, 0, 128, 384, 0, 1920, 3968, 8188, 16380, 32767, 65535, 131071]
theorem jigsawref06_Make.tab37 : rtab .any (opsOf Tryz.f18 37) = jigsawref06_Make.T37 := by kernel_rfl
theorem jigsawref06_Make.bits37 : waitsOk jigsawref06_Make.T37.2 jigsawref06_Make.B37 = true := by kernel_rfl
set_option maxHeartbeats 8000000 in
set_option maxRecDepth 100000 in
theorem jigsawref06_Make.calls (k : Nat) (P : Int) (ab : Option Addr) (c0_1 : Nat) (A : List Int) (ac : Option Addr) (c0_2 : Nat) (I : List Int) (Y : Option Addr) (c0_3 : Nat) (r : List Int) (J : Int) (M : Int) (a1 : Int) (r1 : Int) (r2 : List Int) (r3 : List Int) (r4 : List Int) (r5 : List Int) (r6 : List Int) (r7 : Int) (r8 : List (List Int)) (w : World) (a4 : Kd.C (Kd.int .u8) w ab A.length A) (a5 : A.length ≤ c0_1) (bm : Kd.C (Kd.int .u8) w ac I.length I) (a6 : I.length ≤ c0_2) (a7 : Kd.C (Kd.int .i8) w Y r.length r) (a8 : r.length ≤ c0_3) (h : jigsawref06_Make.f k P A I r J M a1 = some (r1, r2, r3, r4, r5, r6, r7, r8)) :
  Calls Tryz.prog 18 #[.agg #[.int .u8 P, .slice ab A.length c0_1, .slice ac I.length c0_2, .slice Y r.length c0_3, .int .i16 J, .int .u8 M], .int .i64 a1] w fun e w' => ∃ ar au av aw ax bw : Value, e = .returned (.agg #[.int .i64 r1, ar, au, av, aw, ax, .int .i64 r7, bw]) ∧ Kd.R (Kd.int .i64) 3 w' w.heap.size (fun s => some s ≠ au.ownBlock ∧ some s ≠ av.ownBlock ∧ some s ≠ aw.ownBlock ∧ some s ≠ ax.ownBlock) ar r2 ∧ Kd.R (Kd.int .i64) 3 w' w.heap.size (fun s => some s ≠ ar.ownBlock ∧ some s ≠ av.ownBlock ∧ some s ≠ aw.ownBlock ∧ some s ≠ ax.ownBlock) au r3 ∧ Kd.R (Kd.int .i64) 3 w' w.heap.size (fun s => some s ≠ ar.ownBlock ∧ some s ≠ au.ownBlock ∧ some s ≠ aw.ownBlock ∧ some s ≠ ax.ownBlock) av r4 ∧ Kd.R (Kd.int .i64) 3 w' w.heap.size (fun s => some s ≠ ar.ownBlock ∧ some s ≠ au.ownBlock ∧ some s ≠ av.ownBlock ∧ some s ≠ ax.ownBlock) aw r5 ∧ Kd.R (Kd.int .i64) 3 w' w.heap.size (fun s => some s ≠ ar.ownBlock ∧ some s ≠ au.ownBlock ∧ some s ≠ av.ownBlock ∧ some s ≠ aw.ownBlock) ax r6 ∧ Kd.S (Kd.slice 3 (Kd.int .i64)) 30 w' w.heap.size (fun s => some s ≠ ar.ownBlock ∧ some s ≠ au.ownBlock ∧ some s ≠ av.ownBlock ∧ some s ≠ aw.ownBlock ∧ some s ≠ ax.ownBlock) bw r8 ∧ Below w.heap.size w w' := by
 have hu26 := Tryz.underlying26
 have hu32 := Tryz.underlying32
 have bn := a_ a4
 have bo := a_ a5
 clear a4 a5
 have b1 := a_ a6
 clear bm a6
 have a9 := a_ a7
 have ba := a_ a8
 clear a7 a8
 have HB := a_ (Below.refl w.heap.size w)
 unfold jigsawref06_Make.f at h
 have H := h
 clear h
 replace H := bo_ H
 obtain ⟨Q, A3, H⟩ := H
 try dsimp only at H
 obtain ⟨l, af⟩ : ∃ j_ : Int, (wrap64 (1 + (Int.tmod (wrap64 (P)) 23))) = j_ := ⟨_, rfl⟩
 replace H : (if 0 ≤ (l) then (if (l) < (Q.length : Int) then (if (A.length : Int) < 1 then (jigsawref06_Make.j0 k a1 (rdOf ByteArray.empty Q (l)) 1 P A I r J M l 0) else (jigsawref06_Make.j0 k a1 (rdOf ByteArray.empty Q (l)) (A.length : Int) P A I r J M l 0)) else (none)) else (none)) = some (r1, r2, r3, r4, r5, r6, r7, r8) := by first | (rw [af] at H; exact H) | (simp only [af] at H ⊢; exact H)
 (try rw [af] at A3)
 have hji4w : (IntKind.i64.wrap (1 + (Int.tmod (wrap64 (P)) 23))) = l := (i64_w _).trans af
 by_cases c5 : 0 ≤ (l)
 rotate_left
 ·
  rw [ig_ c5] at H
  exact ab_ H
 rw [ip_ c5] at H
 have c5b0 : decide (0 ≤ (l)) = true := dt_ c5
 clear c5
 by_cases c6 : (l) < (Q.length : Int)
 rotate_left
 ·
  rw [ig_ c6] at H
  exact ab_ H
 rw [ip_ c6] at H
 have c6b0 : decide ((l) < (Q.length : Int)) = true := dt_ c6
 clear c6
 have bh := a_ H
 clear H
 go_enter Tryz.func18, Tryz.ntmps18
 try go_wp2_with (first | ((with_reducible refine gate_dst (N := 2) rfl ?_); refine bxe_ (N := 2) (cs := #[.int .u8 P, .slice ab A.length c0_1, .slice ac I.length c0_2, .slice Y r.length c0_3, .int .i16 J, .int .u8 M]) (t := 26) ?_; intro O hg w8 hbox hb; have c := a_ (hbox); have bp := a_ (by rw [hg]; exact (bz_ bel_) : w.heap.size ≤ O); have b2 := bp; replace HB := hq_ hb; clear hb hbox hg) | ((with_reducible refine gate_dst (N := 4) rfl ?_); refine bxe_ (N := 4) (cs := #[.int .i64 0, .slice none 0 0, .slice none 0 0, .slice none 0 0, .slice none 0 0, .slice none 0 0, .int .i64 0, .slice none 0 0]) (t := 32) ?_; intro U hg w9 hbox hb; have d := a_ (hbox); have bq := a_ (by rw [hg]; exact (bz_ bel_) : w.heap.size ≤ U); have b3 := bq; replace HB := hq_ hb; have Z := a_ ((by rw [hg]; exact Nat.ne_of_lt (blk_lt (bk_ c.out)) : O ≠ U)); have aa := a_ ((by rw [hg]; exact Nat.ne_of_gt (blk_lt (bk_ c.out)) : U ≠ O)); replace c := a_ (bq_ c.out hb); clear hb hbox hg; have b4 := Z.out; have b5 := aa.out; obtain ⟨_, _, _, _, _, _, _, _, _, _, _, _⟩ := cel6_ c.out) | ((with_reducible refine gate_dst (N := 5) rfl ?_); refine bxe_ (N := 5) (cs := #[.int .i64 0, .slice none 0 0, .slice none 0 0, .slice none 0 0, .slice none 0 0, .slice none 0 0, .int .i64 0, .slice none 0 0]) (t := 32) ?_; intro m hg w12 hbox hb; have a := a_ (hbox); have br := a_ (by rw [hg]; exact (bz_ bel_) : w.heap.size ≤ m); have b6 := br; replace HB := hq_ hb; have p := a_ ((by rw [hg]; exact Nat.ne_of_lt (blk_lt (bk_ c.out)) : O ≠ m)); have V := a_ ((by rw [hg]; exact Nat.ne_of_gt (blk_lt (bk_ c.out)) : m ≠ O)); replace c := a_ (bq_ c.out hb); have q := a_ ((by rw [hg]; exact Nat.ne_of_lt (blk_lt (bk_ d.out)) : U ≠ m)); have W := a_ ((by rw [hg]; exact Nat.ne_of_gt (blk_lt (bk_ d.out)) : m ≠ U)); replace d := a_ (bq_ d.out hb); clear hb hbox hg; have b7 := V.out; have b8 := p.out; have b9 := W.out; have ca := q.out; obtain ⟨_, _, _, _, _, _, _, _, _, _, _, _, _, _, _, _⟩ := cel8_ a.out))
 obtain ⟨w16, hq_⟩ : ∃ x, x = ((((((((w12.setCell ⟨m, 0, none⟩ (.int .i64 l)).setCell ⟨m, 1, none⟩ (.slice none 0 0)).setCell ⟨m, 2, none⟩ (.slice none 0 0)).setCell ⟨m, 3, none⟩ (.slice none 0 0)).setCell ⟨m, 4, none⟩ (.slice none 0 0)).setCell ⟨m, 5, none⟩ (.slice none 0 0)).setCell ⟨m, 6, none⟩ (.int .i64 0)).setCell ⟨m, 7, none⟩ (.slice none 0 0)) := ⟨_, rfl⟩
 replace c : Aside0 (w16.heap[O]? = some (.cells #[.int .u8 P, .slice ab A.length c0_1, .slice ac I.length c0_2, .slice Y r.length c0_3, .int .i16 J, .int .u8 M] 26 (0, 0))) := ⟨by subst hq_; refine bk_ ?_; refine blk_far ?_ p.out _; refine bk_ ?_; refine blk_far ?_ p.out _; refine bk_ ?_; refine blk_far ?_ p.out _; refine bk_ ?_; refine blk_far ?_ p.out _; refine bk_ ?_; refine blk_far ?_ p.out _; refine bk_ ?_; refine blk_far ?_ p.out _; refine bk_ ?_; refine blk_far ?_ p.out _; refine bk_ ?_; refine blk_far ?_ p.out _; refine bk_ ?_; exact c.out⟩
 replace d : Aside0 (w16.heap[U]? = some (.cells #[.int .i64 0, .slice none 0 0, .slice none 0 0, .slice none 0 0, .slice none 0 0, .slice none 0 0, .int .i64 0, .slice none 0 0] 32 (0, 0))) := ⟨by subst hq_; refine bk_ ?_; refine blk_far ?_ q.out _; refine bk_ ?_; refine blk_far ?_ q.out _; refine bk_ ?_; refine blk_far ?_ q.out _; refine bk_ ?_; refine blk_far ?_ q.out _; refine bk_ ?_; refine blk_far ?_ q.out _; refine bk_ ?_; refine blk_far ?_ q.out _; refine bk_ ?_; refine blk_far ?_ q.out _; refine bk_ ?_; refine blk_far ?_ q.out _; refine bk_ ?_; exact d.out⟩
 replace a : Aside0 (w16.heap[m]? = some (.cells #[.int .i64 l, .slice none 0 0, .slice none 0 0, .slice none 0 0, .slice none 0 0, .slice none 0 0, .int .i64 0, .slice none 0 0] 32 (0, 0))) := ⟨by subst hq_; refine bk_ ?_; refine bu_ (cs := #[.int .i64 l, .slice none 0 0, .slice none 0 0, .slice none 0 0, .slice none 0 0, .slice none 0 0, .int .i64 0, .slice none 0 0]) ?_ 7 _ rfl; refine bk_ ?_; refine bu_ (cs := #[.int .i64 l, .slice none 0 0, .slice none 0 0, .slice none 0 0, .slice none 0 0, .slice none 0 0, .int .i64 0, .slice none 0 0]) ?_ 6 _ rfl; refine bk_ ?_; refine bu_ (cs := #[.int .i64 l, .slice none 0 0, .slice none 0 0, .slice none 0 0, .slice none 0 0, .slice none 0 0, .int .i64 0, .slice none 0 0]) ?_ 5 _ rfl; refine bk_ ?_; refine bu_ (cs := #[.int .i64 l, .slice none 0 0, .slice none 0 0, .slice none 0 0, .slice none 0 0, .slice none 0 0, .int .i64 0, .slice none 0 0]) ?_ 4 _ rfl; refine bk_ ?_; refine bu_ (cs := #[.int .i64 l, .slice none 0 0, .slice none 0 0, .slice none 0 0, .slice none 0 0, .slice none 0 0, .int .i64 0, .slice none 0 0]) ?_ 3 _ rfl; refine bk_ ?_; refine bu_ (cs := #[.int .i64 l, .slice none 0 0, .slice none 0 0, .slice none 0 0, .slice none 0 0, .slice none 0 0, .int .i64 0, .slice none 0 0]) ?_ 2 _ rfl; refine bk_ ?_; refine bu_ (cs := #[.int .i64 l, .slice none 0 0, .slice none 0 0, .slice none 0 0, .slice none 0 0, .slice none 0 0, .int .i64 0, .slice none 0 0]) ?_ 1 _ rfl; refine bk_ ?_; refine bu_ (cs := #[.int .i64 0, .slice none 0 0, .slice none 0 0, .slice none 0 0, .slice none 0 0, .slice none 0 0, .int .i64 0, .slice none 0 0]) ?_ 0 _ rfl; refine bk_ ?_; exact a.out⟩
 replace HB : Aside0 (Below w.heap.size w w16) := ⟨by subst hq_; exact bel_⟩
 rw [← hq_]
 clear hq_
 replace c := a_ (blk_drew c.out)
 replace d := a_ (blk_drew d.out)
 replace a := a_ (blk_drew a.out)
 replace HB := a_ (below_drew1 HB.out)
 refine start_ (n := 6) (S := fun w' => w'.cell? ⟨m, 0, none⟩ = some (.int .i64 l) ∧ w'.cell? ⟨m, 1, none⟩ = some (.slice none 0 0) ∧ w'.cell? ⟨m, 2, none⟩ = some (.slice none 0 0) ∧ w'.cell? ⟨m, 3, none⟩ = some (.slice none 0 0) ∧ w'.cell? ⟨m, 4, none⟩ = some (.slice none 0 0) ∧ w'.cell? ⟨m, 5, none⟩ = some (.slice none 0 0) ∧ w'.cell? ⟨m, 6, none⟩ = some (.int .i64 0) ∧ w'.cell? ⟨m, 7, none⟩ = some (.slice none 0 0)) (ds := []) #[false, false, false, false, false, false] kr_ rfl rfl (ca8_ a.out) (fun hHeld => ?_)
 generalize w16.drew = w17 at c d a HB hHeld ⊢
 refine pn_ 1 20 kr_ ?_
 refine tn_ 2 21 kr_ hHeld ?_
 refine onn_ 0 19 #[true, true, true, false, false, false] rfl rfl kr_ (by decide) (fun K hK => ?_)
 refine goes_ Tryz.func36 kr_ rfl #[] (by rfl) rfl rfl ar_ ?_
 with_reducible refine (jigsawref06_Shapes.calls Q _ A3.out).mono ?_
 rintro e w18 ⟨cB, rfl, ae, hb⟩
 refine ⟨_, rfl, ?_⟩
 have bb := a_ (Kd.R_lower ae (bz_ bel_))
 replace c := a_ (bq_ c.out hb)
 replace d := a_ (bq_ d.out hb)
 replace a := a_ (bq_ a.out hb)
 replace HB := hq_ hb
 clear hb ae
 obtain ⟨cC, cD, bi⟩ := Kd.R_slice bb.out
 (first | subst bi | (injection bi with f1_ f2_ f3_; have f4_ := f1_.symm; have f5_ := f3_.symm; clear f1_ f2_ f3_; subst f4_; subst f5_))
 have p514 : 0 ≤ ((l) : Int) := dq_
 have ak : (l) < (Q.length : Int) := dq_
 obtain ⟨cb, bA, ai⟩ := Kd.at_string (rr_ bb.out).2.2 (l) p514 ak
 cases bA
 replace p514 := et_ p514
 replace ak := et_ ak
 refine hK.out _ _ (ca8_ a.out) (fun hHeld => ?_)
 clear hK K
 refine nor_ (N := some 19) ?_
 refine pn_ 3 22 kr_ ?_
 refine onn_ 4 23 #[true, true, true, true, true, false] rfl rfl kr_ (by decide) (fun K hK => ?_)
 skip
 refine value_ (w1 := ?_) (v := ?_) (by rfl) rfl ?_ ?_
 rotate_left 2
 ·
  go_simp
  constructor
  · rfl
  rfl
 skip
 refine hK.out _ _ (ca8_ a.out) (fun hHeld => ?_)
 clear hK K
 refine nor_ (N := some 23) ?_
 refine pn_ 5 6 kr_ ?_
 refine done_ kr_ ?_
 obtain ⟨_, _, _, _, _, _, _, _, _, _, _, _⟩ := cel6_ c.out
 go_upto_if 28 with (fail)
 go_cut [7] (fun v7 wc => ∃ (kq : Nat) (al : Int), v7 = .int .i64 al ∧ Aside0 (jigsawref06_Make.j0 kq a1 (rdOf ByteArray.empty Q (l)) al P A I r J M l 0 = some (r1, r2, r3, r4, r5, r6, r7, r8)) ∧ Aside0 (kq ≤ k) ∧ Aside0 (wc.heap[O]? = some (.cells #[.int .u8 P, (.slice ab A.length c0_1), (.slice ac I.length c0_2), (.slice Y r.length c0_3), .int .i16 J, .int .u8 M] 26 (0, 0))) ∧ Aside0 (wc.heap[U]? = some (.cells #[.int .i64 0, (.slice none 0 0), (.slice none 0 0), (.slice none 0 0), (.slice none 0 0), (.slice none 0 0), .int .i64 0, (.slice none 0 0)] 32 (0, 0))) ∧ Aside0 (wc.heap[m]? = some (.cells #[.int .i64 l, (.slice none 0 0), (.slice none 0 0), (.slice none 0 0), (.slice none 0 0), (.slice none 0 0), .int .i64 0, (.slice none 0 0)] 32 (0, 0))) ∧ Aside0 (Below w.heap.size w wc))
 case first =>
  have H := bh.out
  clear bh
  by_cases c21 : (A.length : Int) < 1
  ·
   rw [ip_ c21] at H
   have c21b0 : decide ((A.length : Int) < 1) = true := dt_ c21
   have c21b1 : decide (A.length < 1) = true := dt_ (by omega)
   clear c21
   (first | rw [c21b0] | (simp only [i64_w, i32_w]; rw [c21b0]) | skip)
   have H' := a_ H
   clear H
   go_wp2
   go_meet
   exact ⟨_, (1), eq_, H', ⟨by first | omega | exact lr_ _⟩, ⟨bk_ c.out⟩, ⟨bk_ d.out⟩, ⟨bk_ a.out⟩, ⟨bel_⟩⟩
  rw [ig_ c21] at H
  have c21b0 : decide ((A.length : Int) < 1) = false := df_ c21
  have c21b1 : decide (A.length < 1) = false := df_ (by omega)
  clear c21
  (first | rw [c21b0] | (simp only [i64_w, i32_w]; rw [c21b0]) | skip)
  have H' := a_ H
  clear H
  go_wp2
  go_meet
  exact ⟨_, ((A.length : Int)), eq_, H', ⟨by first | omega | exact lr_ _⟩, ⟨bk_ c.out⟩, ⟨bk_ d.out⟩, ⟨bk_ a.out⟩, ⟨bel_⟩⟩
 clear bh
 try clear c1
 try clear c2
 try clear p2
 try clear c3
 try clear c5
 try clear c5b0
 try clear p5
 try clear q5
 try clear bj
 try clear c6
 try clear c6b0
 try clear p6
 try clear c10
 try clear c13
 try clear c14
 try clear c18
 try clear c21
 try clear c21b0
 try clear c21b1
 try clear ai
 try clear p514
 try clear ak
 obtain ⟨kq, al, rfl, HA, aK, c, d, a, HB⟩ := hcut
 cases kq with
 | zero => exact absurd HA.out (by simp [jigsawref06_Make.j0])
 | succ kj6 =>
  have H := HA.out
  clear HA
  simp only [jigsawref06_Make.j0] at H
  have aR := a_ H
  clear H
  go_upto_if 30 with (fail)
  go_cut [7] (fun v7 wc => ∃ (kq : Nat) (ag : Int), v7 = .int .i64 ag ∧ Aside0 (jigsawref06_Make.j1 kq a1 (rdOf ByteArray.empty Q (l)) ag P A I r J M l 0 = some (r1, r2, r3, r4, r5, r6, r7, r8)) ∧ Aside0 (kq ≤ kj6) ∧ Aside0 (wc.heap[O]? = some (.cells #[.int .u8 P, (.slice ab A.length c0_1), (.slice ac I.length c0_2), (.slice Y r.length c0_3), .int .i16 J, .int .u8 M] 26 (0, 0))) ∧ Aside0 (wc.heap[U]? = some (.cells #[.int .i64 0, (.slice none 0 0), (.slice none 0 0), (.slice none 0 0), (.slice none 0 0), (.slice none 0 0), .int .i64 0, (.slice none 0 0)] 32 (0, 0))) ∧ Aside0 (wc.heap[m]? = some (.cells #[.int .i64 l, (.slice none 0 0), (.slice none 0 0), (.slice none 0 0), (.slice none 0 0), (.slice none 0 0), .int .i64 0, (.slice none 0 0)] 32 (0, 0))) ∧ Aside0 (Below w.heap.size w wc))
  case first =>
   have H := aR.out
   clear aR
   by_cases c23 : al > 4
   ·
    rw [ip_ c23] at H
    have c23b0 : decide (4 < al) = true := dt_ c23
    clear c23
    (first | rw [c23b0] | (simp only [i64_w, i32_w]; rw [c23b0]) | skip)
    have H' := a_ H
    clear H
    go_wp2
    go_meet
    exact ⟨_, (4), eq_, H', ⟨by have := aK.out; first | omega | exact lr_ _⟩, ⟨bk_ c.out⟩, ⟨bk_ d.out⟩, ⟨bk_ a.out⟩, ⟨bel_⟩⟩
   rw [ig_ c23] at H
   have c23b0 : decide (4 < al) = false := df_ c23
   clear c23
   (first | rw [c23b0] | (simp only [i64_w, i32_w]; rw [c23b0]) | skip)
   have H' := a_ H
   clear H
   go_wp2
   go_meet
   exact ⟨_, (al), eq_, H', ⟨by have := aK.out; first | omega | exact lr_ _⟩, ⟨bk_ c.out⟩, ⟨bk_ d.out⟩, ⟨bk_ a.out⟩, ⟨bel_⟩⟩
  clear aR
  try clear c1
  try clear c2
  try clear p2
  try clear c3
  try clear c5
  try clear c5b0
  try clear p5
  try clear q5
  try clear bj
  try clear c6
  try clear c6b0
  try clear p6
  try clear c10
  try clear c13
  try clear c14
  try clear c18
  try clear c21
  try clear c21b0
  try clear c21b1
  try clear c23
  try clear c23b0
  try clear ai
  try clear p2
  try clear p5
  try clear p514
  try clear p6
  try clear q5
  try clear ak
  obtain ⟨kq, ag, rfl, HA, aN, c, d, a, HB⟩ := hcut
  cases kq with
  | zero => exact absurd HA.out (by simp [jigsawref06_Make.j1])
  | succ kj21 =>
   have H := HA.out
   clear HA
   simp only [jigsawref06_Make.j1] at H
   replace H := bo_ H
   obtain ⟨aT, bR, H⟩ := H
   try dsimp only at H
   by_cases c25 : aT > 0
   ·
    rw [ip_ c25] at H
    exact ab_ H
   rw [ig_ c25] at H
   have c25b0 : decide (0 < aT) = false := df_ c25
   clear c25
   replace H := bo_ H
   obtain ⟨y, bS, H⟩ := H
   try dsimp only at H
   replace H := bo_ H
   obtain ⟨aU, bT, H⟩ := H
   try dsimp only at H
   by_cases c28 : aU > 0
   ·
    rw [ip_ c28] at H
    exact ab_ H
   rw [ig_ c28] at H
   have c28b0 : decide (0 < aU) = false := df_ c28
   clear c28
   replace H := bo_ H
   obtain ⟨aV, bU, H⟩ := H
   try dsimp only at H
   by_cases c30 : aV > 0
   ·
    rw [ip_ c30] at H
    exact ab_ H
   rw [ig_ c30] at H
   have c30b0 : decide (0 < aV) = false := df_ c30
   clear c30
   replace H := bo_ H
   obtain ⟨aW, bV, H⟩ := H
   try dsimp only at H
   by_cases c32 : aW > 0
   rotate_left
   ·
    rw [ig_ c32] at H
    exact ab_ H
   rw [ip_ c32] at H
   have c32b0 : decide (0 < aW) = true := dt_ c32
   clear c32
   replace H := bo_ H
   obtain ⟨bk, bW, H⟩ := H
   try dsimp only at H
   by_cases c34 : l = 11
   ·
    rw [ip_ c34] at H
    exact ab_ H
   rw [ig_ c34] at H
   have c34b0 : (l == 11) = false := be_.mpr c34
   have c34b1 : (l != 11) = true := ni_.mpr c34
   replace H := bo_ H
   obtain ⟨aX, bX, H⟩ := H
   try dsimp only at H
   by_cases c36 : aX > 0
   ·
    rw [ip_ c36] at H
    exact ab_ H
   rw [ig_ c36] at H
   have c36b0 : decide (0 < aX) = false := df_ c36
   clear c36
   by_cases c37 : l = 19
   ·
    rw [ip_ c37] at H
    exact ab_ H
   rw [ig_ c37] at H
   have c37b0 : (l == 19) = false := be_.mpr c37
   have c37b1 : (l != 19) = true := ni_.mpr c37
   by_cases c38 : l = 21
   rotate_left
   ·
    rw [ig_ c38] at H
    exact ab_ H
   rw [ip_ c38] at H
   have c38b0 : (l == 21) = true := beq_iff_eq.mpr c38
   have c38b1 : (l != 21) = false := bn_.mpr c38
   clear c38
   have H' := a_ H
   clear H
   go_wp2_with (first | ((with_reducible refine gate_callee (f := 37) rfl ?_); refine goesL_ (some 32) rfl rfl Tryz.func37 kr_ rfl #[.string (rdOf ByteArray.empty Q (l)), .int .u8 118] rfl (by (try simp only [List.map_toArray, List.map_cons, List.map_nil]); first | done | (simp only [af]; rfl) | rfl | (simp only [List.length_drop, List.length_take]; rfl)) ?_; (with_reducible refine (jigsawref06_has.calls kj21 (rdOf ByteArray.empty Q (l)) 118 aT _ bR.out).mono ?_); rintro e w' ⟨rfl, ⟨nd, rfl⟩⟩; refine ⟨_, rfl, ?_⟩; (try (rw [drewN_self wc]; generalize hq_ : World.drewN wc _ = wc; replace c : Aside0 (wc.heap[O]? = some (.cells #[.int .u8 P, .slice ab A.length c0_1, .slice ac I.length c0_2, .slice Y r.length c0_3, .int .i16 J, .int .u8 M] 26 (0, 0))) := ⟨by rw [← hq_]; exact (bk_ c.out)⟩; replace d : Aside0 (wc.heap[U]? = some (.cells #[.int .i64 0, .slice none 0 0, .slice none 0 0, .slice none 0 0, .slice none 0 0, .slice none 0 0, .int .i64 0, .slice none 0 0] 32 (0, 0))) := ⟨by rw [← hq_]; exact (bk_ d.out)⟩; replace a : Aside0 (wc.heap[m]? = some (.cells #[.int .i64 l, .slice none 0 0, .slice none 0 0, .slice none 0 0, .slice none 0 0, .slice none 0 0, .int .i64 0, .slice none 0 0] 32 (0, 0))) := ⟨by rw [← hq_]; exact (bk_ a.out)⟩; replace HB : Aside0 (Below w.heap.size w wc) := ⟨by rw [← hq_]; exact bel_⟩; clear hq_)); (try (obtain ⟨_, _, _, _, _, _, _, _, _, _, _, _⟩ := cel6_ c.out)); (try (obtain ⟨_, _, _, _, _, _, _, _, _, _, _, _, _, _, _, _⟩ := cel8_ d.out)); (try (obtain ⟨_, _, _, _, _, _, _, _, _, _, _, _, _, _, _, _⟩ := cel8_ a.out)); have cc := Z.out; have cd := aa.out; have ce := p.out; have cf := V.out; obtain ⟨_, _, _, _, _, _, _, _, _, _, _, _⟩ := cel6_ c.out) | ((with_reducible refine gate_callee (f := 38) rfl ?_); refine goesL_ (some 40) rfl rfl Tryz.func38 kr_ rfl #[.slice ab A.length c0_1, .int .i64 ag, .int .i64 a1] rfl ar_ ?_; (with_reducible refine (jigsawref06_places.calls kj21 _ _ A ag a1 y _ ?_ ?_ bS.out).mono ?_); exact ca_ ((cb_ bn.out HB.out)); exact bo.out; rintro e w45 ⟨cE, rfl, ae, hb⟩; refine ⟨_, rfl, ?_⟩; have am := a_ (Kd.R_lower ae (bz_ bel_)); replace c := a_ (bq_ c.out hb); replace d := a_ (bq_ d.out hb); replace a := a_ (bq_ a.out hb); replace HB := hq_ hb; clear hb ae; obtain ⟨E, F, bC⟩ := Kd.R_slice am.out; subst bC; have cg := W.out; have ch := q.out; obtain ⟨_, _, _, _, _, _, _, _, _, _, _, _, _, _, _, _⟩ := cel8_ a.out) | ((with_reducible refine gate_callee (f := 37) rfl ?_); refine goesL_ (some 43) rfl rfl Tryz.func37 kr_ rfl #[.string (rdOf ByteArray.empty Q (l)), .int .u8 119] rfl (by (try simp only [List.map_toArray, List.map_cons, List.map_nil]); first | done | (simp only [af]; rfl) | rfl | (simp only [List.length_drop, List.length_take]; rfl)) ?_; (with_reducible refine (jigsawref06_has.calls kj21 (rdOf ByteArray.empty Q (l)) 119 aU _ bT.out).mono ?_); rintro e w' ⟨rfl, ⟨nd, rfl⟩⟩; refine ⟨_, rfl, ?_⟩) | ((with_reducible refine gate_callee (f := 37) rfl ?_); refine goesL_ (some 51) rfl rfl Tryz.func37 kr_ rfl #[.string (rdOf ByteArray.empty Q (l)), .int .u8 87] rfl (by (try simp only [List.map_toArray, List.map_cons, List.map_nil]); first | done | (simp only [af]; rfl) | rfl | (simp only [List.length_drop, List.length_take]; rfl)) ?_; (with_reducible refine (jigsawref06_has.calls kj21 (rdOf ByteArray.empty Q (l)) 87 aV _ bU.out).mono ?_); rintro e w' ⟨rfl, ⟨nd, rfl⟩⟩; refine ⟨_, rfl, ?_⟩) | ((with_reducible refine gate_callee (f := 37) rfl ?_); refine goesL_ (some 60) rfl rfl Tryz.func37 kr_ rfl #[.string (rdOf ByteArray.empty Q (l)), .int .u8 99] rfl (by (try simp only [List.map_toArray, List.map_cons, List.map_nil]); first | done | (simp only [af]; rfl) | rfl | (simp only [List.length_drop, List.length_take]; rfl)) ?_; (with_reducible refine (jigsawref06_has.calls kj21 (rdOf ByteArray.empty Q (l)) 99 aW _ bV.out).mono ?_); rintro e w' ⟨rfl, ⟨nd, rfl⟩⟩; refine ⟨_, rfl, ?_⟩; obtain ⟨_, _, _, _, _, _, _, _, _, _, _, _⟩ := cel6_ c.out) | ((with_reducible refine gate_callee (f := 39) rfl ?_); refine goesL_ (some 65) rfl rfl Tryz.func39 kr_ rfl #[.slice Y r.length c0_3, .int .i64 0, .int .i64 ag, .int .i64 (-1), .int .i64 5] rfl ar_ ?_; (with_reducible refine (jigsawref06_numbers.calls kj21 _ _ r 0 ag (-1) 5 bk _ ?_ ?_ bW.out).mono ?_); exact cb_ a9.out bel_; exact ba.out; rintro e w50 ⟨cF, rfl, ae, hb⟩; refine ⟨_, rfl, ?_⟩; have bs := a_ (Kd.R_lower (Kd.R_new' ae (rl_ (by refine vR_ ?_; exact (rm_ (fR_ (rt_ am.out a.out (by decide))) (fun _ h_ => h_.1))))) (bz_ bel_)); replace am := a_ (Kd.R_elder' (by refine vR_ ?_; exact (rm_ (fR_ (rt_ am.out a.out (by decide))) (fun _ h_ => h_.1))) (rs_ ae) hb); replace c := a_ (bb_ (g := O) (o := .cells #[.int .u8 P, .slice ab A.length c0_1, .slice ac I.length c0_2, .slice Y r.length c0_3, .int .i16 J, .int .u8 M] 26 (0, 0)) (by refine bk_ ?_; refine blk_far ?_ p.out _; refine bk_ ?_; exact c.out) hb); replace d := a_ (bb_ (g := U) (o := .cells #[.int .i64 0, .slice none 0 0, .slice none 0 0, .slice none 0 0, .slice none 0 0, .slice none 0 0, .int .i64 0, .slice none 0 0] 32 (0, 0)) (by refine bk_ ?_; refine blk_far ?_ q.out _; refine bk_ ?_; exact d.out) hb); replace a := a_ (bb_ (g := m) (o := .cells #[.int .i64 l, .slice E y.length F, .slice none 0 0, .slice none 0 0, .slice none 0 0, .slice none 0 0, .int .i64 0, .slice none 0 0] 32 (0, 0)) (by refine bk_ ?_; refine bu_ (cs := #[.int .i64 l, .slice none 0 0, .slice none 0 0, .slice none 0 0, .slice none 0 0, .slice none 0 0, .int .i64 0, .slice none 0 0]) ?_ 1 _ rfl; refine bk_ ?_; exact a.out) hb); replace HB := hq_ hb; clear hb ae; obtain ⟨bD, bE, bF⟩ := Kd.R_slice bs.out; subst bF; obtain ⟨_, _, _, _, _, _, _, _, _, _, _, _, _, _, _, _⟩ := cel8_ a.out) | ((with_reducible refine gate_callee (f := 37) rfl ?_); refine goesL_ (some 80) rfl rfl Tryz.func37 kr_ rfl #[.string (rdOf ByteArray.empty Q (l)), .int .u8 107] rfl (by (try simp only [List.map_toArray, List.map_cons, List.map_nil]); first | done | (simp only [af]; rfl) | rfl | (simp only [List.length_drop, List.length_take]; rfl)) ?_; (with_reducible refine (jigsawref06_has.calls kj21 (rdOf ByteArray.empty Q (l)) 107 aX _ bX.out).mono ?_); rintro e w' ⟨rfl, ⟨nd, rfl⟩⟩; refine ⟨_, rfl, ?_⟩; obtain ⟨_, _, _, _, _, _, _, _, _, _, _, _⟩ := cel6_ c.out))
   go_loopg [9] kj21 (fun kq v9 w' => ∃ (ad : Int) (u : List Int) (u511003 : Value), v9 = .int .i64 ad ∧ Aside0 (jigsawref06_Make.l0 kq (1 + ((r.length : Int) % 3)) ad P A I r J M l y u 0 = some (r1, r2, r3, r4, r5, r6, r7, r8)) ∧ Aside0 (kq ≤ kj21) ∧ Aside0 (Kd.R (Kd.int .i64) 3 w' w.heap.size (fun s => some s ≠ u511003.ownBlock) (.slice E y.length F) y) ∧ Aside0 (Kd.R (Kd.int .i64) 3 w' w.heap.size (fun s => some s ≠ ((.slice E y.length F) : Value).ownBlock) u511003 u) ∧ Aside0 (w'.heap[O]? = some (.cells #[.int .u8 P, (.slice ab A.length c0_1), (.slice ac I.length c0_2), (.slice Y r.length c0_3), .int .i16 J, .int .u8 M] 26 (0, 0))) ∧ Aside0 (w'.heap[U]? = some (.cells #[.int .i64 0, (.slice none 0 0), (.slice none 0 0), (.slice none 0 0), (.slice none 0 0), (.slice none 0 0), .int .i64 0, (.slice none 0 0)] 32 (0, 0))) ∧ Aside0 (w'.heap[m]? = some (.cells #[.int .i64 l, (.slice E y.length F), (.slice none 0 0), u511003, (.slice none 0 0), (.slice none 0 0), .int .i64 0, (.slice none 0 0)] 32 (0, 0))) ∧ Aside0 (Below w.heap.size w w'))
   case atStart => exact ⟨(0), (([] : List Int)), (.slice none 0 0), eq_, H', ⟨lr_ _⟩, ⟨by refine vR_ ?_; exact rm_ (fR_ (fR_ (rt_ am.out a.out (by decide)))) (fun _ hk => (by simp [Value.ownBlock]))⟩, ⟨nil_⟩, ⟨by refine bk_ ?_; refine blk_far ?_ p.out _; refine bk_ ?_; refine blk_far ?_ p.out _; refine bk_ ?_; exact c.out⟩, ⟨by refine bk_ ?_; refine blk_far ?_ q.out _; refine bk_ ?_; refine blk_far ?_ q.out _; refine bk_ ?_; exact d.out⟩, ⟨by refine bk_ ?_; refine bu_ (cs := #[.int .i64 l, .slice E y.length F, .slice none 0 0, .slice bD bk.length bE, .slice none 0 0, .slice none 0 0, .int .i64 0, .slice none 0 0]) ?_ 3 _ rfl; refine bk_ ?_; refine bu_ (cs := #[.int .i64 l, .slice E y.length F, .slice none 0 0, .slice none 0 0, .slice none 0 0, .slice none 0 0, .int .i64 0, .slice none 0 0]) ?_ 3 _ rfl; refine bk_ ?_; exact a.out⟩, ⟨bel_⟩⟩
   clear H'
   try clear c1
   try clear c2
   try clear p2
   try clear c3
   try clear c4
   try clear c5
   try clear c5b0
   try clear p5
   try clear q5
   try clear bj
   try clear c6
   try clear c6b0
   try clear p6
   try clear c10
   try clear c13
   try clear c14
   try clear c18
   try clear c21
   try clear c21b0
   try clear c21b1
   try clear c23
   try clear c23b0
   try clear c25
   try clear c25b0
   try clear c28
   try clear c28b0
   try clear c30
   try clear c30b0
   try clear c32
   try clear c32b0
   try clear c34
   try clear c34b0
   try clear c34b1
   try clear c36
   try clear c36b0
   try clear c37
   try clear c37b0
   try clear c37b1
   try clear c38
   try clear c38b0
   try clear c38b1
   try clear c39
   try clear c42
   try clear c43
   try clear c47
   try clear p51
   try clear bx
   try clear bG
   try clear ai
   try clear p2
   try clear p5
   try clear p514
   try clear p6
   try clear q5
   try clear ak
   obtain ⟨ad, u, u511003, rfl, HA, bc, HO_511001, HO_511003, c, d, a, HB⟩ := hrel
   cases gk with
   | zero => exact absurd HA.out (by simp [jigsawref06_Make.l0])
   | succ k3 =>
    have H := HA.out
    clear HA
    simp only [jigsawref06_Make.l0] at H
    by_cases c54 : ad < (1 + ((r.length : Int) % 3))
    ·
     rw [ip_ c54] at H
     have c54b0 : decide (ad < (1 + ((r.length : Int) % 3))) = true := dt_ c54
     clear c54
     by_cases c55 : u.length < 17592186044416
     rotate_left
     ·
      rw [ig_ c55] at H
      exact ab_ H
     rw [ip_ c55] at H
     have LMc55 := a_ c55
     clear c55
     obtain ⟨aY, an⟩ : ∃ y_ : List Int, y_ = (u ++ [wrap64 ((Int.tmod (wrap64 (J)) 3) + ad)]) := ⟨_, rfl⟩
     replace H : (jigsawref06_Make.l0 k3 (1 + ((r.length : Int) % 3)) (wrap64 (ad + 1)) P A I r J M l y aY 0) = some (r1, r2, r3, r4, r5, r6, r7, r8) := h2_ H an
     have bu := a_ an
     clear an
     have H' := a_ H
     clear H
     have ci := V.out
     have cj := p.out
     have ck := W.out
     have cl := q.out
     obtain ⟨_, _, _, _, _, _, _, _, _, _, _, _, _, _, _, _⟩ := cel8_ a.out
     have cm := Z.out
     have cn := aa.out
     obtain ⟨_, _, _, _, _, _, _, _, _, _, _, _⟩ := cel6_ c.out
     go_wp2_with (first | ((with_reducible refine gate_builtin (b := .append) (xs := #[.tmp 123, .tmp 130]) rfl ?_); at_builtin; refine Kd.R_append (Kd.int .i64) (w0 := w) w.heap.size rfl (.tmp 123) (.tmp 130) 30 3 (.int .i64 0) 8 rfl Tryz.underlying30 info3 rfl (by decide) (by omega) u511003 u (wrap64 ((Int.tmod (wrap64 (J)) 3) + ad)) [.int .i64 (wrap64 ((Int.tmod (wrap64 (J)) 3) + ad))] (fun s => some s ≠ (.slice E y.length F : Value).ownBlock) (fun _ => False) rfl rfl ?aP (fun _ hk => hk.elim) ?aF ?aO ?aB ?aS ?aL ?_; (case aP => exact rfl); (case aB => exact bel_); (case aF => exact (fun s hk => fr_ (rl_ (vR_ HO_511001.out)) s hk)); (case aO => exact (vR_ HO_511003.out)); (case aS => exact (bz_ bel_)); (case aL => have := LMc55.out; omega); intro cH w61 ho hb hg hat; rw [← bu.out] at ho; replace HO_511001 := a_ (Kd.R_after (ok := (fun _ => True)) (by refine vR_ ?_; exact rm_ HO_511001.out (fun _ hk => ⟨trivial, hk⟩)) hg hat); replace c := a_ (blk_grown (bk_ c.out) hg (Kd.R_ne HO_511003.out c.out (by decide))); replace d := a_ (blk_grown (bk_ d.out) hg (Kd.R_ne HO_511003.out d.out (by decide))); replace a := a_ (blk_grown (bk_ a.out) hg (Kd.R_ne HO_511003.out a.out (by decide))); replace HB := a_ (hb); have bd := a_ (ho); clear HO_511003; clear ho hb hg hat; obtain ⟨bH, bI, bJ⟩ := Kd.R_slice bd.out; subst bJ; obtain ⟨_, _, _, _, _, _, _, _, _, _, _, _, _, _, _, _⟩ := cel8_ a.out))
     go_roundg k3
     case measure => have := aK.out; have := aN.out; have := bc.out; omega
     exact ⟨(wrap64 (ad + 1)), (aY), (.slice bH aY.length bI), eq_, H', ⟨by have := aK.out; have := aN.out; have := bc.out; omega⟩, ⟨by refine vR_ ?_; exact rm_ (fR_ (rt_ HO_511001.out a.out (by decide))) (fun _ hk => hk.1.2)⟩, ⟨by refine vR_ ?_; exact rm_ (fR_ (rt_ bd.out a.out (by decide))) (fun _ hk => hk.1)⟩, ⟨by refine bk_ ?_; refine blk_far ?_ p.out _; refine bk_ ?_; exact c.out⟩, ⟨by refine bk_ ?_; refine blk_far ?_ q.out _; refine bk_ ?_; exact d.out⟩, ⟨by refine bk_ ?_; refine bu_ (cs := #[.int .i64 l, .slice E y.length F, .slice none 0 0, u511003, .slice none 0 0, .slice none 0 0, .int .i64 0, .slice none 0 0]) ?_ 3 _ rfl; refine bk_ ?_; exact a.out⟩, ⟨bel_⟩⟩
    rw [ig_ c54] at H
    have c54b0 : decide (ad < (1 + ((r.length : Int) % 3))) = false := df_ c54
    clear c54
    replace H := bo_ H
    obtain ⟨B, bY, H⟩ := H
    try dsimp only at H
    have H' := a_ H
    clear H
    have co := Z.out
    have cp := aa.out
    have cq := p.out
    have cr := V.out
    obtain ⟨_, _, _, _, _, _, _, _, _, _, _, _⟩ := cel6_ c.out
    go_wp2_with (first | ((with_reducible refine gate_callee (f := 39) rfl ?_); refine goesL_ (some 136) rfl rfl Tryz.func39 kr_ rfl #[.slice Y r.length c0_3, .int .i64 0, .int .i64 (1 + ((r.length : Int) % 3)), .int .i64 0, .int .i64 2] rfl ar_ ?_; (with_reducible refine (jigsawref06_numbers.calls k3 _ _ r 0 (1 + ((r.length : Int) % 3)) 0 2 B _ ?_ ?_ bY.out).mono ?_); exact ca_ ((cb_ a9.out HB.out)); exact ba.out; rintro e w68 ⟨cI, rfl, ae, hb⟩; refine ⟨_, rfl, ?_⟩; have be := a_ (Kd.R_lower (Kd.R_new' (Kd.R_new' ae (rl_ (vR_ HO_511001.out))) (rl_ (vR_ HO_511003.out))) (bz_ bel_)); replace HO_511001 := a_ (Kd.R_elder' (vR_ HO_511001.out) (rs_ ae) hb); replace HO_511003 := a_ (Kd.R_elder' (vR_ HO_511003.out) (rs_ ae) hb); replace c := a_ (bq_ c.out hb); replace d := a_ (bq_ d.out hb); replace a := a_ (bq_ a.out hb); replace HB := hq_ hb; clear hb ae; obtain ⟨ah, X, bK⟩ := Kd.R_slice be.out; subst bK; have ct := W.out; have cu := q.out; obtain ⟨_, _, _, _, _, _, _, _, _, _, _, _, _, _, _, _⟩ := cel8_ a.out))
    go_loopg [10] k3 (fun kq bZ w' => ∃ (z : Int) (G : List Int) (u511005 : Value), bZ = .int .i64 z ∧ Aside0 (jigsawref06_Make.l1 kq (1 + ((r.length : Int) % 3)) z P A I r J M l y u B G 0 = some (r1, r2, r3, r4, r5, r6, r7, r8)) ∧ Aside0 (kq ≤ k3) ∧ Aside0 (Kd.R (Kd.int .i64) 3 w' w.heap.size (fun s => some s ≠ u511003.ownBlock ∧ some s ≠ ((.slice ah B.length X) : Value).ownBlock ∧ some s ≠ u511005.ownBlock) (.slice E y.length F) y) ∧ Aside0 (Kd.R (Kd.int .i64) 3 w' w.heap.size (fun s => some s ≠ ((.slice E y.length F) : Value).ownBlock ∧ some s ≠ ((.slice ah B.length X) : Value).ownBlock ∧ some s ≠ u511005.ownBlock) u511003 u) ∧ Aside0 (Kd.R (Kd.int .i64) 3 w' w.heap.size (fun s => some s ≠ ((.slice E y.length F) : Value).ownBlock ∧ some s ≠ u511003.ownBlock ∧ some s ≠ u511005.ownBlock) (.slice ah B.length X) B) ∧ Aside0 (Kd.R (Kd.int .i64) 3 w' w.heap.size (fun s => some s ≠ ((.slice E y.length F) : Value).ownBlock ∧ some s ≠ u511003.ownBlock ∧ some s ≠ ((.slice ah B.length X) : Value).ownBlock) u511005 G) ∧ Aside0 (w'.heap[O]? = some (.cells #[.int .u8 P, (.slice ab A.length c0_1), (.slice ac I.length c0_2), (.slice Y r.length c0_3), .int .i16 J, .int .u8 M] 26 (0, 0))) ∧ Aside0 (w'.heap[U]? = some (.cells #[.int .i64 0, (.slice none 0 0), (.slice none 0 0), (.slice none 0 0), (.slice none 0 0), (.slice none 0 0), .int .i64 0, (.slice none 0 0)] 32 (0, 0))) ∧ Aside0 (w'.heap[m]? = some (.cells #[.int .i64 l, (.slice E y.length F), (.slice none 0 0), u511003, (.slice ah B.length X), u511005, .int .i64 0, (.slice none 0 0)] 32 (0, 0))) ∧ Aside0 (Below w.heap.size w w'))
    case atStart => exact ⟨(0), (([] : List Int)), (.slice none 0 0), eq_, H', ⟨lr_ _⟩, ⟨by refine vR_ ?_; exact rm_ (fR_ (rt_ HO_511001.out a.out (by decide))) (fun _ hk => ⟨hk.1.1, ⟨hk.1.2, (by simp [Value.ownBlock])⟩⟩)⟩, ⟨by refine vR_ ?_; exact rm_ (fR_ (rt_ HO_511003.out a.out (by decide))) (fun _ hk => ⟨hk.1.1, ⟨hk.1.2, (by simp [Value.ownBlock])⟩⟩)⟩, ⟨by refine vR_ ?_; exact rm_ (fR_ (rt_ be.out a.out (by decide))) (fun _ hk => ⟨hk.1.1.2, ⟨hk.1.2, (by simp [Value.ownBlock])⟩⟩)⟩, ⟨nil_⟩, ⟨by refine bk_ ?_; refine blk_far ?_ p.out _; refine bk_ ?_; exact c.out⟩, ⟨by refine bk_ ?_; refine blk_far ?_ q.out _; refine bk_ ?_; exact d.out⟩, ⟨by refine bk_ ?_; refine bu_ (cs := #[.int .i64 l, .slice E y.length F, .slice none 0 0, u511003, .slice none 0 0, .slice none 0 0, .int .i64 0, .slice none 0 0]) ?_ 4 _ rfl; refine bk_ ?_; exact a.out⟩, ⟨bel_⟩⟩
    clear H'
    try clear c1
    try clear c2
    try clear p2
    try clear c3
    try clear c4
    try clear c5
    try clear c5b0
    try clear p5
    try clear q5
    try clear bj
    try clear c6
    try clear c6b0
    try clear p6
    try clear c7
    try clear c10
    try clear c13
    try clear c14
    try clear c18
    try clear c21
    try clear c21b0
    try clear c21b1
    try clear c23
    try clear c23b0
    try clear c25
    try clear c25b0
    try clear c28
    try clear c28b0
    try clear c30
    try clear c30b0
    try clear c32
    try clear c32b0
    try clear c34
    try clear c34b0
    try clear c34b1
    try clear c36
    try clear c36b0
    try clear c37
    try clear c37b0
    try clear c37b1
    try clear c38
    try clear c38b0
    try clear c38b1
    try clear c39
    try clear c42
    try clear c43
    try clear c47
    try clear p51
    try clear bx
    try clear bG
    try clear c54
    try clear c54b0
    try clear c55
    try clear c56
    try clear c57
    try clear c59
    try clear p64
    try clear c65
    try clear c66
    try clear c70
    try clear ai
    try clear p2
    try clear p5
    try clear p51
    try clear p514
    try clear p6
    try clear q5
    try clear bx
    try clear ak
    obtain ⟨z, G, u511005, rfl, HA, bz, HO_511001, HO_511003, HO_511004, HO_511005, c, d, a, HB⟩ := hrel
    cases gk with
    | zero => exact absurd HA.out (by simp [jigsawref06_Make.l1])
    | succ k4 =>
     have H := HA.out
     clear HA
     simp only [jigsawref06_Make.l1] at H
     by_cases c72 : z < (1 + ((r.length : Int) % 3))
     rotate_left
     ·
      rw [ig_ c72] at H
      have c72b0 : decide (z < (1 + ((r.length : Int) % 3))) = false := df_ c72
      clear c72
      by_cases c82 : l = 18
      ·
       rw [ip_ c82] at H
       exact ab_ H
      rw [ig_ c82] at H
      have c82b0 : (l == 18) = false := be_.mpr c82
      have c82b1 : (l != 18) = true := ni_.mpr c82
      simp only [Option.some.injEq, Prod.mk.injEq] at H
      obtain ⟨rfl, rfl, rfl, rfl, rfl, rfl, rfl, rfl⟩ := H
      have cv := V.out
      have cw := p.out
      have cx := W.out
      have cy := q.out
      obtain ⟨_, _, _, _, _, _, _, _, _, _, _, _, _, _, _, _⟩ := cel8_ a.out
      have cz := aa.out
      have cA := Z.out
      obtain ⟨_, _, _, _, _, _, _, _, _, _, _, _, _, _, _, _⟩ := cel8_ d.out
      obtain ⟨ay, az, bO⟩ := Kd.R_slice HO_511003.out
      subst bO
      obtain ⟨a2, a3, bP⟩ := Kd.R_slice HO_511005.out
      subst bP
      go_wp2
      refine bodyPost_ret (results_cell_row rfl _ _ U 32 #[.int .i64 l, .slice E y.length F, .slice none 0 0, .slice ay u.length az, .slice ah B.length X, .slice a2 G.length a3, .int .i64 0, .slice none 0 0] (0, 0) _ rfl (by refine bk_ ?_; refine bu_ (cs := #[.int .i64 l, .slice E y.length F, .slice none 0 0, .slice ay u.length az, .slice ah B.length X, .slice a2 G.length a3, .int .i64 0, .slice none 0 0]) ?_ 7 _ rfl; refine bk_ ?_; refine bu_ (cs := #[.int .i64 l, .slice E y.length F, .slice none 0 0, .slice ay u.length az, .slice ah B.length X, .slice a2 G.length a3, .int .i64 0, .slice none 0 0]) ?_ 6 _ rfl; refine bk_ ?_; refine bu_ (cs := #[.int .i64 l, .slice E y.length F, .slice none 0 0, .slice ay u.length az, .slice ah B.length X, .slice none 0 0, .int .i64 0, .slice none 0 0]) ?_ 5 _ rfl; refine bk_ ?_; refine bu_ (cs := #[.int .i64 l, .slice E y.length F, .slice none 0 0, .slice ay u.length az, .slice none 0 0, .slice none 0 0, .int .i64 0, .slice none 0 0]) ?_ 4 _ rfl; refine bk_ ?_; refine bu_ (cs := #[.int .i64 l, .slice E y.length F, .slice none 0 0, .slice none 0 0, .slice none 0 0, .slice none 0 0, .int .i64 0, .slice none 0 0]) ?_ 3 _ rfl; refine bk_ ?_; refine bu_ (cs := #[.int .i64 l, .slice E y.length F, .slice none 0 0, .slice none 0 0, .slice none 0 0, .slice none 0 0, .int .i64 0, .slice none 0 0]) ?_ 2 _ rfl; refine bk_ ?_; refine bu_ (cs := #[.int .i64 l, .slice none 0 0, .slice none 0 0, .slice none 0 0, .slice none 0 0, .slice none 0 0, .int .i64 0, .slice none 0 0]) ?_ 1 _ rfl; refine bk_ ?_; refine bu_ (cs := #[.int .i64 0, .slice none 0 0, .slice none 0 0, .slice none 0 0, .slice none 0 0, .slice none 0 0, .int .i64 0, .slice none 0 0]) ?_ 0 _ rfl; refine bk_ ?_; exact d.out) Tryz.underlying32 rfl kr_) rfl ?_
      exact ⟨_, _, _, _, _, _, by first | rfl | (simp [errW_none, errW_some] <;> rfl) | (simp only [← af]; first | rfl | (simp [errW_none, errW_some] <;> rfl)) | (simp [*, errW_none, errW_some] <;> rfl), by refine vR_ ?_; exact rm_ (fR_ (fR_ (fR_ (fR_ (fR_ (fR_ (fR_ (fR_ (rt_ HO_511001.out d.out (by decide)))))))))) (fun _ hk => ⟨(by simp [Value.ownBlock]), ⟨hk.1.1, ⟨hk.1.2.1, hk.1.2.2⟩⟩⟩), by first | exact Kd.R_nil _ _ _ _ _ | exact Kd.N_nil _ _ _ _ _ | exact Kd.V_nil _ _ _ _ _ | exact Kd.Q_nil _ _ _ _ _ | exact Kd.S_nil _ _ _ _ _, by refine vR_ ?_; exact rm_ (fR_ (fR_ (fR_ (fR_ (fR_ (fR_ (fR_ (fR_ (rt_ HO_511003.out d.out (by decide)))))))))) (fun _ hk => ⟨hk.1.1, ⟨(by simp [Value.ownBlock]), ⟨hk.1.2.1, hk.1.2.2⟩⟩⟩), by refine vR_ ?_; exact rm_ (fR_ (fR_ (fR_ (fR_ (fR_ (fR_ (fR_ (fR_ (rt_ HO_511004.out d.out (by decide)))))))))) (fun _ hk => ⟨hk.1.1, ⟨(by simp [Value.ownBlock]), ⟨hk.1.2.1, hk.1.2.2⟩⟩⟩), by refine vR_ ?_; exact rm_ (fR_ (fR_ (fR_ (fR_ (fR_ (fR_ (fR_ (fR_ (rt_ HO_511005.out d.out (by decide)))))))))) (fun _ hk => ⟨hk.1.1, ⟨(by simp [Value.ownBlock]), ⟨hk.1.2.1, hk.1.2.2⟩⟩⟩), by first | exact Kd.S_nil _ _ _ _ _ | exact Kd.N_nil _ _ _ _ _ | exact Kd.V_nil _ _ _ _ _ | exact Kd.Q_nil _ _ _ _ _ | exact Kd.R_nil _ _ _ _ _, bel_⟩
     rw [ip_ c72] at H
     have c72b0 : decide (z < (1 + ((r.length : Int) % 3))) = true := dt_ c72
     clear c72
     by_cases c73 : 0 ≤ z
     rotate_left
     ·
      rw [ig_ c73] at H
      exact ab_ H
     rw [ip_ c73] at H
     have c73b0 : decide (0 ≤ z) = true := dt_ c73
     clear c73
     by_cases c74 : z < (B.length : Int)
     rotate_left
     ·
      rw [ig_ c74] at H
      exact ab_ H
     rw [ip_ c74] at H
     have c74b0 : decide (z < (B.length : Int)) = true := dt_ c74
     clear c74
     have c75b0 := et_ (dq_ : 0 ≤ z)
     obtain ⟨ap, aq⟩ : ∃ j_ : Int, (shr .i64 (wrap64 (M)) z) = j_ := ⟨_, rfl⟩
     replace H : (if G.length < 17592186044416 then (jigsawref06_Make.l1 k4 (1 + ((r.length : Int) % 3)) (wrap64 (z + 1)) P A I r J M l y u B (G ++ [wrap64 ((rd B z) + (Int.tmod (ap) 3))]) 0) else (none)) = some (r1, r2, r3, r4, r5, r6, r7, r8) := by first | (rw [aq] at H; exact H) | (simp only [aq] at H ⊢; exact H)
     have b0 : ((wrap64 (M)) / 2 ^ min z.toNat 64) = ap := aq
     have hji76z : z ≤ 64 → ((wrap64 (M)) / 2 ^ z.toNat) = ap := shr_small aq
     by_cases c77 : G.length < 17592186044416
     rotate_left
     ·
      rw [ig_ c77] at H
      exact ab_ H
     rw [ip_ c77] at H
     have LMc77 := a_ c77
     clear c77
     obtain ⟨aZ, ao⟩ : ∃ y_ : List Int, y_ = (G ++ [wrap64 ((rd B z) + (Int.tmod (ap) 3))]) := ⟨_, rfl⟩
     replace H : (jigsawref06_Make.l1 k4 (1 + ((r.length : Int) % 3)) (wrap64 (z + 1)) P A I r J M l y u B aZ 0) = some (r1, r2, r3, r4, r5, r6, r7, r8) := h2_ H ao
     have bv := a_ ao
     clear ao
     have H' := a_ H
     clear H
     try go_wp2
     replace HO_511001 := a_ (Kd.R_drew HO_511001.out)
     replace HO_511003 := a_ (Kd.R_drew HO_511003.out)
     replace HO_511004 := a_ (Kd.R_drew HO_511004.out)
     replace HO_511005 := a_ (Kd.R_drew HO_511005.out)
     replace c := a_ (blk_drew c.out)
     replace d := a_ (blk_drew d.out)
     replace a := a_ (blk_drew a.out)
     replace HB := a_ (below_drew1 HB.out)
     have p532 : 0 ≤ (z : Int) := dq_
     have a0 : z < (B.length : Int) := dq_
     obtain ⟨aj, bL, aM⟩ := ai_ (rr_ HO_511004.out).2.2 z p532 a0
     cases bL
     replace p532 := et_ p532
     replace a0 := et_ a0
     refine start_ (n := 18) (S := fun w' => w'.cell? ⟨m, 0, none⟩ = some (.int .i64 l) ∧ w'.cell? ⟨m, 1, none⟩ = some (.slice E y.length F) ∧ w'.cell? ⟨m, 2, none⟩ = some (.slice none 0 0) ∧ w'.cell? ⟨m, 3, none⟩ = some (u511003) ∧ w'.cell? ⟨m, 4, none⟩ = some (.slice (some aj) B.length X) ∧ w'.cell? ⟨m, 5, none⟩ = some (u511005) ∧ w'.cell? ⟨m, 6, none⟩ = some (.int .i64 0) ∧ w'.cell? ⟨m, 7, none⟩ = some (.slice none 0 0) ∧ w'.cell? ⟨O, 0, none⟩ = some (.int .u8 P) ∧ w'.cell? ⟨O, 1, none⟩ = some (.slice ab A.length c0_1) ∧ w'.cell? ⟨O, 2, none⟩ = some (.slice ac I.length c0_2) ∧ w'.cell? ⟨O, 3, none⟩ = some (.slice Y r.length c0_3) ∧ w'.cell? ⟨O, 4, none⟩ = some (.int .i16 J) ∧ w'.cell? ⟨O, 5, none⟩ = some (.int .u8 M) ∧ w'.cell? (aj.add (z).toNat) = some (.int .i64 (rd B z))) (ds := [15, 17]) #[false, false, false, false, false, false, false, false, false, false, false, false, false, false, false, false, false, false] kr_ rfl rfl (cb8_ a.out (cb6_ c.out (aM))) (fun hHeld => ?_); refine with_tabW jigsawref06_Make.tab37 jigsawref06_Make.bits37 (fun HT_ HW_ => ?_)
     generalize wr.drew = w78 at HO_511001 HO_511003 HO_511004 HO_511005 c d a HB aM hHeld ⊢
     refine pn_ 0 143 ao_ ?_
     refine pn_ 2 145 ao_ ?_
     refine pn_ 4 147 ao_ ?_
     refine pn_ 7 150 ao_ ?_
     refine pn_ 10 153 ao_ ?_
     refine tn_ 1 144 tw_ hHeld ?_
     refine tn_ 3 146 tw_ hHeld ?_
     refine pn_ 5 148 ao_ ?_
     refine tn_ 6 149 tw_ hHeld ?_
     refine tn_ 8 151 tw_ hHeld ?_
     refine pn_ 9 152 ao_ ?_
     refine pn_ 11 154 ao_ ?_
     refine pn_ 12 155 ao_ ?_
     refine pn_ 13 156 ao_ ?_
     refine onn_ 14 157 #[true, true, true, true, true, true, true, true, true, true, true, true, true, true, true, false, false, false] rfl rfl on_ (by decide) (fun K hK => ?_)
     refine value_ (w1 := ?_) (v := ?_) (by rfl) rfl ?_ ?_
     rotate_left 2
     ·
      go_simp
      constructor
      · rfl
      rfl
     refine hK.out _ _ ⟨(blk_cell (blk_alloc a.out _) 0).trans rfl, (blk_cell (blk_alloc a.out _) 1).trans rfl, (blk_cell (blk_alloc a.out _) 2).trans rfl, (blk_cell (blk_alloc a.out _) 3).trans rfl, (blk_cell (blk_alloc a.out _) 4).trans rfl, (blk_cell (blk_alloc a.out _) 5).trans rfl, (blk_cell (blk_alloc a.out _) 6).trans rfl, (blk_cell (blk_alloc a.out _) 7).trans rfl, (blk_cell (blk_alloc c.out _) 0).trans rfl, (blk_cell (blk_alloc c.out _) 1).trans rfl, (blk_cell (blk_alloc c.out _) 2).trans rfl, (blk_cell (blk_alloc c.out _) 3).trans rfl, (blk_cell (blk_alloc c.out _) 4).trans rfl, (blk_cell (blk_alloc c.out _) 5).trans rfl, (World.cell?_alloc_lt _ _ _ (wl_ _ _ (hHeld.2.2.2.2.2.2.2.2.2.2.2.2.2.2))).trans (hHeld.2.2.2.2.2.2.2.2.2.2.2.2.2.2)⟩ (fun hHeld => ?_)
     clear hK K
     refine nor_ (N := some 157) ?_
     refine last_ (i := 15) (N := some 158) #[true, true, true, true, true, true, true, true, true, true, true, true, true, true, true, true, false, false] rfl rfl on_ (by decide) (fun K hK => ?_)
     refine Kd.R_append_step (Kd.int .i64) (w0 := w) w.heap.size (by rfl) (.tmp 144) (.tmp 157) 30 3 (.int .i64 0) 8 rfl Tryz.underlying30 info3 rfl (by decide) (by omega) u511005 G (wrap64 ((rd B z) + (Int.tmod (ap) 3))) [.int .i64 (wrap64 ((rd B z) + (Int.tmod (ap) 3)))] (fun s => some s ≠ (.slice E y.length F : Value).ownBlock ∧ some s ≠ u511003.ownBlock ∧ some s ≠ (.slice (some aj) B.length X : Value).ownBlock) (fun _ => False) rfl rfl ?aP (fun _ hk => hk.elim) ?aF ?aO ?aB ?aS ?aL ?_
     (case aP => exact rfl)
     (case aB => exact bel_)
     (case aF => exact (fun s hk => ⟨fr_ (rl_ (vR_ HO_511001.out)) s hk, fr_ (rl_ (vR_ HO_511003.out)) s hk, fr_ (rl_ (vR_ HO_511004.out)) s hk⟩))
     (case aO => exact (vR_ HO_511005.out))
     (case aS => exact (bz_ bel_))
     (case aL => have := LMc77.out; omega)
     intro cJ w79 ho hb hg hat
     rw [← bv.out] at ho
     replace HO_511001 := a_ (Kd.R_after (ok := (fun s => some s ≠ u511003.ownBlock ∧ some s ≠ (.slice (some aj) B.length X : Value).ownBlock)) (by refine vR_ ?_; exact rm_ HO_511001.out (fun _ hk => ⟨⟨hk.1, hk.2.1⟩, hk.2.2⟩)) hg hat)
     replace HO_511003 := a_ (Kd.R_after (ok := (fun s => some s ≠ (.slice E y.length F : Value).ownBlock ∧ some s ≠ (.slice (some aj) B.length X : Value).ownBlock)) (by refine vR_ ?_; exact rm_ HO_511003.out (fun _ hk => ⟨⟨hk.1, hk.2.1⟩, hk.2.2⟩)) hg hat)
     replace HO_511004 := a_ (Kd.R_after (ok := (fun s => some s ≠ (.slice E y.length F : Value).ownBlock ∧ some s ≠ u511003.ownBlock)) (by refine vR_ ?_; exact rm_ HO_511004.out (fun _ hk => ⟨⟨hk.1, hk.2.1⟩, hk.2.2⟩)) hg hat)
     replace c := a_ (blk_grown (bk_ c.out) hg (Kd.R_ne HO_511005.out c.out (by decide)))
     replace d := a_ (blk_grown (bk_ d.out) hg (Kd.R_ne HO_511005.out d.out (by decide)))
     replace a := a_ (blk_grown (bk_ a.out) hg (Kd.R_ne HO_511005.out a.out (by decide)))
     replace HB := a_ (hb)
     have bf := a_ (ho)
     clear HO_511005
     clear ho hb hg hat
     obtain ⟨bM, bN, bl⟩ := Kd.R_slice bf.out
     (first | subst bl | (injection bl with f1_ f2_ f3_; have f4_ := f1_.symm; have f5_ := f3_.symm; clear f1_ f2_ f3_; subst f4_; subst f5_))
     refine hK.out _ _ ?_
     clear hK K
     refine nor_ (N := some 158) ?_
     refine pn_ 16 159 ao_ ?_
     refine last_ (i := 17) (N := none) #[true, true, true, true, true, true, true, true, true, true, true, true, true, true, true, true, true, true] rfl rfl on_ (by decide) (fun K hK => ?_)
     have cK : w79.cell? ⟨m, 5, none⟩ = some (u511005) := (blk_cell a.out 5).trans rfl
     have hfs81 := blk_frozen a.out 5
     have hns81_0 := p.out
     have hns81_1 := q.out
     have hms81_0 := V.out
     have hms81_1 := W.out
     refine skip_ (w1 := ?_) (by rfl) rfl ?_ ?_
     rotate_left
     ·
      go_simp
      rfl
     refine hK.out _ _ ?_
     clear hK K
     refine done_ dn_ ?_
     try go_wp2
     go_roundg k4
     case measure => have := aK.out; have := aN.out; have := bc.out; have := bz.out; omega
     exact ⟨(wrap64 (z + 1)), (aZ), (.slice bM aZ.length bN), eq_, H', ⟨by have := aK.out; have := aN.out; have := bc.out; have := bz.out; omega⟩, ⟨by refine vR_ ?_; exact rm_ (fR_ (rt_ HO_511001.out a.out (by decide))) (fun _ hk => ⟨hk.1.1.1, ⟨hk.1.1.2, hk.1.2⟩⟩)⟩, ⟨by refine vR_ ?_; exact rm_ (fR_ (rt_ HO_511003.out a.out (by decide))) (fun _ hk => ⟨hk.1.1.1, ⟨hk.1.1.2, hk.1.2⟩⟩)⟩, ⟨by refine vR_ ?_; exact rm_ (fR_ (rt_ HO_511004.out a.out (by decide))) (fun _ hk => ⟨hk.1.1.1, ⟨hk.1.1.2, hk.1.2⟩⟩)⟩, ⟨by refine vR_ ?_; exact rm_ (fR_ (rt_ bf.out a.out (by decide))) (fun _ hk => ⟨hk.1.1, ⟨hk.1.2.1, hk.1.2.2⟩⟩)⟩, ⟨by refine bk_ ?_; refine blk_far ?_ p.out _; refine bk_ ?_; exact c.out⟩, ⟨by refine bk_ ?_; refine blk_far ?_ q.out _; refine bk_ ?_; exact d.out⟩, ⟨by refine bk_ ?_; refine bu_ (cs := #[.int .i64 l, .slice E y.length F, .slice none 0 0, u511003, .slice (some aj) B.length X, u511005, .int .i64 0, .slice none 0 0]) ?_ 5 _ rfl; refine bk_ ?_; exact a.out⟩, ⟨bel_⟩⟩

end Go.Proofs.YtijjhobjmehhoaaGreatDoor.XGccFixed
