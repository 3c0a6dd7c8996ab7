import Derived.Test.YtijjhobjmehhoaaGreatDoorXGKex0
import Derived.Test.YtijjhobjmehhoaaGreatDoorXGKex6
import Derived.Test.YtijjhobjmehhoaaGreatDoorXGKex7
import Derived.Test.YtijjhobjmehhoaaGreatDoorXGKex11
import Derived.Test.YtijjhobjmehhoaaGreatDoorXGKex18
import Derived.Test.YtijjhobjmehhoaaGreatDoorXGKex21
import Derived.Test.YtijjhobjmehhoaaGreatDoorXGKex22
import Derived.Test.YtijjhobjmehhoaaGreatDoorXGKex24
import Derived.Test.YtijjhobjmehhoaaGreatDoorXGKex28
import Derived.Test.YtijjhobjmehhoaaGreatDoorSq
namespace Go.Proofs.YtijjhobjmehhoaaGreatDoor.XGccKeeps
open Go.RowKit Go.Proofs.YtijjhobjmehhoaaGreatDoor.Sq Go.Proofs.YtijjhobjmehhoaaGreatDoorW.PrintWords Go.Proofs.YtijjhobjmehhoaaGreatDoorW.PrintLast Go.Proofs.YtijjhobjmehhoaaGreatDoorW.PrintMore
attribute [local go_sem] max2_int min2_int max_two min_two max_three min_three max_four min_four
set_option linter.unusedVariables false
set_option linter.unusedSimpArgs false

mutual
def jigsawlaw20_GccKeeps.j0 : Nat → List (List Int) → List (List Int) → List (S58) → Bool → Bool → Int → List Int → List Int → List Int → List Int → List Int → Int → List (List Int) → Option (Bool)
 | 0, _, _, _, _, _, _, _, _, _, _, _, _, _ => none
 | k + 1, n, q, r, s, t, a, b, c, d, e, g, l, m => if t = true then ((jigsawlaw20_wakes.f k).bind fun o => (some o)) else (if s = true then (if (r.length : Int) = (n.length : Int) then (jigsawlaw20_GccKeeps.l0 k q r n (n.length : Int) 0 a b c d e g l m) else (none)) else ((jigsawlaw20_wakes.f k).bind fun p => (if p = true then (some ((q.length : Int) == 0)) else (none))))
def jigsawlaw20_GccKeeps.l0 : Nat → List (List Int) → List (S58) → List (List Int) → Int → Int → Int → List Int → List Int → List Int → List Int → List Int → Int → List (List Int) → Option (Bool)
 | 0, _, _, _, _, _, _, _, _, _, _, _, _, _ => none
 | k + 1, s, o, p, r, a, b, c, d, e, g, l, m, n => if a < r then (if 0 ≤ a then (if a < (p.length : Int) then (if a < (o.length : Int) then ((dom_Dom_List.f k ((rd_T58 o a).f0) ((rd_T58 o a).f1) ((rd_T58 o a).f2) ((rd_T58 o a).f3) ((rd_T58 o a).f4)).bind fun q => (jigsawlaw20_GccKeeps.l1 k s o (rd_L7 p a) p r a q (q.length : Int) 0 b c d e g l m n)) else (none)) else (none)) else (none)) else (jigsawlaw20_GccKeeps.l2 k o s (s.length : Int) 0 b c d e g l m n)
def jigsawlaw20_GccKeeps.l1 : Nat → List (List Int) → List (S58) → List Int → List (List Int) → Int → Int → List Int → Int → Int → Int → List Int → List Int → List Int → List Int → List Int → Int → List (List Int) → Option (Bool)
 | 0, _, _, _, _, _, _, _, _, _, _, _, _, _, _, _, _, _ => none
 | k + 1, v, x, p, q, r, s, o, t, n, a, b, c, d, e, g, l, m => if n < t then (if 0 ≤ n then (if n < (o.length : Int) then ((slices_Contains_int_int.f k p (rd o n)).bind fun u => (if u = true then (jigsawlaw20_GccKeeps.l1 k v x p q r s o t (wrap64 (n + 1)) a b c d e g l m) else (none))) else (none)) else (none)) else (jigsawlaw20_GccKeeps.l0 k v x q r (wrap64 (s + 1)) a b c d e g l m)
def jigsawlaw20_GccKeeps.l2 : Nat → List (S58) → List (List Int) → Int → Int → Int → List Int → List Int → List Int → List Int → List Int → Int → List (List Int) → Option (Bool)
 | 0, _, _, _, _, _, _, _, _, _, _, _, _ => none
 | k + 1, r, o, q, a, b, c, d, e, g, l, m, n => if a < q then (if 0 ≤ a then (if a < (o.length : Int) then (jigsawlaw20_GccKeeps.l3 k r o q a (rd_L7 o a) ((rd_L7 o a).length : Int) 0 b c d e g l m n) else (none)) else (none)) else ((gcc_Filter.f k b c d e g l m n r).bind fun p => ((jigsawlaw20_wakes.f k).bind fun s => (if s = true then (if p.2 = true then ((jigsawlaw20_lists.f k p.1).bind fun t => ((jigsawlaw20_lists.f k r).bind fun u => ((jigsawref10_Same.f k t u).bind fun v => (some v)))) else (none)) else (none))))
def jigsawlaw20_GccKeeps.l3 : Nat → List (S58) → List (List Int) → Int → Int → List Int → Int → Int → Int → List Int → List Int → List Int → List Int → List Int → Int → List (List Int) → Option (Bool)
 | 0, _, _, _, _, _, _, _, _, _, _, _, _, _, _, _ => none
 | k + 1, o, q, r, s, p, t, a, b, c, d, e, g, l, m, n => if a < t then (if 0 ≤ a then (if a < (p.length : Int) then (if a < (o.length : Int) then ((dom_Dom_Has.f ((rd_T58 o a).f0) ((rd_T58 o a).f1) ((rd_T58 o a).f2) ((rd_T58 o a).f3) ((rd_T58 o a).f4) (rd p a)).bind fun u => (if u = true then (jigsawlaw20_GccKeeps.l3 k o q r s p t (wrap64 (a + 1)) b c d e g l m n) else (none))) else (none)) else (none)) else (none)) else (jigsawlaw20_GccKeeps.l2 k o q r (wrap64 (s + 1)) b c d e g l m n)
end
def jigsawlaw20_GccKeeps.f (k : Nat) (d : Int) (e : List Int) (g : List Int) (l : List Int) (m : Int) (n : Int) (o : List (List Int)) (r : Int) : Option (Bool) := (jigsawlaw20_kind.f r).bind fun p => ((jigsawref10_Make.f k d e g l m n o p 6).bind fun a => ((jigsawref10_Solutions.f k a.1 a.2.1 a.2.2.1 a.2.2.2.1 a.2.2.2.2.1 a.2.2.2.2.2.1 a.2.2.2.2.2.2.1 a.2.2.2.2.2.2.2.1 a.2.2.2.2.2.2.2.2 4000).bind fun b => ((jigsawlaw20_doms.f k a.2.2.2.2.2.2.2.2).bind fun q => ((gcc_Filter.f k a.1 a.2.1 a.2.2.1 a.2.2.2.1 a.2.2.2.2.1 a.2.2.2.2.2.1 a.2.2.2.2.2.2.1 a.2.2.2.2.2.2.2.1 q).bind fun c => (jigsawlaw20_GccKeeps.j0 k a.2.2.2.2.2.2.2.2 b.1 c.1 c.2 (!b.2) a.1 a.2.1 a.2.2.1 a.2.2.2.1 a.2.2.2.2.1 a.2.2.2.2.2.1 a.2.2.2.2.2.2.1 a.2.2.2.2.2.2.2.1)))))
theorem jigsawlaw20_GccKeeps.mono_l : ∀ k, (∀ d e f g l m n o p q a b c, LeO (jigsawlaw20_GccKeeps.j0 k d e f g l m n o p q a b c) (jigsawlaw20_GccKeeps.j0 (k + 1) d e f g l m n o p q a b c)) ∧ (∀ d e f g l m n o p q a b c, LeO (jigsawlaw20_GccKeeps.l0 k d e f g l m n o p q a b c) (jigsawlaw20_GccKeeps.l0 (k + 1) d e f g l m n o p q a b c)) ∧ (∀ d e f g l m n o p q a b c s t u v, LeO (jigsawlaw20_GccKeeps.l1 k d e f g l m n o p q a b c s t u v) (jigsawlaw20_GccKeeps.l1 (k + 1) d e f g l m n o p q a b c s t u v)) ∧ (∀ d e f g l m n o p q a b, LeO (jigsawlaw20_GccKeeps.l2 k d e f g l m n o p q a b) (jigsawlaw20_GccKeeps.l2 (k + 1) d e f g l m n o p q a b)) ∧ (∀ d e f g l m n o p q a b c s t, LeO (jigsawlaw20_GccKeeps.l3 k d e f g l m n o p q a b c s t) (jigsawlaw20_GccKeeps.l3 (k + 1) d e f g l m n o p q a b c s t))
 | 0 => by refine ⟨?_, ?_, ?_, ?_, ?_⟩ <;> (intros; exact LeO.none _)
 | k + 1 => by
  obtain ⟨ih0, ih1, ih2, ih3, ih4⟩ := jigsawlaw20_GccKeeps.mono_l k
  have m0 := @dom_Dom_List.mono
  have m1 := @gcc_Filter.mono
  have m2 := @jigsawlaw20_doms.mono
  have m3 := @jigsawlaw20_lists.mono
  have m4 := @jigsawlaw20_wakes.mono
  have m5 := @jigsawref10_Make.mono
  have m6 := @jigsawref10_Same.mono
  have m7 := @jigsawref10_Solutions.mono
  have m8 := @slices_Contains_int_int.mono
  refine ⟨?_, ?_, ?_, ?_, ?_⟩ <;> intros
  all_goals first | unfold jigsawlaw20_GccKeeps.j0 | unfold jigsawlaw20_GccKeeps.l0 | unfold jigsawlaw20_GccKeeps.l1 | unfold jigsawlaw20_GccKeeps.l2 | unfold jigsawlaw20_GccKeeps.l3
  all_goals exact leo_
theorem jigsawlaw20_GccKeeps.mono : ∀ a b c d e g l m k, LeO (jigsawlaw20_GccKeeps.f k a b c d e g l m) (jigsawlaw20_GccKeeps.f (k + 1) a b c d e g l m) := by
 intro a b c d e g l m k
 obtain ⟨ih0, ih1, ih2, ih3, ih4⟩ := jigsawlaw20_GccKeeps.mono_l k
 unfold jigsawlaw20_GccKeeps.f
 have m0 := @dom_Dom_List.mono
 have m1 := @gcc_Filter.mono
 have m2 := @jigsawlaw20_doms.mono
 have m3 := @jigsawlaw20_lists.mono
 have m4 := @jigsawlaw20_wakes.mono
 have m5 := @jigsawref10_Make.mono
 have m6 := @jigsawref10_Same.mono
 have m7 := @jigsawref10_Solutions.mono
 have m8 := @slices_Contains_int_int.mono
 exact leo_
def jigsawlaw20_GccKeeps.T1 : Bool × List (List Nat × List Nat) := (true, [([], []), ([], []), ([1], [1]), ([0, 2, 2], [0, 2]), ([3], [3]), ([4], [4]), ([4], [4]), ([], []), ([7, 5, 3, 0, 1, 2, 3, 4, 5, 7], [5, 7]), ([6, 8, 0, 1, 2, 3, 4, 5, 6, 7, 8], [6])])
def jigsawlaw20_GccKeeps.B1 : List Nat := [0, 0, 2, 7, 15, 31, 31, 0, 191, 511]
theorem jigsawlaw20_GccKeeps.tab1 : rtab .any (opsOf Tryz.f7 1) = jigsawlaw20_GccKeeps.T1 := by kernel_rfl
theorem jigsawlaw20_GccKeeps.bits1 : waitsOk jigsawlaw20_GccKeeps.T1.2 jigsawlaw20_GccKeeps.B1 = true := by kernel_rfl
def jigsawlaw20_GccKeeps.T3 : Bool × List (List Nat × List Nat) := (true, [([], []), ([], []), ([1], [1]), ([0, 2, 2], [0, 2]), ([3], [3]), ([4], [4]), ([4], [4]), ([5, 3, 0, 1, 2, 3, 4, 5], [5]), ([6, 7, 0, 1, 2, 3, 4, 5, 6, 7], [6])])
def jigsawlaw20_GccKeeps.B3 : List Nat := [0, 0, 2, 7, 15, 31, 31, 63, 255]
theorem jigsawlaw20_GccKeeps.tab3 : rtab .any (opsOf Tryz.f7 3) = jigsawlaw20_GccKeeps.T3 := by kernel_rfl
theorem jigsawlaw20_GccKeeps.bits3 : waitsOk jigsawlaw20_GccKeeps.T3.2 jigsawlaw20_GccKeeps.B3 = true := by kernel_rfl
set_option maxHeartbeats 8000000 in
set_option maxRecDepth 100000 in
theorem jigsawlaw20_GccKeeps.calls (k : Nat) (aq : Int) (aC : Option Addr) (c0_1 : Nat) (ak : List Int) (aD : Option Addr) (c0_2 : Nat) (al : List Int) (aE : Option Addr) (c0_3 : Nat) (am : List Int) (ar : Int) (au : Int) (aF : Option Addr) (c0_6 : Nat) (an : List (List Int)) (a1 : Int) (r : Bool) (w : World) (b3 : Kd.C (Kd.int .u8) w aC ak.length ak) (b4 : ak.length ≤ c0_1) (b5 : Kd.C (Kd.int .u8) w aD al.length al) (b6 : al.length ≤ c0_2) (b7 : Kd.C (Kd.int .i8) w aE am.length am) (b8 : am.length ≤ c0_3) (b9 : Kd.C (Kd.slice 3 (Kd.int .i64)) w aF an.length an) (ca : an.length ≤ c0_6) (hrtab : Kd.C (Kd.int .u8) w (some ⟨0, 0, none⟩) tabL.length tabL) (h : jigsawlaw20_GccKeeps.f k aq ak al am ar au an a1 = some r) :
  Calls Tryz.prog 7 #[.agg #[.int .u8 aq, .slice aC ak.length c0_1, .slice aD al.length c0_2, .slice aE am.length c0_3, .int .i16 ar, .int .u8 au, .slice aF an.length c0_6], .int .u8 a1] w fun e w' => e = .returned (.bool r) ∧ Below w.heap.size w w' := by
 have hu29 := Tryz.underlying29
 have hu32 := Tryz.underlying32
 have hu58 := Tryz.underlying58
 have bL := a_ b3
 have bM := a_ b4
 clear b3 b4
 have bN := a_ b5
 have bO := a_ b6
 clear b5 b6
 have bP := a_ b7
 have bQ := a_ b8
 clear b7 b8
 have bR := a_ b9
 have bS := a_ ca
 clear b9 ca
 have HRtab := a_ hrtab
 clear hrtab
 have HB := a_ (Below.refl w.heap.size w)
 unfold jigsawlaw20_GccKeeps.f at h
 have H := h
 clear h
 replace H := bo_ H
 obtain ⟨aT, A3, H⟩ := H
 try dsimp only at H
 replace H := bs_.mp H
 obtain ⟨⟨ag, m, o, q, s, u, aj, Q, U⟩, cE, H⟩ := H
 try dsimp only at H
 have A4 := a_ cE
 clear cE
 replace H := bs_.mp H
 obtain ⟨⟨W, ck⟩, cF, H⟩ := H
 try dsimp only at H
 have A5 := a_ cF
 clear cF
 replace H := bo_ H
 obtain ⟨b1, A6, H⟩ := H
 try dsimp only at H
 replace H := bs_.mp H
 obtain ⟨⟨M, bT⟩, cb, H⟩ := H
 try dsimp only at H
 have A7 := a_ cb
 clear cb
 have cl := a_ H
 clear H
 go_enter Tryz.func7, Tryz.ntmps7
 try go_wp2_with (first | ((with_reducible refine gate_dst (N := 2) rfl ?_); (try (refine gate_guard (by rfl) ?_; dsimp only)); refine bxe_ (N := 2) (cs := #[.int .u8 aq, .slice aC ak.length c0_1, .slice aD al.length c0_2, .slice aE am.length c0_3, .int .i16 ar, .int .u8 au, .slice aF an.length c0_6]) (t := 29) ?_; intro l hg w9 hbox hb; have d := a_ (hbox); have cB := a_ (by rw [hg]; exact (bz_ bel_) : w.heap.size ≤ l); have dA := cB; replace HB := hq_ hb; clear hb hbox hg))
 replace d := a_ (blk_drew d.out)
 replace HB := a_ (below_drew1 HB.out)
 refine start_ (n := 10) (S := fun w' => w'.cell? ⟨l, 0, none⟩ = some (.int .u8 aq) ∧ w'.cell? ⟨l, 1, none⟩ = some (.slice aC ak.length c0_1) ∧ w'.cell? ⟨l, 2, none⟩ = some (.slice aD al.length c0_2) ∧ w'.cell? ⟨l, 3, none⟩ = some (.slice aE am.length c0_3) ∧ w'.cell? ⟨l, 4, none⟩ = some (.int .i16 ar) ∧ w'.cell? ⟨l, 5, none⟩ = some (.int .u8 au) ∧ w'.cell? ⟨l, 6, none⟩ = some (.slice aF an.length c0_6)) (ds := []) #[false, false, false, false, false, false, false, false, false, false] kr_ rfl rfl (ca7_ d.out) (fun hHeld => ?_); refine with_tabW jigsawlaw20_GccKeeps.tab1 jigsawlaw20_GccKeeps.bits1 (fun HT_ HW_ => ?_)
 generalize w9.drew = w10 at d HB hHeld ⊢
 refine pn_ 1 23 ao_ ?_
 refine tn_ 0 22 tw_ hHeld ?_
 refine join_ (σ := Value × Value × Value × Value × Value × Value × Value × Nat) 2 #[true, true, true, true, true, true, true, true, false, false] (fun s_ => [(24, .int .i64 aT), (25, .tuple #[.agg #[.int .i64 ag, s_.1, s_.2.1, s_.2.2.1, s_.2.2.2.1, s_.2.2.2.2.1, .int .i64 aj, s_.2.2.2.2.2.1], s_.2.2.2.2.2.2.1]), (5, .pointer (some ⟨s_.2.2.2.2.2.2.2, 0, none⟩)), (21, .tuple #[.agg #[.int .i64 ag, s_.1, s_.2.1, s_.2.2.1, s_.2.2.2.1, s_.2.2.2.2.1, .int .i64 aj, s_.2.2.2.2.2.1], s_.2.2.2.2.2.2.1]), (26, .agg #[.int .i64 ag, s_.1, s_.2.1, s_.2.2.1, s_.2.2.2.1, s_.2.2.2.2.1, .int .i64 aj, s_.2.2.2.2.2.1]), (27, s_.2.2.2.2.2.2.1)]) (fun s_ w' => (w'.cell? ⟨l, 0, none⟩ = some (.int .u8 aq) ∧ w'.cell? ⟨l, 1, none⟩ = some (.slice aC ak.length c0_1) ∧ w'.cell? ⟨l, 2, none⟩ = some (.slice aD al.length c0_2) ∧ w'.cell? ⟨l, 3, none⟩ = some (.slice aE am.length c0_3) ∧ w'.cell? ⟨l, 4, none⟩ = some (.int .i16 ar) ∧ w'.cell? ⟨l, 5, none⟩ = some (.int .u8 au) ∧ w'.cell? ⟨l, 6, none⟩ = some (.slice aF an.length c0_6)) ∧ (Kd.R (Kd.int .i64) 3 w' w.heap.size (fun a => some a ≠ (s_.2.1 : Value).ownBlock ∧ some a ≠ (s_.2.2.1 : Value).ownBlock ∧ some a ≠ (s_.2.2.2.1 : Value).ownBlock ∧ some a ≠ (s_.2.2.2.2.1 : Value).ownBlock) s_.1 m) ∧ (Kd.R (Kd.int .i64) 3 w' w.heap.size (fun a => some a ≠ (s_.1 : Value).ownBlock ∧ some a ≠ (s_.2.2.1 : Value).ownBlock ∧ some a ≠ (s_.2.2.2.1 : Value).ownBlock ∧ some a ≠ (s_.2.2.2.2.1 : Value).ownBlock) s_.2.1 o) ∧ (Kd.R (Kd.int .i64) 3 w' w.heap.size (fun a => some a ≠ (s_.1 : Value).ownBlock ∧ some a ≠ (s_.2.1 : Value).ownBlock ∧ some a ≠ (s_.2.2.2.1 : Value).ownBlock ∧ some a ≠ (s_.2.2.2.2.1 : Value).ownBlock) s_.2.2.1 q) ∧ (Kd.R (Kd.int .i64) 3 w' w.heap.size (fun a => some a ≠ (s_.1 : Value).ownBlock ∧ some a ≠ (s_.2.1 : Value).ownBlock ∧ some a ≠ (s_.2.2.1 : Value).ownBlock ∧ some a ≠ (s_.2.2.2.2.1 : Value).ownBlock) s_.2.2.2.1 s) ∧ (Kd.R (Kd.int .i64) 3 w' w.heap.size (fun a => some a ≠ (s_.1 : Value).ownBlock ∧ some a ≠ (s_.2.1 : Value).ownBlock ∧ some a ≠ (s_.2.2.1 : Value).ownBlock ∧ some a ≠ (s_.2.2.2.1 : Value).ownBlock) s_.2.2.2.2.1 u) ∧ (Kd.N (Kd.slice 3 (Kd.int .i64)) 30 w' w.heap.size (fun a => some a ≠ (s_.1 : Value).ownBlock ∧ some a ≠ (s_.2.1 : Value).ownBlock ∧ some a ≠ (s_.2.2.1 : Value).ownBlock ∧ some a ≠ (s_.2.2.2.1 : Value).ownBlock ∧ some a ≠ (s_.2.2.2.2.1 : Value).ownBlock ∧ some a ≠ (s_.2.2.2.2.2.2.1 : Value).ownBlock ∧ a ≠ l ∧ a ≠ s_.2.2.2.2.2.2.2) s_.2.2.2.2.2.1 Q) ∧ (Kd.N (Kd.slice 3 (Kd.int .i64)) 30 w' w.heap.size (fun a => some a ≠ (s_.1 : Value).ownBlock ∧ some a ≠ (s_.2.1 : Value).ownBlock ∧ some a ≠ (s_.2.2.1 : Value).ownBlock ∧ some a ≠ (s_.2.2.2.1 : Value).ownBlock ∧ some a ≠ (s_.2.2.2.2.1 : Value).ownBlock ∧ some a ≠ (s_.2.2.2.2.2.1 : Value).ownBlock ∧ a ≠ l ∧ a ≠ s_.2.2.2.2.2.2.2) s_.2.2.2.2.2.2.1 U) ∧ (w'.heap[l]? = some (.cells #[.int .u8 aq, .slice aC ak.length c0_1, .slice aD al.length c0_2, .slice aE am.length c0_3, .int .i16 ar, .int .u8 au, .slice aF an.length c0_6] 29 (0, 0))) ∧ (w'.heap[s_.2.2.2.2.2.2.2]? = some (.cells #[.int .i64 0, .slice none 0 0, .slice none 0 0, .slice none 0 0, .slice none 0 0, .slice none 0 0, .int .i64 0, .slice none 0 0] 32 (0, 0))) ∧ (w.heap.size ≤ s_.2.2.2.2.2.2.2) ∧ (w.heap.size ≤ s_.2.2.2.2.2.2.2) ∧ (l ≠ s_.2.2.2.2.2.2.2) ∧ (s_.2.2.2.2.2.2.2 ≠ l) ∧ (Below w.heap.size w w')) ?_ ?_
 rotate_left
 ·
  intro hCont
  refine two_ (i := 2) (j := 7) (Ni := some 24) (Nj := some 5) #[true, true, true, false, false, false, false, false, false, false] #[true, true, false, false, false, false, false, true, false, false] rfl rfl rfl rfl (two_of HT_.out kr_) (by decide) (by decide) (fun K hK => ?_) (fun K hK => ?_)
  ·
   skip
   refine goes_ Tryz.func9 kr_ rfl #[.int .u8 a1] (by rfl) rfl rfl ar_ ?_
   with_reducible refine (jigsawlaw20_kind.calls a1 aT _ A3.out).mono ?_
   rintro e w' ⟨rfl, ⟨nd, rfl⟩⟩
   refine ⟨_, rfl, ?_⟩
   refine hK.out _ _ (ca7_ d.out) (fun hHeld => ?_)
   clear hK K
   refine nor_ (N := some 24) ?_
   refine two_ (i := 3) (j := 7) (Ni := some 25) (Nj := some 5) #[true, true, true, true, false, false, false, false, false, false] #[true, true, true, false, false, false, false, true, false, false] rfl rfl rfl rfl (two_of HT_.out kr_) (by decide) (by decide) (fun K hK => ?_) (fun K hK => ?_)
   ·
    skip
    refine goes_ Tryz.func8 kr_ rfl #[.agg #[.int .u8 aq, .slice aC ak.length c0_1, .slice aD al.length c0_2, .slice aE am.length c0_3, .int .i16 ar, .int .u8 au, .slice aF an.length c0_6], .int .i64 aT, .int .i64 6] (by rfl) rfl rfl ar_ ?_
    with_reducible refine (jigsawref10_Make.calls k aq _ _ ak _ _ al _ _ am ar au _ _ an aT 6 ag m o q s u aj Q U _ ?_ ?_ ?_ ?_ ?_ ?_ ?_ ?_ A4.out).mono ?_
    focus repeat (first | exact (cb_ bL.out bel_) | (with_reducible refine Kd.C_alloc ?_ _) | (with_reducible refine Kd.C_drewN ?_ _) | (with_reducible refine Kd.C_drew ?_))
    exact bM.out
    focus repeat (first | exact (cb_ bN.out bel_) | (with_reducible refine Kd.C_alloc ?_ _) | (with_reducible refine Kd.C_drewN ?_ _) | (with_reducible refine Kd.C_drew ?_))
    exact bO.out
    focus repeat (first | exact (cb_ bP.out bel_) | (with_reducible refine Kd.C_alloc ?_ _) | (with_reducible refine Kd.C_drewN ?_ _) | (with_reducible refine Kd.C_drew ?_))
    exact bQ.out
    focus repeat (first | exact (cb_ bR.out bel_) | (with_reducible refine Kd.C_alloc ?_ _) | (with_reducible refine Kd.C_drewN ?_ _) | (with_reducible refine Kd.C_drew ?_))
    exact bS.out
    rintro e w11 ⟨av, aw, ax, ay, az, aP, aL, rfl, X, bc, bd, be, bf, bg, bh, hb⟩
    refine ⟨_, rfl, ?_⟩
    have ad := a_ (Kd.R_lower X (bz_ bel_))
    have ae := a_ (Kd.R_lower bc (bz_ bel_))
    have Z := a_ (Kd.R_lower bd (bz_ bel_))
    have aa := a_ (Kd.R_lower be (bz_ bel_))
    have ab := a_ (Kd.R_lower bf (bz_ bel_))
    have P := a_ (Kd.N_lower (nm_ (ok' := fun a => some a ≠ av.ownBlock ∧ some a ≠ aw.ownBlock ∧ some a ≠ ax.ownBlock ∧ some a ≠ ay.ownBlock ∧ some a ≠ az.ownBlock ∧ some a ≠ aL.ownBlock ∧ a ≠ l) (Kd.S_N (Kd.S_bound bg)) (fun a hk_ => ⟨hk_.1.1, hk_.1.2.1, hk_.1.2.2.1, hk_.1.2.2.2.1, hk_.1.2.2.2.2.1, hk_.1.2.2.2.2.2, (Kd.freshB (bk_ d.out) a hk_.2.1)⟩)) (bz_ bel_))
    have O := a_ (Kd.N_lower (nm_ (ok' := fun a => some a ≠ av.ownBlock ∧ some a ≠ aw.ownBlock ∧ some a ≠ ax.ownBlock ∧ some a ≠ ay.ownBlock ∧ some a ≠ az.ownBlock ∧ some a ≠ aP.ownBlock ∧ a ≠ l) (Kd.S_N (Kd.S_bound bh)) (fun a hk_ => ⟨hk_.1.1, hk_.1.2.1, hk_.1.2.2.1, hk_.1.2.2.2.1, hk_.1.2.2.2.2.1, hk_.1.2.2.2.2.2, (Kd.freshB (bk_ d.out) a hk_.2.1)⟩)) (bz_ bel_))
    replace d := a_ (bq_ d.out hb)
    replace HB := hq_ hb
    clear hb X bc bd be bf bg bh
    refine hK.out _ _ (ca7_ d.out) (fun hHeld => ?_)
    clear hK K
    refine nor_ (N := some 25) ?_
    refine pn_ 4 21 ao_ ?_
    refine pn_ 5 26 ao_ ?_
    refine pn_ 6 27 ao_ ?_
    refine onn_ 7 5 #[true, true, true, true, true, true, true, true, false, false] rfl rfl on_ (by decide) (fun K hK => ?_)
    refine box_step ?hg (N := 5) ?hd (cs := #[.int .i64 0, .slice none 0 0, .slice none 0 0, .slice none 0 0, .slice none 0 0, .slice none 0 0, .int .i64 0, .slice none 0 0]) (t := 32) ?hr ?_; (case hd => rfl); (case hg => rfl); (case hr => first | (go_simp; done) | (go_simp; rfl))
    intro b hg w12 hbox hb
    replace ad := a_ (rb_ (vR_ ad.out) hb)
    replace ae := a_ (rb_ (vR_ ae.out) hb)
    replace Z := a_ (rb_ (vR_ Z.out) hb)
    replace aa := a_ (rb_ (vR_ aa.out) hb)
    replace ab := a_ (rb_ (vR_ ab.out) hb)
    replace P := a_ (Kd.N_below (Kd.N_elderB (vN_ P.out) b (Nat.le_of_eq hg.symm)) hb)
    replace O := a_ (Kd.N_below (Kd.N_elderB (vN_ O.out) b (Nat.le_of_eq hg.symm)) hb)
    have g := a_ (hbox)
    have aU := a_ ((by rw [hg]; exact (bz_ bel_) : w.heap.size ≤ b))
    have aV := a_ ((by rw [hg]; exact (bz_ bel_) : w.heap.size ≤ b))
    replace HB := hq_ hb
    have c := a_ ((by rw [hg]; exact Nat.ne_of_lt (blk_lt (bk_ d.out)) : l ≠ b))
    have ac := a_ ((by rw [hg]; exact Nat.ne_of_gt (blk_lt (bk_ d.out)) : b ≠ l))
    replace d := a_ (bq_ d.out hb)
    clear hb hbox hg
    refine hK.out _ _ (ca7_ d.out) (fun hHeld => ?_)
    clear hK K
    refine nor_ (N := some 5) ?_
    exact norm_ (by simp only [putAll, Act.put, List.setIfInBounds_toArray, List.set_cons_zero, List.set_cons_succ]) (hCont (av, aw, ax, ay, az, aP, aL, b) _ ⟨hHeld, (vR_ ad.out), (vR_ ae.out), (vR_ Z.out), (vR_ aa.out), (vR_ ab.out), (by refine vN_ ?_; exact nm_ P.out (fun _ hk => ⟨hk.1.1, ⟨hk.1.2.1, ⟨hk.1.2.2.1, ⟨hk.1.2.2.2.1, ⟨hk.1.2.2.2.2.1, ⟨hk.1.2.2.2.2.2.1, ⟨hk.1.2.2.2.2.2.2, hk.2⟩⟩⟩⟩⟩⟩⟩)), (by refine vN_ ?_; exact nm_ O.out (fun _ hk => ⟨hk.1.1, ⟨hk.1.2.1, ⟨hk.1.2.2.1, ⟨hk.1.2.2.2.1, ⟨hk.1.2.2.2.2.1, ⟨hk.1.2.2.2.2.2.1, ⟨hk.1.2.2.2.2.2.2, hk.2⟩⟩⟩⟩⟩⟩⟩)), (bk_ d.out), (bk_ g.out), aU.out, aV.out, c.out, ac.out, bel_⟩)
   skip
   refine box_step ?hg (N := 5) ?hd (cs := #[.int .i64 0, .slice none 0 0, .slice none 0 0, .slice none 0 0, .slice none 0 0, .slice none 0 0, .int .i64 0, .slice none 0 0]) (t := 32) ?hr ?_; (case hd => rfl); (case hg => rfl); (case hr => first | (go_simp; done) | (go_simp; rfl))
   intro b hg w11 hbox hb
   have g := a_ (hbox)
   have aU := a_ ((by rw [hg]; exact (bz_ bel_) : w.heap.size ≤ b))
   have aV := a_ ((by rw [hg]; exact (bz_ bel_) : w.heap.size ≤ b))
   replace HB := hq_ hb
   have c := a_ ((by rw [hg]; exact Nat.ne_of_lt (blk_lt (bk_ d.out)) : l ≠ b))
   have ac := a_ ((by rw [hg]; exact Nat.ne_of_gt (blk_lt (bk_ d.out)) : b ≠ l))
   replace d := a_ (bq_ d.out hb)
   clear hb hbox hg
   refine hK.out _ _ (ca7_ d.out) (fun hHeld => ?_)
   clear hK K
   refine nor_ (N := some 5) ?_
   refine onn_ 3 25 #[true, true, true, true, false, false, false, true, false, false] rfl rfl on_ (by decide) (fun K hK => ?_)
   refine goes_ Tryz.func8 kr_ rfl #[.agg #[.int .u8 aq, .slice aC ak.length c0_1, .slice aD al.length c0_2, .slice aE am.length c0_3, .int .i16 ar, .int .u8 au, .slice aF an.length c0_6], .int .i64 aT, .int .i64 6] (by rfl) rfl rfl ar_ ?_
   with_reducible refine (jigsawref10_Make.calls k aq _ _ ak _ _ al _ _ am ar au _ _ an aT 6 ag m o q s u aj Q U _ ?_ ?_ ?_ ?_ ?_ ?_ ?_ ?_ A4.out).mono ?_
   exact ca_ ((cb_ bL.out HB.out))
   exact bM.out
   exact ca_ ((cb_ bN.out HB.out))
   exact bO.out
   exact ca_ ((cb_ bP.out HB.out))
   exact bQ.out
   exact ca_ ((cb_ bR.out HB.out))
   exact bS.out
   rintro e w12 ⟨av, aw, ax, ay, az, aP, aL, rfl, X, bc, bd, be, bf, bg, bh, hb⟩
   refine ⟨_, rfl, ?_⟩
   have ad := a_ (Kd.R_lower X (bz_ bel_))
   have ae := a_ (Kd.R_lower bc (bz_ bel_))
   have Z := a_ (Kd.R_lower bd (bz_ bel_))
   have aa := a_ (Kd.R_lower be (bz_ bel_))
   have ab := a_ (Kd.R_lower bf (bz_ bel_))
   have P := a_ (Kd.N_lower (nm_ (ok' := fun a => some a ≠ av.ownBlock ∧ some a ≠ aw.ownBlock ∧ some a ≠ ax.ownBlock ∧ some a ≠ ay.ownBlock ∧ some a ≠ az.ownBlock ∧ some a ≠ aL.ownBlock ∧ a ≠ l ∧ a ≠ b) (Kd.S_N (Kd.S_bound bg)) (fun a hk_ => ⟨hk_.1.1, hk_.1.2.1, hk_.1.2.2.1, hk_.1.2.2.2.1, hk_.1.2.2.2.2.1, hk_.1.2.2.2.2.2, (Kd.freshB (bk_ d.out) a hk_.2.1), (Kd.freshB (bk_ g.out) a hk_.2.1)⟩)) (bz_ bel_))
   have O := a_ (Kd.N_lower (nm_ (ok' := fun a => some a ≠ av.ownBlock ∧ some a ≠ aw.ownBlock ∧ some a ≠ ax.ownBlock ∧ some a ≠ ay.ownBlock ∧ some a ≠ az.ownBlock ∧ some a ≠ aP.ownBlock ∧ a ≠ l ∧ a ≠ b) (Kd.S_N (Kd.S_bound bh)) (fun a hk_ => ⟨hk_.1.1, hk_.1.2.1, hk_.1.2.2.1, hk_.1.2.2.2.1, hk_.1.2.2.2.2.1, hk_.1.2.2.2.2.2, (Kd.freshB (bk_ d.out) a hk_.2.1), (Kd.freshB (bk_ g.out) a hk_.2.1)⟩)) (bz_ bel_))
   replace d := a_ (bq_ d.out hb)
   replace g := a_ (bq_ g.out hb)
   replace HB := hq_ hb
   clear hb X bc bd be bf bg bh
   refine hK.out _ _ (ca7_ d.out) (fun hHeld => ?_)
   clear hK K
   refine nor_ (N := some 25) ?_
   refine pn_ 4 21 ao_ ?_
   refine pn_ 5 26 ao_ ?_
   refine pn_ 6 27 ao_ ?_
   exact norm_ (by simp only [putAll, Act.put, List.setIfInBounds_toArray, List.set_cons_zero, List.set_cons_succ]) (hCont (av, aw, ax, ay, az, aP, aL, b) _ ⟨hHeld, (vR_ ad.out), (vR_ ae.out), (vR_ Z.out), (vR_ aa.out), (vR_ ab.out), (vN_ P.out), (vN_ O.out), (bk_ d.out), (bk_ g.out), aU.out, aV.out, c.out, ac.out, bel_⟩)
  skip
  refine box_step ?hg (N := 5) ?hd (cs := #[.int .i64 0, .slice none 0 0, .slice none 0 0, .slice none 0 0, .slice none 0 0, .slice none 0 0, .int .i64 0, .slice none 0 0]) (t := 32) ?hr ?_; (case hd => rfl); (case hg => rfl); (case hr => first | (go_simp; done) | (go_simp; rfl))
  intro b hg w11 hbox hb
  have g := a_ (hbox)
  have aU := a_ ((by rw [hg]; exact (bz_ bel_) : w.heap.size ≤ b))
  have aV := a_ ((by rw [hg]; exact (bz_ bel_) : w.heap.size ≤ b))
  replace HB := hq_ hb
  have c := a_ ((by rw [hg]; exact Nat.ne_of_lt (blk_lt (bk_ d.out)) : l ≠ b))
  have ac := a_ ((by rw [hg]; exact Nat.ne_of_gt (blk_lt (bk_ d.out)) : b ≠ l))
  replace d := a_ (bq_ d.out hb)
  clear hb hbox hg
  refine hK.out _ _ (ca7_ d.out) (fun hHeld => ?_)
  clear hK K
  refine nor_ (N := some 5) ?_
  refine onn_ 2 24 #[true, true, true, false, false, false, false, true, false, false] rfl rfl on_ (by decide) (fun K hK => ?_)
  refine goes_ Tryz.func9 kr_ rfl #[.int .u8 a1] (by rfl) rfl rfl ar_ ?_
  with_reducible refine (jigsawlaw20_kind.calls a1 aT _ A3.out).mono ?_
  rintro e w' ⟨rfl, ⟨nd, rfl⟩⟩
  refine ⟨_, rfl, ?_⟩
  refine hK.out _ _ (ca7_ d.out) (fun hHeld => ?_)
  clear hK K
  refine nor_ (N := some 24) ?_
  refine onn_ 3 25 #[true, true, true, true, false, false, false, true, false, false] rfl rfl on_ (by decide) (fun K hK => ?_)
  refine goes_ Tryz.func8 kr_ rfl #[.agg #[.int .u8 aq, .slice aC ak.length c0_1, .slice aD al.length c0_2, .slice aE am.length c0_3, .int .i16 ar, .int .u8 au, .slice aF an.length c0_6], .int .i64 aT, .int .i64 6] (by rfl) rfl rfl ar_ ?_
  with_reducible refine (jigsawref10_Make.calls k aq _ _ ak _ _ al _ _ am ar au _ _ an aT 6 ag m o q s u aj Q U _ ?_ ?_ ?_ ?_ ?_ ?_ ?_ ?_ A4.out).mono ?_
  focus repeat (first | exact (cb_ bL.out bel_) | (with_reducible refine Kd.C_alloc ?_ _) | (with_reducible refine Kd.C_drewN ?_ _) | (with_reducible refine Kd.C_drew ?_))
  exact bM.out
  focus repeat (first | exact (cb_ bN.out bel_) | (with_reducible refine Kd.C_alloc ?_ _) | (with_reducible refine Kd.C_drewN ?_ _) | (with_reducible refine Kd.C_drew ?_))
  exact bO.out
  focus repeat (first | exact (cb_ bP.out bel_) | (with_reducible refine Kd.C_alloc ?_ _) | (with_reducible refine Kd.C_drewN ?_ _) | (with_reducible refine Kd.C_drew ?_))
  exact bQ.out
  focus repeat (first | exact (cb_ bR.out bel_) | (with_reducible refine Kd.C_alloc ?_ _) | (with_reducible refine Kd.C_drewN ?_ _) | (with_reducible refine Kd.C_drew ?_))
  exact bS.out
  rintro e w12 ⟨av, aw, ax, ay, az, aP, aL, rfl, X, bc, bd, be, bf, bg, bh, hb⟩
  refine ⟨_, rfl, ?_⟩
  have ad := a_ (Kd.R_lower X (bz_ bel_))
  have ae := a_ (Kd.R_lower bc (bz_ bel_))
  have Z := a_ (Kd.R_lower bd (bz_ bel_))
  have aa := a_ (Kd.R_lower be (bz_ bel_))
  have ab := a_ (Kd.R_lower bf (bz_ bel_))
  have P := a_ (Kd.N_lower (nm_ (ok' := fun a => some a ≠ av.ownBlock ∧ some a ≠ aw.ownBlock ∧ some a ≠ ax.ownBlock ∧ some a ≠ ay.ownBlock ∧ some a ≠ az.ownBlock ∧ some a ≠ aL.ownBlock ∧ a ≠ l ∧ a ≠ b) (Kd.S_N (Kd.S_bound bg)) (fun a hk_ => ⟨hk_.1.1, hk_.1.2.1, hk_.1.2.2.1, hk_.1.2.2.2.1, hk_.1.2.2.2.2.1, hk_.1.2.2.2.2.2, (Kd.freshB (bk_ d.out) a hk_.2.1), (Kd.freshB (bk_ g.out) a hk_.2.1)⟩)) (bz_ bel_))
  have O := a_ (Kd.N_lower (nm_ (ok' := fun a => some a ≠ av.ownBlock ∧ some a ≠ aw.ownBlock ∧ some a ≠ ax.ownBlock ∧ some a ≠ ay.ownBlock ∧ some a ≠ az.ownBlock ∧ some a ≠ aP.ownBlock ∧ a ≠ l ∧ a ≠ b) (Kd.S_N (Kd.S_bound bh)) (fun a hk_ => ⟨hk_.1.1, hk_.1.2.1, hk_.1.2.2.1, hk_.1.2.2.2.1, hk_.1.2.2.2.2.1, hk_.1.2.2.2.2.2, (Kd.freshB (bk_ d.out) a hk_.2.1), (Kd.freshB (bk_ g.out) a hk_.2.1)⟩)) (bz_ bel_))
  replace d := a_ (bq_ d.out hb)
  replace g := a_ (bq_ g.out hb)
  replace HB := hq_ hb
  clear hb X bc bd be bf bg bh
  refine hK.out _ _ (ca7_ d.out) (fun hHeld => ?_)
  clear hK K
  refine nor_ (N := some 25) ?_
  refine pn_ 4 21 ao_ ?_
  refine pn_ 5 26 ao_ ?_
  refine pn_ 6 27 ao_ ?_
  exact norm_ (by simp only [putAll, Act.put, List.setIfInBounds_toArray, List.set_cons_zero, List.set_cons_succ]) (hCont (av, aw, ax, ay, az, aP, aL, b) _ ⟨hHeld, (vR_ ad.out), (vR_ ae.out), (vR_ Z.out), (vR_ aa.out), (vR_ ab.out), (vN_ P.out), (vN_ O.out), (bk_ d.out), (bk_ g.out), aU.out, aV.out, c.out, ac.out, bel_⟩)
 rintro ⟨av, aw, ax, ay, az, aP, aL, b⟩ w13 ⟨hS_, h0_, h1_, h2_, h3_, h4_, h5_, h6_, h7_, h8_, h9_, h10_, h11_, h12_, h13_⟩
 have ad : Aside0 (Kd.R (Kd.int .i64) 3 w13 w.heap.size (fun a => some a ≠ aw.ownBlock ∧ some a ≠ ax.ownBlock ∧ some a ≠ ay.ownBlock ∧ some a ≠ az.ownBlock) av m) := ⟨h0_⟩
 have ae : Aside0 (Kd.R (Kd.int .i64) 3 w13 w.heap.size (fun a => some a ≠ av.ownBlock ∧ some a ≠ ax.ownBlock ∧ some a ≠ ay.ownBlock ∧ some a ≠ az.ownBlock) aw o) := ⟨h1_⟩
 have Z : Aside0 (Kd.R (Kd.int .i64) 3 w13 w.heap.size (fun a => some a ≠ av.ownBlock ∧ some a ≠ aw.ownBlock ∧ some a ≠ ay.ownBlock ∧ some a ≠ az.ownBlock) ax q) := ⟨h2_⟩
 have aa : Aside0 (Kd.R (Kd.int .i64) 3 w13 w.heap.size (fun a => some a ≠ av.ownBlock ∧ some a ≠ aw.ownBlock ∧ some a ≠ ax.ownBlock ∧ some a ≠ az.ownBlock) ay s) := ⟨h3_⟩
 have ab : Aside0 (Kd.R (Kd.int .i64) 3 w13 w.heap.size (fun a => some a ≠ av.ownBlock ∧ some a ≠ aw.ownBlock ∧ some a ≠ ax.ownBlock ∧ some a ≠ ay.ownBlock) az u) := ⟨h4_⟩
 have P : Aside0 (Kd.N (Kd.slice 3 (Kd.int .i64)) 30 w13 w.heap.size (fun a => some a ≠ av.ownBlock ∧ some a ≠ aw.ownBlock ∧ some a ≠ ax.ownBlock ∧ some a ≠ ay.ownBlock ∧ some a ≠ az.ownBlock ∧ some a ≠ aL.ownBlock ∧ a ≠ l ∧ a ≠ b) aP Q) := ⟨h5_⟩
 have O : Aside0 (Kd.N (Kd.slice 3 (Kd.int .i64)) 30 w13 w.heap.size (fun a => some a ≠ av.ownBlock ∧ some a ≠ aw.ownBlock ∧ some a ≠ ax.ownBlock ∧ some a ≠ ay.ownBlock ∧ some a ≠ az.ownBlock ∧ some a ≠ aP.ownBlock ∧ a ≠ l ∧ a ≠ b) aL U) := ⟨h6_⟩
 replace d : Aside0 (w13.heap[l]? = some (.cells #[.int .u8 aq, .slice aC ak.length c0_1, .slice aD al.length c0_2, .slice aE am.length c0_3, .int .i16 ar, .int .u8 au, .slice aF an.length c0_6] 29 (0, 0))) := ⟨h7_⟩
 have g : Aside0 (w13.heap[b]? = some (.cells #[.int .i64 0, .slice none 0 0, .slice none 0 0, .slice none 0 0, .slice none 0 0, .slice none 0 0, .int .i64 0, .slice none 0 0] 32 (0, 0))) := ⟨h8_⟩
 have aU : Aside0 (w.heap.size ≤ b) := ⟨h9_⟩
 have aV : Aside0 (w.heap.size ≤ b) := ⟨h10_⟩
 have c : Aside0 (l ≠ b) := ⟨h11_⟩
 have ac : Aside0 (b ≠ l) := ⟨h12_⟩
 replace HB : Aside0 (Below w.heap.size w w13) := ⟨h13_⟩
 clear h0_ h1_ h2_ h3_ h4_ h5_ h6_ h7_ h8_ h9_ h10_ h11_ h12_ h13_
 have hHeld : w13.cell? ⟨l, 0, none⟩ = some (.int .u8 aq) ∧ w13.cell? ⟨l, 1, none⟩ = some (.slice aC ak.length c0_1) ∧ w13.cell? ⟨l, 2, none⟩ = some (.slice aD al.length c0_2) ∧ w13.cell? ⟨l, 3, none⟩ = some (.slice aE am.length c0_3) ∧ w13.cell? ⟨l, 4, none⟩ = some (.int .i16 ar) ∧ w13.cell? ⟨l, 5, none⟩ = some (.int .u8 au) ∧ w13.cell? ⟨l, 6, none⟩ = some (.slice aF an.length c0_6) := hS_
 obtain ⟨v, y, cm⟩ := Kd.R_slice ad.out
 (first | subst cm | (injection cm with f1_ f2_ f3_; have f4_ := f1_.symm; have f5_ := f3_.symm; clear f1_ f2_ f3_; subst f4_; subst f5_))
 obtain ⟨z, A, cn⟩ := Kd.R_slice ae.out
 (first | subst cn | (injection cn with f1_ f2_ f3_; have f4_ := f1_.symm; have f5_ := f3_.symm; clear f1_ f2_ f3_; subst f4_; subst f5_))
 obtain ⟨B, E, co⟩ := Kd.R_slice Z.out
 (first | subst co | (injection co with f1_ f2_ f3_; have f4_ := f1_.symm; have f5_ := f3_.symm; clear f1_ f2_ f3_; subst f4_; subst f5_))
 obtain ⟨F, G, cp⟩ := Kd.R_slice aa.out
 (first | subst cp | (injection cp with f1_ f2_ f3_; have f4_ := f1_.symm; have f5_ := f3_.symm; clear f1_ f2_ f3_; subst f4_; subst f5_))
 obtain ⟨I, J, cq⟩ := Kd.R_slice ab.out
 (first | subst cq | (injection cq with f1_ f2_ f3_; have f4_ := f1_.symm; have f5_ := f3_.symm; clear f1_ f2_ f3_; subst f4_; subst f5_))
 obtain ⟨ah, ai, cr⟩ := Kd.N_slice P.out
 (first | subst cr | (injection cr with f1_ f2_ f3_; have f4_ := f1_.symm; have f5_ := f3_.symm; clear f1_ f2_ f3_; subst f4_; subst f5_))
 refine norm_ (a' := ?_) ?_ ?_
 rotate_left
 ·
  simp only [putAll, Act.put, List.setIfInBounds_toArray, List.set_cons_zero, List.set_cons_succ]
  rfl
 refine one_ (i := 8) (N := none) #[true, true, true, true, true, true, true, true, true, false] rfl rfl on_ (by decide) (fun K hK => ?_)
 have dL : w13.cell? ⟨b, 0, none⟩ = some (.int .i64 0) := (blk_cell g.out 0).trans rfl
 have hfs14 := blk_frozen g.out 0
 have hns14_0 := c.out
 have hms14_0 := ac.out
 have dM : w13.cell? ⟨b, 1, none⟩ = some (.slice none 0 0) := (blk_cell g.out 1).trans rfl
 have hfs16 := blk_frozen g.out 1
 have hns16_0 := c.out
 have hms16_0 := ac.out
 have dN : w13.cell? ⟨b, 2, none⟩ = some (.slice none 0 0) := (blk_cell g.out 2).trans rfl
 have hfs18 := blk_frozen g.out 2
 have hns18_0 := c.out
 have hms18_0 := ac.out
 have dO : w13.cell? ⟨b, 3, none⟩ = some (.slice none 0 0) := (blk_cell g.out 3).trans rfl
 have hfs20 := blk_frozen g.out 3
 have hns20_0 := c.out
 have hms20_0 := ac.out
 have dP : w13.cell? ⟨b, 4, none⟩ = some (.slice none 0 0) := (blk_cell g.out 4).trans rfl
 have hfs22 := blk_frozen g.out 4
 have hns22_0 := c.out
 have hms22_0 := ac.out
 have dQ : w13.cell? ⟨b, 5, none⟩ = some (.slice none 0 0) := (blk_cell g.out 5).trans rfl
 have hfs24 := blk_frozen g.out 5
 have hns24_0 := c.out
 have hms24_0 := ac.out
 have dR : w13.cell? ⟨b, 6, none⟩ = some (.int .i64 0) := (blk_cell g.out 6).trans rfl
 have hfs25 := blk_frozen g.out 6
 have hns25_0 := c.out
 have hms25_0 := ac.out
 have dS : w13.cell? ⟨b, 7, none⟩ = some (.slice none 0 0) := (blk_cell g.out 7).trans rfl
 have hfs27 := blk_frozen g.out 7
 have hns27_0 := c.out
 have hms27_0 := ac.out
 refine skip_ (w1 := ?_) (by rfl) rfl ?_ ?_
 rotate_left
 ·
  go_simp
  rfl
 refine hK.out _ _ ⟨((cell_far (p := ⟨b, _, none⟩) c.out _).trans (((cell_far (p := ⟨b, _, none⟩) c.out _).trans (((cell_far (p := ⟨b, _, none⟩) c.out _).trans (((cell_far (p := ⟨b, _, none⟩) c.out _).trans (((cell_far (p := ⟨b, _, none⟩) c.out _).trans (((cell_far (p := ⟨b, _, none⟩) c.out _).trans (((cell_far (p := ⟨b, _, none⟩) c.out _).trans (((cell_far (p := ⟨b, _, none⟩) c.out _).trans (hHeld.1)))))))))))))))), ((cell_far (p := ⟨b, _, none⟩) c.out _).trans (((cell_far (p := ⟨b, _, none⟩) c.out _).trans (((cell_far (p := ⟨b, _, none⟩) c.out _).trans (((cell_far (p := ⟨b, _, none⟩) c.out _).trans (((cell_far (p := ⟨b, _, none⟩) c.out _).trans (((cell_far (p := ⟨b, _, none⟩) c.out _).trans (((cell_far (p := ⟨b, _, none⟩) c.out _).trans (((cell_far (p := ⟨b, _, none⟩) c.out _).trans (hHeld.2.1)))))))))))))))), ((cell_far (p := ⟨b, _, none⟩) c.out _).trans (((cell_far (p := ⟨b, _, none⟩) c.out _).trans (((cell_far (p := ⟨b, _, none⟩) c.out _).trans (((cell_far (p := ⟨b, _, none⟩) c.out _).trans (((cell_far (p := ⟨b, _, none⟩) c.out _).trans (((cell_far (p := ⟨b, _, none⟩) c.out _).trans (((cell_far (p := ⟨b, _, none⟩) c.out _).trans (((cell_far (p := ⟨b, _, none⟩) c.out _).trans (hHeld.2.2.1)))))))))))))))), ((cell_far (p := ⟨b, _, none⟩) c.out _).trans (((cell_far (p := ⟨b, _, none⟩) c.out _).trans (((cell_far (p := ⟨b, _, none⟩) c.out _).trans (((cell_far (p := ⟨b, _, none⟩) c.out _).trans (((cell_far (p := ⟨b, _, none⟩) c.out _).trans (((cell_far (p := ⟨b, _, none⟩) c.out _).trans (((cell_far (p := ⟨b, _, none⟩) c.out _).trans (((cell_far (p := ⟨b, _, none⟩) c.out _).trans (hHeld.2.2.2.1)))))))))))))))), ((cell_far (p := ⟨b, _, none⟩) c.out _).trans (((cell_far (p := ⟨b, _, none⟩) c.out _).trans (((cell_far (p := ⟨b, _, none⟩) c.out _).trans (((cell_far (p := ⟨b, _, none⟩) c.out _).trans (((cell_far (p := ⟨b, _, none⟩) c.out _).trans (((cell_far (p := ⟨b, _, none⟩) c.out _).trans (((cell_far (p := ⟨b, _, none⟩) c.out _).trans (((cell_far (p := ⟨b, _, none⟩) c.out _).trans (hHeld.2.2.2.2.1)))))))))))))))), ((cell_far (p := ⟨b, _, none⟩) c.out _).trans (((cell_far (p := ⟨b, _, none⟩) c.out _).trans (((cell_far (p := ⟨b, _, none⟩) c.out _).trans (((cell_far (p := ⟨b, _, none⟩) c.out _).trans (((cell_far (p := ⟨b, _, none⟩) c.out _).trans (((cell_far (p := ⟨b, _, none⟩) c.out _).trans (((cell_far (p := ⟨b, _, none⟩) c.out _).trans (((cell_far (p := ⟨b, _, none⟩) c.out _).trans (hHeld.2.2.2.2.2.1)))))))))))))))), ((cell_far (p := ⟨b, _, none⟩) c.out _).trans (((cell_far (p := ⟨b, _, none⟩) c.out _).trans (((cell_far (p := ⟨b, _, none⟩) c.out _).trans (((cell_far (p := ⟨b, _, none⟩) c.out _).trans (((cell_far (p := ⟨b, _, none⟩) c.out _).trans (((cell_far (p := ⟨b, _, none⟩) c.out _).trans (((cell_far (p := ⟨b, _, none⟩) c.out _).trans (((cell_far (p := ⟨b, _, none⟩) c.out _).trans (hHeld.2.2.2.2.2.2))))))))))))))))⟩ (fun hHeld => ?_)
 clear hK K
 refine pn_ 9 6 ao_ ?_
 refine done_ dn_ ?_
 obtain ⟨w28, hq_⟩ : ∃ x, x = ((((((((w13.setCell ⟨b, 0, none⟩ (.int .i64 ag)).setCell ⟨b, 1, none⟩ (.slice v m.length y)).setCell ⟨b, 2, none⟩ (.slice z o.length A)).setCell ⟨b, 3, none⟩ (.slice B q.length E)).setCell ⟨b, 4, none⟩ (.slice F s.length G)).setCell ⟨b, 5, none⟩ (.slice I u.length J)).setCell ⟨b, 6, none⟩ (.int .i64 aj)).setCell ⟨b, 7, none⟩ (.slice ah Q.length ai)) := ⟨_, rfl⟩
 replace ad : Aside0 (Kd.R (Kd.int .i64) 3 w28 w.heap.size (fun a => some a ≠ (.slice z o.length A : Value).ownBlock ∧ some a ≠ (.slice B q.length E : Value).ownBlock ∧ some a ≠ (.slice F s.length G : Value).ownBlock ∧ some a ≠ (.slice I u.length J : Value).ownBlock) (.slice v m.length y) m) := ⟨by subst hq_; refine vR_ ?_; exact rm_ (fR_ (fR_ (fR_ (fR_ (fR_ (fR_ (fR_ (fR_ (rt_ ad.out g.out (by decide)))))))))) (fun _ hk => ⟨hk.1.1, ⟨hk.1.2.1, ⟨hk.1.2.2.1, hk.1.2.2.2⟩⟩⟩)⟩
 replace ae : Aside0 (Kd.R (Kd.int .i64) 3 w28 w.heap.size (fun a => some a ≠ (.slice v m.length y : Value).ownBlock ∧ some a ≠ (.slice B q.length E : Value).ownBlock ∧ some a ≠ (.slice F s.length G : Value).ownBlock ∧ some a ≠ (.slice I u.length J : Value).ownBlock) (.slice z o.length A) o) := ⟨by subst hq_; refine vR_ ?_; exact rm_ (fR_ (fR_ (fR_ (fR_ (fR_ (fR_ (fR_ (fR_ (rt_ ae.out g.out (by decide)))))))))) (fun _ hk => ⟨hk.1.1, ⟨hk.1.2.1, ⟨hk.1.2.2.1, hk.1.2.2.2⟩⟩⟩)⟩
 replace Z : Aside0 (Kd.R (Kd.int .i64) 3 w28 w.heap.size (fun a => some a ≠ (.slice v m.length y : Value).ownBlock ∧ some a ≠ (.slice z o.length A : Value).ownBlock ∧ some a ≠ (.slice F s.length G : Value).ownBlock ∧ some a ≠ (.slice I u.length J : Value).ownBlock) (.slice B q.length E) q) := ⟨by subst hq_; refine vR_ ?_; exact rm_ (fR_ (fR_ (fR_ (fR_ (fR_ (fR_ (fR_ (fR_ (rt_ Z.out g.out (by decide)))))))))) (fun _ hk => ⟨hk.1.1, ⟨hk.1.2.1, ⟨hk.1.2.2.1, hk.1.2.2.2⟩⟩⟩)⟩
 replace aa : Aside0 (Kd.R (Kd.int .i64) 3 w28 w.heap.size (fun a => some a ≠ (.slice v m.length y : Value).ownBlock ∧ some a ≠ (.slice z o.length A : Value).ownBlock ∧ some a ≠ (.slice B q.length E : Value).ownBlock ∧ some a ≠ (.slice I u.length J : Value).ownBlock) (.slice F s.length G) s) := ⟨by subst hq_; refine vR_ ?_; exact rm_ (fR_ (fR_ (fR_ (fR_ (fR_ (fR_ (fR_ (fR_ (rt_ aa.out g.out (by decide)))))))))) (fun _ hk => ⟨hk.1.1, ⟨hk.1.2.1, ⟨hk.1.2.2.1, hk.1.2.2.2⟩⟩⟩)⟩
 replace ab : Aside0 (Kd.R (Kd.int .i64) 3 w28 w.heap.size (fun a => some a ≠ (.slice v m.length y : Value).ownBlock ∧ some a ≠ (.slice z o.length A : Value).ownBlock ∧ some a ≠ (.slice B q.length E : Value).ownBlock ∧ some a ≠ (.slice F s.length G : Value).ownBlock) (.slice I u.length J) u) := ⟨by subst hq_; refine vR_ ?_; exact rm_ (fR_ (fR_ (fR_ (fR_ (fR_ (fR_ (fR_ (fR_ (rt_ ab.out g.out (by decide)))))))))) (fun _ hk => ⟨hk.1.1, ⟨hk.1.2.1, ⟨hk.1.2.2.1, hk.1.2.2.2⟩⟩⟩)⟩
 replace P : Aside0 (Kd.N (Kd.slice 3 (Kd.int .i64)) 30 w28 w.heap.size (fun a => some a ≠ (.slice v m.length y : Value).ownBlock ∧ some a ≠ (.slice z o.length A : Value).ownBlock ∧ some a ≠ (.slice B q.length E : Value).ownBlock ∧ some a ≠ (.slice F s.length G : Value).ownBlock ∧ some a ≠ (.slice I u.length J : Value).ownBlock ∧ some a ≠ aL.ownBlock ∧ a ≠ l ∧ a ≠ b) (.slice ah Q.length ai) Q) := ⟨by subst hq_; refine vN_ ?_; exact nm_ (fN_ (fN_ (fN_ (fN_ (fN_ (fN_ (fN_ (fN_ (nm_ P.out (fun a hk => (⟨hk, hk.2.2.2.2.2.2.2⟩ : _ ∧ a ≠ b))))))))))) (fun _ hk => ⟨hk.1.1, ⟨hk.1.2.1, ⟨hk.1.2.2.1, ⟨hk.1.2.2.2.1, ⟨hk.1.2.2.2.2.1, ⟨hk.1.2.2.2.2.2.1, ⟨hk.1.2.2.2.2.2.2.1, hk.1.2.2.2.2.2.2.2⟩⟩⟩⟩⟩⟩⟩)⟩
 replace O : Aside0 (Kd.N (Kd.slice 3 (Kd.int .i64)) 30 w28 w.heap.size (fun a => some a ≠ (.slice v m.length y : Value).ownBlock ∧ some a ≠ (.slice z o.length A : Value).ownBlock ∧ some a ≠ (.slice B q.length E : Value).ownBlock ∧ some a ≠ (.slice F s.length G : Value).ownBlock ∧ some a ≠ (.slice I u.length J : Value).ownBlock ∧ some a ≠ (.slice ah Q.length ai : Value).ownBlock ∧ a ≠ l ∧ a ≠ b) aL U) := ⟨by subst hq_; refine vN_ ?_; exact nm_ (fN_ (fN_ (fN_ (fN_ (fN_ (fN_ (fN_ (fN_ (nm_ O.out (fun a hk => (⟨hk, hk.2.2.2.2.2.2.2⟩ : _ ∧ a ≠ b))))))))))) (fun _ hk => ⟨hk.1.1, ⟨hk.1.2.1, ⟨hk.1.2.2.1, ⟨hk.1.2.2.2.1, ⟨hk.1.2.2.2.2.1, ⟨hk.1.2.2.2.2.2.1, ⟨hk.1.2.2.2.2.2.2.1, hk.1.2.2.2.2.2.2.2⟩⟩⟩⟩⟩⟩⟩)⟩
 replace d : Aside0 (w28.heap[l]? = some (.cells #[.int .u8 aq, .slice aC ak.length c0_1, .slice aD al.length c0_2, .slice aE am.length c0_3, .int .i16 ar, .int .u8 au, .slice aF an.length c0_6] 29 (0, 0))) := ⟨by subst hq_; refine bk_ ?_; refine blk_far ?_ c.out _; refine bk_ ?_; refine blk_far ?_ c.out _; refine bk_ ?_; refine blk_far ?_ c.out _; refine bk_ ?_; refine blk_far ?_ c.out _; refine bk_ ?_; refine blk_far ?_ c.out _; refine bk_ ?_; refine blk_far ?_ c.out _; refine bk_ ?_; refine blk_far ?_ c.out _; refine bk_ ?_; refine blk_far ?_ c.out _; refine bk_ ?_; exact d.out⟩
 replace g : Aside0 (w28.heap[b]? = some (.cells #[.int .i64 ag, .slice v m.length y, .slice z o.length A, .slice B q.length E, .slice F s.length G, .slice I u.length J, .int .i64 aj, .slice ah Q.length ai] 32 (0, 0))) := ⟨by subst hq_; refine bk_ ?_; refine bu_ (cs := #[.int .i64 ag, .slice v m.length y, .slice z o.length A, .slice B q.length E, .slice F s.length G, .slice I u.length J, .int .i64 aj, .slice none 0 0]) ?_ 7 _ rfl; refine bk_ ?_; refine bu_ (cs := #[.int .i64 ag, .slice v m.length y, .slice z o.length A, .slice B q.length E, .slice F s.length G, .slice I u.length J, .int .i64 0, .slice none 0 0]) ?_ 6 _ rfl; refine bk_ ?_; refine bu_ (cs := #[.int .i64 ag, .slice v m.length y, .slice z o.length A, .slice B q.length E, .slice F s.length G, .slice none 0 0, .int .i64 0, .slice none 0 0]) ?_ 5 _ rfl; refine bk_ ?_; refine bu_ (cs := #[.int .i64 ag, .slice v m.length y, .slice z o.length A, .slice B q.length E, .slice none 0 0, .slice none 0 0, .int .i64 0, .slice none 0 0]) ?_ 4 _ rfl; refine bk_ ?_; refine bu_ (cs := #[.int .i64 ag, .slice v m.length y, .slice z o.length A, .slice none 0 0, .slice none 0 0, .slice none 0 0, .int .i64 0, .slice none 0 0]) ?_ 3 _ rfl; refine bk_ ?_; refine bu_ (cs := #[.int .i64 ag, .slice v m.length y, .slice none 0 0, .slice none 0 0, .slice none 0 0, .slice none 0 0, .int .i64 0, .slice none 0 0]) ?_ 2 _ rfl; refine bk_ ?_; refine bu_ (cs := #[.int .i64 ag, .slice none 0 0, .slice none 0 0, .slice none 0 0, .slice none 0 0, .slice none 0 0, .int .i64 0, .slice none 0 0]) ?_ 1 _ rfl; refine bk_ ?_; refine bu_ (cs := #[.int .i64 0, .slice none 0 0, .slice none 0 0, .slice none 0 0, .slice none 0 0, .slice none 0 0, .int .i64 0, .slice none 0 0]) ?_ 0 _ rfl; refine bk_ ?_; exact g.out⟩
 replace HB : Aside0 (Below w.heap.size w w28) := ⟨by subst hq_; exact bel_⟩
 rw [← hq_]
 clear hq_
 have dB := ac.out
 have dC := c.out
 obtain ⟨_, _, _, _, _, _, _, _, _, _, _, _, _, _, _, _⟩ := cel8_ g.out
 obtain ⟨aJ, aA, cI⟩ := Kd.N_slice O.out
 subst cI
 try go_wp2_with (first | ((with_reducible refine gate_callee (f := 24) rfl ?_); refine goesL_ (some 31) rfl rfl Tryz.func24 kr_ rfl #[.agg #[.int .i64 ag, .slice v m.length y, .slice z o.length A, .slice B q.length E, .slice F s.length G, .slice I u.length J, .int .i64 aj, .slice ah Q.length ai], .slice aJ U.length aA, .int .i64 4000] rfl ar_ ?_; (with_reducible refine (jigsawref10_Solutions.calls k ag _ _ m _ _ o (fun a => some a = (.slice B q.length E : Value).ownBlock) _ _ q (fun a => some a = (.slice F s.length G : Value).ownBlock) _ _ s (fun a => some a = (.slice I u.length J : Value).ownBlock) _ _ u aj (fun a => (some a ≠ (.slice v m.length y : Value).ownBlock ∧ (some a ≠ (.slice z o.length A : Value).ownBlock ∧ (some a ≠ (.slice B q.length E : Value).ownBlock ∧ (some a ≠ (.slice F s.length G : Value).ownBlock ∧ (some a ≠ (.slice I u.length J : Value).ownBlock ∧ (some a ≠ (.slice aJ U.length aA : Value).ownBlock ∧ (a ≠ l ∧ a ≠ b)))))))) _ _ Q _ _ U 4000 W ck _ ?_ ?_ ?_ ?_ ?_ ?_ ?_ ?_ ?_ ?_ A5.out).mono ?_); exact ca_ ((rr_ ad.out).2.2); exact (rr_ ad.out).2.1; exact ca_ ((rr_ ae.out).2.2); exact (rr_ ae.out).2.1; exact Kd.R_V (Kd.R_tight rfl (rt_ (rt_ (Kd.R_apart' (Kd.R_apart' (Z.out) (Kd.N_typed P.out) (by decide)) (Kd.N_typed O.out) (by decide)) d.out (by decide)) g.out (by decide))); exact Kd.R_V (Kd.R_tight rfl (rt_ (rt_ (Kd.R_apart' (Kd.R_apart' (aa.out) (Kd.N_typed P.out) (by decide)) (Kd.N_typed O.out) (by decide)) d.out (by decide)) g.out (by decide))); exact Kd.R_V (Kd.R_tight rfl (rt_ (rt_ (Kd.R_apart' (Kd.R_apart' (ab.out) (Kd.N_typed P.out) (by decide)) (Kd.N_typed O.out) (by decide)) d.out (by decide)) g.out (by decide))); exact Kd.N_V (P.out); exact ca_ ((Kd.N_reads' O.out).2.2); exact (Kd.N_reads' O.out).2.1; rintro e w32 ⟨aK, rfl, X, hb⟩; refine ⟨_, rfl, ?_⟩; have aN := a_ (Kd.N_lower (nm_ (ok' := fun a => some a ≠ (.slice v m.length y : Value).ownBlock ∧ some a ≠ (.slice z o.length A : Value).ownBlock ∧ some a ≠ (.slice aJ U.length aA : Value).ownBlock ∧ a ≠ l ∧ a ≠ b) X (fun a hk_ => ⟨Or.elim hk_ (fun hs_ => Or.elim hs_ (fun hs_ => ((rt_ (rt_ (Kd.R_apart' (Kd.R_apart' (Z.out) (Kd.N_typed P.out) (by decide)) (Kd.N_typed O.out) (by decide)) d.out (by decide)) g.out (by decide)).1 a hs_.symm).1.1.1.1.1) (fun hs_ => Or.elim hs_ (fun hs_ => ((rt_ (rt_ (Kd.R_apart' (Kd.R_apart' (aa.out) (Kd.N_typed P.out) (by decide)) (Kd.N_typed O.out) (by decide)) d.out (by decide)) g.out (by decide)).1 a hs_.symm).1.1.1.1.1) (fun hs_ => Or.elim hs_ (fun hs_ => ((rt_ (rt_ (Kd.R_apart' (Kd.R_apart' (ab.out) (Kd.N_typed P.out) (by decide)) (Kd.N_typed O.out) (by decide)) d.out (by decide)) g.out (by decide)).1 a hs_.symm).1.1.1.1.1) (fun hs_ => hs_.1)))) (fun hn_ => (fr_ (rl_ (vR_ ad.out)) a hn_)), Or.elim hk_ (fun hs_ => Or.elim hs_ (fun hs_ => ((rt_ (rt_ (Kd.R_apart' (Kd.R_apart' (Z.out) (Kd.N_typed P.out) (by decide)) (Kd.N_typed O.out) (by decide)) d.out (by decide)) g.out (by decide)).1 a hs_.symm).1.1.1.1.2.1) (fun hs_ => Or.elim hs_ (fun hs_ => ((rt_ (rt_ (Kd.R_apart' (Kd.R_apart' (aa.out) (Kd.N_typed P.out) (by decide)) (Kd.N_typed O.out) (by decide)) d.out (by decide)) g.out (by decide)).1 a hs_.symm).1.1.1.1.2.1) (fun hs_ => Or.elim hs_ (fun hs_ => ((rt_ (rt_ (Kd.R_apart' (Kd.R_apart' (ab.out) (Kd.N_typed P.out) (by decide)) (Kd.N_typed O.out) (by decide)) d.out (by decide)) g.out (by decide)).1 a hs_.symm).1.1.1.1.2.1) (fun hs_ => hs_.2.1)))) (fun hn_ => (fr_ (rl_ (vR_ ae.out)) a hn_)), Or.elim hk_ (fun hs_ => Or.elim hs_ (fun hs_ => ((rt_ (rt_ (Kd.R_apart' (Kd.R_apart' (Z.out) (Kd.N_typed P.out) (by decide)) (Kd.N_typed O.out) (by decide)) d.out (by decide)) g.out (by decide)).1 a hs_.symm).1.1.2) (fun hs_ => Or.elim hs_ (fun hs_ => ((rt_ (rt_ (Kd.R_apart' (Kd.R_apart' (aa.out) (Kd.N_typed P.out) (by decide)) (Kd.N_typed O.out) (by decide)) d.out (by decide)) g.out (by decide)).1 a hs_.symm).1.1.2) (fun hs_ => Or.elim hs_ (fun hs_ => ((rt_ (rt_ (Kd.R_apart' (Kd.R_apart' (ab.out) (Kd.N_typed P.out) (by decide)) (Kd.N_typed O.out) (by decide)) d.out (by decide)) g.out (by decide)).1 a hs_.symm).1.1.2) (fun hs_ => hs_.2.2.2.2.2.1)))) (fun hn_ => (fr_ (Kd.N_lt (vN_ O.out)) a hn_)), Or.elim hk_ (fun hs_ => Or.elim hs_ (fun hs_ => ((rt_ (rt_ (Kd.R_apart' (Kd.R_apart' (Z.out) (Kd.N_typed P.out) (by decide)) (Kd.N_typed O.out) (by decide)) d.out (by decide)) g.out (by decide)).1 a hs_.symm).1.2) (fun hs_ => Or.elim hs_ (fun hs_ => ((rt_ (rt_ (Kd.R_apart' (Kd.R_apart' (aa.out) (Kd.N_typed P.out) (by decide)) (Kd.N_typed O.out) (by decide)) d.out (by decide)) g.out (by decide)).1 a hs_.symm).1.2) (fun hs_ => Or.elim hs_ (fun hs_ => ((rt_ (rt_ (Kd.R_apart' (Kd.R_apart' (ab.out) (Kd.N_typed P.out) (by decide)) (Kd.N_typed O.out) (by decide)) d.out (by decide)) g.out (by decide)).1 a hs_.symm).1.2) (fun hs_ => hs_.2.2.2.2.2.2.1)))) (fun hn_ => (Kd.freshB (bk_ d.out) a hn_)), Or.elim hk_ (fun hs_ => Or.elim hs_ (fun hs_ => ((rt_ (rt_ (Kd.R_apart' (Kd.R_apart' (Z.out) (Kd.N_typed P.out) (by decide)) (Kd.N_typed O.out) (by decide)) d.out (by decide)) g.out (by decide)).1 a hs_.symm).2) (fun hs_ => Or.elim hs_ (fun hs_ => ((rt_ (rt_ (Kd.R_apart' (Kd.R_apart' (aa.out) (Kd.N_typed P.out) (by decide)) (Kd.N_typed O.out) (by decide)) d.out (by decide)) g.out (by decide)).1 a hs_.symm).2) (fun hs_ => Or.elim hs_ (fun hs_ => ((rt_ (rt_ (Kd.R_apart' (Kd.R_apart' (ab.out) (Kd.N_typed P.out) (by decide)) (Kd.N_typed O.out) (by decide)) d.out (by decide)) g.out (by decide)).1 a hs_.symm).2) (fun hs_ => hs_.2.2.2.2.2.2.2)))) (fun hn_ => (Kd.freshB (bk_ g.out) a hn_))⟩)) (bz_ bel_)); replace ad := a_ (rb_ (vR_ ad.out) hb); replace ae := a_ (rb_ (vR_ ae.out) hb); replace Z := a_ (rb_ (vR_ Z.out) hb); replace aa := a_ (rb_ (vR_ aa.out) hb); replace ab := a_ (rb_ (vR_ ab.out) hb); replace P := a_ (Kd.N_elder' (vN_ P.out) (Kd.N_base X) hb); replace O := a_ (Kd.N_elder' (vN_ O.out) (Kd.N_base X) hb); replace d := a_ (bq_ d.out hb); replace g := a_ (bq_ g.out hb); replace HB := hq_ hb; clear hb X))
 replace ad := a_ (Kd.R_drew ad.out)
 replace ae := a_ (Kd.R_drew ae.out)
 replace Z := a_ (Kd.R_drew Z.out)
 replace aa := a_ (Kd.R_drew aa.out)
 replace ab := a_ (Kd.R_drew ab.out)
 replace P := a_ (Kd.N_drew P.out)
 replace O := a_ (Kd.N_drew O.out)
 replace aN := a_ (Kd.N_drew aN.out)
 replace d := a_ (blk_drew d.out)
 replace g := a_ (blk_drew g.out)
 replace HB := a_ (below_drew1 HB.out)
 refine start_ (n := 9) (S := fun w' => w'.cell? ⟨b, 0, none⟩ = some (.int .i64 ag) ∧ w'.cell? ⟨b, 1, none⟩ = some (.slice v m.length y) ∧ w'.cell? ⟨b, 2, none⟩ = some (.slice z o.length A) ∧ w'.cell? ⟨b, 3, none⟩ = some (.slice B q.length E) ∧ w'.cell? ⟨b, 4, none⟩ = some (.slice F s.length G) ∧ w'.cell? ⟨b, 5, none⟩ = some (.slice I u.length J) ∧ w'.cell? ⟨b, 6, none⟩ = some (.int .i64 aj) ∧ w'.cell? ⟨b, 7, none⟩ = some (.slice ah Q.length ai)) (ds := []) #[false, false, false, false, false, false, false, false, false] kr_ rfl rfl (ca8_ g.out) (fun hHeld => ?_); refine with_tabW jigsawlaw20_GccKeeps.tab3 jigsawlaw20_GccKeeps.bits3 (fun HT_ HW_ => ?_)
 generalize w32.drew = w33 at ad ae Z aa ab P O aN d g HB hHeld ⊢
 refine pn_ 1 36 ao_ ?_
 refine tn_ 0 35 tw_ hHeld ?_
 refine onn_ 2 37 #[true, true, true, false, false, false, false, false, false] rfl rfl on_ (by decide) (fun K hK => ?_)
 refine goes_ Tryz.func11 kr_ rfl #[.slice aJ U.length aA] (by rfl) rfl rfl ar_ ?_
 with_reducible refine (jigsawlaw20_doms.calls k _ _ U b1 _ ?_ ?_ ?_ A6.out).mono ?_
 exact ca_ ((Kd.N_reads' O.out).2.2)
 exact (Kd.N_reads' O.out).2.1
 exact ca_ ((cb_ HRtab.out HB.out))
 rintro e w34 ⟨dT, rfl, X, hb⟩
 refine ⟨_, rfl, ?_⟩
 have cc := a_ (Kd.N_lower (nm_ (ok' := fun a => some a ≠ (.slice v m.length y : Value).ownBlock ∧ some a ≠ (.slice z o.length A : Value).ownBlock ∧ some a ≠ (.slice B q.length E : Value).ownBlock ∧ some a ≠ (.slice F s.length G : Value).ownBlock ∧ some a ≠ (.slice I u.length J : Value).ownBlock ∧ some a ≠ (.slice ah Q.length ai : Value).ownBlock ∧ some a ≠ (.slice aJ U.length aA : Value).ownBlock ∧ some a ≠ aK.ownBlock ∧ a ≠ l ∧ a ≠ b) X (fun a hk_ => ⟨(fr_ (rl_ (vR_ ad.out)) a hk_), (fr_ (rl_ (vR_ ae.out)) a hk_), (fr_ (rl_ (vR_ Z.out)) a hk_), (fr_ (rl_ (vR_ aa.out)) a hk_), (fr_ (rl_ (vR_ ab.out)) a hk_), (fr_ (Kd.N_lt (vN_ P.out)) a hk_), (fr_ (Kd.N_lt (vN_ O.out)) a hk_), (fr_ (Kd.N_lt (vN_ aN.out)) a hk_), (Kd.freshB (bk_ d.out) a hk_), (Kd.freshB (bk_ g.out) a hk_)⟩)) (bz_ bel_))
 replace ad := a_ (rb_ (vR_ ad.out) hb)
 replace ae := a_ (rb_ (vR_ ae.out) hb)
 replace Z := a_ (rb_ (vR_ Z.out) hb)
 replace aa := a_ (rb_ (vR_ aa.out) hb)
 replace ab := a_ (rb_ (vR_ ab.out) hb)
 replace P := a_ (Kd.N_elder' (vN_ P.out) (Kd.N_base X) hb)
 replace O := a_ (Kd.N_elder' (vN_ O.out) (Kd.N_base X) hb)
 replace aN := a_ (Kd.N_elder' (vN_ aN.out) (Kd.N_base X) hb)
 replace d := a_ (bq_ d.out hb)
 replace g := a_ (bq_ g.out hb)
 replace HB := hq_ hb
 clear hb X
 obtain ⟨cJ, cK, ct⟩ := Kd.N_slice cc.out
 (first | subst ct | (injection ct with f1_ f2_ f3_; have f4_ := f1_.symm; have f5_ := f3_.symm; clear f1_ f2_ f3_; subst f4_; subst f5_))
 refine hK.out _ _ (ca8_ g.out) (fun hHeld => ?_)
 clear hK K
 refine nor_ (N := some 37) ?_
 refine onn_ 3 38 #[true, true, true, true, false, false, false, false, false] rfl rfl on_ (by decide) (fun K hK => ?_)
 refine goes_ Tryz.func10 kr_ rfl #[.agg #[.int .i64 ag, .slice v m.length y, .slice z o.length A, .slice B q.length E, .slice F s.length G, .slice I u.length J, .int .i64 aj, .slice ah Q.length ai], .slice cJ b1.length cK] (by rfl) rfl rfl ar_ ?_
 with_reducible refine (gcc_Filter.calls k ag _ _ m _ _ o _ _ q _ _ s _ _ u aj _ _ Q (fun a => (some a ≠ (.slice v m.length y : Value).ownBlock ∧ (some a ≠ (.slice z o.length A : Value).ownBlock ∧ (some a ≠ (.slice B q.length E : Value).ownBlock ∧ (some a ≠ (.slice F s.length G : Value).ownBlock ∧ (some a ≠ (.slice I u.length J : Value).ownBlock ∧ (some a ≠ (.slice ah Q.length ai : Value).ownBlock ∧ (some a ≠ (.slice aJ U.length aA : Value).ownBlock ∧ (some a ≠ aK.ownBlock ∧ (a ≠ l ∧ a ≠ b)))))))))) _ _ b1 M bT _ ?_ ?_ ?_ ?_ ?_ ?_ ?_ ?_ ?_ ?_ ?_ ?_ ?_ ?_ A7.out).mono ?_
 exact ca_ ((rr_ ad.out).2.2)
 exact (rr_ ad.out).2.1
 exact ca_ ((rr_ ae.out).2.2)
 exact (rr_ ae.out).2.1
 exact ca_ ((rr_ Z.out).2.2)
 exact (rr_ Z.out).2.1
 exact ca_ ((rr_ aa.out).2.2)
 exact (rr_ aa.out).2.1
 exact ca_ ((rr_ ab.out).2.2)
 exact (rr_ ab.out).2.1
 exact ca_ ((Kd.N_reads' P.out).2.2)
 exact (Kd.N_reads' P.out).2.1
 exact Kd.N_V (cc.out)
 exact ca_ ((cb_ HRtab.out HB.out))
 rintro e w36 ⟨bU, rfl, X, hb⟩
 refine ⟨_, rfl, ?_⟩
 have cC := a_ (Kd.N_lower (nm_ (ok' := fun a => some a ≠ (.slice v m.length y : Value).ownBlock ∧ some a ≠ (.slice z o.length A : Value).ownBlock ∧ some a ≠ (.slice B q.length E : Value).ownBlock ∧ some a ≠ (.slice F s.length G : Value).ownBlock ∧ some a ≠ (.slice I u.length J : Value).ownBlock ∧ some a ≠ (.slice ah Q.length ai : Value).ownBlock ∧ some a ≠ (.slice aJ U.length aA : Value).ownBlock ∧ some a ≠ aK.ownBlock ∧ a ≠ l ∧ a ≠ b) X (fun a hk_ => ⟨Or.elim hk_ (fun hs_ => hs_.1) (fun hn_ => (fr_ (rl_ (vR_ ad.out)) a hn_)), Or.elim hk_ (fun hs_ => hs_.2.1) (fun hn_ => (fr_ (rl_ (vR_ ae.out)) a hn_)), Or.elim hk_ (fun hs_ => hs_.2.2.1) (fun hn_ => (fr_ (rl_ (vR_ Z.out)) a hn_)), Or.elim hk_ (fun hs_ => hs_.2.2.2.1) (fun hn_ => (fr_ (rl_ (vR_ aa.out)) a hn_)), Or.elim hk_ (fun hs_ => hs_.2.2.2.2.1) (fun hn_ => (fr_ (rl_ (vR_ ab.out)) a hn_)), Or.elim hk_ (fun hs_ => hs_.2.2.2.2.2.1) (fun hn_ => (fr_ (Kd.N_lt (vN_ P.out)) a hn_)), Or.elim hk_ (fun hs_ => hs_.2.2.2.2.2.2.1) (fun hn_ => (fr_ (Kd.N_lt (vN_ O.out)) a hn_)), Or.elim hk_ (fun hs_ => hs_.2.2.2.2.2.2.2.1) (fun hn_ => (fr_ (Kd.N_lt (vN_ aN.out)) a hn_)), Or.elim hk_ (fun hs_ => hs_.2.2.2.2.2.2.2.2.1) (fun hn_ => (Kd.freshB (bk_ d.out) a hn_)), Or.elim hk_ (fun hs_ => hs_.2.2.2.2.2.2.2.2.2) (fun hn_ => (Kd.freshB (bk_ g.out) a hn_))⟩)) (bz_ bel_))
 replace ad := a_ (rb_ (vR_ ad.out) hb)
 replace ae := a_ (rb_ (vR_ ae.out) hb)
 replace Z := a_ (rb_ (vR_ Z.out) hb)
 replace aa := a_ (rb_ (vR_ aa.out) hb)
 replace ab := a_ (rb_ (vR_ ab.out) hb)
 replace P := a_ (Kd.N_elder' (vN_ P.out) (Kd.N_base X) hb)
 replace O := a_ (Kd.N_elder' (vN_ O.out) (Kd.N_base X) hb)
 replace aN := a_ (Kd.N_elder' (vN_ aN.out) (Kd.N_base X) hb)
 replace d := a_ (bq_ d.out hb)
 replace g := a_ (bq_ g.out hb)
 replace HB := hq_ hb
 clear hb X
 refine hK.out _ _ (ca8_ g.out) (fun hHeld => ?_)
 clear hK K
 refine nor_ (N := some 38) ?_
 refine pn_ 4 34 ao_ ?_
 refine pn_ 5 39 ao_ ?_
 refine pn_ 6 40 ao_ ?_
 refine pn_ 7 9 ao_ ?_
 refine pn_ 8 10 ao_ ?_
 refine done_ dn_ ?_
 go_upto_region 4 with (fail)
 go_cut [42] (fun dk wc => ∃ (kq : Nat) (bk : Bool), dk = .bool bk ∧ Aside0 (jigsawlaw20_GccKeeps.j0 kq U W M bT bk ag m o q s u aj Q = some r) ∧ Aside0 (kq ≤ k) ∧ Aside0 (Kd.N (Kd.slice 3 (Kd.int .i64)) 30 wc w.heap.size (fun a => some a ≠ aK.ownBlock ∧ some a ≠ bU.ownBlock ∧ some a ≠ ((.slice v m.length y) : Value).ownBlock ∧ some a ≠ ((.slice z o.length A) : Value).ownBlock ∧ some a ≠ ((.slice B q.length E) : Value).ownBlock ∧ some a ≠ ((.slice F s.length G) : Value).ownBlock ∧ some a ≠ ((.slice I u.length J) : Value).ownBlock ∧ some a ≠ ((.slice ah Q.length ai) : Value).ownBlock ∧ a ≠ l ∧ a ≠ b) (.slice aJ U.length aA) U) ∧ Aside0 (Kd.N (Kd.slice 3 (Kd.int .i64)) 30 wc w.heap.size (fun a => some a ≠ ((.slice aJ U.length aA) : Value).ownBlock ∧ some a ≠ bU.ownBlock ∧ some a ≠ ((.slice v m.length y) : Value).ownBlock ∧ some a ≠ ((.slice z o.length A) : Value).ownBlock ∧ a ≠ l ∧ a ≠ b) aK W) ∧ Aside0 (Kd.N k58 58 wc w.heap.size (fun a => some a ≠ ((.slice aJ U.length aA) : Value).ownBlock ∧ some a ≠ aK.ownBlock ∧ some a ≠ ((.slice v m.length y) : Value).ownBlock ∧ some a ≠ ((.slice z o.length A) : Value).ownBlock ∧ some a ≠ ((.slice B q.length E) : Value).ownBlock ∧ some a ≠ ((.slice F s.length G) : Value).ownBlock ∧ some a ≠ ((.slice I u.length J) : Value).ownBlock ∧ some a ≠ ((.slice ah Q.length ai) : Value).ownBlock ∧ a ≠ l ∧ a ≠ b) bU M) ∧ Aside0 (Kd.R (Kd.int .i64) 3 wc w.heap.size (fun a => some a ≠ ((.slice z o.length A) : Value).ownBlock ∧ some a ≠ ((.slice B q.length E) : Value).ownBlock ∧ some a ≠ ((.slice F s.length G) : Value).ownBlock ∧ some a ≠ ((.slice I u.length J) : Value).ownBlock) (.slice v m.length y) m) ∧ Aside0 (Kd.R (Kd.int .i64) 3 wc w.heap.size (fun a => some a ≠ ((.slice v m.length y) : Value).ownBlock ∧ some a ≠ ((.slice B q.length E) : Value).ownBlock ∧ some a ≠ ((.slice F s.length G) : Value).ownBlock ∧ some a ≠ ((.slice I u.length J) : Value).ownBlock) (.slice z o.length A) o) ∧ Aside0 (Kd.R (Kd.int .i64) 3 wc w.heap.size (fun a => some a ≠ ((.slice v m.length y) : Value).ownBlock ∧ some a ≠ ((.slice z o.length A) : Value).ownBlock ∧ some a ≠ ((.slice F s.length G) : Value).ownBlock ∧ some a ≠ ((.slice I u.length J) : Value).ownBlock) (.slice B q.length E) q) ∧ Aside0 (Kd.R (Kd.int .i64) 3 wc w.heap.size (fun a => some a ≠ ((.slice v m.length y) : Value).ownBlock ∧ some a ≠ ((.slice z o.length A) : Value).ownBlock ∧ some a ≠ ((.slice B q.length E) : Value).ownBlock ∧ some a ≠ ((.slice I u.length J) : Value).ownBlock) (.slice F s.length G) s) ∧ Aside0 (Kd.R (Kd.int .i64) 3 wc w.heap.size (fun a => some a ≠ ((.slice v m.length y) : Value).ownBlock ∧ some a ≠ ((.slice z o.length A) : Value).ownBlock ∧ some a ≠ ((.slice B q.length E) : Value).ownBlock ∧ some a ≠ ((.slice F s.length G) : Value).ownBlock) (.slice I u.length J) u) ∧ Aside0 (Kd.N (Kd.slice 3 (Kd.int .i64)) 30 wc w.heap.size (fun a => some a ≠ ((.slice aJ U.length aA) : Value).ownBlock ∧ some a ≠ aK.ownBlock ∧ some a ≠ bU.ownBlock ∧ some a ≠ ((.slice v m.length y) : Value).ownBlock ∧ some a ≠ ((.slice z o.length A) : Value).ownBlock ∧ some a ≠ ((.slice B q.length E) : Value).ownBlock ∧ some a ≠ ((.slice F s.length G) : Value).ownBlock ∧ some a ≠ ((.slice I u.length J) : Value).ownBlock ∧ a ≠ l ∧ a ≠ b) (.slice ah Q.length ai) Q) ∧ Aside0 (wc.heap[l]? = some (.cells #[.int .u8 aq, (.slice aC ak.length c0_1), (.slice aD al.length c0_2), (.slice aE am.length c0_3), .int .i16 ar, .int .u8 au, (.slice aF an.length c0_6)] 29 (0, 0))) ∧ Aside0 (wc.heap[b]? = some (.cells #[.int .i64 ag, (.slice v m.length y), (.slice z o.length A), (.slice B q.length E), (.slice F s.length G), (.slice I u.length J), .int .i64 aj, (.slice ah Q.length ai)] 32 (0, 0))) ∧ Aside0 (Below w.heap.size w wc))
 case first =>
  have H := cl.out
  clear cl
  have H' := a_ H
  clear H
  go_wp2
  go_meet
  exact ⟨_, (!ck), eq_, H', ⟨by first | omega | exact lr_ _⟩, ⟨by refine vN_ ?_; exact nm_ O.out (fun _ hk => ⟨hk.1.1.2, ⟨hk.2, ⟨hk.1.1.1.1, ⟨hk.1.1.1.2.1, ⟨hk.1.1.1.2.2.1, ⟨hk.1.1.1.2.2.2.1, ⟨hk.1.1.1.2.2.2.2.1, ⟨hk.1.1.1.2.2.2.2.2.1, ⟨hk.1.1.1.2.2.2.2.2.2.1, hk.1.1.1.2.2.2.2.2.2.2⟩⟩⟩⟩⟩⟩⟩⟩⟩)⟩, ⟨by refine vN_ ?_; exact nm_ aN.out (fun _ hk => ⟨hk.1.1.2.2.1, ⟨hk.2, ⟨hk.1.1.1, ⟨hk.1.1.2.1, ⟨hk.1.1.2.2.2.1, hk.1.1.2.2.2.2⟩⟩⟩⟩⟩)⟩, ⟨by refine vN_ ?_; exact nm_ cC.out (fun _ hk => ⟨hk.2.2.2.2.2.2.1, ⟨hk.2.2.2.2.2.2.2.1, ⟨hk.1, ⟨hk.2.1, ⟨hk.2.2.1, ⟨hk.2.2.2.1, ⟨hk.2.2.2.2.1, ⟨hk.2.2.2.2.2.1, ⟨hk.2.2.2.2.2.2.2.2.1, hk.2.2.2.2.2.2.2.2.2⟩⟩⟩⟩⟩⟩⟩⟩⟩)⟩, ⟨vR_ ad.out⟩, ⟨vR_ ae.out⟩, ⟨vR_ Z.out⟩, ⟨vR_ aa.out⟩, ⟨vR_ ab.out⟩, ⟨by refine vN_ ?_; exact nm_ P.out (fun _ hk => ⟨hk.1.1.1.2.2.2.2.2.1, ⟨hk.1.1.2, ⟨hk.2, ⟨hk.1.1.1.1, ⟨hk.1.1.1.2.1, ⟨hk.1.1.1.2.2.1, ⟨hk.1.1.1.2.2.2.1, ⟨hk.1.1.1.2.2.2.2.1, ⟨hk.1.1.1.2.2.2.2.2.2.1, hk.1.1.1.2.2.2.2.2.2.2⟩⟩⟩⟩⟩⟩⟩⟩⟩)⟩, ⟨bk_ d.out⟩, ⟨bk_ g.out⟩, ⟨bel_⟩⟩
 clear cl
 try clear c1
 try clear c2
 try clear p2
 try clear c8
 try clear c9
 try clear c10
 try clear c11
 try clear c24
 try clear c29
 obtain ⟨kq, bk, rfl, HA, bi, HO_6, HO_7, HO_9, HO_718001, HO_718002, HO_718003, HO_718004, HO_718005, HO_718007, d, g, HB⟩ := hcut
 cases kq with
 | zero => exact absurd HA.out (by simp [jigsawlaw20_GccKeeps.j0])
 | succ kj7 =>
  have H := HA.out
  clear HA
  simp only [jigsawlaw20_GccKeeps.j0] at H
  by_cases c37 : bk = true
  ·
   subst c37
   rw [ip_ rfl] at H
   replace H := bo_ H
   obtain ⟨cL, dl, H⟩ := H
   try dsimp only at H
   obtain rfl := si_ H
   go_wp2_with (first | ((with_reducible refine gate_callee (f := 13) rfl ?_); refine goesL_ (some 43) rfl rfl Tryz.func13 kr_ rfl #[] rfl ar_ ?_; (with_reducible refine (jigsawlaw20_wakes.calls kj7 cL _ ?_ dl.out).mono ?_); exact ca_ ((cb_ HRtab.out HB.out)); rintro e w39 ⟨rfl, hb⟩; refine ⟨_, rfl, ?_⟩; replace HO_6 := a_ (Kd.N_below (vN_ HO_6.out) hb); replace HO_7 := a_ (Kd.N_below (vN_ HO_7.out) hb); replace HO_9 := a_ (Kd.N_below (vN_ HO_9.out) hb); replace HO_718001 := a_ (rb_ (vR_ HO_718001.out) hb); replace HO_718002 := a_ (rb_ (vR_ HO_718002.out) hb); replace HO_718003 := a_ (rb_ (vR_ HO_718003.out) hb); replace HO_718004 := a_ (rb_ (vR_ HO_718004.out) hb); replace HO_718005 := a_ (rb_ (vR_ HO_718005.out) hb); replace HO_718007 := a_ (Kd.N_below (vN_ HO_718007.out) hb); replace d := a_ (bq_ d.out hb); replace g := a_ (bq_ g.out hb); replace HB := hq_ hb; clear hb))
   go_ret
   exact ⟨er_, bel_⟩
  replace c37 := bf_.mpr c37
  subst c37
  have H1 : (if bT = true then (if (M.length : Int) = (U.length : Int) then (jigsawlaw20_GccKeeps.l0 kj7 W M U (U.length : Int) 0 ag m o q s u aj Q) else (none)) else ((jigsawlaw20_wakes.f kj7).bind fun bn => (if bn = true then (some ((W.length : Int) == 0)) else (none)))) = some r := by rw [ig_ (show ¬ (false = true) by decide)] at H; exact H
  clear H
  have H := H1
  clear H1
  by_cases c40 : bT = true
  rotate_left
  ·
   replace c40 := bf_.mpr c40
   subst c40
   have H1 : ((jigsawlaw20_wakes.f kj7).bind fun bn => (if bn = true then (some ((W.length : Int) == 0)) else (none))) = some r := by rw [ig_ (show ¬ (false = true) by decide)] at H; exact H
   clear H
   have H := H1
   clear H1
   replace H := bo_ H
   obtain ⟨bn, dz, H⟩ := H
   try dsimp only at H
   by_cases c83 : bn = true
   rotate_left
   ·
    replace c83 := bf_.mpr c83
    subst c83
    have H1 : (none) = some r := by rw [ig_ (show ¬ (false = true) by decide)] at H; exact H
    clear H
    have H := H1
    clear H1
    exact ab_ H
   subst c83
   rw [ip_ rfl] at H
   obtain rfl := si_ H
   go_wp2_with (first | ((with_reducible refine gate_callee (f := 13) rfl ?_); refine goesL_ (some 46) rfl rfl Tryz.func13 kr_ rfl #[] rfl ar_ ?_; (with_reducible refine (jigsawlaw20_wakes.calls kj7 true _ ?_ dz.out).mono ?_); exact ca_ ((cb_ HRtab.out HB.out)); rintro e w84 ⟨rfl, hb⟩; refine ⟨_, rfl, ?_⟩; replace HO_7 := a_ (Kd.N_below (vN_ HO_7.out) hb); replace HB := hq_ hb; clear hb; obtain ⟨d1, d2, dc⟩ := Kd.N_slice HO_7.out; subst dc))
   go_ret
   exact ⟨er_, bel_⟩
  subst c40
  rw [ip_ rfl] at H
  by_cases c41 : (M.length : Int) = (U.length : Int)
  rotate_left
  ·
   rw [ig_ c41] at H
   exact ab_ H
  rw [ip_ c41] at H
  have c41b0 : ((M.length : Int) == (U.length : Int)) = true := beq_iff_eq.mpr c41
  have c41b1 : ((M.length : Int) != (U.length : Int)) = false := bn_.mpr c41
  have c41b2 : (M.length == U.length) = true := by first | simpa using c41 | (simp at c41 ⊢; omega)
  clear c41
  have H' := a_ H
  clear H
  obtain ⟨aM, aG, cM⟩ := Kd.N_slice HO_9.out
  subst cM
  go_wp2
  go_loopg [59] kj7 (fun kq dm w' => ∃ (V : Int), dm = .int .i64 V ∧ Aside0 (jigsawlaw20_GccKeeps.l0 kq W M U (U.length : Int) V ag m o q s u aj Q = some r) ∧ Aside0 (kq ≤ kj7) ∧ Aside0 (Kd.N (Kd.slice 3 (Kd.int .i64)) 30 w' w.heap.size (fun a => some a ≠ ((.slice aM M.length aG) : Value).ownBlock ∧ some a ≠ ((.slice aJ U.length aA) : Value).ownBlock ∧ some a ≠ ((.slice v m.length y) : Value).ownBlock ∧ some a ≠ ((.slice z o.length A) : Value).ownBlock ∧ a ≠ l ∧ a ≠ b) aK W) ∧ Aside0 (Kd.N k58 58 w' w.heap.size (fun a => some a ≠ aK.ownBlock ∧ some a ≠ ((.slice aJ U.length aA) : Value).ownBlock ∧ some a ≠ ((.slice v m.length y) : Value).ownBlock ∧ some a ≠ ((.slice z o.length A) : Value).ownBlock ∧ some a ≠ ((.slice B q.length E) : Value).ownBlock ∧ some a ≠ ((.slice F s.length G) : Value).ownBlock ∧ some a ≠ ((.slice I u.length J) : Value).ownBlock ∧ some a ≠ ((.slice ah Q.length ai) : Value).ownBlock ∧ a ≠ l ∧ a ≠ b) (.slice aM M.length aG) M) ∧ Aside0 (Kd.N (Kd.slice 3 (Kd.int .i64)) 30 w' w.heap.size (fun a => some a ≠ aK.ownBlock ∧ some a ≠ ((.slice aM M.length aG) : Value).ownBlock ∧ some a ≠ ((.slice v m.length y) : Value).ownBlock ∧ some a ≠ ((.slice z o.length A) : Value).ownBlock ∧ some a ≠ ((.slice B q.length E) : Value).ownBlock ∧ some a ≠ ((.slice F s.length G) : Value).ownBlock ∧ some a ≠ ((.slice I u.length J) : Value).ownBlock ∧ some a ≠ ((.slice ah Q.length ai) : Value).ownBlock ∧ a ≠ l ∧ a ≠ b) (.slice aJ U.length aA) U) ∧ Aside0 (Kd.R (Kd.int .i64) 3 w' w.heap.size (fun a => some a ≠ ((.slice z o.length A) : Value).ownBlock ∧ some a ≠ ((.slice B q.length E) : Value).ownBlock ∧ some a ≠ ((.slice F s.length G) : Value).ownBlock ∧ some a ≠ ((.slice I u.length J) : Value).ownBlock) (.slice v m.length y) m) ∧ Aside0 (Kd.R (Kd.int .i64) 3 w' w.heap.size (fun a => some a ≠ ((.slice v m.length y) : Value).ownBlock ∧ some a ≠ ((.slice B q.length E) : Value).ownBlock ∧ some a ≠ ((.slice F s.length G) : Value).ownBlock ∧ some a ≠ ((.slice I u.length J) : Value).ownBlock) (.slice z o.length A) o) ∧ Aside0 (Kd.R (Kd.int .i64) 3 w' w.heap.size (fun a => some a ≠ ((.slice v m.length y) : Value).ownBlock ∧ some a ≠ ((.slice z o.length A) : Value).ownBlock ∧ some a ≠ ((.slice F s.length G) : Value).ownBlock ∧ some a ≠ ((.slice I u.length J) : Value).ownBlock) (.slice B q.length E) q) ∧ Aside0 (Kd.R (Kd.int .i64) 3 w' w.heap.size (fun a => some a ≠ ((.slice v m.length y) : Value).ownBlock ∧ some a ≠ ((.slice z o.length A) : Value).ownBlock ∧ some a ≠ ((.slice B q.length E) : Value).ownBlock ∧ some a ≠ ((.slice I u.length J) : Value).ownBlock) (.slice F s.length G) s) ∧ Aside0 (Kd.R (Kd.int .i64) 3 w' w.heap.size (fun a => some a ≠ ((.slice v m.length y) : Value).ownBlock ∧ some a ≠ ((.slice z o.length A) : Value).ownBlock ∧ some a ≠ ((.slice B q.length E) : Value).ownBlock ∧ some a ≠ ((.slice F s.length G) : Value).ownBlock) (.slice I u.length J) u) ∧ Aside0 (Kd.N (Kd.slice 3 (Kd.int .i64)) 30 w' w.heap.size (fun a => some a ≠ aK.ownBlock ∧ some a ≠ ((.slice aM M.length aG) : Value).ownBlock ∧ some a ≠ ((.slice aJ U.length aA) : Value).ownBlock ∧ some a ≠ ((.slice v m.length y) : Value).ownBlock ∧ some a ≠ ((.slice z o.length A) : Value).ownBlock ∧ some a ≠ ((.slice B q.length E) : Value).ownBlock ∧ some a ≠ ((.slice F s.length G) : Value).ownBlock ∧ some a ≠ ((.slice I u.length J) : Value).ownBlock ∧ a ≠ l ∧ a ≠ b) (.slice ah Q.length ai) Q) ∧ Aside0 (w'.heap[l]? = some (.cells #[.int .u8 aq, (.slice aC ak.length c0_1), (.slice aD al.length c0_2), (.slice aE am.length c0_3), .int .i16 ar, .int .u8 au, (.slice aF an.length c0_6)] 29 (0, 0))) ∧ Aside0 (w'.heap[b]? = some (.cells #[.int .i64 ag, (.slice v m.length y), (.slice z o.length A), (.slice B q.length E), (.slice F s.length G), (.slice I u.length J), .int .i64 aj, (.slice ah Q.length ai)] 32 (0, 0))) ∧ Aside0 (Below w.heap.size w w'))
  case atStart => exact ⟨(0), eq_, H', ⟨lr_ _⟩, ⟨by refine vN_ ?_; exact nm_ HO_7.out (fun _ hk => ⟨hk.2.1, ⟨hk.1, ⟨hk.2.2.1, ⟨hk.2.2.2.1, ⟨hk.2.2.2.2.1, hk.2.2.2.2.2⟩⟩⟩⟩⟩)⟩, ⟨by refine vN_ ?_; exact nm_ HO_9.out (fun _ hk => ⟨hk.2.1, ⟨hk.1, ⟨hk.2.2.1, ⟨hk.2.2.2.1, ⟨hk.2.2.2.2.1, ⟨hk.2.2.2.2.2.1, ⟨hk.2.2.2.2.2.2.1, ⟨hk.2.2.2.2.2.2.2.1, ⟨hk.2.2.2.2.2.2.2.2.1, hk.2.2.2.2.2.2.2.2.2⟩⟩⟩⟩⟩⟩⟩⟩⟩)⟩, ⟨vN_ HO_6.out⟩, ⟨vR_ HO_718001.out⟩, ⟨vR_ HO_718002.out⟩, ⟨vR_ HO_718003.out⟩, ⟨vR_ HO_718004.out⟩, ⟨vR_ HO_718005.out⟩, ⟨by refine vN_ ?_; exact nm_ HO_718007.out (fun _ hk => ⟨hk.2.1, ⟨hk.2.2.1, ⟨hk.1, ⟨hk.2.2.2.1, ⟨hk.2.2.2.2.1, ⟨hk.2.2.2.2.2.1, ⟨hk.2.2.2.2.2.2.1, ⟨hk.2.2.2.2.2.2.2.1, ⟨hk.2.2.2.2.2.2.2.2.1, hk.2.2.2.2.2.2.2.2.2⟩⟩⟩⟩⟩⟩⟩⟩⟩)⟩, ⟨bk_ d.out⟩, ⟨bk_ g.out⟩, ⟨bel_⟩⟩
  clear H'
  try clear c1
  try clear c2
  try clear p2
  try clear c3
  try clear c4
  try clear c8
  try clear c9
  try clear c10
  try clear c11
  try clear c13
  try clear c24
  try clear c29
  try clear c37
  try clear c40
  try clear c41
  try clear c41b0
  try clear c41b1
  try clear c41b2
  try clear p2
  obtain ⟨V, rfl, HA, bj, HO_7, HO_9, HO_57, HO_718001, HO_718002, HO_718003, HO_718004, HO_718005, HO_718007, d, g, HB⟩ := hrel
  cases gk with
  | zero => exact absurd HA.out (by simp [jigsawlaw20_GccKeeps.l0])
  | succ k2 =>
   have H := HA.out
   clear HA
   simp only [jigsawlaw20_GccKeeps.l0] at H
   by_cases c43 : V < (U.length : Int)
   ·
    rw [ip_ c43] at H
    have c43b0 : decide (V < (U.length : Int)) = true := dt_ c43
    clear c43
    by_cases c44 : 0 ≤ V
    rotate_left
    ·
     rw [ig_ c44] at H
     exact ab_ H
    rw [ip_ c44] at H
    have c44b0 : decide (0 ≤ V) = true := dt_ c44
    clear c44
    by_cases c45 : V < (U.length : Int)
    rotate_left
    ·
     rw [ig_ c45] at H
     exact ab_ H
    rw [ip_ c45] at H
    have c45b0 : decide (V < (U.length : Int)) = true := dt_ c45
    clear c45
    by_cases c46 : V < (M.length : Int)
    rotate_left
    ·
     rw [ig_ c46] at H
     exact ab_ H
    rw [ip_ c46] at H
    have c46b0 : decide (V < (M.length : Int)) = true := dt_ c46
    clear c46
    replace H := bo_ H
    obtain ⟨ao, dn, H⟩ := H
    try dsimp only at H
    have H' := a_ H
    clear H
    have p731 : 0 ≤ (V : Int) := dq_
    have a4 : V < (U.length : Int) := dq_
    obtain ⟨bl, bZ, c731_0, cN, aW, bq, br⟩ := at_L7 (Kd.N_reads' HO_57.out).2.2 V p731 a4
    cases cN
    obtain ⟨ce731, hce731, hMe731, hcc731⟩ := Kd.N_get HO_57.out [] V p731 (by first | exact a4 | exact dq_ | (have e_ := (Kd.N_reads' HO_57.out).1; omega))
    obtain ⟨ua731_0, uc731_0, rfl, bs, bu⟩ := Kd.FK_slice_open hMe731
    have aX := hcc731 0 _ rfl
    rw [Nat.add_zero, show ((Kd.slice 3 (Kd.int .i64))).sz = 1 from rfl, Nat.mul_one] at aX
    replace aX := si_ (aX.symm.trans aW)
    injection aX with hva_ hvn_ hvc_
    rw [hva_] at bu
    rw [hvc_] at bs
    clear hva_ hvn_ hvc_ bu bs
    clear hcc731 hce731
    have aH := a_ br
    have cg := a_ bq
    clear br bq
    replace p731 := et_ p731
    replace a4 := et_ a4
    have p732 : 0 ≤ (V : Int) := dq_
    have a5 : V < (M.length : Int) := dq_
    obtain ⟨bm, b0, c732_1, cO, a8, aY, a9, ba, bb, bv, bw⟩ := at_T58 (Kd.N_reads' HO_9.out).2.2 V p732 a5
    cases cO
    obtain ⟨ce732, hce732, hMe732, hcc732⟩ := Kd.N_get HO_9.out z58 V p732 (by first | exact a5 | exact dq_ | (have e_ := (Kd.N_reads' HO_9.out).1; omega))
    obtain ⟨ua732_1, uc732_1, rfl, bx, bz⟩ := k58_openF hMe732
    have aZ := hcc732 1 _ rfl
    rw [add_field _ _ 1 (by omega)] at aZ
    replace aZ := si_ (aZ.symm.trans aY)
    injection aZ with hva_ hvn_ hvc_
    rw [hva_] at bz
    rw [hvc_] at bx
    clear hva_ hvn_ hvc_ bz bx
    clear hcc732 hce732
    have aB := a_ bw
    have ch := a_ bv
    clear bw bv
    replace p732 := et_ p732
    replace a5 := et_ a5
    go_wp2_with (first | ((with_reducible refine gate_callee (f := 21) rfl ?_); refine goesL_ (some 68) rfl rfl Tryz.func21 kr_ rfl #[.agg #[.int .i64 ((rd_T58 M V).f0), .slice b0 ((rd_T58 M V).f1).length c732_1, .int .i64 ((rd_T58 M V).f2), .int .i64 ((rd_T58 M V).f3), .int .i64 ((rd_T58 M V).f4)]] rfl ar_ ?_; (with_reducible refine (dom_Dom_List.calls k2 ((rd_T58 M V).f0) _ _ ((rd_T58 M V).f1) ((rd_T58 M V).f2) ((rd_T58 M V).f3) ((rd_T58 M V).f4) ao _ ?side1 ?side2 ?side3 dn.out).mono ?_); (case side1 => repeat (first | exact (by repeat (first | (with_reducible exact aB.out) | (with_reducible refine Kd.C_alloc ?_ _) | (with_reducible refine Kd.C_drewN ?_ _) | (with_reducible refine Kd.C_drew ?_) | exact aB.out)) | (with_reducible refine Kd.C_alloc ?_ _) | (with_reducible refine Kd.C_drewN ?_ _) | (with_reducible refine Kd.C_drew ?_))); (case side2 => exact ch.out); (case side3 => exact ca_ ((cb_ HRtab.out HB.out))); rintro e w48 ⟨dU, rfl, X, hb⟩; refine ⟨_, rfl, ?_⟩; replace HO_7 := a_ (Kd.N_elder' (vN_ HO_7.out) (rs_ X) hb); replace HO_9 := a_ (Kd.N_elder' (vN_ HO_9.out) (rs_ X) hb); replace HO_57 := a_ (Kd.N_elder' (vN_ HO_57.out) (rs_ X) hb); replace HO_718007 := a_ (Kd.N_elder' (vN_ HO_718007.out) (rs_ X) hb); have cd := a_ (Kd.R_lower (Kd.R_new' (Kd.R_new' (Kd.R_new' (Kd.R_new' (Kd.R_new' X (rl_ (vR_ HO_718001.out))) (rl_ (vR_ HO_718002.out))) (rl_ (vR_ HO_718003.out))) (rl_ (vR_ HO_718004.out))) (rl_ (vR_ HO_718005.out))) (bz_ bel_)); replace HO_718001 := a_ (Kd.R_elder' (vR_ HO_718001.out) (rs_ X) hb); replace HO_718002 := a_ (Kd.R_elder' (vR_ HO_718002.out) (rs_ X) hb); replace HO_718003 := a_ (Kd.R_elder' (vR_ HO_718003.out) (rs_ X) hb); replace HO_718004 := a_ (Kd.R_elder' (vR_ HO_718004.out) (rs_ X) hb); replace HO_718005 := a_ (Kd.R_elder' (vR_ HO_718005.out) (rs_ X) hb); replace d := a_ (bq_ d.out hb); replace g := a_ (bq_ g.out hb); replace aH := a_ (cb_ (by repeat (first | (with_reducible exact aH.out) | (with_reducible refine Kd.C_alloc ?_ _) | (with_reducible refine Kd.C_drewN ?_ _) | (with_reducible refine Kd.C_drew ?_) | exact aH.out)) hb); replace aB := a_ (cb_ (by repeat (first | (with_reducible exact aB.out) | (with_reducible refine Kd.C_alloc ?_ _) | (with_reducible refine Kd.C_drewN ?_ _) | (with_reducible refine Kd.C_drew ?_) | exact aB.out)) hb); replace HB := hq_ hb; clear hb X; obtain ⟨aQ, aR, cP⟩ := Kd.R_slice cd.out; subst cP))
    go_loopg [70] k2 (fun kq dp w' => ∃ (ap : Int), dp = .int .i64 ap ∧ Aside0 (jigsawlaw20_GccKeeps.l1 kq W M (rd_L7 U V) U (U.length : Int) V ao (ao.length : Int) ap ag m o q s u aj Q = some r) ∧ Aside0 (kq ≤ k2) ∧ Aside0 (Kd.N (Kd.slice 3 (Kd.int .i64)) 30 w' w.heap.size (fun a => some a ≠ ((.slice (some bm) M.length aG) : Value).ownBlock ∧ some a ≠ ((.slice (some bl) U.length aA) : Value).ownBlock ∧ some a ≠ ((.slice aQ ao.length aR) : Value).ownBlock ∧ some a ≠ ((.slice v m.length y) : Value).ownBlock ∧ some a ≠ ((.slice z o.length A) : Value).ownBlock ∧ a ≠ l ∧ a ≠ b) aK W) ∧ Aside0 (Kd.N k58 58 w' w.heap.size (fun a => some a ≠ aK.ownBlock ∧ some a ≠ ((.slice (some bl) U.length aA) : Value).ownBlock ∧ some a ≠ ((.slice aQ ao.length aR) : Value).ownBlock ∧ some a ≠ ((.slice v m.length y) : Value).ownBlock ∧ some a ≠ ((.slice z o.length A) : Value).ownBlock ∧ some a ≠ ((.slice B q.length E) : Value).ownBlock ∧ some a ≠ ((.slice F s.length G) : Value).ownBlock ∧ some a ≠ ((.slice I u.length J) : Value).ownBlock ∧ some a ≠ ((.slice ah Q.length ai) : Value).ownBlock ∧ a ≠ l ∧ a ≠ b) (.slice (some bm) M.length aG) M) ∧ Aside0 (Kd.N (Kd.slice 3 (Kd.int .i64)) 30 w' w.heap.size (fun a => some a ≠ aK.ownBlock ∧ some a ≠ ((.slice (some bm) M.length aG) : Value).ownBlock ∧ some a ≠ ((.slice aQ ao.length aR) : Value).ownBlock ∧ some a ≠ ((.slice v m.length y) : Value).ownBlock ∧ some a ≠ ((.slice z o.length A) : Value).ownBlock ∧ some a ≠ ((.slice B q.length E) : Value).ownBlock ∧ some a ≠ ((.slice F s.length G) : Value).ownBlock ∧ some a ≠ ((.slice I u.length J) : Value).ownBlock ∧ some a ≠ ((.slice ah Q.length ai) : Value).ownBlock ∧ a ≠ l ∧ a ≠ b) (.slice (some bl) U.length aA) U) ∧ Aside0 (Kd.R (Kd.int .i64) 3 w' w.heap.size (fun a => some a ≠ ((.slice v m.length y) : Value).ownBlock ∧ some a ≠ ((.slice z o.length A) : Value).ownBlock ∧ some a ≠ ((.slice B q.length E) : Value).ownBlock ∧ some a ≠ ((.slice F s.length G) : Value).ownBlock ∧ some a ≠ ((.slice I u.length J) : Value).ownBlock) (.slice aQ ao.length aR) ao) ∧ Aside0 (Kd.R (Kd.int .i64) 3 w' w.heap.size (fun a => some a ≠ ((.slice aQ ao.length aR) : Value).ownBlock ∧ some a ≠ ((.slice z o.length A) : Value).ownBlock ∧ some a ≠ ((.slice B q.length E) : Value).ownBlock ∧ some a ≠ ((.slice F s.length G) : Value).ownBlock ∧ some a ≠ ((.slice I u.length J) : Value).ownBlock) (.slice v m.length y) m) ∧ Aside0 (Kd.R (Kd.int .i64) 3 w' w.heap.size (fun a => some a ≠ ((.slice aQ ao.length aR) : Value).ownBlock ∧ some a ≠ ((.slice v m.length y) : Value).ownBlock ∧ some a ≠ ((.slice B q.length E) : Value).ownBlock ∧ some a ≠ ((.slice F s.length G) : Value).ownBlock ∧ some a ≠ ((.slice I u.length J) : Value).ownBlock) (.slice z o.length A) o) ∧ Aside0 (Kd.R (Kd.int .i64) 3 w' w.heap.size (fun a => some a ≠ ((.slice aQ ao.length aR) : Value).ownBlock ∧ some a ≠ ((.slice v m.length y) : Value).ownBlock ∧ some a ≠ ((.slice z o.length A) : Value).ownBlock ∧ some a ≠ ((.slice F s.length G) : Value).ownBlock ∧ some a ≠ ((.slice I u.length J) : Value).ownBlock) (.slice B q.length E) q) ∧ Aside0 (Kd.R (Kd.int .i64) 3 w' w.heap.size (fun a => some a ≠ ((.slice aQ ao.length aR) : Value).ownBlock ∧ some a ≠ ((.slice v m.length y) : Value).ownBlock ∧ some a ≠ ((.slice z o.length A) : Value).ownBlock ∧ some a ≠ ((.slice B q.length E) : Value).ownBlock ∧ some a ≠ ((.slice I u.length J) : Value).ownBlock) (.slice F s.length G) s) ∧ Aside0 (Kd.R (Kd.int .i64) 3 w' w.heap.size (fun a => some a ≠ ((.slice aQ ao.length aR) : Value).ownBlock ∧ some a ≠ ((.slice v m.length y) : Value).ownBlock ∧ some a ≠ ((.slice z o.length A) : Value).ownBlock ∧ some a ≠ ((.slice B q.length E) : Value).ownBlock ∧ some a ≠ ((.slice F s.length G) : Value).ownBlock) (.slice I u.length J) u) ∧ Aside0 (Kd.N (Kd.slice 3 (Kd.int .i64)) 30 w' w.heap.size (fun a => some a ≠ aK.ownBlock ∧ some a ≠ ((.slice (some bm) M.length aG) : Value).ownBlock ∧ some a ≠ ((.slice (some bl) U.length aA) : Value).ownBlock ∧ some a ≠ ((.slice aQ ao.length aR) : Value).ownBlock ∧ some a ≠ ((.slice v m.length y) : Value).ownBlock ∧ some a ≠ ((.slice z o.length A) : Value).ownBlock ∧ some a ≠ ((.slice B q.length E) : Value).ownBlock ∧ some a ≠ ((.slice F s.length G) : Value).ownBlock ∧ some a ≠ ((.slice I u.length J) : Value).ownBlock ∧ a ≠ l ∧ a ≠ b) (.slice ah Q.length ai) Q) ∧ Aside0 (w'.heap[l]? = some (.cells #[.int .u8 aq, (.slice aC ak.length c0_1), (.slice aD al.length c0_2), (.slice aE am.length c0_3), .int .i16 ar, .int .u8 au, (.slice aF an.length c0_6)] 29 (0, 0))) ∧ Aside0 (w'.heap[b]? = some (.cells #[.int .i64 ag, (.slice v m.length y), (.slice z o.length A), (.slice B q.length E), (.slice F s.length G), (.slice I u.length J), .int .i64 aj, (.slice ah Q.length ai)] 32 (0, 0))) ∧ Aside0 (Kd.C (Kd.int .i64) w' bZ (rd_L7 U V).length (rd_L7 U V)) ∧ Aside0 (Kd.C (Kd.int .u64) w' b0 ((rd_T58 M V).f1).length ((rd_T58 M V).f1)) ∧ Aside0 (Below w.heap.size w w'))
    case atStart => exact ⟨(0), eq_, H', ⟨lr_ _⟩, ⟨by refine vN_ ?_; exact nm_ HO_7.out (fun _ hk => ⟨hk.1.1, ⟨hk.1.2.1, ⟨hk.2, ⟨hk.1.2.2.1, ⟨hk.1.2.2.2.1, ⟨hk.1.2.2.2.2.1, hk.1.2.2.2.2.2⟩⟩⟩⟩⟩⟩)⟩, ⟨by refine vN_ ?_; exact nm_ HO_9.out (fun _ hk => ⟨hk.1.1, ⟨hk.1.2.1, ⟨hk.2, ⟨hk.1.2.2.1, ⟨hk.1.2.2.2.1, ⟨hk.1.2.2.2.2.1, ⟨hk.1.2.2.2.2.2.1, ⟨hk.1.2.2.2.2.2.2.1, ⟨hk.1.2.2.2.2.2.2.2.1, ⟨hk.1.2.2.2.2.2.2.2.2.1, hk.1.2.2.2.2.2.2.2.2.2⟩⟩⟩⟩⟩⟩⟩⟩⟩⟩)⟩, ⟨by refine vN_ ?_; exact nm_ HO_57.out (fun _ hk => ⟨hk.1.1, ⟨hk.1.2.1, ⟨hk.2, ⟨hk.1.2.2.1, ⟨hk.1.2.2.2.1, ⟨hk.1.2.2.2.2.1, ⟨hk.1.2.2.2.2.2.1, ⟨hk.1.2.2.2.2.2.2.1, ⟨hk.1.2.2.2.2.2.2.2.1, ⟨hk.1.2.2.2.2.2.2.2.2.1, hk.1.2.2.2.2.2.2.2.2.2⟩⟩⟩⟩⟩⟩⟩⟩⟩⟩)⟩, ⟨by refine vR_ ?_; exact rm_ cd.out (fun _ hk => ⟨hk.1.1.1.1.2, ⟨hk.1.1.1.2, ⟨hk.1.1.2, ⟨hk.1.2, hk.2⟩⟩⟩⟩)⟩, ⟨by refine vR_ ?_; exact rm_ HO_718001.out (fun _ hk => ⟨hk.2, ⟨hk.1.1, ⟨hk.1.2.1, ⟨hk.1.2.2.1, hk.1.2.2.2⟩⟩⟩⟩)⟩, ⟨by refine vR_ ?_; exact rm_ HO_718002.out (fun _ hk => ⟨hk.2, ⟨hk.1.1, ⟨hk.1.2.1, ⟨hk.1.2.2.1, hk.1.2.2.2⟩⟩⟩⟩)⟩, ⟨by refine vR_ ?_; exact rm_ HO_718003.out (fun _ hk => ⟨hk.2, ⟨hk.1.1, ⟨hk.1.2.1, ⟨hk.1.2.2.1, hk.1.2.2.2⟩⟩⟩⟩)⟩, ⟨by refine vR_ ?_; exact rm_ HO_718004.out (fun _ hk => ⟨hk.2, ⟨hk.1.1, ⟨hk.1.2.1, ⟨hk.1.2.2.1, hk.1.2.2.2⟩⟩⟩⟩)⟩, ⟨by refine vR_ ?_; exact rm_ HO_718005.out (fun _ hk => ⟨hk.2, ⟨hk.1.1, ⟨hk.1.2.1, ⟨hk.1.2.2.1, hk.1.2.2.2⟩⟩⟩⟩)⟩, ⟨by refine vN_ ?_; exact nm_ HO_718007.out (fun _ hk => ⟨hk.1.1, ⟨hk.1.2.1, ⟨hk.1.2.2.1, ⟨hk.2, ⟨hk.1.2.2.2.1, ⟨hk.1.2.2.2.2.1, ⟨hk.1.2.2.2.2.2.1, ⟨hk.1.2.2.2.2.2.2.1, ⟨hk.1.2.2.2.2.2.2.2.1, ⟨hk.1.2.2.2.2.2.2.2.2.1, hk.1.2.2.2.2.2.2.2.2.2⟩⟩⟩⟩⟩⟩⟩⟩⟩⟩)⟩, ⟨bk_ d.out⟩, ⟨bk_ g.out⟩, ⟨by repeat (first | (with_reducible exact aH.out) | (with_reducible refine Kd.C_alloc ?_ _) | (with_reducible refine Kd.C_drewN ?_ _) | (with_reducible refine Kd.C_drew ?_) | exact aH.out)⟩, ⟨by repeat (first | (with_reducible exact aB.out) | (with_reducible refine Kd.C_alloc ?_ _) | (with_reducible refine Kd.C_drewN ?_ _) | (with_reducible refine Kd.C_drew ?_) | exact aB.out)⟩, ⟨bel_⟩⟩
    clear H'
    try clear c1
    try clear c2
    try clear p2
    try clear c3
    try clear c4
    try clear c7
    try clear p7
    try clear q7
    try clear cG
    try clear c8
    try clear c9
    try clear c10
    try clear c11
    try clear c13
    try clear c21
    try clear c24
    try clear c29
    try clear c37
    try clear c40
    try clear c41
    try clear c41b0
    try clear c41b1
    try clear c41b2
    try clear c43
    try clear c43b0
    try clear c44
    try clear c44b0
    try clear c45
    try clear c45b0
    try clear c46
    try clear c46b0
    try clear aW
    try clear a8
    try clear aY
    try clear a9
    try clear ba
    try clear bb
    try clear p2
    try clear p731
    try clear p732
    try clear a4
    try clear a5
    obtain ⟨ap, rfl, HA, a7, HO_7, HO_9, HO_57, HO_68, HO_718001, HO_718002, HO_718003, HO_718004, HO_718005, HO_718007, d, g, aH, aB, HB⟩ := hrel
    cases gk with
    | zero => exact absurd HA.out (by simp [jigsawlaw20_GccKeeps.l1])
    | succ k3 =>
     have H := HA.out
     clear HA
     simp only [jigsawlaw20_GccKeeps.l1] at H
     by_cases c50 : ap < (ao.length : Int)
     rotate_left
     ·
      rw [ig_ c50] at H
      have c50b0 : decide (ap < (ao.length : Int)) = false := df_ c50
      clear c50
      have H' := a_ H
      clear H
      go_wp2
      go_roundg k3
      case measure => have := bi.out; have := bj.out; have := a7.out; omega
      exact ⟨(wrap64 (V + 1)), eq_, H', ⟨by have := bi.out; have := bj.out; have := a7.out; omega⟩, ⟨by refine vN_ ?_; exact nm_ HO_7.out (fun _ hk => ⟨hk.1, ⟨hk.2.1, ⟨hk.2.2.2.1, ⟨hk.2.2.2.2.1, ⟨hk.2.2.2.2.2.1, hk.2.2.2.2.2.2⟩⟩⟩⟩⟩)⟩, ⟨by refine vN_ ?_; exact nm_ HO_9.out (fun _ hk => ⟨hk.1, ⟨hk.2.1, ⟨hk.2.2.2.1, ⟨hk.2.2.2.2.1, ⟨hk.2.2.2.2.2.1, ⟨hk.2.2.2.2.2.2.1, ⟨hk.2.2.2.2.2.2.2.1, ⟨hk.2.2.2.2.2.2.2.2.1, ⟨hk.2.2.2.2.2.2.2.2.2.1, hk.2.2.2.2.2.2.2.2.2.2⟩⟩⟩⟩⟩⟩⟩⟩⟩)⟩, ⟨by refine vN_ ?_; exact nm_ HO_57.out (fun _ hk => ⟨hk.1, ⟨hk.2.1, ⟨hk.2.2.2.1, ⟨hk.2.2.2.2.1, ⟨hk.2.2.2.2.2.1, ⟨hk.2.2.2.2.2.2.1, ⟨hk.2.2.2.2.2.2.2.1, ⟨hk.2.2.2.2.2.2.2.2.1, ⟨hk.2.2.2.2.2.2.2.2.2.1, hk.2.2.2.2.2.2.2.2.2.2⟩⟩⟩⟩⟩⟩⟩⟩⟩)⟩, ⟨by refine vR_ ?_; exact rm_ HO_718001.out (fun _ hk => ⟨hk.2.1, ⟨hk.2.2.1, ⟨hk.2.2.2.1, hk.2.2.2.2⟩⟩⟩)⟩, ⟨by refine vR_ ?_; exact rm_ HO_718002.out (fun _ hk => ⟨hk.2.1, ⟨hk.2.2.1, ⟨hk.2.2.2.1, hk.2.2.2.2⟩⟩⟩)⟩, ⟨by refine vR_ ?_; exact rm_ HO_718003.out (fun _ hk => ⟨hk.2.1, ⟨hk.2.2.1, ⟨hk.2.2.2.1, hk.2.2.2.2⟩⟩⟩)⟩, ⟨by refine vR_ ?_; exact rm_ HO_718004.out (fun _ hk => ⟨hk.2.1, ⟨hk.2.2.1, ⟨hk.2.2.2.1, hk.2.2.2.2⟩⟩⟩)⟩, ⟨by refine vR_ ?_; exact rm_ HO_718005.out (fun _ hk => ⟨hk.2.1, ⟨hk.2.2.1, ⟨hk.2.2.2.1, hk.2.2.2.2⟩⟩⟩)⟩, ⟨by refine vN_ ?_; exact nm_ HO_718007.out (fun _ hk => ⟨hk.1, ⟨hk.2.1, ⟨hk.2.2.1, ⟨hk.2.2.2.2.1, ⟨hk.2.2.2.2.2.1, ⟨hk.2.2.2.2.2.2.1, ⟨hk.2.2.2.2.2.2.2.1, ⟨hk.2.2.2.2.2.2.2.2.1, ⟨hk.2.2.2.2.2.2.2.2.2.1, hk.2.2.2.2.2.2.2.2.2.2⟩⟩⟩⟩⟩⟩⟩⟩⟩)⟩, ⟨bk_ d.out⟩, ⟨bk_ g.out⟩, ⟨bel_⟩⟩
     rw [ip_ c50] at H
     have c50b0 : decide (ap < (ao.length : Int)) = true := dt_ c50
     clear c50
     by_cases c51 : 0 ≤ ap
     rotate_left
     ·
      rw [ig_ c51] at H
      exact ab_ H
     rw [ip_ c51] at H
     have c51b0 : decide (0 ≤ ap) = true := dt_ c51
     clear c51
     by_cases c52 : ap < (ao.length : Int)
     rotate_left
     ·
      rw [ig_ c52] at H
      exact ab_ H
     rw [ip_ c52] at H
     have c52b0 : decide (ap < (ao.length : Int)) = true := dt_ c52
     clear c52
     replace H := bo_ H
     obtain ⟨cQ, dq, H⟩ := H
     try dsimp only at H
     by_cases c54 : cQ = true
     rotate_left
     ·
      replace c54 := bf_.mpr c54
      subst c54
      have H1 : (none) = some r := by rw [ig_ (show ¬ (false = true) by decide)] at H; exact H
      clear H
      have H := H1
      clear H1
      exact ab_ H
     subst c54
     rw [ip_ rfl] at H
     have H' := a_ H
     clear H
     have p736 : 0 ≤ (ap : Int) := dq_
     have bo : ap < (ao.length : Int) := dq_
     obtain ⟨dD, cR, bA⟩ := ai_ (rr_ HO_68.out).2.2 ap p736 bo
     cases cR
     replace p736 := et_ p736
     replace bo := et_ bo
     go_wp2_with (first | ((with_reducible refine gate_callee (f := 25) rfl ?_); refine goesL_ (some 76) rfl rfl Tryz.func25 kr_ rfl #[.slice bZ (rd_L7 U V).length c731_0, .int .i64 (rd ao ap)] rfl ar_ ?_; (with_reducible refine (slices_Contains_int_int.calls k3 _ _ (rd_L7 U V) (rd ao ap) true _ ?_ ?_ dq.out).mono ?_); exact ca_ ((aH.out)); exact cg.out; rintro e w' ⟨rfl, ⟨nd, rfl⟩⟩; refine ⟨_, rfl, ?_⟩))
     go_roundg k3
     case measure => have := bi.out; have := bj.out; have := a7.out; omega
     exact ⟨(wrap64 (ap + 1)), eq_, H', ⟨by have := bi.out; have := bj.out; have := a7.out; omega⟩, ⟨vN_ HO_7.out⟩, ⟨vN_ HO_9.out⟩, ⟨vN_ HO_57.out⟩, ⟨vR_ HO_68.out⟩, ⟨vR_ HO_718001.out⟩, ⟨vR_ HO_718002.out⟩, ⟨vR_ HO_718003.out⟩, ⟨vR_ HO_718004.out⟩, ⟨vR_ HO_718005.out⟩, ⟨vN_ HO_718007.out⟩, ⟨bk_ d.out⟩, ⟨bk_ g.out⟩, ⟨by repeat (first | (with_reducible exact aH.out) | (with_reducible refine Kd.C_alloc ?_ _) | (with_reducible refine Kd.C_drewN ?_ _) | (with_reducible refine Kd.C_drew ?_) | exact aH.out)⟩, ⟨by repeat (first | (with_reducible exact aB.out) | (with_reducible refine Kd.C_alloc ?_ _) | (with_reducible refine Kd.C_drewN ?_ _) | (with_reducible refine Kd.C_drew ?_) | exact aB.out)⟩, ⟨bel_⟩⟩
   rw [ig_ c43] at H
   have c43b0 : decide (V < (U.length : Int)) = false := df_ c43
   clear c43
   have H' := a_ H
   clear H
   obtain ⟨a6, aS, cS⟩ := Kd.N_slice HO_7.out
   subst cS
   go_wp2
   go_loopg [82] k2 (fun kq dr w' => ∃ (af : Int), dr = .int .i64 af ∧ Aside0 (jigsawlaw20_GccKeeps.l2 kq M W (W.length : Int) af ag m o q s u aj Q = some r) ∧ Aside0 (kq ≤ k2) ∧ Aside0 (Kd.N k58 58 w' w.heap.size (fun a => some a ≠ ((.slice a6 W.length aS) : Value).ownBlock ∧ some a ≠ ((.slice v m.length y) : Value).ownBlock ∧ some a ≠ ((.slice z o.length A) : Value).ownBlock ∧ some a ≠ ((.slice B q.length E) : Value).ownBlock ∧ some a ≠ ((.slice F s.length G) : Value).ownBlock ∧ some a ≠ ((.slice I u.length J) : Value).ownBlock ∧ some a ≠ ((.slice ah Q.length ai) : Value).ownBlock ∧ a ≠ l ∧ a ≠ b) (.slice aM M.length aG) M) ∧ Aside0 (Kd.N (Kd.slice 3 (Kd.int .i64)) 30 w' w.heap.size (fun a => some a ≠ ((.slice aM M.length aG) : Value).ownBlock ∧ some a ≠ ((.slice v m.length y) : Value).ownBlock ∧ some a ≠ ((.slice z o.length A) : Value).ownBlock ∧ a ≠ l ∧ a ≠ b) (.slice a6 W.length aS) W) ∧ Aside0 (Kd.R (Kd.int .i64) 3 w' w.heap.size (fun a => some a ≠ ((.slice z o.length A) : Value).ownBlock ∧ some a ≠ ((.slice B q.length E) : Value).ownBlock ∧ some a ≠ ((.slice F s.length G) : Value).ownBlock ∧ some a ≠ ((.slice I u.length J) : Value).ownBlock) (.slice v m.length y) m) ∧ Aside0 (Kd.R (Kd.int .i64) 3 w' w.heap.size (fun a => some a ≠ ((.slice v m.length y) : Value).ownBlock ∧ some a ≠ ((.slice B q.length E) : Value).ownBlock ∧ some a ≠ ((.slice F s.length G) : Value).ownBlock ∧ some a ≠ ((.slice I u.length J) : Value).ownBlock) (.slice z o.length A) o) ∧ Aside0 (Kd.R (Kd.int .i64) 3 w' w.heap.size (fun a => some a ≠ ((.slice v m.length y) : Value).ownBlock ∧ some a ≠ ((.slice z o.length A) : Value).ownBlock ∧ some a ≠ ((.slice F s.length G) : Value).ownBlock ∧ some a ≠ ((.slice I u.length J) : Value).ownBlock) (.slice B q.length E) q) ∧ Aside0 (Kd.R (Kd.int .i64) 3 w' w.heap.size (fun a => some a ≠ ((.slice v m.length y) : Value).ownBlock ∧ some a ≠ ((.slice z o.length A) : Value).ownBlock ∧ some a ≠ ((.slice B q.length E) : Value).ownBlock ∧ some a ≠ ((.slice I u.length J) : Value).ownBlock) (.slice F s.length G) s) ∧ Aside0 (Kd.R (Kd.int .i64) 3 w' w.heap.size (fun a => some a ≠ ((.slice v m.length y) : Value).ownBlock ∧ some a ≠ ((.slice z o.length A) : Value).ownBlock ∧ some a ≠ ((.slice B q.length E) : Value).ownBlock ∧ some a ≠ ((.slice F s.length G) : Value).ownBlock) (.slice I u.length J) u) ∧ Aside0 (Kd.N (Kd.slice 3 (Kd.int .i64)) 30 w' w.heap.size (fun a => some a ≠ ((.slice aM M.length aG) : Value).ownBlock ∧ some a ≠ ((.slice a6 W.length aS) : Value).ownBlock ∧ some a ≠ ((.slice v m.length y) : Value).ownBlock ∧ some a ≠ ((.slice z o.length A) : Value).ownBlock ∧ some a ≠ ((.slice B q.length E) : Value).ownBlock ∧ some a ≠ ((.slice F s.length G) : Value).ownBlock ∧ some a ≠ ((.slice I u.length J) : Value).ownBlock ∧ a ≠ l ∧ a ≠ b) (.slice ah Q.length ai) Q) ∧ Aside0 (w'.heap[l]? = some (.cells #[.int .u8 aq, (.slice aC ak.length c0_1), (.slice aD al.length c0_2), (.slice aE am.length c0_3), .int .i16 ar, .int .u8 au, (.slice aF an.length c0_6)] 29 (0, 0))) ∧ Aside0 (w'.heap[b]? = some (.cells #[.int .i64 ag, (.slice v m.length y), (.slice z o.length A), (.slice B q.length E), (.slice F s.length G), (.slice I u.length J), .int .i64 aj, (.slice ah Q.length ai)] 32 (0, 0))) ∧ Aside0 (Below w.heap.size w w'))
   case atStart => exact ⟨(0), eq_, H', ⟨lr_ _⟩, ⟨by refine vN_ ?_; exact nm_ HO_9.out (fun _ hk => ⟨hk.1, ⟨hk.2.2.1, ⟨hk.2.2.2.1, ⟨hk.2.2.2.2.1, ⟨hk.2.2.2.2.2.1, ⟨hk.2.2.2.2.2.2.1, ⟨hk.2.2.2.2.2.2.2.1, ⟨hk.2.2.2.2.2.2.2.2.1, hk.2.2.2.2.2.2.2.2.2⟩⟩⟩⟩⟩⟩⟩⟩)⟩, ⟨by refine vN_ ?_; exact nm_ HO_7.out (fun _ hk => ⟨hk.1, ⟨hk.2.2.1, ⟨hk.2.2.2.1, ⟨hk.2.2.2.2.1, hk.2.2.2.2.2⟩⟩⟩⟩)⟩, ⟨vR_ HO_718001.out⟩, ⟨vR_ HO_718002.out⟩, ⟨vR_ HO_718003.out⟩, ⟨vR_ HO_718004.out⟩, ⟨vR_ HO_718005.out⟩, ⟨by refine vN_ ?_; exact nm_ HO_718007.out (fun _ hk => ⟨hk.2.1, ⟨hk.1, ⟨hk.2.2.2.1, ⟨hk.2.2.2.2.1, ⟨hk.2.2.2.2.2.1, ⟨hk.2.2.2.2.2.2.1, ⟨hk.2.2.2.2.2.2.2.1, ⟨hk.2.2.2.2.2.2.2.2.1, hk.2.2.2.2.2.2.2.2.2⟩⟩⟩⟩⟩⟩⟩⟩)⟩, ⟨bk_ d.out⟩, ⟨bk_ g.out⟩, ⟨bel_⟩⟩
   clear H'
   try clear c1
   try clear c2
   try clear p2
   try clear c3
   try clear c4
   try clear c5
   try clear p6
   try clear c7
   try clear p7
   try clear q7
   try clear cG
   try clear c8
   try clear c9
   try clear c10
   try clear c11
   try clear c13
   try clear c21
   try clear c24
   try clear c25
   try clear c29
   try clear c37
   try clear c40
   try clear c41
   try clear c41b0
   try clear c41b1
   try clear c41b2
   try clear c43
   try clear c43b0
   try clear c44
   try clear c44b0
   try clear c45
   try clear c45b0
   try clear c46
   try clear c46b0
   try clear c50
   try clear c50b0
   try clear c51
   try clear c51b0
   try clear c52
   try clear c52b0
   try clear c54
   try clear aW
   try clear a8
   try clear aY
   try clear a9
   try clear ba
   try clear bb
   try clear bA
   try clear p2
   try clear p7
   try clear p731
   try clear p732
   try clear p736
   try clear q7
   try clear a4
   try clear a5
   try clear bo
   obtain ⟨af, rfl, HA, a7, HO_9, HO_80, HO_718001, HO_718002, HO_718003, HO_718004, HO_718005, HO_718007, d, g, HB⟩ := hrel
   cases gk with
   | zero => exact absurd HA.out (by simp [jigsawlaw20_GccKeeps.l2])
   | succ k3 =>
    have H := HA.out
    clear HA
    simp only [jigsawlaw20_GccKeeps.l2] at H
    by_cases c56 : af < (W.length : Int)
    rotate_left
    ·
     rw [ig_ c56] at H
     have c56b0 : decide (af < (W.length : Int)) = false := df_ c56
     clear c56
     replace H := bs_.mp H
     obtain ⟨⟨bX, cX⟩, cw, H⟩ := H
     try dsimp only at H
     have dv := a_ cw
     clear cw
     replace H := bo_ H
     obtain ⟨cY, dw, H⟩ := H
     try dsimp only at H
     by_cases c68 : cY = true
     rotate_left
     ·
      replace c68 := bf_.mpr c68
      subst c68
      have H1 : (none) = some r := by rw [ig_ (show ¬ (false = true) by decide)] at H; exact H
      clear H
      have H := H1
      clear H1
      exact ab_ H
     subst c68
     rw [ip_ rfl] at H
     by_cases c69 : cX = true
     rotate_left
     ·
      replace c69 := bf_.mpr c69
      subst c69
      have H1 : (none) = some r := by rw [ig_ (show ¬ (false = true) by decide)] at H; exact H
      clear H
      have H := H1
      clear H1
      exact ab_ H
     subst c69
     rw [ip_ rfl] at H
     replace H := bo_ H
     obtain ⟨cx, cb, H⟩ := H
     try dsimp only at H
     replace H := bo_ H
     obtain ⟨cy, dx, H⟩ := H
     try dsimp only at H
     replace H := bo_ H
     obtain ⟨cZ, dy, H⟩ := H
     try dsimp only at H
     obtain rfl := si_ H
     have dG := ac.out
     have dH := c.out
     obtain ⟨_, _, _, _, _, _, _, _, _, _, _, _, _, _, _, _⟩ := cel8_ g.out
     go_wp2_with (first | ((with_reducible refine gate_callee (f := 10) rfl ?_); refine goesL_ (some 105) rfl rfl Tryz.func10 kr_ rfl #[.agg #[.int .i64 ag, .slice v m.length y, .slice z o.length A, .slice B q.length E, .slice F s.length G, .slice I u.length J, .int .i64 aj, .slice ah Q.length ai], .slice aM M.length aG] rfl ar_ ?_; (with_reducible refine (gcc_Filter.calls k3 ag _ _ m _ _ o _ _ q _ _ s _ _ u aj _ _ Q (fun a => (some a ≠ (.slice a6 W.length aS : Value).ownBlock ∧ (some a ≠ (.slice v m.length y : Value).ownBlock ∧ (some a ≠ (.slice z o.length A : Value).ownBlock ∧ (some a ≠ (.slice B q.length E : Value).ownBlock ∧ (some a ≠ (.slice F s.length G : Value).ownBlock ∧ (some a ≠ (.slice I u.length J : Value).ownBlock ∧ (some a ≠ (.slice ah Q.length ai : Value).ownBlock ∧ (a ≠ l ∧ a ≠ b))))))))) _ _ M bX true _ ?_ ?_ ?_ ?_ ?_ ?_ ?_ ?_ ?_ ?_ ?_ ?_ ?_ ?_ dv.out).mono ?_); exact ca_ ((rr_ HO_718001.out).2.2); exact (rr_ HO_718001.out).2.1; exact ca_ ((rr_ HO_718002.out).2.2); exact (rr_ HO_718002.out).2.1; exact ca_ ((rr_ HO_718003.out).2.2); exact (rr_ HO_718003.out).2.1; exact ca_ ((rr_ HO_718004.out).2.2); exact (rr_ HO_718004.out).2.1; exact ca_ ((rr_ HO_718005.out).2.2); exact (rr_ HO_718005.out).2.1; exact ca_ ((Kd.N_reads' HO_718007.out).2.2); exact (Kd.N_reads' HO_718007.out).2.1; exact Kd.N_V (HO_9.out); exact ca_ ((cb_ HRtab.out HB.out)); rintro e w75 ⟨dV, rfl, X, hb⟩; refine ⟨_, rfl, ?_⟩; replace HO_9 := a_ (Kd.N_elder' (vN_ HO_9.out) (Kd.N_base X) hb); have aO := a_ (Kd.N_lower (nm_ (ok' := fun a => some a ≠ (.slice a6 W.length aS : Value).ownBlock ∧ some a ≠ (.slice v m.length y : Value).ownBlock ∧ some a ≠ (.slice z o.length A : Value).ownBlock ∧ some a ≠ (.slice B q.length E : Value).ownBlock ∧ some a ≠ (.slice F s.length G : Value).ownBlock ∧ some a ≠ (.slice I u.length J : Value).ownBlock ∧ some a ≠ (.slice ah Q.length ai : Value).ownBlock ∧ a ≠ l ∧ a ≠ b) X (fun a hk_ => ⟨Or.elim hk_ (fun hs_ => hs_.1) (fun hn_ => (fr_ (Kd.N_lt (vN_ HO_80.out)) a hn_)), Or.elim hk_ (fun hs_ => hs_.2.1) (fun hn_ => (fr_ (rl_ (vR_ HO_718001.out)) a hn_)), Or.elim hk_ (fun hs_ => hs_.2.2.1) (fun hn_ => (fr_ (rl_ (vR_ HO_718002.out)) a hn_)), Or.elim hk_ (fun hs_ => hs_.2.2.2.1) (fun hn_ => (fr_ (rl_ (vR_ HO_718003.out)) a hn_)), Or.elim hk_ (fun hs_ => hs_.2.2.2.2.1) (fun hn_ => (fr_ (rl_ (vR_ HO_718004.out)) a hn_)), Or.elim hk_ (fun hs_ => hs_.2.2.2.2.2.1) (fun hn_ => (fr_ (rl_ (vR_ HO_718005.out)) a hn_)), Or.elim hk_ (fun hs_ => hs_.2.2.2.2.2.2.1) (fun hn_ => (fr_ (Kd.N_lt (vN_ HO_718007.out)) a hn_)), Or.elim hk_ (fun hs_ => hs_.2.2.2.2.2.2.2.1) (fun hn_ => (Kd.freshB (bk_ d.out) a hn_)), Or.elim hk_ (fun hs_ => hs_.2.2.2.2.2.2.2.2) (fun hn_ => (Kd.freshB (bk_ g.out) a hn_))⟩)) (bz_ bel_)); replace HO_80 := a_ (Kd.N_elder' (vN_ HO_80.out) (Kd.N_base X) hb); replace HO_718001 := a_ (rb_ (vR_ HO_718001.out) hb); replace HO_718002 := a_ (rb_ (vR_ HO_718002.out) hb); replace HO_718003 := a_ (rb_ (vR_ HO_718003.out) hb); replace HO_718004 := a_ (rb_ (vR_ HO_718004.out) hb); replace HO_718005 := a_ (rb_ (vR_ HO_718005.out) hb); replace HO_718007 := a_ (Kd.N_elder' (vN_ HO_718007.out) (Kd.N_base X) hb); replace d := a_ (bq_ d.out hb); replace g := a_ (bq_ g.out hb); replace HB := hq_ hb; clear hb X) | ((with_reducible refine gate_callee (f := 13) rfl ?_); refine goesL_ (some 108) rfl rfl Tryz.func13 kr_ rfl #[] rfl ar_ ?_; (with_reducible refine (jigsawlaw20_wakes.calls k3 true _ ?_ dw.out).mono ?_); exact ca_ ((cb_ HRtab.out HB.out)); rintro e w76 ⟨rfl, hb⟩; refine ⟨_, rfl, ?_⟩; replace HO_9 := a_ (Kd.N_below (vN_ HO_9.out) hb); replace HO_80 := a_ (Kd.N_below (vN_ HO_80.out) hb); replace HO_718001 := a_ (rb_ (vR_ HO_718001.out) hb); replace HO_718002 := a_ (rb_ (vR_ HO_718002.out) hb); replace HO_718003 := a_ (rb_ (vR_ HO_718003.out) hb); replace HO_718004 := a_ (rb_ (vR_ HO_718004.out) hb); replace HO_718005 := a_ (rb_ (vR_ HO_718005.out) hb); replace HO_718007 := a_ (Kd.N_below (vN_ HO_718007.out) hb); replace aO := a_ (Kd.N_below (vN_ aO.out) hb); replace d := a_ (bq_ d.out hb); replace g := a_ (bq_ g.out hb); replace HB := hq_ hb; clear hb; obtain ⟨cz, cA, c0⟩ := Kd.N_slice aO.out; subst c0) | (go_at_call 15; (with_reducible refine (jigsawlaw20_lists.calls k3 _ _ bX cx _ ?_ ?_ ?_ cb.out).mono ?_); exact ca_ ((Kd.N_reads' aO.out).2.2); exact (Kd.N_reads' aO.out).2.1; exact ca_ ((cb_ HRtab.out HB.out)); rintro e w78 ⟨c6, rfl, X, hb⟩; have a3 := a_ (Kd.N_lower (nm_ (ok' := fun a => some a ≠ (.slice aM M.length aG : Value).ownBlock ∧ some a ≠ (.slice a6 W.length aS : Value).ownBlock ∧ some a ≠ (.slice v m.length y : Value).ownBlock ∧ some a ≠ (.slice z o.length A : Value).ownBlock ∧ some a ≠ (.slice B q.length E : Value).ownBlock ∧ some a ≠ (.slice F s.length G : Value).ownBlock ∧ some a ≠ (.slice I u.length J : Value).ownBlock ∧ some a ≠ (.slice ah Q.length ai : Value).ownBlock ∧ some a ≠ (.slice cz bX.length cA : Value).ownBlock ∧ a ≠ l ∧ a ≠ b) (Kd.S_N (Kd.S_bound X)) (fun a hk_ => ⟨(fr_ (Kd.N_lt (vN_ HO_9.out)) a hk_.2.1), (fr_ (Kd.N_lt (vN_ HO_80.out)) a hk_.2.1), (fr_ (rl_ (vR_ HO_718001.out)) a hk_.2.1), (fr_ (rl_ (vR_ HO_718002.out)) a hk_.2.1), (fr_ (rl_ (vR_ HO_718003.out)) a hk_.2.1), (fr_ (rl_ (vR_ HO_718004.out)) a hk_.2.1), (fr_ (rl_ (vR_ HO_718005.out)) a hk_.2.1), (fr_ (Kd.N_lt (vN_ HO_718007.out)) a hk_.2.1), (fr_ (Kd.N_lt (vN_ aO.out)) a hk_.2.1), (Kd.freshB (bk_ d.out) a hk_.2.1), (Kd.freshB (bk_ g.out) a hk_.2.1)⟩)) (bz_ bel_)); replace HO_9 := a_ (Kd.N_elder' (vN_ HO_9.out) (Kd.N_base (Kd.S_N X)) hb); replace HO_80 := a_ (Kd.N_elder' (vN_ HO_80.out) (Kd.N_base (Kd.S_N X)) hb); replace HO_718001 := a_ (rb_ (vR_ HO_718001.out) hb); replace HO_718002 := a_ (rb_ (vR_ HO_718002.out) hb); replace HO_718003 := a_ (rb_ (vR_ HO_718003.out) hb); replace HO_718004 := a_ (rb_ (vR_ HO_718004.out) hb); replace HO_718005 := a_ (rb_ (vR_ HO_718005.out) hb); replace HO_718007 := a_ (Kd.N_elder' (vN_ HO_718007.out) (Kd.N_base (Kd.S_N X)) hb); replace aO := a_ (Kd.N_elder' (vN_ aO.out) (Kd.N_base (Kd.S_N X)) hb); replace d := a_ (bq_ d.out hb); replace g := a_ (bq_ g.out hb); replace HB := hq_ hb; clear hb X) | (go_at_call 15; (with_reducible refine (jigsawlaw20_lists.calls k3 _ _ M cy _ ?_ ?_ ?_ dx.out).mono ?_); exact ca_ ((Kd.N_reads' HO_9.out).2.2); exact (Kd.N_reads' HO_9.out).2.1; exact ca_ ((cb_ HRtab.out HB.out)); rintro e w79 ⟨dW, rfl, X, hb⟩; have bY := a_ (Kd.N_lower (nm_ (ok' := fun a => some a ≠ (.slice aM M.length aG : Value).ownBlock ∧ some a ≠ (.slice a6 W.length aS : Value).ownBlock ∧ some a ≠ (.slice v m.length y : Value).ownBlock ∧ some a ≠ (.slice z o.length A : Value).ownBlock ∧ some a ≠ (.slice B q.length E : Value).ownBlock ∧ some a ≠ (.slice F s.length G : Value).ownBlock ∧ some a ≠ (.slice I u.length J : Value).ownBlock ∧ some a ≠ (.slice ah Q.length ai : Value).ownBlock ∧ some a ≠ (.slice cz bX.length cA : Value).ownBlock ∧ some a ≠ c6.ownBlock ∧ a ≠ l ∧ a ≠ b) (Kd.S_N (Kd.S_bound X)) (fun a hk_ => ⟨(fr_ (Kd.N_lt (vN_ HO_9.out)) a hk_.2.1), (fr_ (Kd.N_lt (vN_ HO_80.out)) a hk_.2.1), (fr_ (rl_ (vR_ HO_718001.out)) a hk_.2.1), (fr_ (rl_ (vR_ HO_718002.out)) a hk_.2.1), (fr_ (rl_ (vR_ HO_718003.out)) a hk_.2.1), (fr_ (rl_ (vR_ HO_718004.out)) a hk_.2.1), (fr_ (rl_ (vR_ HO_718005.out)) a hk_.2.1), (fr_ (Kd.N_lt (vN_ HO_718007.out)) a hk_.2.1), (fr_ (Kd.N_lt (vN_ aO.out)) a hk_.2.1), (fr_ (Kd.N_lt (vN_ a3.out)) a hk_.2.1), (Kd.freshB (bk_ d.out) a hk_.2.1), (Kd.freshB (bk_ g.out) a hk_.2.1)⟩)) (bz_ bel_)); replace a3 := a_ (Kd.N_elder' (vN_ a3.out) (Kd.N_base (Kd.S_N X)) hb); replace HB := hq_ hb; clear hb X; obtain ⟨dX, dY, da⟩ := Kd.N_slice a3.out; subst da; obtain ⟨dZ, d0, db⟩ := Kd.N_slice bY.out; subst db) | (go_at_call 14; (with_reducible refine (jigsawref10_Same.calls k3 _ _ cx _ _ cy cZ _ ?_ ?_ ?_ ?_ dy.out).mono ?_); exact ca_ ((Kd.N_reads' a3.out).2.2); exact (Kd.N_reads' a3.out).2.1; exact ca_ ((Kd.N_reads' bY.out).2.2); exact (Kd.N_reads' bY.out).2.1; rintro e w' ⟨rfl, ⟨nd, rfl⟩⟩))
     go_ret
     exact ⟨er_, bel_⟩
    rw [ip_ c56] at H
    have c56b0 : decide (af < (W.length : Int)) = true := dt_ c56
    clear c56
    by_cases c57 : 0 ≤ af
    rotate_left
    ·
     rw [ig_ c57] at H
     exact ab_ H
    rw [ip_ c57] at H
    have c57b0 : decide (0 ≤ af) = true := dt_ c57
    clear c57
    by_cases c58 : af < (W.length : Int)
    rotate_left
    ·
     rw [ig_ c58] at H
     exact ab_ H
    rw [ip_ c58] at H
    have c58b0 : decide (af < (W.length : Int)) = true := dt_ c58
    clear c58
    have H' := a_ H
    clear H
    have p738 : 0 ≤ (af : Int) := dq_
    have bp : af < (W.length : Int) := dq_
    obtain ⟨bV, cu, c738_0, cT, bB, bC, bD⟩ := at_L7 (Kd.N_reads' HO_80.out).2.2 af p738 bp
    cases cT
    obtain ⟨ce738, hce738, hMe738, hcc738⟩ := Kd.N_get HO_80.out [] af p738 (by first | exact bp | exact dq_ | (have e_ := (Kd.N_reads' HO_80.out).1; omega))
    obtain ⟨ua738_0, uc738_0, rfl, bE, bF⟩ := Kd.FK_slice_open hMe738
    have a0 := hcc738 0 _ rfl
    rw [Nat.add_zero, show ((Kd.slice 3 (Kd.int .i64))).sz = 1 from rfl, Nat.mul_one] at a0
    replace a0 := si_ (a0.symm.trans bB)
    injection a0 with hva_ hvn_ hvc_
    rw [hva_] at bF
    rw [hvc_] at bE
    clear hva_ hvn_ hvc_ bF bE
    clear hcc738 hce738
    have aI := a_ bD
    have dd := a_ bC
    clear bD bC
    replace p738 := et_ p738
    replace bp := et_ bp
    go_wp2
    go_loopg [88] k3 (fun kq dt w' => ∃ (Y : Int), dt = .int .i64 Y ∧ Aside0 (jigsawlaw20_GccKeeps.l3 kq M W (W.length : Int) af (rd_L7 W af) ((rd_L7 W af).length : Int) Y ag m o q s u aj Q = some r) ∧ Aside0 (kq ≤ k3) ∧ Aside0 (Kd.N k58 58 w' w.heap.size (fun a => some a ≠ ((.slice (some bV) W.length aS) : Value).ownBlock ∧ some a ≠ ((.slice v m.length y) : Value).ownBlock ∧ some a ≠ ((.slice z o.length A) : Value).ownBlock ∧ some a ≠ ((.slice B q.length E) : Value).ownBlock ∧ some a ≠ ((.slice F s.length G) : Value).ownBlock ∧ some a ≠ ((.slice I u.length J) : Value).ownBlock ∧ some a ≠ ((.slice ah Q.length ai) : Value).ownBlock ∧ a ≠ l ∧ a ≠ b) (.slice aM M.length aG) M) ∧ Aside0 (Kd.N (Kd.slice 3 (Kd.int .i64)) 30 w' w.heap.size (fun a => some a ≠ ((.slice aM M.length aG) : Value).ownBlock ∧ some a ≠ ((.slice v m.length y) : Value).ownBlock ∧ some a ≠ ((.slice z o.length A) : Value).ownBlock ∧ a ≠ l ∧ a ≠ b) (.slice (some bV) W.length aS) W) ∧ Aside0 (Kd.R (Kd.int .i64) 3 w' w.heap.size (fun a => some a ≠ ((.slice z o.length A) : Value).ownBlock ∧ some a ≠ ((.slice B q.length E) : Value).ownBlock ∧ some a ≠ ((.slice F s.length G) : Value).ownBlock ∧ some a ≠ ((.slice I u.length J) : Value).ownBlock) (.slice v m.length y) m) ∧ Aside0 (Kd.R (Kd.int .i64) 3 w' w.heap.size (fun a => some a ≠ ((.slice v m.length y) : Value).ownBlock ∧ some a ≠ ((.slice B q.length E) : Value).ownBlock ∧ some a ≠ ((.slice F s.length G) : Value).ownBlock ∧ some a ≠ ((.slice I u.length J) : Value).ownBlock) (.slice z o.length A) o) ∧ Aside0 (Kd.R (Kd.int .i64) 3 w' w.heap.size (fun a => some a ≠ ((.slice v m.length y) : Value).ownBlock ∧ some a ≠ ((.slice z o.length A) : Value).ownBlock ∧ some a ≠ ((.slice F s.length G) : Value).ownBlock ∧ some a ≠ ((.slice I u.length J) : Value).ownBlock) (.slice B q.length E) q) ∧ Aside0 (Kd.R (Kd.int .i64) 3 w' w.heap.size (fun a => some a ≠ ((.slice v m.length y) : Value).ownBlock ∧ some a ≠ ((.slice z o.length A) : Value).ownBlock ∧ some a ≠ ((.slice B q.length E) : Value).ownBlock ∧ some a ≠ ((.slice I u.length J) : Value).ownBlock) (.slice F s.length G) s) ∧ Aside0 (Kd.R (Kd.int .i64) 3 w' w.heap.size (fun a => some a ≠ ((.slice v m.length y) : Value).ownBlock ∧ some a ≠ ((.slice z o.length A) : Value).ownBlock ∧ some a ≠ ((.slice B q.length E) : Value).ownBlock ∧ some a ≠ ((.slice F s.length G) : Value).ownBlock) (.slice I u.length J) u) ∧ Aside0 (Kd.N (Kd.slice 3 (Kd.int .i64)) 30 w' w.heap.size (fun a => some a ≠ ((.slice aM M.length aG) : Value).ownBlock ∧ some a ≠ ((.slice (some bV) W.length aS) : Value).ownBlock ∧ some a ≠ ((.slice v m.length y) : Value).ownBlock ∧ some a ≠ ((.slice z o.length A) : Value).ownBlock ∧ some a ≠ ((.slice B q.length E) : Value).ownBlock ∧ some a ≠ ((.slice F s.length G) : Value).ownBlock ∧ some a ≠ ((.slice I u.length J) : Value).ownBlock ∧ a ≠ l ∧ a ≠ b) (.slice ah Q.length ai) Q) ∧ Aside0 (w'.heap[l]? = some (.cells #[.int .u8 aq, (.slice aC ak.length c0_1), (.slice aD al.length c0_2), (.slice aE am.length c0_3), .int .i16 ar, .int .u8 au, (.slice aF an.length c0_6)] 29 (0, 0))) ∧ Aside0 (w'.heap[b]? = some (.cells #[.int .i64 ag, (.slice v m.length y), (.slice z o.length A), (.slice B q.length E), (.slice F s.length G), (.slice I u.length J), .int .i64 aj, (.slice ah Q.length ai)] 32 (0, 0))) ∧ Aside0 (Kd.C (Kd.int .i64) w' cu (rd_L7 W af).length (rd_L7 W af)) ∧ Aside0 (Below w.heap.size w w'))
    case atStart => exact ⟨(0), eq_, H', ⟨lr_ _⟩, ⟨vN_ HO_9.out⟩, ⟨vN_ HO_80.out⟩, ⟨vR_ HO_718001.out⟩, ⟨vR_ HO_718002.out⟩, ⟨vR_ HO_718003.out⟩, ⟨vR_ HO_718004.out⟩, ⟨vR_ HO_718005.out⟩, ⟨vN_ HO_718007.out⟩, ⟨bk_ d.out⟩, ⟨bk_ g.out⟩, ⟨by repeat (first | (with_reducible exact aI.out) | (with_reducible refine Kd.C_alloc ?_ _) | (with_reducible refine Kd.C_drewN ?_ _) | (with_reducible refine Kd.C_drew ?_) | exact aI.out)⟩, ⟨bel_⟩⟩
    clear H'
    try clear c1
    try clear c2
    try clear p2
    try clear c3
    try clear c4
    try clear c5
    try clear p6
    try clear c7
    try clear p7
    try clear q7
    try clear cG
    try clear c8
    try clear c9
    try clear c10
    try clear c11
    try clear c13
    try clear c21
    try clear c24
    try clear c25
    try clear c29
    try clear c37
    try clear c40
    try clear c41
    try clear c41b0
    try clear c41b1
    try clear c41b2
    try clear c43
    try clear c43b0
    try clear c44
    try clear c44b0
    try clear c45
    try clear c45b0
    try clear c46
    try clear c46b0
    try clear c50
    try clear c50b0
    try clear c51
    try clear c51b0
    try clear c52
    try clear c52b0
    try clear c54
    try clear c56
    try clear c56b0
    try clear c57
    try clear c57b0
    try clear c58
    try clear c58b0
    try clear aW
    try clear a8
    try clear aY
    try clear a9
    try clear ba
    try clear bb
    try clear bA
    try clear bB
    try clear p2
    try clear p6
    try clear p7
    try clear p731
    try clear p732
    try clear p736
    try clear p738
    try clear q7
    try clear a4
    try clear a5
    try clear bo
    try clear bp
    obtain ⟨Y, rfl, HA, ce, HO_9, HO_80, HO_718001, HO_718002, HO_718003, HO_718004, HO_718005, HO_718007, d, g, aI, HB⟩ := hrel
    cases gk with
    | zero => exact absurd HA.out (by simp [jigsawlaw20_GccKeeps.l3])
    | succ k4 =>
     have H := HA.out
     clear HA
     simp only [jigsawlaw20_GccKeeps.l3] at H
     by_cases c59 : Y < ((rd_L7 W af).length : Int)
     rotate_left
     ·
      rw [ig_ c59] at H
      have c59b0 : decide (Y < ((rd_L7 W af).length : Int)) = false := df_ c59
      clear c59
      have H' := a_ H
      clear H
      go_wp2
      go_roundg k4
      case measure => have := bi.out; have := bj.out; have := a7.out; have := ce.out; omega
      exact ⟨(wrap64 (af + 1)), eq_, H', ⟨by have := bi.out; have := bj.out; have := a7.out; have := ce.out; omega⟩, ⟨vN_ HO_9.out⟩, ⟨vN_ HO_80.out⟩, ⟨vR_ HO_718001.out⟩, ⟨vR_ HO_718002.out⟩, ⟨vR_ HO_718003.out⟩, ⟨vR_ HO_718004.out⟩, ⟨vR_ HO_718005.out⟩, ⟨vN_ HO_718007.out⟩, ⟨bk_ d.out⟩, ⟨bk_ g.out⟩, ⟨bel_⟩⟩
     rw [ip_ c59] at H
     have c59b0 : decide (Y < ((rd_L7 W af).length : Int)) = true := dt_ c59
     clear c59
     by_cases c60 : 0 ≤ Y
     rotate_left
     ·
      rw [ig_ c60] at H
      exact ab_ H
     rw [ip_ c60] at H
     have c60b0 : decide (0 ≤ Y) = true := dt_ c60
     clear c60
     by_cases c61 : Y < ((rd_L7 W af).length : Int)
     rotate_left
     ·
      rw [ig_ c61] at H
      exact ab_ H
     rw [ip_ c61] at H
     have c61b0 : decide (Y < ((rd_L7 W af).length : Int)) = true := dt_ c61
     clear c61
     by_cases c62 : Y < (M.length : Int)
     rotate_left
     ·
      rw [ig_ c62] at H
      exact ab_ H
     rw [ip_ c62] at H
     have c62b0 : decide (Y < (M.length : Int)) = true := dt_ c62
     clear c62
     replace H := bo_ H
     obtain ⟨cU, du, H⟩ := H
     try dsimp only at H
     by_cases c64 : cU = true
     rotate_left
     ·
      replace c64 := bf_.mpr c64
      subst c64
      have H1 : (none) = some r := by rw [ig_ (show ¬ (false = true) by decide)] at H; exact H
      clear H
      have H := H1
      clear H1
      exact ab_ H
     subst c64
     rw [ip_ rfl] at H
     have H' := a_ H
     clear H
     have p739 : 0 ≤ (Y : Int) := dq_
     have b2 : Y < ((rd_L7 W af).length : Int) := dq_
     obtain ⟨dE, cV, de⟩ := ai_ aI.out Y p739 b2
     cases cV
     replace p739 := et_ p739
     replace b2 := et_ b2
     have p740 : 0 ≤ (Y : Int) := dq_
     have bW : Y < (M.length : Int) := dq_
     obtain ⟨dF, cv, c740_1, cW, df, ci, dg, dh, di, bG, bH⟩ := at_T58 (Kd.N_reads' HO_9.out).2.2 Y p740 bW
     cases cW
     obtain ⟨ce740, hce740, hMe740, hcc740⟩ := Kd.N_get HO_9.out z58 Y p740 (by first | exact bW | exact dq_ | (have e_ := (Kd.N_reads' HO_9.out).1; omega))
     obtain ⟨ua740_1, uc740_1, rfl, bI, bJ⟩ := k58_openF hMe740
     have a2 := hcc740 1 _ rfl
     rw [add_field _ _ 1 (by omega)] at a2
     replace a2 := si_ (a2.symm.trans ci)
     injection a2 with hva_ hvn_ hvc_
     rw [hva_] at bJ
     rw [hvc_] at bI
     clear hva_ hvn_ hvc_ bJ bI
     clear hcc740 hce740
     have bK := a_ bH
     have cj := a_ bG
     clear bH bG
     replace p740 := et_ p740
     replace bW := et_ bW
     go_wp2_with (first | ((with_reducible refine gate_callee (f := 22) rfl ?_); refine goesL_ (some 98) rfl rfl Tryz.func22 kr_ rfl #[.agg #[.int .i64 ((rd_T58 M Y).f0), .slice cv ((rd_T58 M Y).f1).length c740_1, .int .i64 ((rd_T58 M Y).f2), .int .i64 ((rd_T58 M Y).f3), .int .i64 ((rd_T58 M Y).f4)], .int .i64 (rd (rd_L7 W af) Y)] rfl ar_ ?_; (with_reducible refine (dom_Dom_Has.calls ((rd_T58 M Y).f0) _ _ ((rd_T58 M Y).f1) ((rd_T58 M Y).f2) ((rd_T58 M Y).f3) ((rd_T58 M Y).f4) (rd (rd_L7 W af) Y) true _ ?side1 ?side2 du.out).mono ?_); (case side1 => repeat (first | exact (by repeat (first | (with_reducible exact bK.out) | (with_reducible refine Kd.C_alloc ?_ _) | (with_reducible refine Kd.C_drewN ?_ _) | (with_reducible refine Kd.C_drew ?_) | exact bK.out)) | (with_reducible refine Kd.C_alloc ?_ _) | (with_reducible refine Kd.C_drewN ?_ _) | (with_reducible refine Kd.C_drew ?_))); (case side2 => exact cj.out); rintro e w65 ⟨rfl, hb⟩; refine ⟨_, rfl, ?_⟩; replace HO_9 := a_ (Kd.N_below (vN_ HO_9.out) hb); replace HO_80 := a_ (Kd.N_below (vN_ HO_80.out) hb); replace HO_718001 := a_ (rb_ (vR_ HO_718001.out) hb); replace HO_718002 := a_ (rb_ (vR_ HO_718002.out) hb); replace HO_718003 := a_ (rb_ (vR_ HO_718003.out) hb); replace HO_718004 := a_ (rb_ (vR_ HO_718004.out) hb); replace HO_718005 := a_ (rb_ (vR_ HO_718005.out) hb); replace HO_718007 := a_ (Kd.N_below (vN_ HO_718007.out) hb); replace d := a_ (bq_ d.out hb); replace g := a_ (bq_ g.out hb); replace aI := a_ (cb_ (by repeat (first | (with_reducible exact aI.out) | (with_reducible refine Kd.C_alloc ?_ _) | (with_reducible refine Kd.C_drewN ?_ _) | (with_reducible refine Kd.C_drew ?_) | exact aI.out)) hb); replace HB := hq_ hb; clear hb))
     go_roundg k4
     case measure => have := bi.out; have := bj.out; have := a7.out; have := ce.out; omega
     exact ⟨(wrap64 (Y + 1)), eq_, H', ⟨by have := bi.out; have := bj.out; have := a7.out; have := ce.out; omega⟩, ⟨vN_ HO_9.out⟩, ⟨vN_ HO_80.out⟩, ⟨vR_ HO_718001.out⟩, ⟨vR_ HO_718002.out⟩, ⟨vR_ HO_718003.out⟩, ⟨vR_ HO_718004.out⟩, ⟨vR_ HO_718005.out⟩, ⟨vN_ HO_718007.out⟩, ⟨bk_ d.out⟩, ⟨bk_ g.out⟩, ⟨by repeat (first | (with_reducible exact aI.out) | (with_reducible refine Kd.C_alloc ?_ _) | (with_reducible refine Kd.C_drewN ?_ _) | (with_reducible refine Kd.C_drew ?_) | exact aI.out)⟩, ⟨bel_⟩⟩

end Go.Proofs.YtijjhobjmehhoaaGreatDoor.XGccKeeps
