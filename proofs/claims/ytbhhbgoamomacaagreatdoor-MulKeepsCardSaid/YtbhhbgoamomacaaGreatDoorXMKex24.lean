-- by xprint.py, a program of this session, over the kit's print
import Derived.Test.YtbhhbgoamomacaaGreatDoorXMKex0
import Derived.Test.YtbhhbgoamomacaaGreatDoorXMKex5
import Derived.Test.YtbhhbgoamomacaaGreatDoorXMKex8
import Derived.Test.YtbhhbgoamomacaaGreatDoorXMKex10
import Derived.Test.YtbhhbgoamomacaaGreatDoorXMKex15
import Derived.Test.YtbhhbgoamomacaaGreatDoorXMKex16
import Derived.Test.YtbhhbgoamomacaaGreatDoorXMKex17
import Derived.Test.YtbhhbgoamomacaaGreatDoorXMKex18
import Derived.Test.YtbhhbgoamomacaaGreatDoorXMKex22
import Derived.Test.YtbhhbgoamomacaaGreatDoorXMKex23
import Derived.Test.YtbhhbgoamomacaaGreatDoorSq
namespace Go.Proofs.YtbhhbgoamomacaaGreatDoor.XMulKeeps
open Go.RowKit Go.Proofs.YtbhhbgoamomacaaGreatDoor.Sq Go.Proofs.YtbhhbgoamomacaaGreatDoorW.PrintWords Go.Proofs.YtbhhbgoamomacaaGreatDoorW.PrintLast Go.Proofs.YtbhhbgoamomacaaGreatDoorW.PrintMore
attribute [local go_sem] max2_int min2_int max_two min_two max_three min_three max_four min_four   -- for this text's walks alone
set_option linter.unusedVariables false
set_option linter.unusedSimpArgs false

/-! ### jigsawlaw11_MulKeeps: function 7 -/
mutual
def jigsawlaw11_MulKeeps.j0 : Nat → List (List Int) → List (List Int) → List (S61) → Bool → Bool → Int → List Int → List Int → List Int → List Int → List Int → Int → List (List Int) → Option (Bool)
 | 0, _, _, _, _, _, _, _, _, _, _, _, _, _ => none
 | k + 1, n, q, r, s, t, a, b, c, d, e, g, l, m => if t = true then ((jigsawlaw11_wakes.f k).bind fun o => (some o)) else (if s = true then (if (r.length : Int) = (n.length : Int) then (jigsawlaw11_MulKeeps.l0 k q r n (n.length : Int) 0 a b c d e g l m) else (none)) else ((jigsawlaw11_wakes.f k).bind fun p => (if p = true then (some ((q.length : Int) == 0)) else (none))))
def jigsawlaw11_MulKeeps.l0 : Nat → List (List Int) → List (S61) → List (List Int) → Int → Int → Int → List Int → List Int → List Int → List Int → List Int → Int → List (List Int) → Option (Bool)
 | 0, _, _, _, _, _, _, _, _, _, _, _, _, _ => none
 | k + 1, s, o, p, r, a, b, c, d, e, g, l, m, n => if a < r then (if 0 ≤ a then (if a < (p.length : Int) then (if a < (o.length : Int) then ((dom_Dom_List.f k ((rd_T61 o a).f0) ((rd_T61 o a).f1) ((rd_T61 o a).f2) ((rd_T61 o a).f3) ((rd_T61 o a).f4)).bind fun q => (jigsawlaw11_MulKeeps.l1 k s o (rd_L7 p a) p r a q (q.length : Int) 0 b c d e g l m n)) else (none)) else (none)) else (none)) else (jigsawlaw11_MulKeeps.l2 k o s (s.length : Int) 0 b c d e g l m n)
def jigsawlaw11_MulKeeps.l1 : Nat → List (List Int) → List (S61) → List Int → List (List Int) → Int → Int → List Int → Int → Int → Int → List Int → List Int → List Int → List Int → List Int → Int → List (List Int) → Option (Bool)
 | 0, _, _, _, _, _, _, _, _, _, _, _, _, _, _, _, _, _ => none
 | k + 1, v, x, p, q, r, s, o, t, n, a, b, c, d, e, g, l, m => if n < t then (if 0 ≤ n then (if n < (o.length : Int) then ((slices_Contains_int_int.f k p (rd o n)).bind fun u => (if u = true then (jigsawlaw11_MulKeeps.l1 k v x p q r s o t (wrap64 (n + 1)) a b c d e g l m) else (none))) else (none)) else (none)) else (jigsawlaw11_MulKeeps.l0 k v x q r (wrap64 (s + 1)) a b c d e g l m)
def jigsawlaw11_MulKeeps.l2 : Nat → List (S61) → List (List Int) → Int → Int → Int → List Int → List Int → List Int → List Int → List Int → Int → List (List Int) → Option (Bool)
 | 0, _, _, _, _, _, _, _, _, _, _, _, _ => none
 | k + 1, r, o, q, a, b, c, d, e, g, l, m, n => if a < q then (if 0 ≤ a then (if a < (o.length : Int) then (jigsawlaw11_MulKeeps.l3 k r o q a (rd_L7 o a) ((rd_L7 o a).length : Int) 0 b c d e g l m n) else (none)) else (none)) else ((mul_Filter.f k b c d e g l m n r).bind fun p => ((jigsawlaw11_wakes.f k).bind fun s => (if s = true then (if p.2 = true then ((jigsawlaw11_lists.f k p.1).bind fun t => ((jigsawlaw11_lists.f k r).bind fun u => ((jigsawref10_Same.f k t u).bind fun v => (some v)))) else (none)) else (none))))
def jigsawlaw11_MulKeeps.l3 : Nat → List (S61) → List (List Int) → Int → Int → List Int → Int → Int → Int → List Int → List Int → List Int → List Int → List Int → Int → List (List Int) → Option (Bool)
 | 0, _, _, _, _, _, _, _, _, _, _, _, _, _, _, _ => none
 | k + 1, o, q, r, s, p, t, a, b, c, d, e, g, l, m, n => if a < t then (if 0 ≤ a then (if a < (p.length : Int) then (if a < (o.length : Int) then ((dom_Dom_Has.f ((rd_T61 o a).f0) ((rd_T61 o a).f1) ((rd_T61 o a).f2) ((rd_T61 o a).f3) ((rd_T61 o a).f4) (rd p a)).bind fun u => (if u = true then (jigsawlaw11_MulKeeps.l3 k o q r s p t (wrap64 (a + 1)) b c d e g l m n) else (none))) else (none)) else (none)) else (none)) else (jigsawlaw11_MulKeeps.l2 k o q r (wrap64 (s + 1)) b c d e g l m n)
end
def jigsawlaw11_MulKeeps.f (k : Nat) (d : Int) (e : List Int) (g : List Int) (l : List Int) (m : Int) (n : Int) (o : List (List Int)) (r : Int) : Option (Bool) := (jigsawlaw11_kind.f r).bind fun p => ((jigsawref10_Make.f k d e g l m n o p 6).bind fun a => ((jigsawref10_Solutions.f k a.1 a.2.1 a.2.2.1 a.2.2.2.1 a.2.2.2.2.1 a.2.2.2.2.2.1 a.2.2.2.2.2.2.1 a.2.2.2.2.2.2.2.1 a.2.2.2.2.2.2.2.2 4000).bind fun b => ((jigsawlaw11_doms.f k a.2.2.2.2.2.2.2.2).bind fun q => ((mul_Filter.f k a.1 a.2.1 a.2.2.1 a.2.2.2.1 a.2.2.2.2.1 a.2.2.2.2.2.1 a.2.2.2.2.2.2.1 a.2.2.2.2.2.2.2.1 q).bind fun c => (jigsawlaw11_MulKeeps.j0 k a.2.2.2.2.2.2.2.2 b.1 c.1 c.2 (!b.2) a.1 a.2.1 a.2.2.1 a.2.2.2.1 a.2.2.2.2.1 a.2.2.2.2.2.1 a.2.2.2.2.2.2.1 a.2.2.2.2.2.2.2.1)))))
theorem jigsawlaw11_MulKeeps.mono_l : ∀ k, (∀ d e f g l m n o p q a b c, LeO (jigsawlaw11_MulKeeps.j0 k d e f g l m n o p q a b c) (jigsawlaw11_MulKeeps.j0 (k + 1) d e f g l m n o p q a b c)) ∧ (∀ d e f g l m n o p q a b c, LeO (jigsawlaw11_MulKeeps.l0 k d e f g l m n o p q a b c) (jigsawlaw11_MulKeeps.l0 (k + 1) d e f g l m n o p q a b c)) ∧ (∀ d e f g l m n o p q a b c s t u v, LeO (jigsawlaw11_MulKeeps.l1 k d e f g l m n o p q a b c s t u v) (jigsawlaw11_MulKeeps.l1 (k + 1) d e f g l m n o p q a b c s t u v)) ∧ (∀ d e f g l m n o p q a b, LeO (jigsawlaw11_MulKeeps.l2 k d e f g l m n o p q a b) (jigsawlaw11_MulKeeps.l2 (k + 1) d e f g l m n o p q a b)) ∧ (∀ d e f g l m n o p q a b c s t, LeO (jigsawlaw11_MulKeeps.l3 k d e f g l m n o p q a b c s t) (jigsawlaw11_MulKeeps.l3 (k + 1) d e f g l m n o p q a b c s t))
 | 0 => ⟨fun _ _ _ _ _ _ _ _ _ _ _ _ _ r h => by simp [jigsawlaw11_MulKeeps.j0] at h, fun _ _ _ _ _ _ _ _ _ _ _ _ _ r h => by simp [jigsawlaw11_MulKeeps.l0] at h, fun _ _ _ _ _ _ _ _ _ _ _ _ _ _ _ _ _ r h => by simp [jigsawlaw11_MulKeeps.l1] at h, fun _ _ _ _ _ _ _ _ _ _ _ _ r h => by simp [jigsawlaw11_MulKeeps.l2] at h, fun _ _ _ _ _ _ _ _ _ _ _ _ _ _ _ r h => by simp [jigsawlaw11_MulKeeps.l3] at h⟩
 | k + 1 => by
  obtain ⟨ih0, ih1, ih2, ih3, ih4⟩ := jigsawlaw11_MulKeeps.mono_l k
  refine ⟨?_, ?_, ?_, ?_, ?_⟩
  ·
   intro d e f g l m n o p q a b c
   unfold jigsawlaw11_MulKeeps.j0
   have m0 := @dom_Dom_List.mono
   have m1 := @jigsawlaw11_doms.mono
   have m2 := @jigsawlaw11_lists.mono
   have m3 := @jigsawlaw11_wakes.mono
   have m4 := @jigsawref10_Make.mono
   have m5 := @jigsawref10_Same.mono
   have m6 := @jigsawref10_Solutions.mono
   have m7 := @mul_Filter.mono
   have m8 := @slices_Contains_int_int.mono
   exact leo_
  ·
   intro d e f g l m n o p q a b c
   unfold jigsawlaw11_MulKeeps.l0
   have m0 := @dom_Dom_List.mono
   have m1 := @jigsawlaw11_doms.mono
   have m2 := @jigsawlaw11_lists.mono
   have m3 := @jigsawlaw11_wakes.mono
   have m4 := @jigsawref10_Make.mono
   have m5 := @jigsawref10_Same.mono
   have m6 := @jigsawref10_Solutions.mono
   have m7 := @mul_Filter.mono
   have m8 := @slices_Contains_int_int.mono
   exact leo_
  ·
   intro d e f g l m n o p q a b c s t u v
   unfold jigsawlaw11_MulKeeps.l1
   have m0 := @dom_Dom_List.mono
   have m1 := @jigsawlaw11_doms.mono
   have m2 := @jigsawlaw11_lists.mono
   have m3 := @jigsawlaw11_wakes.mono
   have m4 := @jigsawref10_Make.mono
   have m5 := @jigsawref10_Same.mono
   have m6 := @jigsawref10_Solutions.mono
   have m7 := @mul_Filter.mono
   have m8 := @slices_Contains_int_int.mono
   exact leo_
  ·
   intro d e f g l m n o p q a b
   unfold jigsawlaw11_MulKeeps.l2
   have m0 := @dom_Dom_List.mono
   have m1 := @jigsawlaw11_doms.mono
   have m2 := @jigsawlaw11_lists.mono
   have m3 := @jigsawlaw11_wakes.mono
   have m4 := @jigsawref10_Make.mono
   have m5 := @jigsawref10_Same.mono
   have m6 := @jigsawref10_Solutions.mono
   have m7 := @mul_Filter.mono
   have m8 := @slices_Contains_int_int.mono
   exact leo_
  ·
   intro d e f g l m n o p q a b c s t
   unfold jigsawlaw11_MulKeeps.l3
   have m0 := @dom_Dom_List.mono
   have m1 := @jigsawlaw11_doms.mono
   have m2 := @jigsawlaw11_lists.mono
   have m3 := @jigsawlaw11_wakes.mono
   have m4 := @jigsawref10_Make.mono
   have m5 := @jigsawref10_Same.mono
   have m6 := @jigsawref10_Solutions.mono
   have m7 := @mul_Filter.mono
   have m8 := @slices_Contains_int_int.mono
   exact leo_
theorem jigsawlaw11_MulKeeps.mono : ∀ a b c d e g l m k, LeO (jigsawlaw11_MulKeeps.f k a b c d e g l m) (jigsawlaw11_MulKeeps.f (k + 1) a b c d e g l m) := by
 intro a b c d e g l m k
 obtain ⟨ih0, ih1, ih2, ih3, ih4⟩ := jigsawlaw11_MulKeeps.mono_l k
 unfold jigsawlaw11_MulKeeps.f
 have m0 := @dom_Dom_List.mono
 have m1 := @jigsawlaw11_doms.mono
 have m2 := @jigsawlaw11_lists.mono
 have m3 := @jigsawlaw11_wakes.mono
 have m4 := @jigsawref10_Make.mono
 have m5 := @jigsawref10_Same.mono
 have m6 := @jigsawref10_Solutions.mono
 have m7 := @mul_Filter.mono
 have m8 := @slices_Contains_int_int.mono
 exact leo_
def jigsawlaw11_MulKeeps.T1 : Bool × List (List Nat × List Nat) := (true, [([], []), ([], []), ([1], [1]), ([0, 2, 2], [0, 2]), ([3], [3]), ([4], [4]), ([4], [4]), ([], []), ([7, 5, 3, 0, 1, 2, 3, 4, 5, 7], [5, 7]), ([6, 8, 0, 1, 2, 3, 4, 5, 6, 7, 8], [6])])
def jigsawlaw11_MulKeeps.B1 : List Nat := [0, 0, 2, 7, 15, 31, 31, 0, 191, 511]
theorem jigsawlaw11_MulKeeps.tab1 : rtab .any (opsOf Tryz.f7 1) = jigsawlaw11_MulKeeps.T1 := by kernel_rfl
theorem jigsawlaw11_MulKeeps.bits1 : waitsOk jigsawlaw11_MulKeeps.T1.2 jigsawlaw11_MulKeeps.B1 = true := by kernel_rfl
def jigsawlaw11_MulKeeps.T3 : Bool × List (List Nat × List Nat) := (true, [([], []), ([], []), ([1], [1]), ([0, 2, 2], [0, 2]), ([3], [3]), ([4], [4]), ([4], [4]), ([5, 3, 0, 1, 2, 3, 4, 5], [5]), ([6, 7, 0, 1, 2, 3, 4, 5, 6, 7], [6])])
def jigsawlaw11_MulKeeps.B3 : List Nat := [0, 0, 2, 7, 15, 31, 31, 63, 255]
theorem jigsawlaw11_MulKeeps.tab3 : rtab .any (opsOf Tryz.f7 3) = jigsawlaw11_MulKeeps.T3 := by kernel_rfl
theorem jigsawlaw11_MulKeeps.bits3 : waitsOk jigsawlaw11_MulKeeps.T3.2 jigsawlaw11_MulKeeps.B3 = true := by kernel_rfl
set_option maxHeartbeats 8000000 in
set_option maxRecDepth 100000 in
theorem jigsawlaw11_MulKeeps.calls (k : Nat) (aq : Int) (aD : Option Addr) (c0_1 : Nat) (ak : List Int) (aE : Option Addr) (c0_2 : Nat) (al : List Int) (aF : Option Addr) (c0_3 : Nat) (am : List Int) (ar : Int) (au : Int) (aG : Option Addr) (c0_6 : Nat) (an : List (List Int)) (a1 : Int) (r : Bool) (w : World) (b4 : Kd.C (Kd.int .u8) w aD ak.length ak) (b5 : ak.length ≤ c0_1) (b6 : Kd.C (Kd.int .u8) w aE al.length al) (b7 : al.length ≤ c0_2) (b8 : Kd.C (Kd.int .i8) w aF am.length am) (b9 : am.length ≤ c0_3) (ca : Kd.C (Kd.slice 3 (Kd.int .i64)) w aG an.length an) (cb : an.length ≤ c0_6) (hrtab : Kd.C (Kd.int .u8) w (some ⟨0, 0, none⟩) tabL.length tabL) (h : jigsawlaw11_MulKeeps.f k aq ak al am ar au an a1 = some r) :
  Calls Tryz.prog 7 #[.agg #[.int .u8 aq, .slice aD ak.length c0_1, .slice aE al.length c0_2, .slice aF am.length c0_3, .int .i16 ar, .int .u8 au, .slice aG an.length c0_6], .int .u8 a1] w fun e w' => e = .returned (.bool r) ∧ Below w.heap.size w w' := by
 have hu29 := Tryz.underlying29
 have hu32 := Tryz.underlying32
 have hu61 := Tryz.underlying61
 have bM := a_ b4
 have bN := a_ b5
 clear b4 b5
 have bO := a_ b6
 have bP := a_ b7
 clear b6 b7
 have bQ := a_ b8
 have bR := a_ b9
 clear b8 b9
 have bS := a_ ca
 have bT := a_ cb
 clear ca cb
 have HRtab := a_ hrtab
 clear hrtab
 have HB := a_ (Below.refl w.heap.size w)
 unfold jigsawlaw11_MulKeeps.f at h
 have H := h
 clear h
 replace H := bs_.mp H
 obtain ⟨aS, cP, H⟩ := H
 try dsimp only at H
 have A3 := a_ cP
 clear cP
 replace H := bs_.mp H
 obtain ⟨⟨ag, m, o, q, s, u, aj, U, Q⟩, cQ, H⟩ := H
 try dsimp only at H
 have A4 := a_ cQ
 clear cQ
 replace H := bs_.mp H
 obtain ⟨⟨W, ck⟩, cR, H⟩ := H
 try dsimp only at H
 have A5 := a_ cR
 clear cR
 replace H := bs_.mp H
 obtain ⟨bU, cS, H⟩ := H
 try dsimp only at H
 have A6 := a_ cS
 clear cS
 replace H := bs_.mp H
 obtain ⟨⟨M, bV⟩, cc, H⟩ := H
 try dsimp only at H
 have A7 := a_ cc
 clear cc
 have cl := a_ H
 clear H
 go_enter Tryz.func7, Tryz.ntmps7
 try go_wp2_with (first | ((with_reducible refine gate_dst (N := 2) rfl ?_); (try (refine gate_guard (by rfl) ?_; dsimp only)); refine bxe_ (N := 2) (cs := #[.int .u8 aq, .slice aD ak.length c0_1, .slice aE al.length c0_2, .slice aF am.length c0_3, .int .i16 ar, .int .u8 au, .slice aG an.length c0_6]) (t := 29) ?_; intro l hg w9 hbox hb; have d := a_ (hbox); have cM := a_ (by rw [hg]; exact (bz_ bel_) : w.heap.size ≤ l); have dL := cM; replace HB := a_ (bp_ bel_ hb); clear hb hbox hg))
 replace d := a_ (blk_drew d.out)
 replace HB := a_ (below_drew1 HB.out)
 refine start_ (n := 10) (S := fun w' => w'.cell? ⟨l, 0, none⟩ = some (.int .u8 aq) ∧ w'.cell? ⟨l, 1, none⟩ = some (.slice aD ak.length c0_1) ∧ w'.cell? ⟨l, 2, none⟩ = some (.slice aE al.length c0_2) ∧ w'.cell? ⟨l, 3, none⟩ = some (.slice aF am.length c0_3) ∧ w'.cell? ⟨l, 4, none⟩ = some (.int .i16 ar) ∧ w'.cell? ⟨l, 5, none⟩ = some (.int .u8 au) ∧ w'.cell? ⟨l, 6, none⟩ = some (.slice aG an.length c0_6)) (ds := []) #[false, false, false, false, false, false, false, false, false, false] (by kernel_rfl) rfl rfl (ca7_ d.out) (fun hHeld => ?_); refine with_tabW jigsawlaw11_MulKeeps.tab1 jigsawlaw11_MulKeeps.bits1 (fun HT_ HW_ => ?_)
 generalize w9.drew = w10 at d HB hHeld ⊢
 refine pu_ (i := 1) (N := some 23) (any_of HT_.out (by kernel_rfl)) ?_
 refine tak_ (i := 0) (N := some 22) (take_ofW HT_.out HW_.out (by kernel_rfl)) hHeld ?_
 refine join_ (σ := Value × Value × Value × Value × Value × Value × Value × Nat) 2 #[true, true, true, true, true, true, true, true, false, false] (fun s_ => [(24, .int .i64 aS), (25, .tuple #[.agg #[.int .i64 ag, s_.1, s_.2.1, s_.2.2.1, s_.2.2.2.1, s_.2.2.2.2.1, .int .i64 aj, s_.2.2.2.2.2.1], s_.2.2.2.2.2.2.1]), (5, .pointer (some ⟨s_.2.2.2.2.2.2.2, 0, none⟩)), (21, .tuple #[.agg #[.int .i64 ag, s_.1, s_.2.1, s_.2.2.1, s_.2.2.2.1, s_.2.2.2.2.1, .int .i64 aj, s_.2.2.2.2.2.1], s_.2.2.2.2.2.2.1]), (26, .agg #[.int .i64 ag, s_.1, s_.2.1, s_.2.2.1, s_.2.2.2.1, s_.2.2.2.2.1, .int .i64 aj, s_.2.2.2.2.2.1]), (27, s_.2.2.2.2.2.2.1)]) (fun s_ w' => (w'.cell? ⟨l, 0, none⟩ = some (.int .u8 aq) ∧ w'.cell? ⟨l, 1, none⟩ = some (.slice aD ak.length c0_1) ∧ w'.cell? ⟨l, 2, none⟩ = some (.slice aE al.length c0_2) ∧ w'.cell? ⟨l, 3, none⟩ = some (.slice aF am.length c0_3) ∧ w'.cell? ⟨l, 4, none⟩ = some (.int .i16 ar) ∧ w'.cell? ⟨l, 5, none⟩ = some (.int .u8 au) ∧ w'.cell? ⟨l, 6, none⟩ = some (.slice aG an.length c0_6)) ∧ (Kd.R (Kd.int .i64) 3 w' w.heap.size (fun a => some a ≠ (s_.2.1 : Value).ownBlock ∧ some a ≠ (s_.2.2.1 : Value).ownBlock ∧ some a ≠ (s_.2.2.2.1 : Value).ownBlock ∧ some a ≠ (s_.2.2.2.2.1 : Value).ownBlock) s_.1 m) ∧ (Kd.R (Kd.int .i64) 3 w' w.heap.size (fun a => some a ≠ (s_.1 : Value).ownBlock ∧ some a ≠ (s_.2.2.1 : Value).ownBlock ∧ some a ≠ (s_.2.2.2.1 : Value).ownBlock ∧ some a ≠ (s_.2.2.2.2.1 : Value).ownBlock) s_.2.1 o) ∧ (Kd.R (Kd.int .i64) 3 w' w.heap.size (fun a => some a ≠ (s_.1 : Value).ownBlock ∧ some a ≠ (s_.2.1 : Value).ownBlock ∧ some a ≠ (s_.2.2.2.1 : Value).ownBlock ∧ some a ≠ (s_.2.2.2.2.1 : Value).ownBlock) s_.2.2.1 q) ∧ (Kd.R (Kd.int .i64) 3 w' w.heap.size (fun a => some a ≠ (s_.1 : Value).ownBlock ∧ some a ≠ (s_.2.1 : Value).ownBlock ∧ some a ≠ (s_.2.2.1 : Value).ownBlock ∧ some a ≠ (s_.2.2.2.2.1 : Value).ownBlock) s_.2.2.2.1 s) ∧ (Kd.R (Kd.int .i64) 3 w' w.heap.size (fun a => some a ≠ (s_.1 : Value).ownBlock ∧ some a ≠ (s_.2.1 : Value).ownBlock ∧ some a ≠ (s_.2.2.1 : Value).ownBlock ∧ some a ≠ (s_.2.2.2.1 : Value).ownBlock) s_.2.2.2.2.1 u) ∧ (Kd.N (Kd.slice 3 (Kd.int .i64)) 30 w' w.heap.size (fun a => some a ≠ (s_.1 : Value).ownBlock ∧ some a ≠ (s_.2.1 : Value).ownBlock ∧ some a ≠ (s_.2.2.1 : Value).ownBlock ∧ some a ≠ (s_.2.2.2.1 : Value).ownBlock ∧ some a ≠ (s_.2.2.2.2.1 : Value).ownBlock ∧ some a ≠ (s_.2.2.2.2.2.2.1 : Value).ownBlock ∧ a ≠ l ∧ a ≠ s_.2.2.2.2.2.2.2) s_.2.2.2.2.2.1 U) ∧ (Kd.N (Kd.slice 3 (Kd.int .i64)) 30 w' w.heap.size (fun a => some a ≠ (s_.1 : Value).ownBlock ∧ some a ≠ (s_.2.1 : Value).ownBlock ∧ some a ≠ (s_.2.2.1 : Value).ownBlock ∧ some a ≠ (s_.2.2.2.1 : Value).ownBlock ∧ some a ≠ (s_.2.2.2.2.1 : Value).ownBlock ∧ some a ≠ (s_.2.2.2.2.2.1 : Value).ownBlock ∧ a ≠ l ∧ a ≠ s_.2.2.2.2.2.2.2) s_.2.2.2.2.2.2.1 Q) ∧ (w'.heap[l]? = some (.cells #[.int .u8 aq, .slice aD ak.length c0_1, .slice aE al.length c0_2, .slice aF am.length c0_3, .int .i16 ar, .int .u8 au, .slice aG an.length c0_6] 29 (0, 0))) ∧ (w'.heap[s_.2.2.2.2.2.2.2]? = some (.cells #[.int .i64 0, .slice none 0 0, .slice none 0 0, .slice none 0 0, .slice none 0 0, .slice none 0 0, .int .i64 0, .slice none 0 0] 32 (0, 0))) ∧ (w.heap.size ≤ s_.2.2.2.2.2.2.2) ∧ (w.heap.size ≤ s_.2.2.2.2.2.2.2) ∧ (l ≠ s_.2.2.2.2.2.2.2) ∧ (s_.2.2.2.2.2.2.2 ≠ l) ∧ (Below w.heap.size w w')) ?_ ?_
 rotate_left
 ·
  intro hCont
  refine two_ (i := 2) (j := 7) (Ni := some 24) (Nj := some 5) #[true, true, true, false, false, false, false, false, false, false] #[true, true, false, false, false, false, false, true, false, false] rfl rfl rfl rfl (two_of HT_.out (by kernel_rfl)) (by decide) (by decide) (fun K hK => ?_) (fun K hK => ?_)
  ·
   skip
   refine goes_ Tryz.func9 (by kernel_rfl) rfl #[.int .u8 a1] (by rfl) rfl rfl ar_ ?_
   with_reducible refine (jigsawlaw11_kind.calls a1 aS _ A3.out).mono ?_
   rintro e w' ⟨rfl, ⟨nd, rfl⟩⟩
   refine ⟨_, rfl, ?_⟩
   refine hK.out _ _ (ca7_ d.out) (fun hHeld => ?_)
   clear hK K
   refine nor_ (N := some 24) ?_
   refine two_ (i := 3) (j := 7) (Ni := some 25) (Nj := some 5) #[true, true, true, true, false, false, false, false, false, false] #[true, true, true, false, false, false, false, true, false, false] rfl rfl rfl rfl (two_of HT_.out (by kernel_rfl)) (by decide) (by decide) (fun K hK => ?_) (fun K hK => ?_)
   ·
    skip
    refine goes_ Tryz.func8 (by kernel_rfl) rfl #[.agg #[.int .u8 aq, .slice aD ak.length c0_1, .slice aE al.length c0_2, .slice aF am.length c0_3, .int .i16 ar, .int .u8 au, .slice aG an.length c0_6], .int .i64 aS, .int .i64 6] (by rfl) rfl rfl ar_ ?_
    with_reducible refine (jigsawref10_Make.calls k aq _ _ ak _ _ al _ _ am ar au _ _ an aS 6 ag m o q s u aj U Q _ ?_ ?_ ?_ ?_ ?_ ?_ ?_ ?_ A4.out).mono ?_
    focus repeat (first | exact (cb_ bM.out bel_) | (with_reducible refine Kd.C_alloc ?_ _) | (with_reducible refine Kd.C_drewN ?_ _) | (with_reducible refine Kd.C_drew ?_))
    exact bN.out
    focus repeat (first | exact (cb_ bO.out bel_) | (with_reducible refine Kd.C_alloc ?_ _) | (with_reducible refine Kd.C_drewN ?_ _) | (with_reducible refine Kd.C_drew ?_))
    exact bP.out
    focus repeat (first | exact (cb_ bQ.out bel_) | (with_reducible refine Kd.C_alloc ?_ _) | (with_reducible refine Kd.C_drewN ?_ _) | (with_reducible refine Kd.C_drew ?_))
    exact bR.out
    focus repeat (first | exact (cb_ bS.out bel_) | (with_reducible refine Kd.C_alloc ?_ _) | (with_reducible refine Kd.C_drewN ?_ _) | (with_reducible refine Kd.C_drew ?_))
    exact bT.out
    rintro e w11 ⟨av, aw, ax, ay, az, aP, aM, rfl, X, bc, bd, be, bf, bg, bh, hb⟩
    refine ⟨_, rfl, ?_⟩
    have ad := a_ (Kd.R_lower X (bz_ bel_))
    have ae := a_ (Kd.R_lower bc (bz_ bel_))
    have Z := a_ (Kd.R_lower bd (bz_ bel_))
    have aa := a_ (Kd.R_lower be (bz_ bel_))
    have ab := a_ (Kd.R_lower bf (bz_ bel_))
    have P := a_ (Kd.N_lower (nm_ (ok' := fun a => some a ≠ (av : Value).ownBlock ∧ some a ≠ (aw : Value).ownBlock ∧ some a ≠ (ax : Value).ownBlock ∧ some a ≠ (ay : Value).ownBlock ∧ some a ≠ (az : Value).ownBlock ∧ some a ≠ (aM : Value).ownBlock ∧ a ≠ l) (Kd.S_N (Kd.S_bound bg)) (fun a hk_ => ⟨hk_.1.1, hk_.1.2.1, hk_.1.2.2.1, hk_.1.2.2.2.1, hk_.1.2.2.2.2.1, hk_.1.2.2.2.2.2, (Kd.freshB (bk_ d.out) a hk_.2.1)⟩)) (bz_ bel_))
    have O := a_ (Kd.N_lower (nm_ (ok' := fun a => some a ≠ (av : Value).ownBlock ∧ some a ≠ (aw : Value).ownBlock ∧ some a ≠ (ax : Value).ownBlock ∧ some a ≠ (ay : Value).ownBlock ∧ some a ≠ (az : Value).ownBlock ∧ some a ≠ (aP : Value).ownBlock ∧ a ≠ l) (Kd.S_N (Kd.S_bound bh)) (fun a hk_ => ⟨hk_.1.1, hk_.1.2.1, hk_.1.2.2.1, hk_.1.2.2.2.1, hk_.1.2.2.2.2.1, hk_.1.2.2.2.2.2, (Kd.freshB (bk_ d.out) a hk_.2.1)⟩)) (bz_ bel_))
    replace d := a_ (bb_ (bk_ d.out) hb)
    replace HB := a_ (bp_ bel_ hb)
    clear hb X bc bd be bf bg bh
    refine hK.out _ _ (ca7_ d.out) (fun hHeld => ?_)
    clear hK K
    refine nor_ (N := some 25) ?_
    refine pu_ (i := 4) (N := some 21) (any_of HT_.out (by kernel_rfl)) ?_
    refine pu_ (i := 5) (N := some 26) (any_of HT_.out (by kernel_rfl)) ?_
    refine pu_ (i := 6) (N := some 27) (any_of HT_.out (by kernel_rfl)) ?_
    refine one_ (i := 7) (N := some 5) #[true, true, true, true, true, true, true, true, false, false] rfl rfl (one_of HT_.out (by kernel_rfl)) (by decide) (fun K hK => ?_)
    refine box_step ?hg (N := 5) ?hd (cs := #[.int .i64 0, .slice none 0 0, .slice none 0 0, .slice none 0 0, .slice none 0 0, .slice none 0 0, .int .i64 0, .slice none 0 0]) (t := 32) ?hr ?_; (case hd => rfl); (case hg => rfl); (case hr => first | (go_simp; done) | (go_simp; rfl))
    intro b hg w12 hbox hb
    replace ad := a_ (rb_ (vR_ ad.out) hb)
    replace ae := a_ (rb_ (vR_ ae.out) hb)
    replace Z := a_ (rb_ (vR_ Z.out) hb)
    replace aa := a_ (rb_ (vR_ aa.out) hb)
    replace ab := a_ (rb_ (vR_ ab.out) hb)
    replace P := a_ (Kd.N_below (Kd.N_elderB (vN_ P.out) b (Nat.le_of_eq hg.symm)) hb)
    replace O := a_ (Kd.N_below (Kd.N_elderB (vN_ O.out) b (Nat.le_of_eq hg.symm)) hb)
    have g := a_ (hbox)
    have aU := a_ ((by rw [hg]; exact (bz_ bel_) : w.heap.size ≤ b))
    have aV := a_ ((by rw [hg]; exact (bz_ bel_) : w.heap.size ≤ b))
    replace HB := a_ (bp_ bel_ hb)
    have c := a_ ((by rw [hg]; exact Nat.ne_of_lt (blk_lt (bk_ d.out)) : l ≠ b))
    have ac := a_ ((by rw [hg]; exact Nat.ne_of_gt (blk_lt (bk_ d.out)) : b ≠ l))
    replace d := a_ (bb_ (bk_ d.out) hb)
    clear hb hbox hg
    refine hK.out _ _ (ca7_ d.out) (fun hHeld => ?_)
    clear hK K
    refine nor_ (N := some 5) ?_
    exact norm_ (by simp only [putAll, Act.put, List.setIfInBounds_toArray, List.set_cons_zero, List.set_cons_succ]) (hCont (av, aw, ax, ay, az, aP, aM, b) _ ⟨hHeld, (vR_ ad.out), (vR_ ae.out), (vR_ Z.out), (vR_ aa.out), (vR_ ab.out), (by refine vN_ ?_; exact nm_ P.out (fun _ hk => ⟨hk.1.1, ⟨hk.1.2.1, ⟨hk.1.2.2.1, ⟨hk.1.2.2.2.1, ⟨hk.1.2.2.2.2.1, ⟨hk.1.2.2.2.2.2.1, ⟨hk.1.2.2.2.2.2.2, hk.2⟩⟩⟩⟩⟩⟩⟩)), (by refine vN_ ?_; exact nm_ O.out (fun _ hk => ⟨hk.1.1, ⟨hk.1.2.1, ⟨hk.1.2.2.1, ⟨hk.1.2.2.2.1, ⟨hk.1.2.2.2.2.1, ⟨hk.1.2.2.2.2.2.1, ⟨hk.1.2.2.2.2.2.2, hk.2⟩⟩⟩⟩⟩⟩⟩)), (bk_ d.out), (bk_ g.out), aU.out, aV.out, c.out, ac.out, bel_⟩)
   ·
    skip
    refine box_step ?hg (N := 5) ?hd (cs := #[.int .i64 0, .slice none 0 0, .slice none 0 0, .slice none 0 0, .slice none 0 0, .slice none 0 0, .int .i64 0, .slice none 0 0]) (t := 32) ?hr ?_; (case hd => rfl); (case hg => rfl); (case hr => first | (go_simp; done) | (go_simp; rfl))
    intro b hg w11 hbox hb
    have g := a_ (hbox)
    have aU := a_ ((by rw [hg]; exact (bz_ bel_) : w.heap.size ≤ b))
    have aV := a_ ((by rw [hg]; exact (bz_ bel_) : w.heap.size ≤ b))
    replace HB := a_ (bp_ bel_ hb)
    have c := a_ ((by rw [hg]; exact Nat.ne_of_lt (blk_lt (bk_ d.out)) : l ≠ b))
    have ac := a_ ((by rw [hg]; exact Nat.ne_of_gt (blk_lt (bk_ d.out)) : b ≠ l))
    replace d := a_ (bb_ (bk_ d.out) hb)
    clear hb hbox hg
    refine hK.out _ _ (ca7_ d.out) (fun hHeld => ?_)
    clear hK K
    refine nor_ (N := some 5) ?_
    refine one_ (i := 3) (N := some 25) #[true, true, true, true, false, false, false, true, false, false] rfl rfl (one_of HT_.out (by kernel_rfl)) (by decide) (fun K hK => ?_)
    refine goes_ Tryz.func8 (by kernel_rfl) rfl #[.agg #[.int .u8 aq, .slice aD ak.length c0_1, .slice aE al.length c0_2, .slice aF am.length c0_3, .int .i16 ar, .int .u8 au, .slice aG an.length c0_6], .int .i64 aS, .int .i64 6] (by rfl) rfl rfl ar_ ?_
    with_reducible refine (jigsawref10_Make.calls k aq _ _ ak _ _ al _ _ am ar au _ _ an aS 6 ag m o q s u aj U Q _ ?_ ?_ ?_ ?_ ?_ ?_ ?_ ?_ A4.out).mono ?_
    exact ca_ ((cb_ bM.out HB.out))
    exact bN.out
    exact ca_ ((cb_ bO.out HB.out))
    exact bP.out
    exact ca_ ((cb_ bQ.out HB.out))
    exact bR.out
    exact ca_ ((cb_ bS.out HB.out))
    exact bT.out
    rintro e w12 ⟨av, aw, ax, ay, az, aP, aM, rfl, X, bc, bd, be, bf, bg, bh, hb⟩
    refine ⟨_, rfl, ?_⟩
    have ad := a_ (Kd.R_lower X (bz_ bel_))
    have ae := a_ (Kd.R_lower bc (bz_ bel_))
    have Z := a_ (Kd.R_lower bd (bz_ bel_))
    have aa := a_ (Kd.R_lower be (bz_ bel_))
    have ab := a_ (Kd.R_lower bf (bz_ bel_))
    have P := a_ (Kd.N_lower (nm_ (ok' := fun a => some a ≠ (av : Value).ownBlock ∧ some a ≠ (aw : Value).ownBlock ∧ some a ≠ (ax : Value).ownBlock ∧ some a ≠ (ay : Value).ownBlock ∧ some a ≠ (az : Value).ownBlock ∧ some a ≠ (aM : Value).ownBlock ∧ a ≠ l ∧ a ≠ b) (Kd.S_N (Kd.S_bound bg)) (fun a hk_ => ⟨hk_.1.1, hk_.1.2.1, hk_.1.2.2.1, hk_.1.2.2.2.1, hk_.1.2.2.2.2.1, hk_.1.2.2.2.2.2, (Kd.freshB (bk_ d.out) a hk_.2.1), (Kd.freshB (bk_ g.out) a hk_.2.1)⟩)) (bz_ bel_))
    have O := a_ (Kd.N_lower (nm_ (ok' := fun a => some a ≠ (av : Value).ownBlock ∧ some a ≠ (aw : Value).ownBlock ∧ some a ≠ (ax : Value).ownBlock ∧ some a ≠ (ay : Value).ownBlock ∧ some a ≠ (az : Value).ownBlock ∧ some a ≠ (aP : Value).ownBlock ∧ a ≠ l ∧ a ≠ b) (Kd.S_N (Kd.S_bound bh)) (fun a hk_ => ⟨hk_.1.1, hk_.1.2.1, hk_.1.2.2.1, hk_.1.2.2.2.1, hk_.1.2.2.2.2.1, hk_.1.2.2.2.2.2, (Kd.freshB (bk_ d.out) a hk_.2.1), (Kd.freshB (bk_ g.out) a hk_.2.1)⟩)) (bz_ bel_))
    replace d := a_ (bb_ (bk_ d.out) hb)
    replace g := a_ (bb_ (bk_ g.out) hb)
    replace HB := a_ (bp_ bel_ hb)
    clear hb X bc bd be bf bg bh
    refine hK.out _ _ (ca7_ d.out) (fun hHeld => ?_)
    clear hK K
    refine nor_ (N := some 25) ?_
    refine pu_ (i := 4) (N := some 21) (any_of HT_.out (by kernel_rfl)) ?_
    refine pu_ (i := 5) (N := some 26) (any_of HT_.out (by kernel_rfl)) ?_
    refine pu_ (i := 6) (N := some 27) (any_of HT_.out (by kernel_rfl)) ?_
    exact norm_ (by simp only [putAll, Act.put, List.setIfInBounds_toArray, List.set_cons_zero, List.set_cons_succ]) (hCont (av, aw, ax, ay, az, aP, aM, b) _ ⟨hHeld, (vR_ ad.out), (vR_ ae.out), (vR_ Z.out), (vR_ aa.out), (vR_ ab.out), (vN_ P.out), (vN_ O.out), (bk_ d.out), (bk_ g.out), aU.out, aV.out, c.out, ac.out, bel_⟩)
  ·
   skip
   refine box_step ?hg (N := 5) ?hd (cs := #[.int .i64 0, .slice none 0 0, .slice none 0 0, .slice none 0 0, .slice none 0 0, .slice none 0 0, .int .i64 0, .slice none 0 0]) (t := 32) ?hr ?_; (case hd => rfl); (case hg => rfl); (case hr => first | (go_simp; done) | (go_simp; rfl))
   intro b hg w11 hbox hb
   have g := a_ (hbox)
   have aU := a_ ((by rw [hg]; exact (bz_ bel_) : w.heap.size ≤ b))
   have aV := a_ ((by rw [hg]; exact (bz_ bel_) : w.heap.size ≤ b))
   replace HB := a_ (bp_ bel_ hb)
   have c := a_ ((by rw [hg]; exact Nat.ne_of_lt (blk_lt (bk_ d.out)) : l ≠ b))
   have ac := a_ ((by rw [hg]; exact Nat.ne_of_gt (blk_lt (bk_ d.out)) : b ≠ l))
   replace d := a_ (bb_ (bk_ d.out) hb)
   clear hb hbox hg
   refine hK.out _ _ (ca7_ d.out) (fun hHeld => ?_)
   clear hK K
   refine nor_ (N := some 5) ?_
   refine one_ (i := 2) (N := some 24) #[true, true, true, false, false, false, false, true, false, false] rfl rfl (one_of HT_.out (by kernel_rfl)) (by decide) (fun K hK => ?_)
   refine goes_ Tryz.func9 (by kernel_rfl) rfl #[.int .u8 a1] (by rfl) rfl rfl ar_ ?_
   with_reducible refine (jigsawlaw11_kind.calls a1 aS _ A3.out).mono ?_
   rintro e w' ⟨rfl, ⟨nd, rfl⟩⟩
   refine ⟨_, rfl, ?_⟩
   refine hK.out _ _ (ca7_ d.out) (fun hHeld => ?_)
   clear hK K
   refine nor_ (N := some 24) ?_
   refine one_ (i := 3) (N := some 25) #[true, true, true, true, false, false, false, true, false, false] rfl rfl (one_of HT_.out (by kernel_rfl)) (by decide) (fun K hK => ?_)
   refine goes_ Tryz.func8 (by kernel_rfl) rfl #[.agg #[.int .u8 aq, .slice aD ak.length c0_1, .slice aE al.length c0_2, .slice aF am.length c0_3, .int .i16 ar, .int .u8 au, .slice aG an.length c0_6], .int .i64 aS, .int .i64 6] (by rfl) rfl rfl ar_ ?_
   with_reducible refine (jigsawref10_Make.calls k aq _ _ ak _ _ al _ _ am ar au _ _ an aS 6 ag m o q s u aj U Q _ ?_ ?_ ?_ ?_ ?_ ?_ ?_ ?_ A4.out).mono ?_
   focus repeat (first | exact (cb_ bM.out bel_) | (with_reducible refine Kd.C_alloc ?_ _) | (with_reducible refine Kd.C_drewN ?_ _) | (with_reducible refine Kd.C_drew ?_))
   exact bN.out
   focus repeat (first | exact (cb_ bO.out bel_) | (with_reducible refine Kd.C_alloc ?_ _) | (with_reducible refine Kd.C_drewN ?_ _) | (with_reducible refine Kd.C_drew ?_))
   exact bP.out
   focus repeat (first | exact (cb_ bQ.out bel_) | (with_reducible refine Kd.C_alloc ?_ _) | (with_reducible refine Kd.C_drewN ?_ _) | (with_reducible refine Kd.C_drew ?_))
   exact bR.out
   focus repeat (first | exact (cb_ bS.out bel_) | (with_reducible refine Kd.C_alloc ?_ _) | (with_reducible refine Kd.C_drewN ?_ _) | (with_reducible refine Kd.C_drew ?_))
   exact bT.out
   rintro e w12 ⟨av, aw, ax, ay, az, aP, aM, rfl, X, bc, bd, be, bf, bg, bh, hb⟩
   refine ⟨_, rfl, ?_⟩
   have ad := a_ (Kd.R_lower X (bz_ bel_))
   have ae := a_ (Kd.R_lower bc (bz_ bel_))
   have Z := a_ (Kd.R_lower bd (bz_ bel_))
   have aa := a_ (Kd.R_lower be (bz_ bel_))
   have ab := a_ (Kd.R_lower bf (bz_ bel_))
   have P := a_ (Kd.N_lower (nm_ (ok' := fun a => some a ≠ (av : Value).ownBlock ∧ some a ≠ (aw : Value).ownBlock ∧ some a ≠ (ax : Value).ownBlock ∧ some a ≠ (ay : Value).ownBlock ∧ some a ≠ (az : Value).ownBlock ∧ some a ≠ (aM : Value).ownBlock ∧ a ≠ l ∧ a ≠ b) (Kd.S_N (Kd.S_bound bg)) (fun a hk_ => ⟨hk_.1.1, hk_.1.2.1, hk_.1.2.2.1, hk_.1.2.2.2.1, hk_.1.2.2.2.2.1, hk_.1.2.2.2.2.2, (Kd.freshB (bk_ d.out) a hk_.2.1), (Kd.freshB (bk_ g.out) a hk_.2.1)⟩)) (bz_ bel_))
   have O := a_ (Kd.N_lower (nm_ (ok' := fun a => some a ≠ (av : Value).ownBlock ∧ some a ≠ (aw : Value).ownBlock ∧ some a ≠ (ax : Value).ownBlock ∧ some a ≠ (ay : Value).ownBlock ∧ some a ≠ (az : Value).ownBlock ∧ some a ≠ (aP : Value).ownBlock ∧ a ≠ l ∧ a ≠ b) (Kd.S_N (Kd.S_bound bh)) (fun a hk_ => ⟨hk_.1.1, hk_.1.2.1, hk_.1.2.2.1, hk_.1.2.2.2.1, hk_.1.2.2.2.2.1, hk_.1.2.2.2.2.2, (Kd.freshB (bk_ d.out) a hk_.2.1), (Kd.freshB (bk_ g.out) a hk_.2.1)⟩)) (bz_ bel_))
   replace d := a_ (bb_ (bk_ d.out) hb)
   replace g := a_ (bb_ (bk_ g.out) hb)
   replace HB := a_ (bp_ bel_ hb)
   clear hb X bc bd be bf bg bh
   refine hK.out _ _ (ca7_ d.out) (fun hHeld => ?_)
   clear hK K
   refine nor_ (N := some 25) ?_
   refine pu_ (i := 4) (N := some 21) (any_of HT_.out (by kernel_rfl)) ?_
   refine pu_ (i := 5) (N := some 26) (any_of HT_.out (by kernel_rfl)) ?_
   refine pu_ (i := 6) (N := some 27) (any_of HT_.out (by kernel_rfl)) ?_
   exact norm_ (by simp only [putAll, Act.put, List.setIfInBounds_toArray, List.set_cons_zero, List.set_cons_succ]) (hCont (av, aw, ax, ay, az, aP, aM, b) _ ⟨hHeld, (vR_ ad.out), (vR_ ae.out), (vR_ Z.out), (vR_ aa.out), (vR_ ab.out), (vN_ P.out), (vN_ O.out), (bk_ d.out), (bk_ g.out), aU.out, aV.out, c.out, ac.out, bel_⟩)
 rintro ⟨av, aw, ax, ay, az, aP, aM, b⟩ w13 ⟨hS_, h0_, h1_, h2_, h3_, h4_, h5_, h6_, h7_, h8_, h9_, h10_, h11_, h12_, h13_⟩
 have ad : Aside0 (Kd.R (Kd.int .i64) 3 w13 w.heap.size (fun a => some a ≠ (aw : Value).ownBlock ∧ some a ≠ (ax : Value).ownBlock ∧ some a ≠ (ay : Value).ownBlock ∧ some a ≠ (az : Value).ownBlock) av m) := ⟨h0_⟩
 have ae : Aside0 (Kd.R (Kd.int .i64) 3 w13 w.heap.size (fun a => some a ≠ (av : Value).ownBlock ∧ some a ≠ (ax : Value).ownBlock ∧ some a ≠ (ay : Value).ownBlock ∧ some a ≠ (az : Value).ownBlock) aw o) := ⟨h1_⟩
 have Z : Aside0 (Kd.R (Kd.int .i64) 3 w13 w.heap.size (fun a => some a ≠ (av : Value).ownBlock ∧ some a ≠ (aw : Value).ownBlock ∧ some a ≠ (ay : Value).ownBlock ∧ some a ≠ (az : Value).ownBlock) ax q) := ⟨h2_⟩
 have aa : Aside0 (Kd.R (Kd.int .i64) 3 w13 w.heap.size (fun a => some a ≠ (av : Value).ownBlock ∧ some a ≠ (aw : Value).ownBlock ∧ some a ≠ (ax : Value).ownBlock ∧ some a ≠ (az : Value).ownBlock) ay s) := ⟨h3_⟩
 have ab : Aside0 (Kd.R (Kd.int .i64) 3 w13 w.heap.size (fun a => some a ≠ (av : Value).ownBlock ∧ some a ≠ (aw : Value).ownBlock ∧ some a ≠ (ax : Value).ownBlock ∧ some a ≠ (ay : Value).ownBlock) az u) := ⟨h4_⟩
 have P : Aside0 (Kd.N (Kd.slice 3 (Kd.int .i64)) 30 w13 w.heap.size (fun a => some a ≠ (av : Value).ownBlock ∧ some a ≠ (aw : Value).ownBlock ∧ some a ≠ (ax : Value).ownBlock ∧ some a ≠ (ay : Value).ownBlock ∧ some a ≠ (az : Value).ownBlock ∧ some a ≠ (aM : Value).ownBlock ∧ a ≠ l ∧ a ≠ b) aP U) := ⟨h5_⟩
 have O : Aside0 (Kd.N (Kd.slice 3 (Kd.int .i64)) 30 w13 w.heap.size (fun a => some a ≠ (av : Value).ownBlock ∧ some a ≠ (aw : Value).ownBlock ∧ some a ≠ (ax : Value).ownBlock ∧ some a ≠ (ay : Value).ownBlock ∧ some a ≠ (az : Value).ownBlock ∧ some a ≠ (aP : Value).ownBlock ∧ a ≠ l ∧ a ≠ b) aM Q) := ⟨h6_⟩
 replace d : Aside0 (w13.heap[l]? = some (.cells #[.int .u8 aq, .slice aD ak.length c0_1, .slice aE al.length c0_2, .slice aF am.length c0_3, .int .i16 ar, .int .u8 au, .slice aG an.length c0_6] 29 (0, 0))) := ⟨h7_⟩
 have g : Aside0 (w13.heap[b]? = some (.cells #[.int .i64 0, .slice none 0 0, .slice none 0 0, .slice none 0 0, .slice none 0 0, .slice none 0 0, .int .i64 0, .slice none 0 0] 32 (0, 0))) := ⟨h8_⟩
 have aU : Aside0 (w.heap.size ≤ b) := ⟨h9_⟩
 have aV : Aside0 (w.heap.size ≤ b) := ⟨h10_⟩
 have c : Aside0 (l ≠ b) := ⟨h11_⟩
 have ac : Aside0 (b ≠ l) := ⟨h12_⟩
 replace HB : Aside0 (Below w.heap.size w w13) := ⟨h13_⟩
 clear h0_ h1_ h2_ h3_ h4_ h5_ h6_ h7_ h8_ h9_ h10_ h11_ h12_ h13_
 have hHeld : w13.cell? ⟨l, 0, none⟩ = some (.int .u8 aq) ∧ w13.cell? ⟨l, 1, none⟩ = some (.slice aD ak.length c0_1) ∧ w13.cell? ⟨l, 2, none⟩ = some (.slice aE al.length c0_2) ∧ w13.cell? ⟨l, 3, none⟩ = some (.slice aF am.length c0_3) ∧ w13.cell? ⟨l, 4, none⟩ = some (.int .i16 ar) ∧ w13.cell? ⟨l, 5, none⟩ = some (.int .u8 au) ∧ w13.cell? ⟨l, 6, none⟩ = some (.slice aG an.length c0_6) := hS_
 obtain ⟨v, y, cm⟩ := Kd.R_slice ad.out
 (first | subst cm | (injection cm with f1_ f2_ f3_; have f4_ := f1_.symm; have f5_ := f3_.symm; clear f1_ f2_ f3_; subst f4_; subst f5_))
 obtain ⟨z, A, cn⟩ := Kd.R_slice ae.out
 (first | subst cn | (injection cn with f1_ f2_ f3_; have f4_ := f1_.symm; have f5_ := f3_.symm; clear f1_ f2_ f3_; subst f4_; subst f5_))
 obtain ⟨B, E, co⟩ := Kd.R_slice Z.out
 (first | subst co | (injection co with f1_ f2_ f3_; have f4_ := f1_.symm; have f5_ := f3_.symm; clear f1_ f2_ f3_; subst f4_; subst f5_))
 obtain ⟨F, G, cp⟩ := Kd.R_slice aa.out
 (first | subst cp | (injection cp with f1_ f2_ f3_; have f4_ := f1_.symm; have f5_ := f3_.symm; clear f1_ f2_ f3_; subst f4_; subst f5_))
 obtain ⟨I, J, cq⟩ := Kd.R_slice ab.out
 (first | subst cq | (injection cq with f1_ f2_ f3_; have f4_ := f1_.symm; have f5_ := f3_.symm; clear f1_ f2_ f3_; subst f4_; subst f5_))
 obtain ⟨ah, ai, cr⟩ := Kd.N_slice P.out
 (first | subst cr | (injection cr with f1_ f2_ f3_; have f4_ := f1_.symm; have f5_ := f3_.symm; clear f1_ f2_ f3_; subst f4_; subst f5_))
 refine norm_ (a' := ?_) ?_ ?_
 rotate_left
 ·
  simp only [putAll, Act.put, List.setIfInBounds_toArray, List.set_cons_zero, List.set_cons_succ]
  rfl
 refine one_ (i := 8) (N := none) #[true, true, true, true, true, true, true, true, true, false] rfl rfl (one_of HT_.out (by kernel_rfl)) (by decide) (fun K hK => ?_)
 have dW : w13.cell? ⟨b, 0, none⟩ = some (.int .i64 0) := (blk_cell g.out 0).trans rfl
 have hfs14 := blk_frozen g.out 0
 have hns14_0 := c.out
 have hms14_0 := ac.out
 have dX : w13.cell? ⟨b, 1, none⟩ = some (.slice none 0 0) := (blk_cell g.out 1).trans rfl
 have hfs16 := blk_frozen g.out 1
 have hns16_0 := c.out
 have hms16_0 := ac.out
 have dY : w13.cell? ⟨b, 2, none⟩ = some (.slice none 0 0) := (blk_cell g.out 2).trans rfl
 have hfs18 := blk_frozen g.out 2
 have hns18_0 := c.out
 have hms18_0 := ac.out
 have dZ : w13.cell? ⟨b, 3, none⟩ = some (.slice none 0 0) := (blk_cell g.out 3).trans rfl
 have hfs20 := blk_frozen g.out 3
 have hns20_0 := c.out
 have hms20_0 := ac.out
 have d0 : w13.cell? ⟨b, 4, none⟩ = some (.slice none 0 0) := (blk_cell g.out 4).trans rfl
 have hfs22 := blk_frozen g.out 4
 have hns22_0 := c.out
 have hms22_0 := ac.out
 have d1 : w13.cell? ⟨b, 5, none⟩ = some (.slice none 0 0) := (blk_cell g.out 5).trans rfl
 have hfs24 := blk_frozen g.out 5
 have hns24_0 := c.out
 have hms24_0 := ac.out
 have d2 : w13.cell? ⟨b, 6, none⟩ = some (.int .i64 0) := (blk_cell g.out 6).trans rfl
 have hfs25 := blk_frozen g.out 6
 have hns25_0 := c.out
 have hms25_0 := ac.out
 have d3 : w13.cell? ⟨b, 7, none⟩ = some (.slice none 0 0) := (blk_cell g.out 7).trans rfl
 have hfs27 := blk_frozen g.out 7
 have hns27_0 := c.out
 have hms27_0 := ac.out
 refine skip_ (w1 := ?_) (by rfl) rfl ?_ ?_
 rotate_left
 ·
  go_simp
  rfl
 refine hK.out _ _ ⟨((cell_far (p := ⟨b, _, none⟩) c.out _).trans (((cell_far (p := ⟨b, _, none⟩) c.out _).trans (((cell_far (p := ⟨b, _, none⟩) c.out _).trans (((cell_far (p := ⟨b, _, none⟩) c.out _).trans (((cell_far (p := ⟨b, _, none⟩) c.out _).trans (((cell_far (p := ⟨b, _, none⟩) c.out _).trans (((cell_far (p := ⟨b, _, none⟩) c.out _).trans (((cell_far (p := ⟨b, _, none⟩) c.out _).trans (hHeld.1)))))))))))))))), ((cell_far (p := ⟨b, _, none⟩) c.out _).trans (((cell_far (p := ⟨b, _, none⟩) c.out _).trans (((cell_far (p := ⟨b, _, none⟩) c.out _).trans (((cell_far (p := ⟨b, _, none⟩) c.out _).trans (((cell_far (p := ⟨b, _, none⟩) c.out _).trans (((cell_far (p := ⟨b, _, none⟩) c.out _).trans (((cell_far (p := ⟨b, _, none⟩) c.out _).trans (((cell_far (p := ⟨b, _, none⟩) c.out _).trans (hHeld.2.1)))))))))))))))), ((cell_far (p := ⟨b, _, none⟩) c.out _).trans (((cell_far (p := ⟨b, _, none⟩) c.out _).trans (((cell_far (p := ⟨b, _, none⟩) c.out _).trans (((cell_far (p := ⟨b, _, none⟩) c.out _).trans (((cell_far (p := ⟨b, _, none⟩) c.out _).trans (((cell_far (p := ⟨b, _, none⟩) c.out _).trans (((cell_far (p := ⟨b, _, none⟩) c.out _).trans (((cell_far (p := ⟨b, _, none⟩) c.out _).trans (hHeld.2.2.1)))))))))))))))), ((cell_far (p := ⟨b, _, none⟩) c.out _).trans (((cell_far (p := ⟨b, _, none⟩) c.out _).trans (((cell_far (p := ⟨b, _, none⟩) c.out _).trans (((cell_far (p := ⟨b, _, none⟩) c.out _).trans (((cell_far (p := ⟨b, _, none⟩) c.out _).trans (((cell_far (p := ⟨b, _, none⟩) c.out _).trans (((cell_far (p := ⟨b, _, none⟩) c.out _).trans (((cell_far (p := ⟨b, _, none⟩) c.out _).trans (hHeld.2.2.2.1)))))))))))))))), ((cell_far (p := ⟨b, _, none⟩) c.out _).trans (((cell_far (p := ⟨b, _, none⟩) c.out _).trans (((cell_far (p := ⟨b, _, none⟩) c.out _).trans (((cell_far (p := ⟨b, _, none⟩) c.out _).trans (((cell_far (p := ⟨b, _, none⟩) c.out _).trans (((cell_far (p := ⟨b, _, none⟩) c.out _).trans (((cell_far (p := ⟨b, _, none⟩) c.out _).trans (((cell_far (p := ⟨b, _, none⟩) c.out _).trans (hHeld.2.2.2.2.1)))))))))))))))), ((cell_far (p := ⟨b, _, none⟩) c.out _).trans (((cell_far (p := ⟨b, _, none⟩) c.out _).trans (((cell_far (p := ⟨b, _, none⟩) c.out _).trans (((cell_far (p := ⟨b, _, none⟩) c.out _).trans (((cell_far (p := ⟨b, _, none⟩) c.out _).trans (((cell_far (p := ⟨b, _, none⟩) c.out _).trans (((cell_far (p := ⟨b, _, none⟩) c.out _).trans (((cell_far (p := ⟨b, _, none⟩) c.out _).trans (hHeld.2.2.2.2.2.1)))))))))))))))), ((cell_far (p := ⟨b, _, none⟩) c.out _).trans (((cell_far (p := ⟨b, _, none⟩) c.out _).trans (((cell_far (p := ⟨b, _, none⟩) c.out _).trans (((cell_far (p := ⟨b, _, none⟩) c.out _).trans (((cell_far (p := ⟨b, _, none⟩) c.out _).trans (((cell_far (p := ⟨b, _, none⟩) c.out _).trans (((cell_far (p := ⟨b, _, none⟩) c.out _).trans (((cell_far (p := ⟨b, _, none⟩) c.out _).trans (hHeld.2.2.2.2.2.2))))))))))))))))⟩ (fun hHeld => ?_)
 clear hK K
 refine pu_ (i := 9) (N := some 6) (any_of HT_.out (by kernel_rfl)) ?_
 refine done_ (done_of HT_.out (by kernel_rfl)) ?_
 obtain ⟨w28, hq_⟩ : ∃ x, x = ((((((((w13.setCell ⟨b, 0, none⟩ (.int .i64 ag)).setCell ⟨b, 1, none⟩ (.slice v m.length y)).setCell ⟨b, 2, none⟩ (.slice z o.length A)).setCell ⟨b, 3, none⟩ (.slice B q.length E)).setCell ⟨b, 4, none⟩ (.slice F s.length G)).setCell ⟨b, 5, none⟩ (.slice I u.length J)).setCell ⟨b, 6, none⟩ (.int .i64 aj)).setCell ⟨b, 7, none⟩ (.slice ah U.length ai)) := ⟨_, rfl⟩
 replace ad : Aside0 (Kd.R (Kd.int .i64) 3 w28 w.heap.size (fun a => some a ≠ (.slice z o.length A : Value).ownBlock ∧ some a ≠ (.slice B q.length E : Value).ownBlock ∧ some a ≠ (.slice F s.length G : Value).ownBlock ∧ some a ≠ (.slice I u.length J : Value).ownBlock) (.slice v m.length y) m) := ⟨by subst hq_; refine vR_ ?_; exact rm_ (fR_ (fR_ (fR_ (fR_ (fR_ (fR_ (fR_ (fR_ (rt_ ad.out g.out (by decide)))))))))) (fun _ hk => ⟨hk.1.1, ⟨hk.1.2.1, ⟨hk.1.2.2.1, hk.1.2.2.2⟩⟩⟩)⟩
 replace ae : Aside0 (Kd.R (Kd.int .i64) 3 w28 w.heap.size (fun a => some a ≠ (.slice v m.length y : Value).ownBlock ∧ some a ≠ (.slice B q.length E : Value).ownBlock ∧ some a ≠ (.slice F s.length G : Value).ownBlock ∧ some a ≠ (.slice I u.length J : Value).ownBlock) (.slice z o.length A) o) := ⟨by subst hq_; refine vR_ ?_; exact rm_ (fR_ (fR_ (fR_ (fR_ (fR_ (fR_ (fR_ (fR_ (rt_ ae.out g.out (by decide)))))))))) (fun _ hk => ⟨hk.1.1, ⟨hk.1.2.1, ⟨hk.1.2.2.1, hk.1.2.2.2⟩⟩⟩)⟩
 replace Z : Aside0 (Kd.R (Kd.int .i64) 3 w28 w.heap.size (fun a => some a ≠ (.slice v m.length y : Value).ownBlock ∧ some a ≠ (.slice z o.length A : Value).ownBlock ∧ some a ≠ (.slice F s.length G : Value).ownBlock ∧ some a ≠ (.slice I u.length J : Value).ownBlock) (.slice B q.length E) q) := ⟨by subst hq_; refine vR_ ?_; exact rm_ (fR_ (fR_ (fR_ (fR_ (fR_ (fR_ (fR_ (fR_ (rt_ Z.out g.out (by decide)))))))))) (fun _ hk => ⟨hk.1.1, ⟨hk.1.2.1, ⟨hk.1.2.2.1, hk.1.2.2.2⟩⟩⟩)⟩
 replace aa : Aside0 (Kd.R (Kd.int .i64) 3 w28 w.heap.size (fun a => some a ≠ (.slice v m.length y : Value).ownBlock ∧ some a ≠ (.slice z o.length A : Value).ownBlock ∧ some a ≠ (.slice B q.length E : Value).ownBlock ∧ some a ≠ (.slice I u.length J : Value).ownBlock) (.slice F s.length G) s) := ⟨by subst hq_; refine vR_ ?_; exact rm_ (fR_ (fR_ (fR_ (fR_ (fR_ (fR_ (fR_ (fR_ (rt_ aa.out g.out (by decide)))))))))) (fun _ hk => ⟨hk.1.1, ⟨hk.1.2.1, ⟨hk.1.2.2.1, hk.1.2.2.2⟩⟩⟩)⟩
 replace ab : Aside0 (Kd.R (Kd.int .i64) 3 w28 w.heap.size (fun a => some a ≠ (.slice v m.length y : Value).ownBlock ∧ some a ≠ (.slice z o.length A : Value).ownBlock ∧ some a ≠ (.slice B q.length E : Value).ownBlock ∧ some a ≠ (.slice F s.length G : Value).ownBlock) (.slice I u.length J) u) := ⟨by subst hq_; refine vR_ ?_; exact rm_ (fR_ (fR_ (fR_ (fR_ (fR_ (fR_ (fR_ (fR_ (rt_ ab.out g.out (by decide)))))))))) (fun _ hk => ⟨hk.1.1, ⟨hk.1.2.1, ⟨hk.1.2.2.1, hk.1.2.2.2⟩⟩⟩)⟩
 replace P : Aside0 (Kd.N (Kd.slice 3 (Kd.int .i64)) 30 w28 w.heap.size (fun a => some a ≠ (.slice v m.length y : Value).ownBlock ∧ some a ≠ (.slice z o.length A : Value).ownBlock ∧ some a ≠ (.slice B q.length E : Value).ownBlock ∧ some a ≠ (.slice F s.length G : Value).ownBlock ∧ some a ≠ (.slice I u.length J : Value).ownBlock ∧ some a ≠ (aM : Value).ownBlock ∧ a ≠ l ∧ a ≠ b) (.slice ah U.length ai) U) := ⟨by subst hq_; refine vN_ ?_; exact nm_ (fN_ (fN_ (fN_ (fN_ (fN_ (fN_ (fN_ (fN_ (nm_ P.out (fun a hk => (⟨hk, hk.2.2.2.2.2.2.2⟩ : _ ∧ a ≠ b))))))))))) (fun _ hk => ⟨hk.1.1, ⟨hk.1.2.1, ⟨hk.1.2.2.1, ⟨hk.1.2.2.2.1, ⟨hk.1.2.2.2.2.1, ⟨hk.1.2.2.2.2.2.1, ⟨hk.1.2.2.2.2.2.2.1, hk.1.2.2.2.2.2.2.2⟩⟩⟩⟩⟩⟩⟩)⟩
 replace O : Aside0 (Kd.N (Kd.slice 3 (Kd.int .i64)) 30 w28 w.heap.size (fun a => some a ≠ (.slice v m.length y : Value).ownBlock ∧ some a ≠ (.slice z o.length A : Value).ownBlock ∧ some a ≠ (.slice B q.length E : Value).ownBlock ∧ some a ≠ (.slice F s.length G : Value).ownBlock ∧ some a ≠ (.slice I u.length J : Value).ownBlock ∧ some a ≠ (.slice ah U.length ai : Value).ownBlock ∧ a ≠ l ∧ a ≠ b) aM Q) := ⟨by subst hq_; refine vN_ ?_; exact nm_ (fN_ (fN_ (fN_ (fN_ (fN_ (fN_ (fN_ (fN_ (nm_ O.out (fun a hk => (⟨hk, hk.2.2.2.2.2.2.2⟩ : _ ∧ a ≠ b))))))))))) (fun _ hk => ⟨hk.1.1, ⟨hk.1.2.1, ⟨hk.1.2.2.1, ⟨hk.1.2.2.2.1, ⟨hk.1.2.2.2.2.1, ⟨hk.1.2.2.2.2.2.1, ⟨hk.1.2.2.2.2.2.2.1, hk.1.2.2.2.2.2.2.2⟩⟩⟩⟩⟩⟩⟩)⟩
 replace d : Aside0 (w28.heap[l]? = some (.cells #[.int .u8 aq, .slice aD ak.length c0_1, .slice aE al.length c0_2, .slice aF am.length c0_3, .int .i16 ar, .int .u8 au, .slice aG an.length c0_6] 29 (0, 0))) := ⟨by subst hq_; refine bk_ ?_; refine blk_far ?_ c.out _; refine bk_ ?_; refine blk_far ?_ c.out _; refine bk_ ?_; refine blk_far ?_ c.out _; refine bk_ ?_; refine blk_far ?_ c.out _; refine bk_ ?_; refine blk_far ?_ c.out _; refine bk_ ?_; refine blk_far ?_ c.out _; refine bk_ ?_; refine blk_far ?_ c.out _; refine bk_ ?_; refine blk_far ?_ c.out _; refine bk_ ?_; exact d.out⟩
 replace g : Aside0 (w28.heap[b]? = some (.cells #[.int .i64 ag, .slice v m.length y, .slice z o.length A, .slice B q.length E, .slice F s.length G, .slice I u.length J, .int .i64 aj, .slice ah U.length ai] 32 (0, 0))) := ⟨by subst hq_; refine bk_ ?_; refine bu_ (cs := #[.int .i64 ag, .slice v m.length y, .slice z o.length A, .slice B q.length E, .slice F s.length G, .slice I u.length J, .int .i64 aj, .slice none 0 0]) ?_ 7 _ rfl; refine bk_ ?_; refine bu_ (cs := #[.int .i64 ag, .slice v m.length y, .slice z o.length A, .slice B q.length E, .slice F s.length G, .slice I u.length J, .int .i64 0, .slice none 0 0]) ?_ 6 _ rfl; refine bk_ ?_; refine bu_ (cs := #[.int .i64 ag, .slice v m.length y, .slice z o.length A, .slice B q.length E, .slice F s.length G, .slice none 0 0, .int .i64 0, .slice none 0 0]) ?_ 5 _ rfl; refine bk_ ?_; refine bu_ (cs := #[.int .i64 ag, .slice v m.length y, .slice z o.length A, .slice B q.length E, .slice none 0 0, .slice none 0 0, .int .i64 0, .slice none 0 0]) ?_ 4 _ rfl; refine bk_ ?_; refine bu_ (cs := #[.int .i64 ag, .slice v m.length y, .slice z o.length A, .slice none 0 0, .slice none 0 0, .slice none 0 0, .int .i64 0, .slice none 0 0]) ?_ 3 _ rfl; refine bk_ ?_; refine bu_ (cs := #[.int .i64 ag, .slice v m.length y, .slice none 0 0, .slice none 0 0, .slice none 0 0, .slice none 0 0, .int .i64 0, .slice none 0 0]) ?_ 2 _ rfl; refine bk_ ?_; refine bu_ (cs := #[.int .i64 ag, .slice none 0 0, .slice none 0 0, .slice none 0 0, .slice none 0 0, .slice none 0 0, .int .i64 0, .slice none 0 0]) ?_ 1 _ rfl; refine bk_ ?_; refine bu_ (cs := #[.int .i64 0, .slice none 0 0, .slice none 0 0, .slice none 0 0, .slice none 0 0, .slice none 0 0, .int .i64 0, .slice none 0 0]) ?_ 0 _ rfl; refine bk_ ?_; exact g.out⟩
 replace HB : Aside0 (Below w.heap.size w w28) := ⟨by subst hq_; exact bel_⟩
 rw [← hq_]
 clear hq_
 have dM := ac.out
 have dN := c.out
 obtain ⟨_, _, _, _, _, _, _, _, _, _, _, _, _, _, _, _⟩ := cel8_ g.out
 obtain ⟨aJ, aB, cV⟩ := Kd.N_slice O.out
 subst cV
 try go_wp2_with (first | ((with_reducible refine gate_callee (f := 22) rfl ?_); refine goesL_ (some 31) rfl rfl Tryz.func22 (by kernel_rfl) rfl #[.agg #[.int .i64 ag, .slice v m.length y, .slice z o.length A, .slice B q.length E, .slice F s.length G, .slice I u.length J, .int .i64 aj, .slice ah U.length ai], .slice aJ Q.length aB, .int .i64 4000] rfl ar_ ?_; (with_reducible refine (jigsawref10_Solutions.calls k ag _ _ m _ _ o (fun a => some a = (.slice B q.length E : Value).ownBlock) _ _ q (fun a => some a = (.slice F s.length G : Value).ownBlock) _ _ s (fun a => some a = (.slice I u.length J : Value).ownBlock) _ _ u aj (fun a => (some a ≠ (.slice v m.length y : Value).ownBlock ∧ (some a ≠ (.slice z o.length A : Value).ownBlock ∧ (some a ≠ (.slice B q.length E : Value).ownBlock ∧ (some a ≠ (.slice F s.length G : Value).ownBlock ∧ (some a ≠ (.slice I u.length J : Value).ownBlock ∧ (some a ≠ (.slice aJ Q.length aB : Value).ownBlock ∧ (a ≠ l ∧ a ≠ b)))))))) _ _ U _ _ Q 4000 W ck _ ?_ ?_ ?_ ?_ ?_ ?_ ?_ ?_ ?_ ?_ A5.out).mono ?_); exact ca_ ((rr_ ad.out).2.2); exact (rr_ ad.out).2.1; exact ca_ ((rr_ ae.out).2.2); exact (rr_ ae.out).2.1; exact Kd.R_V (Kd.R_tight rfl (rt_ (rt_ (Kd.R_apart' (Kd.R_apart' (Z.out) (Kd.N_typed P.out) (by decide)) (Kd.N_typed O.out) (by decide)) d.out (by decide)) g.out (by decide))); exact Kd.R_V (Kd.R_tight rfl (rt_ (rt_ (Kd.R_apart' (Kd.R_apart' (aa.out) (Kd.N_typed P.out) (by decide)) (Kd.N_typed O.out) (by decide)) d.out (by decide)) g.out (by decide))); exact Kd.R_V (Kd.R_tight rfl (rt_ (rt_ (Kd.R_apart' (Kd.R_apart' (ab.out) (Kd.N_typed P.out) (by decide)) (Kd.N_typed O.out) (by decide)) d.out (by decide)) g.out (by decide))); exact Kd.N_V (P.out); exact ca_ ((Kd.N_reads' O.out).2.2); exact (Kd.N_reads' O.out).2.1; rintro e w32 ⟨aK, rfl, X, hb⟩; refine ⟨_, rfl, ?_⟩; have aN := a_ (Kd.N_lower (nm_ (ok' := fun a => some a ≠ (.slice v m.length y : Value).ownBlock ∧ some a ≠ (.slice z o.length A : Value).ownBlock ∧ some a ≠ (.slice aJ Q.length aB : Value).ownBlock ∧ a ≠ l ∧ a ≠ b) X (fun a hk_ => ⟨Or.elim hk_ (fun hs_ => Or.elim hs_ (fun hs_ => ((rt_ (rt_ (Kd.R_apart' (Kd.R_apart' (Z.out) (Kd.N_typed P.out) (by decide)) (Kd.N_typed O.out) (by decide)) d.out (by decide)) g.out (by decide)).1 a hs_.symm).1.1.1.1.1) (fun hs_ => Or.elim hs_ (fun hs_ => ((rt_ (rt_ (Kd.R_apart' (Kd.R_apart' (aa.out) (Kd.N_typed P.out) (by decide)) (Kd.N_typed O.out) (by decide)) d.out (by decide)) g.out (by decide)).1 a hs_.symm).1.1.1.1.1) (fun hs_ => Or.elim hs_ (fun hs_ => ((rt_ (rt_ (Kd.R_apart' (Kd.R_apart' (ab.out) (Kd.N_typed P.out) (by decide)) (Kd.N_typed O.out) (by decide)) d.out (by decide)) g.out (by decide)).1 a hs_.symm).1.1.1.1.1) (fun hs_ => hs_.1)))) (fun hn_ => (fr_ (rl_ (vR_ ad.out)) a hn_)), Or.elim hk_ (fun hs_ => Or.elim hs_ (fun hs_ => ((rt_ (rt_ (Kd.R_apart' (Kd.R_apart' (Z.out) (Kd.N_typed P.out) (by decide)) (Kd.N_typed O.out) (by decide)) d.out (by decide)) g.out (by decide)).1 a hs_.symm).1.1.1.1.2.1) (fun hs_ => Or.elim hs_ (fun hs_ => ((rt_ (rt_ (Kd.R_apart' (Kd.R_apart' (aa.out) (Kd.N_typed P.out) (by decide)) (Kd.N_typed O.out) (by decide)) d.out (by decide)) g.out (by decide)).1 a hs_.symm).1.1.1.1.2.1) (fun hs_ => Or.elim hs_ (fun hs_ => ((rt_ (rt_ (Kd.R_apart' (Kd.R_apart' (ab.out) (Kd.N_typed P.out) (by decide)) (Kd.N_typed O.out) (by decide)) d.out (by decide)) g.out (by decide)).1 a hs_.symm).1.1.1.1.2.1) (fun hs_ => hs_.2.1)))) (fun hn_ => (fr_ (rl_ (vR_ ae.out)) a hn_)), Or.elim hk_ (fun hs_ => Or.elim hs_ (fun hs_ => ((rt_ (rt_ (Kd.R_apart' (Kd.R_apart' (Z.out) (Kd.N_typed P.out) (by decide)) (Kd.N_typed O.out) (by decide)) d.out (by decide)) g.out (by decide)).1 a hs_.symm).1.1.2) (fun hs_ => Or.elim hs_ (fun hs_ => ((rt_ (rt_ (Kd.R_apart' (Kd.R_apart' (aa.out) (Kd.N_typed P.out) (by decide)) (Kd.N_typed O.out) (by decide)) d.out (by decide)) g.out (by decide)).1 a hs_.symm).1.1.2) (fun hs_ => Or.elim hs_ (fun hs_ => ((rt_ (rt_ (Kd.R_apart' (Kd.R_apart' (ab.out) (Kd.N_typed P.out) (by decide)) (Kd.N_typed O.out) (by decide)) d.out (by decide)) g.out (by decide)).1 a hs_.symm).1.1.2) (fun hs_ => hs_.2.2.2.2.2.1)))) (fun hn_ => (fr_ (Kd.N_lt (vN_ O.out)) a hn_)), Or.elim hk_ (fun hs_ => Or.elim hs_ (fun hs_ => ((rt_ (rt_ (Kd.R_apart' (Kd.R_apart' (Z.out) (Kd.N_typed P.out) (by decide)) (Kd.N_typed O.out) (by decide)) d.out (by decide)) g.out (by decide)).1 a hs_.symm).1.2) (fun hs_ => Or.elim hs_ (fun hs_ => ((rt_ (rt_ (Kd.R_apart' (Kd.R_apart' (aa.out) (Kd.N_typed P.out) (by decide)) (Kd.N_typed O.out) (by decide)) d.out (by decide)) g.out (by decide)).1 a hs_.symm).1.2) (fun hs_ => Or.elim hs_ (fun hs_ => ((rt_ (rt_ (Kd.R_apart' (Kd.R_apart' (ab.out) (Kd.N_typed P.out) (by decide)) (Kd.N_typed O.out) (by decide)) d.out (by decide)) g.out (by decide)).1 a hs_.symm).1.2) (fun hs_ => hs_.2.2.2.2.2.2.1)))) (fun hn_ => (Kd.freshB (bk_ d.out) a hn_)), Or.elim hk_ (fun hs_ => Or.elim hs_ (fun hs_ => ((rt_ (rt_ (Kd.R_apart' (Kd.R_apart' (Z.out) (Kd.N_typed P.out) (by decide)) (Kd.N_typed O.out) (by decide)) d.out (by decide)) g.out (by decide)).1 a hs_.symm).2) (fun hs_ => Or.elim hs_ (fun hs_ => ((rt_ (rt_ (Kd.R_apart' (Kd.R_apart' (aa.out) (Kd.N_typed P.out) (by decide)) (Kd.N_typed O.out) (by decide)) d.out (by decide)) g.out (by decide)).1 a hs_.symm).2) (fun hs_ => Or.elim hs_ (fun hs_ => ((rt_ (rt_ (Kd.R_apart' (Kd.R_apart' (ab.out) (Kd.N_typed P.out) (by decide)) (Kd.N_typed O.out) (by decide)) d.out (by decide)) g.out (by decide)).1 a hs_.symm).2) (fun hs_ => hs_.2.2.2.2.2.2.2)))) (fun hn_ => (Kd.freshB (bk_ g.out) a hn_))⟩)) (bz_ bel_)); replace ad := a_ (rb_ (vR_ ad.out) hb); replace ae := a_ (rb_ (vR_ ae.out) hb); replace Z := a_ (rb_ (vR_ Z.out) hb); replace aa := a_ (rb_ (vR_ aa.out) hb); replace ab := a_ (rb_ (vR_ ab.out) hb); replace P := a_ (Kd.N_elder' (vN_ P.out) (Kd.N_base X) hb); replace O := a_ (Kd.N_elder' (vN_ O.out) (Kd.N_base X) hb); replace d := a_ (bb_ (bk_ d.out) hb); replace g := a_ (bb_ (bk_ g.out) hb); replace HB := a_ (bp_ bel_ hb); clear hb X))
 replace ad := a_ (Kd.R_drew ad.out)
 replace ae := a_ (Kd.R_drew ae.out)
 replace Z := a_ (Kd.R_drew Z.out)
 replace aa := a_ (Kd.R_drew aa.out)
 replace ab := a_ (Kd.R_drew ab.out)
 replace P := a_ (Kd.N_drew P.out)
 replace O := a_ (Kd.N_drew O.out)
 replace aN := a_ (Kd.N_drew aN.out)
 replace d := a_ (blk_drew d.out)
 replace g := a_ (blk_drew g.out)
 replace HB := a_ (below_drew1 HB.out)
 refine start_ (n := 9) (S := fun w' => w'.cell? ⟨b, 0, none⟩ = some (.int .i64 ag) ∧ w'.cell? ⟨b, 1, none⟩ = some (.slice v m.length y) ∧ w'.cell? ⟨b, 2, none⟩ = some (.slice z o.length A) ∧ w'.cell? ⟨b, 3, none⟩ = some (.slice B q.length E) ∧ w'.cell? ⟨b, 4, none⟩ = some (.slice F s.length G) ∧ w'.cell? ⟨b, 5, none⟩ = some (.slice I u.length J) ∧ w'.cell? ⟨b, 6, none⟩ = some (.int .i64 aj) ∧ w'.cell? ⟨b, 7, none⟩ = some (.slice ah U.length ai)) (ds := []) #[false, false, false, false, false, false, false, false, false] (by kernel_rfl) rfl rfl (ca8_ g.out) (fun hHeld => ?_); refine with_tabW jigsawlaw11_MulKeeps.tab3 jigsawlaw11_MulKeeps.bits3 (fun HT_ HW_ => ?_)
 generalize w32.drew = w33 at ad ae Z aa ab P O aN d g HB hHeld ⊢
 refine pu_ (i := 1) (N := some 36) (any_of HT_.out (by kernel_rfl)) ?_
 refine tak_ (i := 0) (N := some 35) (take_ofW HT_.out HW_.out (by kernel_rfl)) hHeld ?_
 refine one_ (i := 2) (N := some 37) #[true, true, true, false, false, false, false, false, false] rfl rfl (one_of HT_.out (by kernel_rfl)) (by decide) (fun K hK => ?_)
 refine goes_ Tryz.func11 (by kernel_rfl) rfl #[.slice aJ Q.length aB] (by rfl) rfl rfl ar_ ?_
 with_reducible refine (jigsawlaw11_doms.calls k _ _ Q bU _ ?_ ?_ ?_ A6.out).mono ?_
 exact ca_ ((Kd.N_reads' O.out).2.2)
 exact (Kd.N_reads' O.out).2.1
 exact ca_ ((cb_ HRtab.out HB.out))
 rintro e w34 ⟨d4, rfl, X, hb⟩
 refine ⟨_, rfl, ?_⟩
 have bk := a_ (Kd.N_lower (nm_ (ok' := fun a => some a ≠ (.slice v m.length y : Value).ownBlock ∧ some a ≠ (.slice z o.length A : Value).ownBlock ∧ some a ≠ (.slice B q.length E : Value).ownBlock ∧ some a ≠ (.slice F s.length G : Value).ownBlock ∧ some a ≠ (.slice I u.length J : Value).ownBlock ∧ some a ≠ (.slice ah U.length ai : Value).ownBlock ∧ some a ≠ (.slice aJ Q.length aB : Value).ownBlock ∧ some a ≠ (aK : Value).ownBlock ∧ a ≠ l ∧ a ≠ b) X (fun a hk_ => ⟨(fr_ (rl_ (vR_ ad.out)) a hk_), (fr_ (rl_ (vR_ ae.out)) a hk_), (fr_ (rl_ (vR_ Z.out)) a hk_), (fr_ (rl_ (vR_ aa.out)) a hk_), (fr_ (rl_ (vR_ ab.out)) a hk_), (fr_ (Kd.N_lt (vN_ P.out)) a hk_), (fr_ (Kd.N_lt (vN_ O.out)) a hk_), (fr_ (Kd.N_lt (vN_ aN.out)) a hk_), (Kd.freshB (bk_ d.out) a hk_), (Kd.freshB (bk_ g.out) a hk_)⟩)) (bz_ bel_))
 replace ad := a_ (rb_ (vR_ ad.out) hb)
 replace ae := a_ (rb_ (vR_ ae.out) hb)
 replace Z := a_ (rb_ (vR_ Z.out) hb)
 replace aa := a_ (rb_ (vR_ aa.out) hb)
 replace ab := a_ (rb_ (vR_ ab.out) hb)
 replace P := a_ (Kd.N_elder' (vN_ P.out) (Kd.N_base X) hb)
 replace O := a_ (Kd.N_elder' (vN_ O.out) (Kd.N_base X) hb)
 replace aN := a_ (Kd.N_elder' (vN_ aN.out) (Kd.N_base X) hb)
 replace d := a_ (bb_ (bk_ d.out) hb)
 replace g := a_ (bb_ (bk_ g.out) hb)
 replace HB := a_ (bp_ bel_ hb)
 clear hb X
 obtain ⟨ct, cu, cv⟩ := Kd.N_slice bk.out
 (first | subst cv | (injection cv with f1_ f2_ f3_; have f4_ := f1_.symm; have f5_ := f3_.symm; clear f1_ f2_ f3_; subst f4_; subst f5_))
 refine hK.out _ _ (ca8_ g.out) (fun hHeld => ?_)
 clear hK K
 refine nor_ (N := some 37) ?_
 refine one_ (i := 3) (N := some 38) #[true, true, true, true, false, false, false, false, false] rfl rfl (one_of HT_.out (by kernel_rfl)) (by decide) (fun K hK => ?_)
 refine goes_ Tryz.func10 (by kernel_rfl) rfl #[.agg #[.int .i64 ag, .slice v m.length y, .slice z o.length A, .slice B q.length E, .slice F s.length G, .slice I u.length J, .int .i64 aj, .slice ah U.length ai], .slice ct bU.length cu] (by rfl) rfl rfl ar_ ?_
 with_reducible refine (mul_Filter.calls k ag _ _ m _ _ o _ _ q _ _ s _ _ u aj _ _ U _ _ bU M bV _ ?_ ?_ ?_ ?_ ?_ ?_ ?_ ?_ ?_ ?_ ?_ ?_ ?_ ?_ ?_ A7.out).mono ?_
 exact ca_ ((rr_ ad.out).2.2)
 exact (rr_ ad.out).2.1
 exact ca_ ((rr_ ae.out).2.2)
 exact (rr_ ae.out).2.1
 exact ca_ ((rr_ Z.out).2.2)
 exact (rr_ Z.out).2.1
 exact ca_ ((rr_ aa.out).2.2)
 exact (rr_ aa.out).2.1
 exact ca_ ((rr_ ab.out).2.2)
 exact (rr_ ab.out).2.1
 exact ca_ ((Kd.N_reads' P.out).2.2)
 exact (Kd.N_reads' P.out).2.1
 exact ca_ ((Kd.N_reads' bk.out).2.2)
 exact (Kd.N_reads' bk.out).2.1
 exact ca_ ((cb_ HRtab.out HB.out))
 rintro e w36 ⟨bW, rfl, X, hb⟩
 refine ⟨_, rfl, ?_⟩
 have cN := a_ (Kd.N_lower (nm_ (ok' := fun a => some a ≠ (.slice v m.length y : Value).ownBlock ∧ some a ≠ (.slice z o.length A : Value).ownBlock ∧ some a ≠ (.slice B q.length E : Value).ownBlock ∧ some a ≠ (.slice F s.length G : Value).ownBlock ∧ some a ≠ (.slice I u.length J : Value).ownBlock ∧ some a ≠ (.slice ah U.length ai : Value).ownBlock ∧ some a ≠ (.slice aJ Q.length aB : Value).ownBlock ∧ some a ≠ (aK : Value).ownBlock ∧ some a ≠ (.slice ct bU.length cu : Value).ownBlock ∧ a ≠ l ∧ a ≠ b) X (fun a hk_ => ⟨(fr_ (rl_ (vR_ ad.out)) a hk_), (fr_ (rl_ (vR_ ae.out)) a hk_), (fr_ (rl_ (vR_ Z.out)) a hk_), (fr_ (rl_ (vR_ aa.out)) a hk_), (fr_ (rl_ (vR_ ab.out)) a hk_), (fr_ (Kd.N_lt (vN_ P.out)) a hk_), (fr_ (Kd.N_lt (vN_ O.out)) a hk_), (fr_ (Kd.N_lt (vN_ aN.out)) a hk_), (fr_ (Kd.N_lt (vN_ bk.out)) a hk_), (Kd.freshB (bk_ d.out) a hk_), (Kd.freshB (bk_ g.out) a hk_)⟩)) (bz_ bel_))
 replace ad := a_ (rb_ (vR_ ad.out) hb)
 replace ae := a_ (rb_ (vR_ ae.out) hb)
 replace Z := a_ (rb_ (vR_ Z.out) hb)
 replace aa := a_ (rb_ (vR_ aa.out) hb)
 replace ab := a_ (rb_ (vR_ ab.out) hb)
 replace P := a_ (Kd.N_elder' (vN_ P.out) (Kd.N_base X) hb)
 replace O := a_ (Kd.N_elder' (vN_ O.out) (Kd.N_base X) hb)
 replace aN := a_ (Kd.N_elder' (vN_ aN.out) (Kd.N_base X) hb)
 replace d := a_ (bb_ (bk_ d.out) hb)
 replace g := a_ (bb_ (bk_ g.out) hb)
 replace HB := a_ (bp_ bel_ hb)
 clear hb X
 refine hK.out _ _ (ca8_ g.out) (fun hHeld => ?_)
 clear hK K
 refine nor_ (N := some 38) ?_
 refine pu_ (i := 4) (N := some 34) (any_of HT_.out (by kernel_rfl)) ?_
 refine pu_ (i := 5) (N := some 39) (any_of HT_.out (by kernel_rfl)) ?_
 refine pu_ (i := 6) (N := some 40) (any_of HT_.out (by kernel_rfl)) ?_
 refine pu_ (i := 7) (N := some 9) (any_of HT_.out (by kernel_rfl)) ?_
 refine pu_ (i := 8) (N := some 10) (any_of HT_.out (by kernel_rfl)) ?_
 refine done_ (done_of HT_.out (by kernel_rfl)) ?_
 go_upto_region 4 with (fail)
 go_cut [42] (fun dx wc => ∃ (kq : Nat) (bl : Bool), dx = .bool bl ∧ Aside0 (jigsawlaw11_MulKeeps.j0 kq Q W M bV bl ag m o q s u aj U = some r) ∧ Aside0 (kq ≤ k) ∧ Aside0 (Kd.N (Kd.slice 3 (Kd.int .i64)) 30 wc w.heap.size (fun a => some a ≠ (aK : Value).ownBlock ∧ some a ≠ (bW : Value).ownBlock ∧ some a ≠ ((.slice v m.length y) : Value).ownBlock ∧ some a ≠ ((.slice z o.length A) : Value).ownBlock ∧ some a ≠ ((.slice B q.length E) : Value).ownBlock ∧ some a ≠ ((.slice F s.length G) : Value).ownBlock ∧ some a ≠ ((.slice I u.length J) : Value).ownBlock ∧ some a ≠ ((.slice ah U.length ai) : Value).ownBlock ∧ a ≠ l ∧ a ≠ b) (.slice aJ Q.length aB) Q) ∧ Aside0 (Kd.N (Kd.slice 3 (Kd.int .i64)) 30 wc w.heap.size (fun a => some a ≠ ((.slice aJ Q.length aB) : Value).ownBlock ∧ some a ≠ (bW : Value).ownBlock ∧ some a ≠ ((.slice v m.length y) : Value).ownBlock ∧ some a ≠ ((.slice z o.length A) : Value).ownBlock ∧ a ≠ l ∧ a ≠ b) aK W) ∧ Aside0 (Kd.N k61 61 wc w.heap.size (fun a => some a ≠ ((.slice aJ Q.length aB) : Value).ownBlock ∧ some a ≠ (aK : Value).ownBlock ∧ some a ≠ ((.slice v m.length y) : Value).ownBlock ∧ some a ≠ ((.slice z o.length A) : Value).ownBlock ∧ some a ≠ ((.slice B q.length E) : Value).ownBlock ∧ some a ≠ ((.slice F s.length G) : Value).ownBlock ∧ some a ≠ ((.slice I u.length J) : Value).ownBlock ∧ some a ≠ ((.slice ah U.length ai) : Value).ownBlock ∧ a ≠ l ∧ a ≠ b) bW M) ∧ Aside0 (Kd.R (Kd.int .i64) 3 wc w.heap.size (fun a => some a ≠ ((.slice z o.length A) : Value).ownBlock ∧ some a ≠ ((.slice B q.length E) : Value).ownBlock ∧ some a ≠ ((.slice F s.length G) : Value).ownBlock ∧ some a ≠ ((.slice I u.length J) : Value).ownBlock) (.slice v m.length y) m) ∧ Aside0 (Kd.R (Kd.int .i64) 3 wc w.heap.size (fun a => some a ≠ ((.slice v m.length y) : Value).ownBlock ∧ some a ≠ ((.slice B q.length E) : Value).ownBlock ∧ some a ≠ ((.slice F s.length G) : Value).ownBlock ∧ some a ≠ ((.slice I u.length J) : Value).ownBlock) (.slice z o.length A) o) ∧ Aside0 (Kd.R (Kd.int .i64) 3 wc w.heap.size (fun a => some a ≠ ((.slice v m.length y) : Value).ownBlock ∧ some a ≠ ((.slice z o.length A) : Value).ownBlock ∧ some a ≠ ((.slice F s.length G) : Value).ownBlock ∧ some a ≠ ((.slice I u.length J) : Value).ownBlock) (.slice B q.length E) q) ∧ Aside0 (Kd.R (Kd.int .i64) 3 wc w.heap.size (fun a => some a ≠ ((.slice v m.length y) : Value).ownBlock ∧ some a ≠ ((.slice z o.length A) : Value).ownBlock ∧ some a ≠ ((.slice B q.length E) : Value).ownBlock ∧ some a ≠ ((.slice I u.length J) : Value).ownBlock) (.slice F s.length G) s) ∧ Aside0 (Kd.R (Kd.int .i64) 3 wc w.heap.size (fun a => some a ≠ ((.slice v m.length y) : Value).ownBlock ∧ some a ≠ ((.slice z o.length A) : Value).ownBlock ∧ some a ≠ ((.slice B q.length E) : Value).ownBlock ∧ some a ≠ ((.slice F s.length G) : Value).ownBlock) (.slice I u.length J) u) ∧ Aside0 (Kd.N (Kd.slice 3 (Kd.int .i64)) 30 wc w.heap.size (fun a => some a ≠ ((.slice aJ Q.length aB) : Value).ownBlock ∧ some a ≠ (aK : Value).ownBlock ∧ some a ≠ (bW : Value).ownBlock ∧ some a ≠ ((.slice v m.length y) : Value).ownBlock ∧ some a ≠ ((.slice z o.length A) : Value).ownBlock ∧ some a ≠ ((.slice B q.length E) : Value).ownBlock ∧ some a ≠ ((.slice F s.length G) : Value).ownBlock ∧ some a ≠ ((.slice I u.length J) : Value).ownBlock ∧ a ≠ l ∧ a ≠ b) (.slice ah U.length ai) U) ∧ Aside0 (wc.heap[l]? = some (.cells #[.int .u8 aq, (.slice aD ak.length c0_1), (.slice aE al.length c0_2), (.slice aF am.length c0_3), .int .i16 ar, .int .u8 au, (.slice aG an.length c0_6)] 29 (0, 0))) ∧ Aside0 (wc.heap[b]? = some (.cells #[.int .i64 ag, (.slice v m.length y), (.slice z o.length A), (.slice B q.length E), (.slice F s.length G), (.slice I u.length J), .int .i64 aj, (.slice ah U.length ai)] 32 (0, 0))) ∧ Aside0 (Below w.heap.size w wc))
 case first =>
  have H := cl.out
  clear cl
  have H' := a_ H
  clear H
  go_wp2
  go_meet
  case rel => exact ⟨_, (!ck), eq_, H', ⟨by first | omega | exact lr_ _⟩, ⟨by refine vN_ ?_; exact nm_ O.out (fun _ hk => ⟨hk.1.1.2, ⟨hk.2, ⟨hk.1.1.1.1, ⟨hk.1.1.1.2.1, ⟨hk.1.1.1.2.2.1, ⟨hk.1.1.1.2.2.2.1, ⟨hk.1.1.1.2.2.2.2.1, ⟨hk.1.1.1.2.2.2.2.2.1, ⟨hk.1.1.1.2.2.2.2.2.2.1, hk.1.1.1.2.2.2.2.2.2.2⟩⟩⟩⟩⟩⟩⟩⟩⟩)⟩, ⟨by refine vN_ ?_; exact nm_ aN.out (fun _ hk => ⟨hk.1.1.2.2.1, ⟨hk.2, ⟨hk.1.1.1, ⟨hk.1.1.2.1, ⟨hk.1.1.2.2.2.1, hk.1.1.2.2.2.2⟩⟩⟩⟩⟩)⟩, ⟨by refine vN_ ?_; exact nm_ cN.out (fun _ hk => ⟨hk.2.2.2.2.2.2.1, ⟨hk.2.2.2.2.2.2.2.1, ⟨hk.1, ⟨hk.2.1, ⟨hk.2.2.1, ⟨hk.2.2.2.1, ⟨hk.2.2.2.2.1, ⟨hk.2.2.2.2.2.1, ⟨hk.2.2.2.2.2.2.2.2.2.1, hk.2.2.2.2.2.2.2.2.2.2⟩⟩⟩⟩⟩⟩⟩⟩⟩)⟩, ⟨by refine vR_ ?_; exact ad.out⟩, ⟨by refine vR_ ?_; exact ae.out⟩, ⟨by refine vR_ ?_; exact Z.out⟩, ⟨by refine vR_ ?_; exact aa.out⟩, ⟨by refine vR_ ?_; exact ab.out⟩, ⟨by refine vN_ ?_; exact nm_ P.out (fun _ hk => ⟨hk.1.1.1.2.2.2.2.2.1, ⟨hk.1.1.2, ⟨hk.2, ⟨hk.1.1.1.1, ⟨hk.1.1.1.2.1, ⟨hk.1.1.1.2.2.1, ⟨hk.1.1.1.2.2.2.1, ⟨hk.1.1.1.2.2.2.2.1, ⟨hk.1.1.1.2.2.2.2.2.2.1, hk.1.1.1.2.2.2.2.2.2.2⟩⟩⟩⟩⟩⟩⟩⟩⟩)⟩, ⟨by refine bk_ ?_; exact d.out⟩, ⟨by refine bk_ ?_; exact g.out⟩, ⟨bel_⟩⟩
 case rest =>
  clear cl
  try clear c1
  try clear c2
  try clear p2
  try clear c8
  try clear c9
  try clear c10
  try clear c11
  try clear c22
  try clear c29
  obtain ⟨kq, bl, rfl, HA, bi, HO_6, HO_7, HO_9, HO_597001, HO_597002, HO_597003, HO_597004, HO_597005, HO_597007, d, g, HB⟩ := hcut
  cases kq with
  | zero => exact absurd HA.out (by simp [jigsawlaw11_MulKeeps.j0])
  | succ kj7 =>
   have H := HA.out
   clear HA
   simp only [jigsawlaw11_MulKeeps.j0] at H
   by_cases c37 : bl = true
   ·
    subst c37
    rw [ip_ rfl] at H
    replace H := bs_.mp H
    obtain ⟨cW, cw, H⟩ := H
    try dsimp only at H
    have dy := a_ cw
    clear cw
    obtain rfl := si_ H
    go_wp2_with (first | ((with_reducible refine gate_callee (f := 13) rfl ?_); refine goesL_ (some 43) rfl rfl Tryz.func13 (by kernel_rfl) rfl #[] rfl ar_ ?_; (with_reducible refine (jigsawlaw11_wakes.calls kj7 cW _ ?_ dy.out).mono ?_); exact ca_ ((cb_ HRtab.out HB.out)); rintro e w39 ⟨rfl, hb⟩; refine ⟨_, rfl, ?_⟩; replace HO_6 := a_ (Kd.N_below (vN_ HO_6.out) hb); replace HO_7 := a_ (Kd.N_below (vN_ HO_7.out) hb); replace HO_9 := a_ (Kd.N_below (vN_ HO_9.out) hb); replace HO_597001 := a_ (rb_ (vR_ HO_597001.out) hb); replace HO_597002 := a_ (rb_ (vR_ HO_597002.out) hb); replace HO_597003 := a_ (rb_ (vR_ HO_597003.out) hb); replace HO_597004 := a_ (rb_ (vR_ HO_597004.out) hb); replace HO_597005 := a_ (rb_ (vR_ HO_597005.out) hb); replace HO_597007 := a_ (Kd.N_below (vN_ HO_597007.out) hb); replace d := a_ (bb_ (bk_ d.out) hb); replace g := a_ (bb_ (bk_ g.out) hb); replace HB := a_ (bp_ bel_ hb); clear hb))
    go_ret
    exact ⟨by first | rfl | (simp [errW_none, errW_some] <;> rfl) | (simp [*, errW_none, errW_some] <;> rfl), bel_⟩
   ·
    replace c37 := bf_.mpr c37
    subst c37
    have H1 : (if bV = true then (if (M.length : Int) = (Q.length : Int) then (jigsawlaw11_MulKeeps.l0 kj7 W M Q (Q.length : Int) 0 ag m o q s u aj U) else (none)) else ((jigsawlaw11_wakes.f kj7).bind fun bo => (if bo = true then (some ((W.length : Int) == 0)) else (none)))) = some r := by rw [ig_ (show ¬ (false = true) by decide)] at H; exact H
    clear H
    have H := H1
    clear H1
    by_cases c40 : bV = true
    ·
     subst c40
     rw [ip_ rfl] at H
     by_cases c41 : (M.length : Int) = (Q.length : Int)
     ·
      rw [ip_ c41] at H
      have c41b0 : ((M.length : Int) == (Q.length : Int)) = true := beq_iff_eq.mpr c41
      have c41b1 : ((M.length : Int) != (Q.length : Int)) = false := bn_.mpr c41
      have c41b2 : (M.length == Q.length) = true := by first | simpa using c41 | (simp at c41 ⊢; omega)
      clear c41
      have H' := a_ H
      clear H
      obtain ⟨aL, aC, cX⟩ := Kd.N_slice HO_9.out
      subst cX
      go_wp2
      go_loopg [59] kj7 (fun kq dz w' => ∃ (V : Int), dz = .int .i64 V ∧ Aside0 (jigsawlaw11_MulKeeps.l0 kq W M Q (Q.length : Int) V ag m o q s u aj U = some r) ∧ Aside0 (kq ≤ kj7) ∧ Aside0 (Kd.N (Kd.slice 3 (Kd.int .i64)) 30 w' w.heap.size (fun a => some a ≠ ((.slice aL M.length aC) : Value).ownBlock ∧ some a ≠ ((.slice aJ Q.length aB) : Value).ownBlock ∧ some a ≠ ((.slice v m.length y) : Value).ownBlock ∧ some a ≠ ((.slice z o.length A) : Value).ownBlock ∧ a ≠ l ∧ a ≠ b) aK W) ∧ Aside0 (Kd.N k61 61 w' w.heap.size (fun a => some a ≠ (aK : Value).ownBlock ∧ some a ≠ ((.slice aJ Q.length aB) : Value).ownBlock ∧ some a ≠ ((.slice v m.length y) : Value).ownBlock ∧ some a ≠ ((.slice z o.length A) : Value).ownBlock ∧ some a ≠ ((.slice B q.length E) : Value).ownBlock ∧ some a ≠ ((.slice F s.length G) : Value).ownBlock ∧ some a ≠ ((.slice I u.length J) : Value).ownBlock ∧ some a ≠ ((.slice ah U.length ai) : Value).ownBlock ∧ a ≠ l ∧ a ≠ b) (.slice aL M.length aC) M) ∧ Aside0 (Kd.N (Kd.slice 3 (Kd.int .i64)) 30 w' w.heap.size (fun a => some a ≠ (aK : Value).ownBlock ∧ some a ≠ ((.slice aL M.length aC) : Value).ownBlock ∧ some a ≠ ((.slice v m.length y) : Value).ownBlock ∧ some a ≠ ((.slice z o.length A) : Value).ownBlock ∧ some a ≠ ((.slice B q.length E) : Value).ownBlock ∧ some a ≠ ((.slice F s.length G) : Value).ownBlock ∧ some a ≠ ((.slice I u.length J) : Value).ownBlock ∧ some a ≠ ((.slice ah U.length ai) : Value).ownBlock ∧ a ≠ l ∧ a ≠ b) (.slice aJ Q.length aB) Q) ∧ Aside0 (Kd.R (Kd.int .i64) 3 w' w.heap.size (fun a => some a ≠ ((.slice z o.length A) : Value).ownBlock ∧ some a ≠ ((.slice B q.length E) : Value).ownBlock ∧ some a ≠ ((.slice F s.length G) : Value).ownBlock ∧ some a ≠ ((.slice I u.length J) : Value).ownBlock) (.slice v m.length y) m) ∧ Aside0 (Kd.R (Kd.int .i64) 3 w' w.heap.size (fun a => some a ≠ ((.slice v m.length y) : Value).ownBlock ∧ some a ≠ ((.slice B q.length E) : Value).ownBlock ∧ some a ≠ ((.slice F s.length G) : Value).ownBlock ∧ some a ≠ ((.slice I u.length J) : Value).ownBlock) (.slice z o.length A) o) ∧ Aside0 (Kd.R (Kd.int .i64) 3 w' w.heap.size (fun a => some a ≠ ((.slice v m.length y) : Value).ownBlock ∧ some a ≠ ((.slice z o.length A) : Value).ownBlock ∧ some a ≠ ((.slice F s.length G) : Value).ownBlock ∧ some a ≠ ((.slice I u.length J) : Value).ownBlock) (.slice B q.length E) q) ∧ Aside0 (Kd.R (Kd.int .i64) 3 w' w.heap.size (fun a => some a ≠ ((.slice v m.length y) : Value).ownBlock ∧ some a ≠ ((.slice z o.length A) : Value).ownBlock ∧ some a ≠ ((.slice B q.length E) : Value).ownBlock ∧ some a ≠ ((.slice I u.length J) : Value).ownBlock) (.slice F s.length G) s) ∧ Aside0 (Kd.R (Kd.int .i64) 3 w' w.heap.size (fun a => some a ≠ ((.slice v m.length y) : Value).ownBlock ∧ some a ≠ ((.slice z o.length A) : Value).ownBlock ∧ some a ≠ ((.slice B q.length E) : Value).ownBlock ∧ some a ≠ ((.slice F s.length G) : Value).ownBlock) (.slice I u.length J) u) ∧ Aside0 (Kd.N (Kd.slice 3 (Kd.int .i64)) 30 w' w.heap.size (fun a => some a ≠ (aK : Value).ownBlock ∧ some a ≠ ((.slice aL M.length aC) : Value).ownBlock ∧ some a ≠ ((.slice aJ Q.length aB) : Value).ownBlock ∧ some a ≠ ((.slice v m.length y) : Value).ownBlock ∧ some a ≠ ((.slice z o.length A) : Value).ownBlock ∧ some a ≠ ((.slice B q.length E) : Value).ownBlock ∧ some a ≠ ((.slice F s.length G) : Value).ownBlock ∧ some a ≠ ((.slice I u.length J) : Value).ownBlock ∧ a ≠ l ∧ a ≠ b) (.slice ah U.length ai) U) ∧ Aside0 (w'.heap[l]? = some (.cells #[.int .u8 aq, (.slice aD ak.length c0_1), (.slice aE al.length c0_2), (.slice aF am.length c0_3), .int .i16 ar, .int .u8 au, (.slice aG an.length c0_6)] 29 (0, 0))) ∧ Aside0 (w'.heap[b]? = some (.cells #[.int .i64 ag, (.slice v m.length y), (.slice z o.length A), (.slice B q.length E), (.slice F s.length G), (.slice I u.length J), .int .i64 aj, (.slice ah U.length ai)] 32 (0, 0))) ∧ Aside0 (Below w.heap.size w w'))
      case atStart => exact ⟨(0), eq_, H', ⟨lr_ _⟩, ⟨by refine vN_ ?_; exact nm_ HO_7.out (fun _ hk => ⟨hk.2.1, ⟨hk.1, ⟨hk.2.2.1, ⟨hk.2.2.2.1, ⟨hk.2.2.2.2.1, hk.2.2.2.2.2⟩⟩⟩⟩⟩)⟩, ⟨by refine vN_ ?_; exact nm_ HO_9.out (fun _ hk => ⟨hk.2.1, ⟨hk.1, ⟨hk.2.2.1, ⟨hk.2.2.2.1, ⟨hk.2.2.2.2.1, ⟨hk.2.2.2.2.2.1, ⟨hk.2.2.2.2.2.2.1, ⟨hk.2.2.2.2.2.2.2.1, ⟨hk.2.2.2.2.2.2.2.2.1, hk.2.2.2.2.2.2.2.2.2⟩⟩⟩⟩⟩⟩⟩⟩⟩)⟩, ⟨by refine vN_ ?_; exact HO_6.out⟩, ⟨by refine vR_ ?_; exact HO_597001.out⟩, ⟨by refine vR_ ?_; exact HO_597002.out⟩, ⟨by refine vR_ ?_; exact HO_597003.out⟩, ⟨by refine vR_ ?_; exact HO_597004.out⟩, ⟨by refine vR_ ?_; exact HO_597005.out⟩, ⟨by refine vN_ ?_; exact nm_ HO_597007.out (fun _ hk => ⟨hk.2.1, ⟨hk.2.2.1, ⟨hk.1, ⟨hk.2.2.2.1, ⟨hk.2.2.2.2.1, ⟨hk.2.2.2.2.2.1, ⟨hk.2.2.2.2.2.2.1, ⟨hk.2.2.2.2.2.2.2.1, ⟨hk.2.2.2.2.2.2.2.2.1, hk.2.2.2.2.2.2.2.2.2⟩⟩⟩⟩⟩⟩⟩⟩⟩)⟩, ⟨by refine bk_ ?_; exact d.out⟩, ⟨by refine bk_ ?_; exact g.out⟩, ⟨bel_⟩⟩
      case round =>
       clear H'
       try clear c1
       try clear c2
       try clear p2
       try clear c3
       try clear c4
       try clear c8
       try clear c9
       try clear c10
       try clear c11
       try clear c13
       try clear c22
       try clear c29
       try clear c37
       try clear c40
       try clear c41
       try clear c41b0
       try clear c41b1
       try clear c41b2
       try clear p2
       obtain ⟨V, rfl, HA, bj, HO_7, HO_9, HO_57, HO_597001, HO_597002, HO_597003, HO_597004, HO_597005, HO_597007, d, g, HB⟩ := hrel
       cases gk with
       | zero => exact absurd HA.out (by simp [jigsawlaw11_MulKeeps.l0])
       | succ k2 =>
        have H := HA.out
        clear HA
        simp only [jigsawlaw11_MulKeeps.l0] at H
        by_cases c43 : V < (Q.length : Int)
        ·
         rw [ip_ c43] at H
         have c43b0 : decide (V < (Q.length : Int)) = true := dt_ c43
         clear c43
         by_cases c44 : 0 ≤ V
         ·
          rw [ip_ c44] at H
          have c44b0 : decide (0 ≤ V) = true := dt_ c44
          clear c44
          by_cases c45 : V < (Q.length : Int)
          ·
           rw [ip_ c45] at H
           have c45b0 : decide (V < (Q.length : Int)) = true := dt_ c45
           clear c45
           by_cases c46 : V < (M.length : Int)
           ·
            rw [ip_ c46] at H
            have c46b0 : decide (V < (M.length : Int)) = true := dt_ c46
            clear c46
            replace H := bs_.mp H
            obtain ⟨ao, cx, H⟩ := H
            try dsimp only at H
            have dA := a_ cx
            clear cx
            have H' := a_ H
            clear H
            have p610 : 0 ≤ (V : Int) := dq_
            have a4 : V < (Q.length : Int) := dq_
            obtain ⟨bm, b1, c610_0, cY, aW, br, bs⟩ := at_L7 (Kd.N_reads' HO_57.out).2.2 V p610 a4
            cases cY
            obtain ⟨ce610, hce610, hMe610, hcc610⟩ := Kd.N_get HO_57.out [] V p610 (by first | exact a4 | exact dq_ | (have e_ := (Kd.N_reads' HO_57.out).1; omega))
            obtain ⟨ua610_0, uc610_0, rfl, bu, bv⟩ := Kd.FK_slice_open hMe610
            have aX := hcc610 0 _ rfl
            rw [Nat.add_zero, show ((Kd.slice 3 (Kd.int .i64))).sz = 1 from rfl, Nat.mul_one] at aX
            replace aX := si_ (aX.symm.trans aW)
            injection aX with hva_ hvn_ hvc_
            rw [hva_] at bv
            rw [hvc_] at bu
            clear hva_ hvn_ hvc_ bv bu
            clear hcc610 hce610
            have aH := a_ bs
            have cg := a_ br
            clear bs br
            replace p610 := et_ p610
            replace a4 := et_ a4
            have p611 : 0 ≤ (V : Int) := dq_
            have a5 : V < (M.length : Int) := dq_
            obtain ⟨bn, b2, c611_1, cZ, a7, aY, a8, a9, ba, bw, bx⟩ := at_T61 (Kd.N_reads' HO_9.out).2.2 V p611 a5
            cases cZ
            obtain ⟨ce611, hce611, hMe611, hcc611⟩ := Kd.N_get HO_9.out z61 V p611 (by first | exact a5 | exact dq_ | (have e_ := (Kd.N_reads' HO_9.out).1; omega))
            obtain ⟨ua611_1, uc611_1, rfl, bz, bA⟩ := k61_openF hMe611
            have aZ := hcc611 1 _ rfl
            rw [add_field _ _ 1 (by omega)] at aZ
            replace aZ := si_ (aZ.symm.trans aY)
            injection aZ with hva_ hvn_ hvc_
            rw [hva_] at bA
            rw [hvc_] at bz
            clear hva_ hvn_ hvc_ bA bz
            clear hcc611 hce611
            have aA := a_ bx
            have ch := a_ bw
            clear bx bw
            replace p611 := et_ p611
            replace a5 := et_ a5
            go_wp2_with (first | ((with_reducible refine gate_callee (f := 23) rfl ?_); refine goesL_ (some 68) rfl rfl Tryz.func23 (by kernel_rfl) rfl #[.agg #[.int .i64 ((rd_T61 M V).f0), .slice b2 ((rd_T61 M V).f1).length c611_1, .int .i64 ((rd_T61 M V).f2), .int .i64 ((rd_T61 M V).f3), .int .i64 ((rd_T61 M V).f4)]] rfl ar_ ?_; (with_reducible refine (dom_Dom_List.calls k2 ((rd_T61 M V).f0) _ _ ((rd_T61 M V).f1) ((rd_T61 M V).f2) ((rd_T61 M V).f3) ((rd_T61 M V).f4) ao _ ?side1 ?side2 ?side3 dA.out).mono ?_); (case side1 => repeat (first | exact (by repeat (first | (with_reducible exact aA.out) | (with_reducible refine Kd.C_alloc ?_ _) | (with_reducible refine Kd.C_drewN ?_ _) | (with_reducible refine Kd.C_drew ?_) | exact aA.out)) | (with_reducible refine Kd.C_alloc ?_ _) | (with_reducible refine Kd.C_drewN ?_ _) | (with_reducible refine Kd.C_drew ?_))); (case side2 => exact ch.out); (case side3 => exact ca_ ((cb_ HRtab.out HB.out))); rintro e w48 ⟨d5, rfl, X, hb⟩; refine ⟨_, rfl, ?_⟩; replace HO_7 := a_ (Kd.N_elder' (vN_ HO_7.out) (rs_ X) hb); replace HO_9 := a_ (Kd.N_elder' (vN_ HO_9.out) (rs_ X) hb); replace HO_57 := a_ (Kd.N_elder' (vN_ HO_57.out) (rs_ X) hb); replace HO_597007 := a_ (Kd.N_elder' (vN_ HO_597007.out) (rs_ X) hb); have cd := a_ (Kd.R_lower (Kd.R_new' (Kd.R_new' (Kd.R_new' (Kd.R_new' (Kd.R_new' X (rl_ (vR_ HO_597001.out))) (rl_ (vR_ HO_597002.out))) (rl_ (vR_ HO_597003.out))) (rl_ (vR_ HO_597004.out))) (rl_ (vR_ HO_597005.out))) (bz_ bel_)); replace HO_597001 := a_ (Kd.R_elder' (vR_ HO_597001.out) (rs_ X) hb); replace HO_597002 := a_ (Kd.R_elder' (vR_ HO_597002.out) (rs_ X) hb); replace HO_597003 := a_ (Kd.R_elder' (vR_ HO_597003.out) (rs_ X) hb); replace HO_597004 := a_ (Kd.R_elder' (vR_ HO_597004.out) (rs_ X) hb); replace HO_597005 := a_ (Kd.R_elder' (vR_ HO_597005.out) (rs_ X) hb); replace d := a_ (bb_ (bk_ d.out) hb); replace g := a_ (bb_ (bk_ g.out) hb); replace aH := a_ (cb_ (by repeat (first | (with_reducible exact aH.out) | (with_reducible refine Kd.C_alloc ?_ _) | (with_reducible refine Kd.C_drewN ?_ _) | (with_reducible refine Kd.C_drew ?_) | exact aH.out)) hb); replace aA := a_ (cb_ (by repeat (first | (with_reducible exact aA.out) | (with_reducible refine Kd.C_alloc ?_ _) | (with_reducible refine Kd.C_drewN ?_ _) | (with_reducible refine Kd.C_drew ?_) | exact aA.out)) hb); replace HB := a_ (bp_ bel_ hb); clear hb X; obtain ⟨aQ, aR, c0⟩ := Kd.R_slice cd.out; subst c0))
            go_loopg [70] k2 (fun kq dB w' => ∃ (ap : Int), dB = .int .i64 ap ∧ Aside0 (jigsawlaw11_MulKeeps.l1 kq W M (rd_L7 Q V) Q (Q.length : Int) V ao (ao.length : Int) ap ag m o q s u aj U = some r) ∧ Aside0 (kq ≤ k2) ∧ Aside0 (Kd.N (Kd.slice 3 (Kd.int .i64)) 30 w' w.heap.size (fun a => some a ≠ ((.slice (some bn) M.length aC) : Value).ownBlock ∧ some a ≠ ((.slice (some bm) Q.length aB) : Value).ownBlock ∧ some a ≠ ((.slice aQ ao.length aR) : Value).ownBlock ∧ some a ≠ ((.slice v m.length y) : Value).ownBlock ∧ some a ≠ ((.slice z o.length A) : Value).ownBlock ∧ a ≠ l ∧ a ≠ b) aK W) ∧ Aside0 (Kd.N k61 61 w' w.heap.size (fun a => some a ≠ (aK : Value).ownBlock ∧ some a ≠ ((.slice (some bm) Q.length aB) : Value).ownBlock ∧ some a ≠ ((.slice aQ ao.length aR) : Value).ownBlock ∧ some a ≠ ((.slice v m.length y) : Value).ownBlock ∧ some a ≠ ((.slice z o.length A) : Value).ownBlock ∧ some a ≠ ((.slice B q.length E) : Value).ownBlock ∧ some a ≠ ((.slice F s.length G) : Value).ownBlock ∧ some a ≠ ((.slice I u.length J) : Value).ownBlock ∧ some a ≠ ((.slice ah U.length ai) : Value).ownBlock ∧ a ≠ l ∧ a ≠ b) (.slice (some bn) M.length aC) M) ∧ Aside0 (Kd.N (Kd.slice 3 (Kd.int .i64)) 30 w' w.heap.size (fun a => some a ≠ (aK : Value).ownBlock ∧ some a ≠ ((.slice (some bn) M.length aC) : Value).ownBlock ∧ some a ≠ ((.slice aQ ao.length aR) : Value).ownBlock ∧ some a ≠ ((.slice v m.length y) : Value).ownBlock ∧ some a ≠ ((.slice z o.length A) : Value).ownBlock ∧ some a ≠ ((.slice B q.length E) : Value).ownBlock ∧ some a ≠ ((.slice F s.length G) : Value).ownBlock ∧ some a ≠ ((.slice I u.length J) : Value).ownBlock ∧ some a ≠ ((.slice ah U.length ai) : Value).ownBlock ∧ a ≠ l ∧ a ≠ b) (.slice (some bm) Q.length aB) Q) ∧ Aside0 (Kd.R (Kd.int .i64) 3 w' w.heap.size (fun a => some a ≠ ((.slice v m.length y) : Value).ownBlock ∧ some a ≠ ((.slice z o.length A) : Value).ownBlock ∧ some a ≠ ((.slice B q.length E) : Value).ownBlock ∧ some a ≠ ((.slice F s.length G) : Value).ownBlock ∧ some a ≠ ((.slice I u.length J) : Value).ownBlock) (.slice aQ ao.length aR) ao) ∧ Aside0 (Kd.R (Kd.int .i64) 3 w' w.heap.size (fun a => some a ≠ ((.slice aQ ao.length aR) : Value).ownBlock ∧ some a ≠ ((.slice z o.length A) : Value).ownBlock ∧ some a ≠ ((.slice B q.length E) : Value).ownBlock ∧ some a ≠ ((.slice F s.length G) : Value).ownBlock ∧ some a ≠ ((.slice I u.length J) : Value).ownBlock) (.slice v m.length y) m) ∧ Aside0 (Kd.R (Kd.int .i64) 3 w' w.heap.size (fun a => some a ≠ ((.slice aQ ao.length aR) : Value).ownBlock ∧ some a ≠ ((.slice v m.length y) : Value).ownBlock ∧ some a ≠ ((.slice B q.length E) : Value).ownBlock ∧ some a ≠ ((.slice F s.length G) : Value).ownBlock ∧ some a ≠ ((.slice I u.length J) : Value).ownBlock) (.slice z o.length A) o) ∧ Aside0 (Kd.R (Kd.int .i64) 3 w' w.heap.size (fun a => some a ≠ ((.slice aQ ao.length aR) : Value).ownBlock ∧ some a ≠ ((.slice v m.length y) : Value).ownBlock ∧ some a ≠ ((.slice z o.length A) : Value).ownBlock ∧ some a ≠ ((.slice F s.length G) : Value).ownBlock ∧ some a ≠ ((.slice I u.length J) : Value).ownBlock) (.slice B q.length E) q) ∧ Aside0 (Kd.R (Kd.int .i64) 3 w' w.heap.size (fun a => some a ≠ ((.slice aQ ao.length aR) : Value).ownBlock ∧ some a ≠ ((.slice v m.length y) : Value).ownBlock ∧ some a ≠ ((.slice z o.length A) : Value).ownBlock ∧ some a ≠ ((.slice B q.length E) : Value).ownBlock ∧ some a ≠ ((.slice I u.length J) : Value).ownBlock) (.slice F s.length G) s) ∧ Aside0 (Kd.R (Kd.int .i64) 3 w' w.heap.size (fun a => some a ≠ ((.slice aQ ao.length aR) : Value).ownBlock ∧ some a ≠ ((.slice v m.length y) : Value).ownBlock ∧ some a ≠ ((.slice z o.length A) : Value).ownBlock ∧ some a ≠ ((.slice B q.length E) : Value).ownBlock ∧ some a ≠ ((.slice F s.length G) : Value).ownBlock) (.slice I u.length J) u) ∧ Aside0 (Kd.N (Kd.slice 3 (Kd.int .i64)) 30 w' w.heap.size (fun a => some a ≠ (aK : Value).ownBlock ∧ some a ≠ ((.slice (some bn) M.length aC) : Value).ownBlock ∧ some a ≠ ((.slice (some bm) Q.length aB) : Value).ownBlock ∧ some a ≠ ((.slice aQ ao.length aR) : Value).ownBlock ∧ some a ≠ ((.slice v m.length y) : Value).ownBlock ∧ some a ≠ ((.slice z o.length A) : Value).ownBlock ∧ some a ≠ ((.slice B q.length E) : Value).ownBlock ∧ some a ≠ ((.slice F s.length G) : Value).ownBlock ∧ some a ≠ ((.slice I u.length J) : Value).ownBlock ∧ a ≠ l ∧ a ≠ b) (.slice ah U.length ai) U) ∧ Aside0 (w'.heap[l]? = some (.cells #[.int .u8 aq, (.slice aD ak.length c0_1), (.slice aE al.length c0_2), (.slice aF am.length c0_3), .int .i16 ar, .int .u8 au, (.slice aG an.length c0_6)] 29 (0, 0))) ∧ Aside0 (w'.heap[b]? = some (.cells #[.int .i64 ag, (.slice v m.length y), (.slice z o.length A), (.slice B q.length E), (.slice F s.length G), (.slice I u.length J), .int .i64 aj, (.slice ah U.length ai)] 32 (0, 0))) ∧ Aside0 (Kd.C (Kd.int .i64) w' b1 (rd_L7 Q V).length (rd_L7 Q V)) ∧ Aside0 (Kd.C (Kd.int .u64) w' b2 ((rd_T61 M V).f1).length ((rd_T61 M V).f1)) ∧ Aside0 (Below w.heap.size w w'))
            case atStart => exact ⟨(0), eq_, H', ⟨lr_ _⟩, ⟨by refine vN_ ?_; exact nm_ HO_7.out (fun _ hk => ⟨hk.1.1, ⟨hk.1.2.1, ⟨hk.2, ⟨hk.1.2.2.1, ⟨hk.1.2.2.2.1, ⟨hk.1.2.2.2.2.1, hk.1.2.2.2.2.2⟩⟩⟩⟩⟩⟩)⟩, ⟨by refine vN_ ?_; exact nm_ HO_9.out (fun _ hk => ⟨hk.1.1, ⟨hk.1.2.1, ⟨hk.2, ⟨hk.1.2.2.1, ⟨hk.1.2.2.2.1, ⟨hk.1.2.2.2.2.1, ⟨hk.1.2.2.2.2.2.1, ⟨hk.1.2.2.2.2.2.2.1, ⟨hk.1.2.2.2.2.2.2.2.1, ⟨hk.1.2.2.2.2.2.2.2.2.1, hk.1.2.2.2.2.2.2.2.2.2⟩⟩⟩⟩⟩⟩⟩⟩⟩⟩)⟩, ⟨by refine vN_ ?_; exact nm_ HO_57.out (fun _ hk => ⟨hk.1.1, ⟨hk.1.2.1, ⟨hk.2, ⟨hk.1.2.2.1, ⟨hk.1.2.2.2.1, ⟨hk.1.2.2.2.2.1, ⟨hk.1.2.2.2.2.2.1, ⟨hk.1.2.2.2.2.2.2.1, ⟨hk.1.2.2.2.2.2.2.2.1, ⟨hk.1.2.2.2.2.2.2.2.2.1, hk.1.2.2.2.2.2.2.2.2.2⟩⟩⟩⟩⟩⟩⟩⟩⟩⟩)⟩, ⟨by refine vR_ ?_; exact rm_ cd.out (fun _ hk => ⟨hk.1.1.1.1.2, ⟨hk.1.1.1.2, ⟨hk.1.1.2, ⟨hk.1.2, hk.2⟩⟩⟩⟩)⟩, ⟨by refine vR_ ?_; exact rm_ HO_597001.out (fun _ hk => ⟨hk.2, ⟨hk.1.1, ⟨hk.1.2.1, ⟨hk.1.2.2.1, hk.1.2.2.2⟩⟩⟩⟩)⟩, ⟨by refine vR_ ?_; exact rm_ HO_597002.out (fun _ hk => ⟨hk.2, ⟨hk.1.1, ⟨hk.1.2.1, ⟨hk.1.2.2.1, hk.1.2.2.2⟩⟩⟩⟩)⟩, ⟨by refine vR_ ?_; exact rm_ HO_597003.out (fun _ hk => ⟨hk.2, ⟨hk.1.1, ⟨hk.1.2.1, ⟨hk.1.2.2.1, hk.1.2.2.2⟩⟩⟩⟩)⟩, ⟨by refine vR_ ?_; exact rm_ HO_597004.out (fun _ hk => ⟨hk.2, ⟨hk.1.1, ⟨hk.1.2.1, ⟨hk.1.2.2.1, hk.1.2.2.2⟩⟩⟩⟩)⟩, ⟨by refine vR_ ?_; exact rm_ HO_597005.out (fun _ hk => ⟨hk.2, ⟨hk.1.1, ⟨hk.1.2.1, ⟨hk.1.2.2.1, hk.1.2.2.2⟩⟩⟩⟩)⟩, ⟨by refine vN_ ?_; exact nm_ HO_597007.out (fun _ hk => ⟨hk.1.1, ⟨hk.1.2.1, ⟨hk.1.2.2.1, ⟨hk.2, ⟨hk.1.2.2.2.1, ⟨hk.1.2.2.2.2.1, ⟨hk.1.2.2.2.2.2.1, ⟨hk.1.2.2.2.2.2.2.1, ⟨hk.1.2.2.2.2.2.2.2.1, ⟨hk.1.2.2.2.2.2.2.2.2.1, hk.1.2.2.2.2.2.2.2.2.2⟩⟩⟩⟩⟩⟩⟩⟩⟩⟩)⟩, ⟨by refine bk_ ?_; exact d.out⟩, ⟨by refine bk_ ?_; exact g.out⟩, ⟨by repeat (first | (with_reducible exact aH.out) | (with_reducible refine Kd.C_alloc ?_ _) | (with_reducible refine Kd.C_drewN ?_ _) | (with_reducible refine Kd.C_drew ?_) | exact aH.out)⟩, ⟨by repeat (first | (with_reducible exact aA.out) | (with_reducible refine Kd.C_alloc ?_ _) | (with_reducible refine Kd.C_drewN ?_ _) | (with_reducible refine Kd.C_drew ?_) | exact aA.out)⟩, ⟨bel_⟩⟩
            case round =>
             clear H'
             try clear c1
             try clear c2
             try clear p2
             try clear c3
             try clear c4
             try clear c6
             try clear p6
             try clear q6
             try clear cT
             try clear c8
             try clear c9
             try clear c10
             try clear c11
             try clear c13
             try clear c22
             try clear c23
             try clear c29
             try clear c37
             try clear c40
             try clear c41
             try clear c41b0
             try clear c41b1
             try clear c41b2
             try clear c43
             try clear c43b0
             try clear c44
             try clear c44b0
             try clear c45
             try clear c45b0
             try clear c46
             try clear c46b0
             try clear aW
             try clear a7
             try clear aY
             try clear a8
             try clear a9
             try clear ba
             try clear p2
             try clear p610
             try clear p611
             try clear a4
             try clear a5
             obtain ⟨ap, rfl, HA, a6, HO_7, HO_9, HO_57, HO_68, HO_597001, HO_597002, HO_597003, HO_597004, HO_597005, HO_597007, d, g, aH, aA, HB⟩ := hrel
             cases gk with
             | zero => exact absurd HA.out (by simp [jigsawlaw11_MulKeeps.l1])
             | succ k3 =>
              have H := HA.out
              clear HA
              simp only [jigsawlaw11_MulKeeps.l1] at H
              by_cases c50 : ap < (ao.length : Int)
              ·
               rw [ip_ c50] at H
               have c50b0 : decide (ap < (ao.length : Int)) = true := dt_ c50
               clear c50
               by_cases c51 : 0 ≤ ap
               ·
                rw [ip_ c51] at H
                have c51b0 : decide (0 ≤ ap) = true := dt_ c51
                clear c51
                by_cases c52 : ap < (ao.length : Int)
                ·
                 rw [ip_ c52] at H
                 have c52b0 : decide (ap < (ao.length : Int)) = true := dt_ c52
                 clear c52
                 replace H := bs_.mp H
                 obtain ⟨c7, cy, H⟩ := H
                 try dsimp only at H
                 have dC := a_ cy
                 clear cy
                 by_cases c54 : c7 = true
                 ·
                  subst c54
                  rw [ip_ rfl] at H
                  have H' := a_ H
                  clear H
                  have p615 : 0 ≤ (ap : Int) := dq_
                  have bp : ap < (ao.length : Int) := dq_
                  obtain ⟨dO, da, bB⟩ := ai_ (rr_ HO_68.out).2.2 ap p615 bp
                  cases da
                  replace p615 := et_ p615
                  replace bp := et_ bp
                  go_wp2_with (first | ((with_reducible refine gate_callee (f := 24) rfl ?_); refine goesL_ (some 76) rfl rfl Tryz.func24 (by kernel_rfl) rfl #[.slice b1 (rd_L7 Q V).length c610_0, .int .i64 (rd ao ap)] rfl ar_ ?_; (with_reducible refine (slices_Contains_int_int.calls k3 _ _ (rd_L7 Q V) (rd ao ap) true _ ?_ ?_ dC.out).mono ?_); exact ca_ ((aH.out)); exact cg.out; rintro e w' ⟨rfl, ⟨nd, rfl⟩⟩; refine ⟨_, rfl, ?_⟩))
                  go_roundg k3
                  case measure => have := bi.out; have := bj.out; have := a6.out; omega
                  case rel => exact ⟨(wrap64 (ap + 1)), eq_, H', ⟨by have := bi.out; have := bj.out; have := a6.out; omega⟩, ⟨by refine vN_ ?_; exact HO_7.out⟩, ⟨by refine vN_ ?_; exact HO_9.out⟩, ⟨by refine vN_ ?_; exact HO_57.out⟩, ⟨by refine vR_ ?_; exact HO_68.out⟩, ⟨by refine vR_ ?_; exact HO_597001.out⟩, ⟨by refine vR_ ?_; exact HO_597002.out⟩, ⟨by refine vR_ ?_; exact HO_597003.out⟩, ⟨by refine vR_ ?_; exact HO_597004.out⟩, ⟨by refine vR_ ?_; exact HO_597005.out⟩, ⟨by refine vN_ ?_; exact HO_597007.out⟩, ⟨by refine bk_ ?_; exact d.out⟩, ⟨by refine bk_ ?_; exact g.out⟩, ⟨by repeat (first | (with_reducible exact aH.out) | (with_reducible refine Kd.C_alloc ?_ _) | (with_reducible refine Kd.C_drewN ?_ _) | (with_reducible refine Kd.C_drew ?_) | exact aH.out)⟩, ⟨by repeat (first | (with_reducible exact aA.out) | (with_reducible refine Kd.C_alloc ?_ _) | (with_reducible refine Kd.C_drewN ?_ _) | (with_reducible refine Kd.C_drew ?_) | exact aA.out)⟩, ⟨bel_⟩⟩
                 ·
                  replace c54 := bf_.mpr c54
                  subst c54
                  have H1 : (none) = some r := by rw [ig_ (show ¬ (false = true) by decide)] at H; exact H
                  clear H
                  have H := H1
                  clear H1
                  exact absurd H (by simp)
                ·
                 rw [ig_ c52] at H
                 exact absurd H (by simp)
               ·
                rw [ig_ c51] at H
                exact absurd H (by simp)
              ·
               rw [ig_ c50] at H
               have c50b0 : decide (ap < (ao.length : Int)) = false := df_ c50
               clear c50
               have H' := a_ H
               clear H
               go_wp2
               go_roundg k3
               case measure => have := bi.out; have := bj.out; have := a6.out; omega
               case rel => exact ⟨(wrap64 (V + 1)), eq_, H', ⟨by have := bi.out; have := bj.out; have := a6.out; omega⟩, ⟨by refine vN_ ?_; exact nm_ HO_7.out (fun _ hk => ⟨hk.1, ⟨hk.2.1, ⟨hk.2.2.2.1, ⟨hk.2.2.2.2.1, ⟨hk.2.2.2.2.2.1, hk.2.2.2.2.2.2⟩⟩⟩⟩⟩)⟩, ⟨by refine vN_ ?_; exact nm_ HO_9.out (fun _ hk => ⟨hk.1, ⟨hk.2.1, ⟨hk.2.2.2.1, ⟨hk.2.2.2.2.1, ⟨hk.2.2.2.2.2.1, ⟨hk.2.2.2.2.2.2.1, ⟨hk.2.2.2.2.2.2.2.1, ⟨hk.2.2.2.2.2.2.2.2.1, ⟨hk.2.2.2.2.2.2.2.2.2.1, hk.2.2.2.2.2.2.2.2.2.2⟩⟩⟩⟩⟩⟩⟩⟩⟩)⟩, ⟨by refine vN_ ?_; exact nm_ HO_57.out (fun _ hk => ⟨hk.1, ⟨hk.2.1, ⟨hk.2.2.2.1, ⟨hk.2.2.2.2.1, ⟨hk.2.2.2.2.2.1, ⟨hk.2.2.2.2.2.2.1, ⟨hk.2.2.2.2.2.2.2.1, ⟨hk.2.2.2.2.2.2.2.2.1, ⟨hk.2.2.2.2.2.2.2.2.2.1, hk.2.2.2.2.2.2.2.2.2.2⟩⟩⟩⟩⟩⟩⟩⟩⟩)⟩, ⟨by refine vR_ ?_; exact rm_ HO_597001.out (fun _ hk => ⟨hk.2.1, ⟨hk.2.2.1, ⟨hk.2.2.2.1, hk.2.2.2.2⟩⟩⟩)⟩, ⟨by refine vR_ ?_; exact rm_ HO_597002.out (fun _ hk => ⟨hk.2.1, ⟨hk.2.2.1, ⟨hk.2.2.2.1, hk.2.2.2.2⟩⟩⟩)⟩, ⟨by refine vR_ ?_; exact rm_ HO_597003.out (fun _ hk => ⟨hk.2.1, ⟨hk.2.2.1, ⟨hk.2.2.2.1, hk.2.2.2.2⟩⟩⟩)⟩, ⟨by refine vR_ ?_; exact rm_ HO_597004.out (fun _ hk => ⟨hk.2.1, ⟨hk.2.2.1, ⟨hk.2.2.2.1, hk.2.2.2.2⟩⟩⟩)⟩, ⟨by refine vR_ ?_; exact rm_ HO_597005.out (fun _ hk => ⟨hk.2.1, ⟨hk.2.2.1, ⟨hk.2.2.2.1, hk.2.2.2.2⟩⟩⟩)⟩, ⟨by refine vN_ ?_; exact nm_ HO_597007.out (fun _ hk => ⟨hk.1, ⟨hk.2.1, ⟨hk.2.2.1, ⟨hk.2.2.2.2.1, ⟨hk.2.2.2.2.2.1, ⟨hk.2.2.2.2.2.2.1, ⟨hk.2.2.2.2.2.2.2.1, ⟨hk.2.2.2.2.2.2.2.2.1, ⟨hk.2.2.2.2.2.2.2.2.2.1, hk.2.2.2.2.2.2.2.2.2.2⟩⟩⟩⟩⟩⟩⟩⟩⟩)⟩, ⟨by refine bk_ ?_; exact d.out⟩, ⟨by refine bk_ ?_; exact g.out⟩, ⟨bel_⟩⟩
           ·
            rw [ig_ c46] at H
            exact absurd H (by simp)
          ·
           rw [ig_ c45] at H
           exact absurd H (by simp)
         ·
          rw [ig_ c44] at H
          exact absurd H (by simp)
        ·
         rw [ig_ c43] at H
         have c43b0 : decide (V < (Q.length : Int)) = false := df_ c43
         clear c43
         have H' := a_ H
         clear H
         obtain ⟨bb, aT, db⟩ := Kd.N_slice HO_7.out
         subst db
         go_wp2
         go_loopg [82] k2 (fun kq dD w' => ∃ (af : Int), dD = .int .i64 af ∧ Aside0 (jigsawlaw11_MulKeeps.l2 kq M W (W.length : Int) af ag m o q s u aj U = some r) ∧ Aside0 (kq ≤ k2) ∧ Aside0 (Kd.N k61 61 w' w.heap.size (fun a => some a ≠ ((.slice bb W.length aT) : Value).ownBlock ∧ some a ≠ ((.slice v m.length y) : Value).ownBlock ∧ some a ≠ ((.slice z o.length A) : Value).ownBlock ∧ some a ≠ ((.slice B q.length E) : Value).ownBlock ∧ some a ≠ ((.slice F s.length G) : Value).ownBlock ∧ some a ≠ ((.slice I u.length J) : Value).ownBlock ∧ some a ≠ ((.slice ah U.length ai) : Value).ownBlock ∧ a ≠ l ∧ a ≠ b) (.slice aL M.length aC) M) ∧ Aside0 (Kd.N (Kd.slice 3 (Kd.int .i64)) 30 w' w.heap.size (fun a => some a ≠ ((.slice aL M.length aC) : Value).ownBlock ∧ some a ≠ ((.slice v m.length y) : Value).ownBlock ∧ some a ≠ ((.slice z o.length A) : Value).ownBlock ∧ a ≠ l ∧ a ≠ b) (.slice bb W.length aT) W) ∧ Aside0 (Kd.R (Kd.int .i64) 3 w' w.heap.size (fun a => some a ≠ ((.slice z o.length A) : Value).ownBlock ∧ some a ≠ ((.slice B q.length E) : Value).ownBlock ∧ some a ≠ ((.slice F s.length G) : Value).ownBlock ∧ some a ≠ ((.slice I u.length J) : Value).ownBlock) (.slice v m.length y) m) ∧ Aside0 (Kd.R (Kd.int .i64) 3 w' w.heap.size (fun a => some a ≠ ((.slice v m.length y) : Value).ownBlock ∧ some a ≠ ((.slice B q.length E) : Value).ownBlock ∧ some a ≠ ((.slice F s.length G) : Value).ownBlock ∧ some a ≠ ((.slice I u.length J) : Value).ownBlock) (.slice z o.length A) o) ∧ Aside0 (Kd.R (Kd.int .i64) 3 w' w.heap.size (fun a => some a ≠ ((.slice v m.length y) : Value).ownBlock ∧ some a ≠ ((.slice z o.length A) : Value).ownBlock ∧ some a ≠ ((.slice F s.length G) : Value).ownBlock ∧ some a ≠ ((.slice I u.length J) : Value).ownBlock) (.slice B q.length E) q) ∧ Aside0 (Kd.R (Kd.int .i64) 3 w' w.heap.size (fun a => some a ≠ ((.slice v m.length y) : Value).ownBlock ∧ some a ≠ ((.slice z o.length A) : Value).ownBlock ∧ some a ≠ ((.slice B q.length E) : Value).ownBlock ∧ some a ≠ ((.slice I u.length J) : Value).ownBlock) (.slice F s.length G) s) ∧ Aside0 (Kd.R (Kd.int .i64) 3 w' w.heap.size (fun a => some a ≠ ((.slice v m.length y) : Value).ownBlock ∧ some a ≠ ((.slice z o.length A) : Value).ownBlock ∧ some a ≠ ((.slice B q.length E) : Value).ownBlock ∧ some a ≠ ((.slice F s.length G) : Value).ownBlock) (.slice I u.length J) u) ∧ Aside0 (Kd.N (Kd.slice 3 (Kd.int .i64)) 30 w' w.heap.size (fun a => some a ≠ ((.slice aL M.length aC) : Value).ownBlock ∧ some a ≠ ((.slice bb W.length aT) : Value).ownBlock ∧ some a ≠ ((.slice v m.length y) : Value).ownBlock ∧ some a ≠ ((.slice z o.length A) : Value).ownBlock ∧ some a ≠ ((.slice B q.length E) : Value).ownBlock ∧ some a ≠ ((.slice F s.length G) : Value).ownBlock ∧ some a ≠ ((.slice I u.length J) : Value).ownBlock ∧ a ≠ l ∧ a ≠ b) (.slice ah U.length ai) U) ∧ Aside0 (w'.heap[l]? = some (.cells #[.int .u8 aq, (.slice aD ak.length c0_1), (.slice aE al.length c0_2), (.slice aF am.length c0_3), .int .i16 ar, .int .u8 au, (.slice aG an.length c0_6)] 29 (0, 0))) ∧ Aside0 (w'.heap[b]? = some (.cells #[.int .i64 ag, (.slice v m.length y), (.slice z o.length A), (.slice B q.length E), (.slice F s.length G), (.slice I u.length J), .int .i64 aj, (.slice ah U.length ai)] 32 (0, 0))) ∧ Aside0 (Below w.heap.size w w'))
         case atStart => exact ⟨(0), eq_, H', ⟨lr_ _⟩, ⟨by refine vN_ ?_; exact nm_ HO_9.out (fun _ hk => ⟨hk.1, ⟨hk.2.2.1, ⟨hk.2.2.2.1, ⟨hk.2.2.2.2.1, ⟨hk.2.2.2.2.2.1, ⟨hk.2.2.2.2.2.2.1, ⟨hk.2.2.2.2.2.2.2.1, ⟨hk.2.2.2.2.2.2.2.2.1, hk.2.2.2.2.2.2.2.2.2⟩⟩⟩⟩⟩⟩⟩⟩)⟩, ⟨by refine vN_ ?_; exact nm_ HO_7.out (fun _ hk => ⟨hk.1, ⟨hk.2.2.1, ⟨hk.2.2.2.1, ⟨hk.2.2.2.2.1, hk.2.2.2.2.2⟩⟩⟩⟩)⟩, ⟨by refine vR_ ?_; exact HO_597001.out⟩, ⟨by refine vR_ ?_; exact HO_597002.out⟩, ⟨by refine vR_ ?_; exact HO_597003.out⟩, ⟨by refine vR_ ?_; exact HO_597004.out⟩, ⟨by refine vR_ ?_; exact HO_597005.out⟩, ⟨by refine vN_ ?_; exact nm_ HO_597007.out (fun _ hk => ⟨hk.2.1, ⟨hk.1, ⟨hk.2.2.2.1, ⟨hk.2.2.2.2.1, ⟨hk.2.2.2.2.2.1, ⟨hk.2.2.2.2.2.2.1, ⟨hk.2.2.2.2.2.2.2.1, ⟨hk.2.2.2.2.2.2.2.2.1, hk.2.2.2.2.2.2.2.2.2⟩⟩⟩⟩⟩⟩⟩⟩)⟩, ⟨by refine bk_ ?_; exact d.out⟩, ⟨by refine bk_ ?_; exact g.out⟩, ⟨bel_⟩⟩
         case round =>
          clear H'
          try clear c1
          try clear c2
          try clear p2
          try clear c3
          try clear c4
          try clear c5
          try clear c6
          try clear p6
          try clear q6
          try clear cT
          try clear c8
          try clear c9
          try clear c10
          try clear c11
          try clear c13
          try clear c22
          try clear c23
          try clear c24
          try clear c29
          try clear c37
          try clear c40
          try clear c41
          try clear c41b0
          try clear c41b1
          try clear c41b2
          try clear c43
          try clear c43b0
          try clear c44
          try clear c44b0
          try clear c45
          try clear c45b0
          try clear c46
          try clear c46b0
          try clear c50
          try clear c50b0
          try clear c51
          try clear c51b0
          try clear c52
          try clear c52b0
          try clear c54
          try clear aW
          try clear a7
          try clear aY
          try clear a8
          try clear a9
          try clear ba
          try clear bB
          try clear p2
          try clear p6
          try clear p610
          try clear p611
          try clear p615
          try clear q6
          try clear a4
          try clear a5
          try clear bp
          obtain ⟨af, rfl, HA, a6, HO_9, HO_80, HO_597001, HO_597002, HO_597003, HO_597004, HO_597005, HO_597007, d, g, HB⟩ := hrel
          cases gk with
          | zero => exact absurd HA.out (by simp [jigsawlaw11_MulKeeps.l2])
          | succ k3 =>
           have H := HA.out
           clear HA
           simp only [jigsawlaw11_MulKeeps.l2] at H
           by_cases c56 : af < (W.length : Int)
           ·
            rw [ip_ c56] at H
            have c56b0 : decide (af < (W.length : Int)) = true := dt_ c56
            clear c56
            by_cases c57 : 0 ≤ af
            ·
             rw [ip_ c57] at H
             have c57b0 : decide (0 ≤ af) = true := dt_ c57
             clear c57
             by_cases c58 : af < (W.length : Int)
             ·
              rw [ip_ c58] at H
              have c58b0 : decide (af < (W.length : Int)) = true := dt_ c58
              clear c58
              have H' := a_ H
              clear H
              have p617 : 0 ≤ (af : Int) := dq_
              have bq : af < (W.length : Int) := dq_
              obtain ⟨bX, cz, c617_0, dc, bC, bD, bE⟩ := at_L7 (Kd.N_reads' HO_80.out).2.2 af p617 bq
              cases dc
              obtain ⟨ce617, hce617, hMe617, hcc617⟩ := Kd.N_get HO_80.out [] af p617 (by first | exact bq | exact dq_ | (have e_ := (Kd.N_reads' HO_80.out).1; omega))
              obtain ⟨ua617_0, uc617_0, rfl, bF, bG⟩ := Kd.FK_slice_open hMe617
              have a0 := hcc617 0 _ rfl
              rw [Nat.add_zero, show ((Kd.slice 3 (Kd.int .i64))).sz = 1 from rfl, Nat.mul_one] at a0
              replace a0 := si_ (a0.symm.trans bC)
              injection a0 with hva_ hvn_ hvc_
              rw [hva_] at bG
              rw [hvc_] at bF
              clear hva_ hvn_ hvc_ bG bF
              clear hcc617 hce617
              have aI := a_ bE
              have dp := a_ bD
              clear bE bD
              replace p617 := et_ p617
              replace bq := et_ bq
              go_wp2
              go_loopg [88] k3 (fun kq dE w' => ∃ (Y : Int), dE = .int .i64 Y ∧ Aside0 (jigsawlaw11_MulKeeps.l3 kq M W (W.length : Int) af (rd_L7 W af) ((rd_L7 W af).length : Int) Y ag m o q s u aj U = some r) ∧ Aside0 (kq ≤ k3) ∧ Aside0 (Kd.N k61 61 w' w.heap.size (fun a => some a ≠ ((.slice (some bX) W.length aT) : Value).ownBlock ∧ some a ≠ ((.slice v m.length y) : Value).ownBlock ∧ some a ≠ ((.slice z o.length A) : Value).ownBlock ∧ some a ≠ ((.slice B q.length E) : Value).ownBlock ∧ some a ≠ ((.slice F s.length G) : Value).ownBlock ∧ some a ≠ ((.slice I u.length J) : Value).ownBlock ∧ some a ≠ ((.slice ah U.length ai) : Value).ownBlock ∧ a ≠ l ∧ a ≠ b) (.slice aL M.length aC) M) ∧ Aside0 (Kd.N (Kd.slice 3 (Kd.int .i64)) 30 w' w.heap.size (fun a => some a ≠ ((.slice aL M.length aC) : Value).ownBlock ∧ some a ≠ ((.slice v m.length y) : Value).ownBlock ∧ some a ≠ ((.slice z o.length A) : Value).ownBlock ∧ a ≠ l ∧ a ≠ b) (.slice (some bX) W.length aT) W) ∧ Aside0 (Kd.R (Kd.int .i64) 3 w' w.heap.size (fun a => some a ≠ ((.slice z o.length A) : Value).ownBlock ∧ some a ≠ ((.slice B q.length E) : Value).ownBlock ∧ some a ≠ ((.slice F s.length G) : Value).ownBlock ∧ some a ≠ ((.slice I u.length J) : Value).ownBlock) (.slice v m.length y) m) ∧ Aside0 (Kd.R (Kd.int .i64) 3 w' w.heap.size (fun a => some a ≠ ((.slice v m.length y) : Value).ownBlock ∧ some a ≠ ((.slice B q.length E) : Value).ownBlock ∧ some a ≠ ((.slice F s.length G) : Value).ownBlock ∧ some a ≠ ((.slice I u.length J) : Value).ownBlock) (.slice z o.length A) o) ∧ Aside0 (Kd.R (Kd.int .i64) 3 w' w.heap.size (fun a => some a ≠ ((.slice v m.length y) : Value).ownBlock ∧ some a ≠ ((.slice z o.length A) : Value).ownBlock ∧ some a ≠ ((.slice F s.length G) : Value).ownBlock ∧ some a ≠ ((.slice I u.length J) : Value).ownBlock) (.slice B q.length E) q) ∧ Aside0 (Kd.R (Kd.int .i64) 3 w' w.heap.size (fun a => some a ≠ ((.slice v m.length y) : Value).ownBlock ∧ some a ≠ ((.slice z o.length A) : Value).ownBlock ∧ some a ≠ ((.slice B q.length E) : Value).ownBlock ∧ some a ≠ ((.slice I u.length J) : Value).ownBlock) (.slice F s.length G) s) ∧ Aside0 (Kd.R (Kd.int .i64) 3 w' w.heap.size (fun a => some a ≠ ((.slice v m.length y) : Value).ownBlock ∧ some a ≠ ((.slice z o.length A) : Value).ownBlock ∧ some a ≠ ((.slice B q.length E) : Value).ownBlock ∧ some a ≠ ((.slice F s.length G) : Value).ownBlock) (.slice I u.length J) u) ∧ Aside0 (Kd.N (Kd.slice 3 (Kd.int .i64)) 30 w' w.heap.size (fun a => some a ≠ ((.slice aL M.length aC) : Value).ownBlock ∧ some a ≠ ((.slice (some bX) W.length aT) : Value).ownBlock ∧ some a ≠ ((.slice v m.length y) : Value).ownBlock ∧ some a ≠ ((.slice z o.length A) : Value).ownBlock ∧ some a ≠ ((.slice B q.length E) : Value).ownBlock ∧ some a ≠ ((.slice F s.length G) : Value).ownBlock ∧ some a ≠ ((.slice I u.length J) : Value).ownBlock ∧ a ≠ l ∧ a ≠ b) (.slice ah U.length ai) U) ∧ Aside0 (w'.heap[l]? = some (.cells #[.int .u8 aq, (.slice aD ak.length c0_1), (.slice aE al.length c0_2), (.slice aF am.length c0_3), .int .i16 ar, .int .u8 au, (.slice aG an.length c0_6)] 29 (0, 0))) ∧ Aside0 (w'.heap[b]? = some (.cells #[.int .i64 ag, (.slice v m.length y), (.slice z o.length A), (.slice B q.length E), (.slice F s.length G), (.slice I u.length J), .int .i64 aj, (.slice ah U.length ai)] 32 (0, 0))) ∧ Aside0 (Kd.C (Kd.int .i64) w' cz (rd_L7 W af).length (rd_L7 W af)) ∧ Aside0 (Below w.heap.size w w'))
              case atStart => exact ⟨(0), eq_, H', ⟨lr_ _⟩, ⟨by refine vN_ ?_; exact HO_9.out⟩, ⟨by refine vN_ ?_; exact HO_80.out⟩, ⟨by refine vR_ ?_; exact HO_597001.out⟩, ⟨by refine vR_ ?_; exact HO_597002.out⟩, ⟨by refine vR_ ?_; exact HO_597003.out⟩, ⟨by refine vR_ ?_; exact HO_597004.out⟩, ⟨by refine vR_ ?_; exact HO_597005.out⟩, ⟨by refine vN_ ?_; exact HO_597007.out⟩, ⟨by refine bk_ ?_; exact d.out⟩, ⟨by refine bk_ ?_; exact g.out⟩, ⟨by repeat (first | (with_reducible exact aI.out) | (with_reducible refine Kd.C_alloc ?_ _) | (with_reducible refine Kd.C_drewN ?_ _) | (with_reducible refine Kd.C_drew ?_) | exact aI.out)⟩, ⟨bel_⟩⟩
              case round =>
               clear H'
               try clear c1
               try clear c2
               try clear p2
               try clear c3
               try clear c4
               try clear c5
               try clear c6
               try clear p6
               try clear q6
               try clear cT
               try clear c8
               try clear c9
               try clear c10
               try clear c11
               try clear c13
               try clear c22
               try clear c23
               try clear c24
               try clear c29
               try clear c37
               try clear c40
               try clear c41
               try clear c41b0
               try clear c41b1
               try clear c41b2
               try clear c43
               try clear c43b0
               try clear c44
               try clear c44b0
               try clear c45
               try clear c45b0
               try clear c46
               try clear c46b0
               try clear c50
               try clear c50b0
               try clear c51
               try clear c51b0
               try clear c52
               try clear c52b0
               try clear c54
               try clear c56
               try clear c56b0
               try clear c57
               try clear c57b0
               try clear c58
               try clear c58b0
               try clear aW
               try clear a7
               try clear aY
               try clear a8
               try clear a9
               try clear ba
               try clear bB
               try clear bC
               try clear p2
               try clear p6
               try clear p610
               try clear p611
               try clear p615
               try clear p617
               try clear q6
               try clear a4
               try clear a5
               try clear bp
               try clear bq
               obtain ⟨Y, rfl, HA, ce, HO_9, HO_80, HO_597001, HO_597002, HO_597003, HO_597004, HO_597005, HO_597007, d, g, aI, HB⟩ := hrel
               cases gk with
               | zero => exact absurd HA.out (by simp [jigsawlaw11_MulKeeps.l3])
               | succ k4 =>
                have H := HA.out
                clear HA
                simp only [jigsawlaw11_MulKeeps.l3] at H
                by_cases c59 : Y < ((rd_L7 W af).length : Int)
                ·
                 rw [ip_ c59] at H
                 have c59b0 : decide (Y < ((rd_L7 W af).length : Int)) = true := dt_ c59
                 clear c59
                 by_cases c60 : 0 ≤ Y
                 ·
                  rw [ip_ c60] at H
                  have c60b0 : decide (0 ≤ Y) = true := dt_ c60
                  clear c60
                  by_cases c61 : Y < ((rd_L7 W af).length : Int)
                  ·
                   rw [ip_ c61] at H
                   have c61b0 : decide (Y < ((rd_L7 W af).length : Int)) = true := dt_ c61
                   clear c61
                   by_cases c62 : Y < (M.length : Int)
                   ·
                    rw [ip_ c62] at H
                    have c62b0 : decide (Y < (M.length : Int)) = true := dt_ c62
                    clear c62
                    replace H := bs_.mp H
                    obtain ⟨dd, cA, H⟩ := H
                    try dsimp only at H
                    have dF := a_ cA
                    clear cA
                    by_cases c64 : dd = true
                    ·
                     subst c64
                     rw [ip_ rfl] at H
                     have H' := a_ H
                     clear H
                     have p618 : 0 ≤ (Y : Int) := dq_
                     have b3 : Y < ((rd_L7 W af).length : Int) := dq_
                     obtain ⟨dP, de, dq⟩ := ai_ aI.out Y p618 b3
                     cases de
                     replace p618 := et_ p618
                     replace b3 := et_ b3
                     have p619 : 0 ≤ (Y : Int) := dq_
                     have bY : Y < (M.length : Int) := dq_
                     obtain ⟨dQ, cB, c619_1, df, dr, ci, dt, du, dv, bH, bI⟩ := at_T61 (Kd.N_reads' HO_9.out).2.2 Y p619 bY
                     cases df
                     obtain ⟨ce619, hce619, hMe619, hcc619⟩ := Kd.N_get HO_9.out z61 Y p619 (by first | exact bY | exact dq_ | (have e_ := (Kd.N_reads' HO_9.out).1; omega))
                     obtain ⟨ua619_1, uc619_1, rfl, bJ, bK⟩ := k61_openF hMe619
                     have a2 := hcc619 1 _ rfl
                     rw [add_field _ _ 1 (by omega)] at a2
                     replace a2 := si_ (a2.symm.trans ci)
                     injection a2 with hva_ hvn_ hvc_
                     rw [hva_] at bK
                     rw [hvc_] at bJ
                     clear hva_ hvn_ hvc_ bK bJ
                     clear hcc619 hce619
                     have bL := a_ bI
                     have cj := a_ bH
                     clear bI bH
                     replace p619 := et_ p619
                     replace bY := et_ bY
                     go_wp2_with (first | ((with_reducible refine gate_callee (f := 25) rfl ?_); refine goesL_ (some 98) rfl rfl Tryz.func25 (by kernel_rfl) rfl #[.agg #[.int .i64 ((rd_T61 M Y).f0), .slice cB ((rd_T61 M Y).f1).length c619_1, .int .i64 ((rd_T61 M Y).f2), .int .i64 ((rd_T61 M Y).f3), .int .i64 ((rd_T61 M Y).f4)], .int .i64 (rd (rd_L7 W af) Y)] rfl ar_ ?_; (with_reducible refine (dom_Dom_Has.calls ((rd_T61 M Y).f0) _ _ ((rd_T61 M Y).f1) ((rd_T61 M Y).f2) ((rd_T61 M Y).f3) ((rd_T61 M Y).f4) (rd (rd_L7 W af) Y) true _ ?side1 ?side2 dF.out).mono ?_); (case side1 => repeat (first | exact (by repeat (first | (with_reducible exact bL.out) | (with_reducible refine Kd.C_alloc ?_ _) | (with_reducible refine Kd.C_drewN ?_ _) | (with_reducible refine Kd.C_drew ?_) | exact bL.out)) | (with_reducible refine Kd.C_alloc ?_ _) | (with_reducible refine Kd.C_drewN ?_ _) | (with_reducible refine Kd.C_drew ?_))); (case side2 => exact cj.out); rintro e w65 ⟨rfl, hb⟩; refine ⟨_, rfl, ?_⟩; replace HO_9 := a_ (Kd.N_below (vN_ HO_9.out) hb); replace HO_80 := a_ (Kd.N_below (vN_ HO_80.out) hb); replace HO_597001 := a_ (rb_ (vR_ HO_597001.out) hb); replace HO_597002 := a_ (rb_ (vR_ HO_597002.out) hb); replace HO_597003 := a_ (rb_ (vR_ HO_597003.out) hb); replace HO_597004 := a_ (rb_ (vR_ HO_597004.out) hb); replace HO_597005 := a_ (rb_ (vR_ HO_597005.out) hb); replace HO_597007 := a_ (Kd.N_below (vN_ HO_597007.out) hb); replace d := a_ (bb_ (bk_ d.out) hb); replace g := a_ (bb_ (bk_ g.out) hb); replace aI := a_ (cb_ (by repeat (first | (with_reducible exact aI.out) | (with_reducible refine Kd.C_alloc ?_ _) | (with_reducible refine Kd.C_drewN ?_ _) | (with_reducible refine Kd.C_drew ?_) | exact aI.out)) hb); replace HB := a_ (bp_ bel_ hb); clear hb))
                     go_roundg k4
                     case measure => have := bi.out; have := bj.out; have := a6.out; have := ce.out; omega
                     case rel => exact ⟨(wrap64 (Y + 1)), eq_, H', ⟨by have := bi.out; have := bj.out; have := a6.out; have := ce.out; omega⟩, ⟨by refine vN_ ?_; exact HO_9.out⟩, ⟨by refine vN_ ?_; exact HO_80.out⟩, ⟨by refine vR_ ?_; exact HO_597001.out⟩, ⟨by refine vR_ ?_; exact HO_597002.out⟩, ⟨by refine vR_ ?_; exact HO_597003.out⟩, ⟨by refine vR_ ?_; exact HO_597004.out⟩, ⟨by refine vR_ ?_; exact HO_597005.out⟩, ⟨by refine vN_ ?_; exact HO_597007.out⟩, ⟨by refine bk_ ?_; exact d.out⟩, ⟨by refine bk_ ?_; exact g.out⟩, ⟨by repeat (first | (with_reducible exact aI.out) | (with_reducible refine Kd.C_alloc ?_ _) | (with_reducible refine Kd.C_drewN ?_ _) | (with_reducible refine Kd.C_drew ?_) | exact aI.out)⟩, ⟨bel_⟩⟩
                    ·
                     replace c64 := bf_.mpr c64
                     subst c64
                     have H1 : (none) = some r := by rw [ig_ (show ¬ (false = true) by decide)] at H; exact H
                     clear H
                     have H := H1
                     clear H1
                     exact absurd H (by simp)
                   ·
                    rw [ig_ c62] at H
                    exact absurd H (by simp)
                  ·
                   rw [ig_ c61] at H
                   exact absurd H (by simp)
                 ·
                  rw [ig_ c60] at H
                  exact absurd H (by simp)
                ·
                 rw [ig_ c59] at H
                 have c59b0 : decide (Y < ((rd_L7 W af).length : Int)) = false := df_ c59
                 clear c59
                 have H' := a_ H
                 clear H
                 go_wp2
                 go_roundg k4
                 case measure => have := bi.out; have := bj.out; have := a6.out; have := ce.out; omega
                 case rel => exact ⟨(wrap64 (af + 1)), eq_, H', ⟨by have := bi.out; have := bj.out; have := a6.out; have := ce.out; omega⟩, ⟨by refine vN_ ?_; exact HO_9.out⟩, ⟨by refine vN_ ?_; exact HO_80.out⟩, ⟨by refine vR_ ?_; exact HO_597001.out⟩, ⟨by refine vR_ ?_; exact HO_597002.out⟩, ⟨by refine vR_ ?_; exact HO_597003.out⟩, ⟨by refine vR_ ?_; exact HO_597004.out⟩, ⟨by refine vR_ ?_; exact HO_597005.out⟩, ⟨by refine vN_ ?_; exact HO_597007.out⟩, ⟨by refine bk_ ?_; exact d.out⟩, ⟨by refine bk_ ?_; exact g.out⟩, ⟨bel_⟩⟩
             ·
              rw [ig_ c58] at H
              exact absurd H (by simp)
            ·
             rw [ig_ c57] at H
             exact absurd H (by simp)
           ·
            rw [ig_ c56] at H
            have c56b0 : decide (af < (W.length : Int)) = false := df_ c56
            clear c56
            replace H := bs_.mp H
            obtain ⟨⟨bZ, dg⟩, cC, H⟩ := H
            try dsimp only at H
            have dG := a_ cC
            clear cC
            replace H := bs_.mp H
            obtain ⟨dh, cD, H⟩ := H
            try dsimp only at H
            have dH := a_ cD
            clear cD
            by_cases c68 : dh = true
            ·
             subst c68
             rw [ip_ rfl] at H
             by_cases c69 : dg = true
             ·
              subst c69
              rw [ip_ rfl] at H
              replace H := bs_.mp H
              obtain ⟨cE, cF, H⟩ := H
              try dsimp only at H
              have cc := a_ cF
              clear cF
              replace H := bs_.mp H
              obtain ⟨cG, cH, H⟩ := H
              try dsimp only at H
              have dI := a_ cH
              clear cH
              replace H := bs_.mp H
              obtain ⟨di, cI, H⟩ := H
              try dsimp only at H
              have dJ := a_ cI
              clear cI
              obtain rfl := si_ H
              have dR := ac.out
              have dS := c.out
              obtain ⟨_, _, _, _, _, _, _, _, _, _, _, _, _, _, _, _⟩ := cel8_ g.out
              go_wp2_with (first | ((with_reducible refine gate_callee (f := 10) rfl ?_); refine goesL_ (some 105) rfl rfl Tryz.func10 (by kernel_rfl) rfl #[.agg #[.int .i64 ag, .slice v m.length y, .slice z o.length A, .slice B q.length E, .slice F s.length G, .slice I u.length J, .int .i64 aj, .slice ah U.length ai], .slice aL M.length aC] rfl ar_ ?_; (with_reducible refine (mul_Filter.calls k3 ag _ _ m _ _ o _ _ q _ _ s _ _ u aj _ _ U _ _ M bZ true _ ?_ ?_ ?_ ?_ ?_ ?_ ?_ ?_ ?_ ?_ ?_ ?_ ?_ ?_ ?_ dG.out).mono ?_); exact ca_ ((rr_ HO_597001.out).2.2); exact (rr_ HO_597001.out).2.1; exact ca_ ((rr_ HO_597002.out).2.2); exact (rr_ HO_597002.out).2.1; exact ca_ ((rr_ HO_597003.out).2.2); exact (rr_ HO_597003.out).2.1; exact ca_ ((rr_ HO_597004.out).2.2); exact (rr_ HO_597004.out).2.1; exact ca_ ((rr_ HO_597005.out).2.2); exact (rr_ HO_597005.out).2.1; exact ca_ ((Kd.N_reads' HO_597007.out).2.2); exact (Kd.N_reads' HO_597007.out).2.1; exact ca_ ((Kd.N_reads' HO_9.out).2.2); exact (Kd.N_reads' HO_9.out).2.1; exact ca_ ((cb_ HRtab.out HB.out)); rintro e w75 ⟨d6, rfl, X, hb⟩; refine ⟨_, rfl, ?_⟩; have aO := a_ (Kd.N_lower (nm_ (ok' := fun a => some a ≠ (.slice aL M.length aC : Value).ownBlock ∧ some a ≠ (.slice bb W.length aT : Value).ownBlock ∧ some a ≠ (.slice v m.length y : Value).ownBlock ∧ some a ≠ (.slice z o.length A : Value).ownBlock ∧ some a ≠ (.slice B q.length E : Value).ownBlock ∧ some a ≠ (.slice F s.length G : Value).ownBlock ∧ some a ≠ (.slice I u.length J : Value).ownBlock ∧ some a ≠ (.slice ah U.length ai : Value).ownBlock ∧ a ≠ l ∧ a ≠ b) X (fun a hk_ => ⟨(fr_ (Kd.N_lt (vN_ HO_9.out)) a hk_), (fr_ (Kd.N_lt (vN_ HO_80.out)) a hk_), (fr_ (rl_ (vR_ HO_597001.out)) a hk_), (fr_ (rl_ (vR_ HO_597002.out)) a hk_), (fr_ (rl_ (vR_ HO_597003.out)) a hk_), (fr_ (rl_ (vR_ HO_597004.out)) a hk_), (fr_ (rl_ (vR_ HO_597005.out)) a hk_), (fr_ (Kd.N_lt (vN_ HO_597007.out)) a hk_), (Kd.freshB (bk_ d.out) a hk_), (Kd.freshB (bk_ g.out) a hk_)⟩)) (bz_ bel_)); replace HO_9 := a_ (Kd.N_elder' (vN_ HO_9.out) (Kd.N_base X) hb); replace HO_80 := a_ (Kd.N_elder' (vN_ HO_80.out) (Kd.N_base X) hb); replace HO_597001 := a_ (rb_ (vR_ HO_597001.out) hb); replace HO_597002 := a_ (rb_ (vR_ HO_597002.out) hb); replace HO_597003 := a_ (rb_ (vR_ HO_597003.out) hb); replace HO_597004 := a_ (rb_ (vR_ HO_597004.out) hb); replace HO_597005 := a_ (rb_ (vR_ HO_597005.out) hb); replace HO_597007 := a_ (Kd.N_elder' (vN_ HO_597007.out) (Kd.N_base X) hb); replace d := a_ (bb_ (bk_ d.out) hb); replace g := a_ (bb_ (bk_ g.out) hb); replace HB := a_ (bp_ bel_ hb); clear hb X) | ((with_reducible refine gate_callee (f := 13) rfl ?_); refine goesL_ (some 108) rfl rfl Tryz.func13 (by kernel_rfl) rfl #[] rfl ar_ ?_; (with_reducible refine (jigsawlaw11_wakes.calls k3 true _ ?_ dH.out).mono ?_); exact ca_ ((cb_ HRtab.out HB.out)); rintro e w76 ⟨rfl, hb⟩; refine ⟨_, rfl, ?_⟩; replace HO_9 := a_ (Kd.N_below (vN_ HO_9.out) hb); replace HO_80 := a_ (Kd.N_below (vN_ HO_80.out) hb); replace HO_597001 := a_ (rb_ (vR_ HO_597001.out) hb); replace HO_597002 := a_ (rb_ (vR_ HO_597002.out) hb); replace HO_597003 := a_ (rb_ (vR_ HO_597003.out) hb); replace HO_597004 := a_ (rb_ (vR_ HO_597004.out) hb); replace HO_597005 := a_ (rb_ (vR_ HO_597005.out) hb); replace HO_597007 := a_ (Kd.N_below (vN_ HO_597007.out) hb); replace aO := a_ (Kd.N_below (vN_ aO.out) hb); replace d := a_ (bb_ (bk_ d.out) hb); replace g := a_ (bb_ (bk_ g.out) hb); replace HB := a_ (bp_ bel_ hb); clear hb; obtain ⟨cJ, cK, dj⟩ := Kd.N_slice aO.out; subst dj) | (go_at_call 15; (with_reducible refine (jigsawlaw11_lists.calls k3 _ _ bZ cE _ ?_ ?_ ?_ cc.out).mono ?_); exact ca_ ((Kd.N_reads' aO.out).2.2); exact (Kd.N_reads' aO.out).2.1; exact ca_ ((cb_ HRtab.out HB.out)); rintro e w78 ⟨dk, rfl, X, hb⟩; have a3 := a_ (Kd.N_lower (nm_ (ok' := fun a => some a ≠ (.slice aL M.length aC : Value).ownBlock ∧ some a ≠ (.slice bb W.length aT : Value).ownBlock ∧ some a ≠ (.slice v m.length y : Value).ownBlock ∧ some a ≠ (.slice z o.length A : Value).ownBlock ∧ some a ≠ (.slice B q.length E : Value).ownBlock ∧ some a ≠ (.slice F s.length G : Value).ownBlock ∧ some a ≠ (.slice I u.length J : Value).ownBlock ∧ some a ≠ (.slice ah U.length ai : Value).ownBlock ∧ some a ≠ (.slice cJ bZ.length cK : Value).ownBlock ∧ a ≠ l ∧ a ≠ b) (Kd.S_N (Kd.S_bound X)) (fun a hk_ => ⟨(fr_ (Kd.N_lt (vN_ HO_9.out)) a hk_.2.1), (fr_ (Kd.N_lt (vN_ HO_80.out)) a hk_.2.1), (fr_ (rl_ (vR_ HO_597001.out)) a hk_.2.1), (fr_ (rl_ (vR_ HO_597002.out)) a hk_.2.1), (fr_ (rl_ (vR_ HO_597003.out)) a hk_.2.1), (fr_ (rl_ (vR_ HO_597004.out)) a hk_.2.1), (fr_ (rl_ (vR_ HO_597005.out)) a hk_.2.1), (fr_ (Kd.N_lt (vN_ HO_597007.out)) a hk_.2.1), (fr_ (Kd.N_lt (vN_ aO.out)) a hk_.2.1), (Kd.freshB (bk_ d.out) a hk_.2.1), (Kd.freshB (bk_ g.out) a hk_.2.1)⟩)) (bz_ bel_)); replace HO_9 := a_ (Kd.N_elder' (vN_ HO_9.out) (Kd.N_base (Kd.S_N X)) hb); replace HO_80 := a_ (Kd.N_elder' (vN_ HO_80.out) (Kd.N_base (Kd.S_N X)) hb); replace HO_597001 := a_ (rb_ (vR_ HO_597001.out) hb); replace HO_597002 := a_ (rb_ (vR_ HO_597002.out) hb); replace HO_597003 := a_ (rb_ (vR_ HO_597003.out) hb); replace HO_597004 := a_ (rb_ (vR_ HO_597004.out) hb); replace HO_597005 := a_ (rb_ (vR_ HO_597005.out) hb); replace HO_597007 := a_ (Kd.N_elder' (vN_ HO_597007.out) (Kd.N_base (Kd.S_N X)) hb); replace aO := a_ (Kd.N_elder' (vN_ aO.out) (Kd.N_base (Kd.S_N X)) hb); replace d := a_ (bb_ (bk_ d.out) hb); replace g := a_ (bb_ (bk_ g.out) hb); replace HB := a_ (bp_ bel_ hb); clear hb X) | (go_at_call 15; (with_reducible refine (jigsawlaw11_lists.calls k3 _ _ M cG _ ?_ ?_ ?_ dI.out).mono ?_); exact ca_ ((Kd.N_reads' HO_9.out).2.2); exact (Kd.N_reads' HO_9.out).2.1; exact ca_ ((cb_ HRtab.out HB.out)); rintro e w79 ⟨d7, rfl, X, hb⟩; have b0 := a_ (Kd.N_lower (nm_ (ok' := fun a => some a ≠ (.slice aL M.length aC : Value).ownBlock ∧ some a ≠ (.slice bb W.length aT : Value).ownBlock ∧ some a ≠ (.slice v m.length y : Value).ownBlock ∧ some a ≠ (.slice z o.length A : Value).ownBlock ∧ some a ≠ (.slice B q.length E : Value).ownBlock ∧ some a ≠ (.slice F s.length G : Value).ownBlock ∧ some a ≠ (.slice I u.length J : Value).ownBlock ∧ some a ≠ (.slice ah U.length ai : Value).ownBlock ∧ some a ≠ (.slice cJ bZ.length cK : Value).ownBlock ∧ some a ≠ (dk : Value).ownBlock ∧ a ≠ l ∧ a ≠ b) (Kd.S_N (Kd.S_bound X)) (fun a hk_ => ⟨(fr_ (Kd.N_lt (vN_ HO_9.out)) a hk_.2.1), (fr_ (Kd.N_lt (vN_ HO_80.out)) a hk_.2.1), (fr_ (rl_ (vR_ HO_597001.out)) a hk_.2.1), (fr_ (rl_ (vR_ HO_597002.out)) a hk_.2.1), (fr_ (rl_ (vR_ HO_597003.out)) a hk_.2.1), (fr_ (rl_ (vR_ HO_597004.out)) a hk_.2.1), (fr_ (rl_ (vR_ HO_597005.out)) a hk_.2.1), (fr_ (Kd.N_lt (vN_ HO_597007.out)) a hk_.2.1), (fr_ (Kd.N_lt (vN_ aO.out)) a hk_.2.1), (fr_ (Kd.N_lt (vN_ a3.out)) a hk_.2.1), (Kd.freshB (bk_ d.out) a hk_.2.1), (Kd.freshB (bk_ g.out) a hk_.2.1)⟩)) (bz_ bel_)); replace a3 := a_ (Kd.N_elder' (vN_ a3.out) (Kd.N_base (Kd.S_N X)) hb); replace HB := a_ (bp_ bel_ hb); clear hb X; obtain ⟨d8, d9, dl⟩ := Kd.N_slice a3.out; subst dl; obtain ⟨ea, eb, dm⟩ := Kd.N_slice b0.out; subst dm) | (go_at_call 14; (with_reducible refine (jigsawref10_Same.calls k3 _ _ cE _ _ cG di _ ?_ ?_ ?_ ?_ dJ.out).mono ?_); exact ca_ ((Kd.N_reads' a3.out).2.2); exact (Kd.N_reads' a3.out).2.1; exact ca_ ((Kd.N_reads' b0.out).2.2); exact (Kd.N_reads' b0.out).2.1; rintro e w' ⟨rfl, ⟨nd, rfl⟩⟩))
              go_ret
              exact ⟨by first | rfl | (simp [errW_none, errW_some] <;> rfl) | (simp [*, errW_none, errW_some] <;> rfl), bel_⟩
             ·
              replace c69 := bf_.mpr c69
              subst c69
              have H1 : (none) = some r := by rw [ig_ (show ¬ (false = true) by decide)] at H; exact H
              clear H
              have H := H1
              clear H1
              exact absurd H (by simp)
            ·
             replace c68 := bf_.mpr c68
             subst c68
             have H1 : (none) = some r := by rw [ig_ (show ¬ (false = true) by decide)] at H; exact H
             clear H
             have H := H1
             clear H1
             exact absurd H (by simp)
     ·
      rw [ig_ c41] at H
      exact absurd H (by simp)
    ·
     replace c40 := bf_.mpr c40
     subst c40
     have H1 : ((jigsawlaw11_wakes.f kj7).bind fun bo => (if bo = true then (some ((W.length : Int) == 0)) else (none))) = some r := by rw [ig_ (show ¬ (false = true) by decide)] at H; exact H
     clear H
     have H := H1
     clear H1
     replace H := bs_.mp H
     obtain ⟨bo, cL, H⟩ := H
     try dsimp only at H
     have dK := a_ cL
     clear cL
     by_cases c83 : bo = true
     ·
      subst c83
      rw [ip_ rfl] at H
      obtain rfl := si_ H
      go_wp2_with (first | ((with_reducible refine gate_callee (f := 13) rfl ?_); refine goesL_ (some 46) rfl rfl Tryz.func13 (by kernel_rfl) rfl #[] rfl ar_ ?_; (with_reducible refine (jigsawlaw11_wakes.calls kj7 true _ ?_ dK.out).mono ?_); exact ca_ ((cb_ HRtab.out HB.out)); rintro e w84 ⟨rfl, hb⟩; refine ⟨_, rfl, ?_⟩; replace HO_7 := a_ (Kd.N_below (vN_ HO_7.out) hb); replace HB := a_ (bp_ bel_ hb); clear hb; obtain ⟨ec, ed, dn⟩ := Kd.N_slice HO_7.out; subst dn))
      go_ret
      exact ⟨by first | rfl | (simp [errW_none, errW_some] <;> rfl) | (simp [*, errW_none, errW_some] <;> rfl), bel_⟩
     ·
      replace c83 := bf_.mpr c83
      subst c83
      have H1 : (none) = some r := by rw [ig_ (show ¬ (false = true) by decide)] at H; exact H
      clear H
      have H := H1
      clear H1
      exact absurd H (by simp)

end Go.Proofs.YtbhhbgoamomacaaGreatDoor.XMulKeeps
