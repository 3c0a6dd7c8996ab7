-- by xprint.py, a program of this session, over the kit's print
import Derived.Test.YtijjhobjmehhoaaGreatDoorXGAlx0
import Derived.Test.YtijjhobjmehhoaaGreatDoorXGAlx1
import Derived.Test.YtijjhobjmehhoaaGreatDoorXGAlx4
import Derived.Test.YtijjhobjmehhoaaGreatDoorXGAlx5
import Derived.Test.YtijjhobjmehhoaaGreatDoorXGAlx13
import Derived.Test.YtijjhobjmehhoaaGreatDoorXGAlx16
import Derived.Test.YtijjhobjmehhoaaGreatDoorSq
namespace Go.Proofs.YtijjhobjmehhoaaGreatDoor.XGccAll
open Go.RowKit Go.Proofs.YtijjhobjmehhoaaGreatDoor.Sq Go.Proofs.YtijjhobjmehhoaaGreatDoorW.PrintWords Go.Proofs.YtijjhobjmehhoaaGreatDoorW.PrintLast Go.Proofs.YtijjhobjmehhoaaGreatDoorW.PrintMore
attribute [local go_sem] max2_int min2_int max_two min_two max_three min_three max_four min_four   -- for this text's walks alone
set_option linter.unusedVariables false
set_option linter.unusedSimpArgs false

/-! ### jigsawlaw20_GccFixed: function 5 -/
mutual
def jigsawlaw20_GccFixed.l0 : Nat → List (S58) → List (S58) → Int → Int → Option (Bool)
 | 0, _, _, _, _ => none
 | k + 1, g, b, d, a => if a < d then (if 0 ≤ a then (if a < (b.length : Int) then ((dom_Dom_List.f k ((rd_T58 b a).f0) ((rd_T58 b a).f1) ((rd_T58 b a).f2) ((rd_T58 b a).f3) ((rd_T58 b a).f4)).bind fun c => (jigsawlaw20_GccFixed.l1 k g a b d a c (c.length : Int) 0 ((rd_T58 b a).f0) ((rd_T58 b a).f1) ((rd_T58 b a).f2) ((rd_T58 b a).f3) ((rd_T58 b a).f4))) else (none)) else (none)) else ((jigsawlaw20_wakes.f k).bind fun e => (some e))
def jigsawlaw20_GccFixed.l1 : Nat → List (S58) → Int → List (S58) → Int → Int → List Int → Int → Int → Int → List Int → Int → Int → Int → Option (Bool)
 | 0, _, _, _, _, _, _, _, _, _, _, _, _, _ => none
 | k + 1, b, q, m, n, o, l, p, a, c, d, e, f, g => if a < p then (if 0 ≤ a then (if a < (l.length : Int) then (jigsawlaw20_GccFixed.l2 k b q (rd l a) 0 m n o l p a b (b.length : Int) 0 c d e f g) else (none)) else (none)) else (jigsawlaw20_GccFixed.l0 k b m n (wrap64 (o + 1)))
def jigsawlaw20_GccFixed.l2 : Nat → List (S58) → Int → Int → Int → List (S58) → Int → Int → List Int → Int → Int → List (S58) → Int → Int → Int → List Int → Int → Int → Int → Option (Bool)
 | 0, _, _, _, _, _, _, _, _, _, _, _, _, _, _, _, _, _, _ => none
 | k + 1, n, o, v, x, p, q, r, s, t, u, b, m, a, c, d, e, g, l => if a < m then (if 0 ≤ a then (if a < (b.length : Int) then ((dom_Dom_Has.f ((rd_T58 b a).f0) ((rd_T58 b a).f1) ((rd_T58 b a).f2) ((rd_T58 b a).f3) ((rd_T58 b a).f4) v).bind fun y => (if y = true then (jigsawlaw20_GccFixed.j3 k n o v (wrap64 (x + 1)) a p q r s t u b m a c d e g l ((rd_T58 b a).f0) ((rd_T58 b a).f1) ((rd_T58 b a).f2) ((rd_T58 b a).f3) ((rd_T58 b a).f4)) else (jigsawlaw20_GccFixed.j3 k n o v x a p q r s t u b m a c d e g l ((rd_T58 b a).f0) ((rd_T58 b a).f1) ((rd_T58 b a).f2) ((rd_T58 b a).f3) ((rd_T58 b a).f4)))) else (none)) else (none)) else (if x = 1 then ((dom_Dom_Size.f c d e g l).bind fun z => (if z > 1 then (none) else (jigsawlaw20_GccFixed.l1 k n o p q r s t (wrap64 (u + 1)) c d e g l))) else (jigsawlaw20_GccFixed.l1 k n o p q r s t (wrap64 (u + 1)) c d e g l))
def jigsawlaw20_GccFixed.j3 : Nat → List (S58) → Int → Int → Int → Int → List (S58) → Int → Int → List Int → Int → Int → List (S58) → Int → Int → Int → List Int → Int → Int → Int → Int → List Int → Int → Int → Int → Option (Bool)
 | 0, _, _, _, _, _, _, _, _, _, _, _, _, _, _, _, _, _, _, _, _, _, _, _, _ => none
 | k + 1, u, n, o, v, G, x, y, z, A, B, C, g, l, m, a, b, c, d, e, p, q, r, s, t => if G = n then (jigsawlaw20_GccFixed.l2 k u n o v x y z A B C g l (wrap64 (m + 1)) a b c d e) else ((dom_Dom_Size.f a b c d e).bind fun E => (if E = 1 then ((dom_Dom_Has.f p q r s t o).bind fun F => (if F = true then (none) else (jigsawlaw20_GccFixed.l2 k u n o v x y z A B C g l (wrap64 (m + 1)) a b c d e))) else (jigsawlaw20_GccFixed.l2 k u n o v x y z A B C g l (wrap64 (m + 1)) a b c d e)))
end
def jigsawlaw20_GccFixed.f (k : Nat) (a : List (S58)) : Option (Bool) := jigsawlaw20_GccFixed.l0 k a a (a.length : Int) 0
theorem jigsawlaw20_GccFixed.mono_l : ∀ k, (∀ d e f g, LeO (jigsawlaw20_GccFixed.l0 k d e f g) (jigsawlaw20_GccFixed.l0 (k + 1) d e f g)) ∧ (∀ d e f g l m n o p q a b c, LeO (jigsawlaw20_GccFixed.l1 k d e f g l m n o p q a b c) (jigsawlaw20_GccFixed.l1 (k + 1) d e f g l m n o p q a b c)) ∧ (∀ d e f g l m n o p q a b c s t u v x, LeO (jigsawlaw20_GccFixed.l2 k d e f g l m n o p q a b c s t u v x) (jigsawlaw20_GccFixed.l2 (k + 1) d e f g l m n o p q a b c s t u v x)) ∧ (∀ d e f g l m n o p q a b c s t u v x y z A B C E, LeO (jigsawlaw20_GccFixed.j3 k d e f g l m n o p q a b c s t u v x y z A B C E) (jigsawlaw20_GccFixed.j3 (k + 1) d e f g l m n o p q a b c s t u v x y z A B C E))
 | 0 => by refine ⟨?_, ?_, ?_, ?_⟩ <;> (intros; exact LeO.none _)
 | k + 1 => by
  obtain ⟨ih0, ih1, ih2, ih3⟩ := jigsawlaw20_GccFixed.mono_l k
  have m0 := @dom_Dom_List.mono
  have m1 := @jigsawlaw20_wakes.mono
  refine ⟨?_, ?_, ?_, ?_⟩ <;> intros
  all_goals first | unfold jigsawlaw20_GccFixed.l0 | unfold jigsawlaw20_GccFixed.l1 | unfold jigsawlaw20_GccFixed.l2 | unfold jigsawlaw20_GccFixed.j3
  all_goals exact leo_
theorem jigsawlaw20_GccFixed.mono : ∀ a k, LeO (jigsawlaw20_GccFixed.f k a) (jigsawlaw20_GccFixed.f (k + 1) a) := by
 intro a k
 obtain ⟨ih0, ih1, ih2, ih3⟩ := jigsawlaw20_GccFixed.mono_l k
 unfold jigsawlaw20_GccFixed.f
 have m0 := @dom_Dom_List.mono
 have m1 := @jigsawlaw20_wakes.mono
 exact leo_
/-! ### jigsawref06_Shapes: function 36 -/
def jigsawref06_Shapes.f  : Option (List ByteArray) := some (([(⟨#[]⟩ : ByteArray), (⟨#[99, 86, 107]⟩ : ByteArray), (⟨#[99, 86, 107]⟩ : ByteArray), (⟨#[99, 86, 107]⟩ : ByteArray), (⟨#[99, 86, 107, 119]⟩ : ByteArray), (⟨#[118, 118, 118]⟩ : ByteArray), (⟨#[118, 118, 118]⟩ : ByteArray), (⟨#[118, 118, 118]⟩ : ByteArray), (⟨#[118, 118]⟩ : ByteArray), (⟨#[118, 118, 118]⟩ : ByteArray), (⟨#[118, 118, 118]⟩ : ByteArray), (⟨#[118, 99, 118]⟩ : ByteArray), (⟨#[86, 87]⟩ : ByteArray), (⟨#[118, 107, 119]⟩ : ByteArray), (⟨#[118, 107, 119]⟩ : ByteArray), (⟨#[118, 107, 119]⟩ : ByteArray), (⟨#[118, 107, 119]⟩ : ByteArray), (⟨#[86]⟩ : ByteArray), (⟨#[86, 114]⟩ : ByteArray), (⟨#[86, 99, 100, 107]⟩ : ByteArray), (⟨#[86]⟩ : ByteArray), (⟨#[86, 99, 100, 101]⟩ : ByteArray), (⟨#[86, 87]⟩ : ByteArray), (⟨#[86, 87]⟩ : ByteArray)] : List ByteArray))
set_option maxHeartbeats 8000000 in
set_option maxRecDepth 100000 in
theorem jigsawref06_Shapes.calls  (r : List ByteArray) (w : World) (h : jigsawref06_Shapes.f  = some r) :
  Calls Tryz.prog 36 #[] w fun e w' => ∃ g : Value, e = .returned (g) ∧ Kd.R Kd.string 9 w' w.heap.size (fun _ => True) g r ∧ Below w.heap.size w w' := by
 have HB := a_ (Below.refl w.heap.size w)
 unfold jigsawref06_Shapes.f at h
 have H := h
 clear h
 obtain ⟨l, a⟩ : ∃ y_ : List ByteArray, y_ = (([(⟨#[]⟩ : ByteArray), (⟨#[99, 86, 107]⟩ : ByteArray), (⟨#[99, 86, 107]⟩ : ByteArray), (⟨#[99, 86, 107]⟩ : ByteArray), (⟨#[99, 86, 107, 119]⟩ : ByteArray), (⟨#[118, 118, 118]⟩ : ByteArray), (⟨#[118, 118, 118]⟩ : ByteArray), (⟨#[118, 118, 118]⟩ : ByteArray), (⟨#[118, 118]⟩ : ByteArray), (⟨#[118, 118, 118]⟩ : ByteArray), (⟨#[118, 118, 118]⟩ : ByteArray), (⟨#[118, 99, 118]⟩ : ByteArray), (⟨#[86, 87]⟩ : ByteArray), (⟨#[118, 107, 119]⟩ : ByteArray), (⟨#[118, 107, 119]⟩ : ByteArray), (⟨#[118, 107, 119]⟩ : ByteArray), (⟨#[118, 107, 119]⟩ : ByteArray), (⟨#[86]⟩ : ByteArray), (⟨#[86, 114]⟩ : ByteArray), (⟨#[86, 99, 100, 107]⟩ : ByteArray), (⟨#[86]⟩ : ByteArray), (⟨#[86, 99, 100, 101]⟩ : ByteArray), (⟨#[86, 87]⟩ : ByteArray), (⟨#[86, 87]⟩ : ByteArray)] : List ByteArray)) := ⟨_, rfl⟩
 replace H : (some l) = some r := h2_ H a
 have c := a_ a
 clear a
 obtain rfl := si_ H
 go_enter Tryz.func36, Tryz.ntmps36
 go_wp2_with (first | ((with_reducible refine gate_dst (N := 1) rfl ?_); refine Kd.R_lit Kd.string _ 9 ?hg (N := 1) ?hd (xs := ([(⟨#[]⟩ : ByteArray), (⟨#[99, 86, 107]⟩ : ByteArray), (⟨#[99, 86, 107]⟩ : ByteArray), (⟨#[99, 86, 107]⟩ : ByteArray), (⟨#[99, 86, 107, 119]⟩ : ByteArray), (⟨#[118, 118, 118]⟩ : ByteArray), (⟨#[118, 118, 118]⟩ : ByteArray), (⟨#[118, 118, 118]⟩ : ByteArray), (⟨#[118, 118]⟩ : ByteArray), (⟨#[118, 118, 118]⟩ : ByteArray), (⟨#[118, 118, 118]⟩ : ByteArray), (⟨#[118, 99, 118]⟩ : ByteArray), (⟨#[86, 87]⟩ : ByteArray), (⟨#[118, 107, 119]⟩ : ByteArray), (⟨#[118, 107, 119]⟩ : ByteArray), (⟨#[118, 107, 119]⟩ : ByteArray), (⟨#[118, 107, 119]⟩ : ByteArray), (⟨#[86]⟩ : ByteArray), (⟨#[86, 114]⟩ : ByteArray), (⟨#[86, 99, 100, 107]⟩ : ByteArray), (⟨#[86]⟩ : ByteArray), (⟨#[86, 99, 100, 101]⟩ : ByteArray), (⟨#[86, 87]⟩ : ByteArray), (⟨#[86, 87]⟩ : ByteArray)] : List ByteArray)) (inner := [.string (⟨#[]⟩ : ByteArray), .string (⟨#[99, 86, 107]⟩ : ByteArray), .string (⟨#[99, 86, 107]⟩ : ByteArray), .string (⟨#[99, 86, 107]⟩ : ByteArray), .string (⟨#[99, 86, 107, 119]⟩ : ByteArray), .string (⟨#[118, 118, 118]⟩ : ByteArray), .string (⟨#[118, 118, 118]⟩ : ByteArray), .string (⟨#[118, 118, 118]⟩ : ByteArray), .string (⟨#[118, 118]⟩ : ByteArray), .string (⟨#[118, 118, 118]⟩ : ByteArray), .string (⟨#[118, 118, 118]⟩ : ByteArray), .string (⟨#[118, 99, 118]⟩ : ByteArray), .string (⟨#[86, 87]⟩ : ByteArray), .string (⟨#[118, 107, 119]⟩ : ByteArray), .string (⟨#[118, 107, 119]⟩ : ByteArray), .string (⟨#[118, 107, 119]⟩ : ByteArray), .string (⟨#[118, 107, 119]⟩ : ByteArray), .string (⟨#[86]⟩ : ByteArray), .string (⟨#[86, 114]⟩ : ByteArray), .string (⟨#[86, 99, 100, 107]⟩ : ByteArray), .string (⟨#[86]⟩ : ByteArray), .string (⟨#[86, 99, 100, 101]⟩ : ByteArray), .string (⟨#[86, 87]⟩ : ByteArray), .string (⟨#[86, 87]⟩ : ByteArray)]) (ok := fun _ => True) (okp := fun _ => True) ?hr ?hp (fun _ hk => hk) trivial (Below.refl _ _) (lr_ _) (by simp) ?_; (case hd => rfl); (case hg => rfl); (case hr => first | (go_simp; done) | (go_simp; rfl)); (case hp => exact (Reps.one (show Kd.M Kd.string _ _ _ (⟨#[]⟩ : ByteArray) [.string (⟨#[]⟩ : ByteArray)] from rfl) (Reps.one (show Kd.M Kd.string _ _ _ (⟨#[99, 86, 107]⟩ : ByteArray) [.string (⟨#[99, 86, 107]⟩ : ByteArray)] from rfl) (Reps.one (show Kd.M Kd.string _ _ _ (⟨#[99, 86, 107]⟩ : ByteArray) [.string (⟨#[99, 86, 107]⟩ : ByteArray)] from rfl) (Reps.one (show Kd.M Kd.string _ _ _ (⟨#[99, 86, 107]⟩ : ByteArray) [.string (⟨#[99, 86, 107]⟩ : ByteArray)] from rfl) (Reps.one (show Kd.M Kd.string _ _ _ (⟨#[99, 86, 107, 119]⟩ : ByteArray) [.string (⟨#[99, 86, 107, 119]⟩ : ByteArray)] from rfl) (Reps.one (show Kd.M Kd.string _ _ _ (⟨#[118, 118, 118]⟩ : ByteArray) [.string (⟨#[118, 118, 118]⟩ : ByteArray)] from rfl) (Reps.one (show Kd.M Kd.string _ _ _ (⟨#[118, 118, 118]⟩ : ByteArray) [.string (⟨#[118, 118, 118]⟩ : ByteArray)] from rfl) (Reps.one (show Kd.M Kd.string _ _ _ (⟨#[118, 118, 118]⟩ : ByteArray) [.string (⟨#[118, 118, 118]⟩ : ByteArray)] from rfl) (Reps.one (show Kd.M Kd.string _ _ _ (⟨#[118, 118]⟩ : ByteArray) [.string (⟨#[118, 118]⟩ : ByteArray)] from rfl) (Reps.one (show Kd.M Kd.string _ _ _ (⟨#[118, 118, 118]⟩ : ByteArray) [.string (⟨#[118, 118, 118]⟩ : ByteArray)] from rfl) (Reps.one (show Kd.M Kd.string _ _ _ (⟨#[118, 118, 118]⟩ : ByteArray) [.string (⟨#[118, 118, 118]⟩ : ByteArray)] from rfl) (Reps.one (show Kd.M Kd.string _ _ _ (⟨#[118, 99, 118]⟩ : ByteArray) [.string (⟨#[118, 99, 118]⟩ : ByteArray)] from rfl) (Reps.one (show Kd.M Kd.string _ _ _ (⟨#[86, 87]⟩ : ByteArray) [.string (⟨#[86, 87]⟩ : ByteArray)] from rfl) (Reps.one (show Kd.M Kd.string _ _ _ (⟨#[118, 107, 119]⟩ : ByteArray) [.string (⟨#[118, 107, 119]⟩ : ByteArray)] from rfl) (Reps.one (show Kd.M Kd.string _ _ _ (⟨#[118, 107, 119]⟩ : ByteArray) [.string (⟨#[118, 107, 119]⟩ : ByteArray)] from rfl) (Reps.one (show Kd.M Kd.string _ _ _ (⟨#[118, 107, 119]⟩ : ByteArray) [.string (⟨#[118, 107, 119]⟩ : ByteArray)] from rfl) (Reps.one (show Kd.M Kd.string _ _ _ (⟨#[118, 107, 119]⟩ : ByteArray) [.string (⟨#[118, 107, 119]⟩ : ByteArray)] from rfl) (Reps.one (show Kd.M Kd.string _ _ _ (⟨#[86]⟩ : ByteArray) [.string (⟨#[86]⟩ : ByteArray)] from rfl) (Reps.one (show Kd.M Kd.string _ _ _ (⟨#[86, 114]⟩ : ByteArray) [.string (⟨#[86, 114]⟩ : ByteArray)] from rfl) (Reps.one (show Kd.M Kd.string _ _ _ (⟨#[86, 99, 100, 107]⟩ : ByteArray) [.string (⟨#[86, 99, 100, 107]⟩ : ByteArray)] from rfl) (Reps.one (show Kd.M Kd.string _ _ _ (⟨#[86]⟩ : ByteArray) [.string (⟨#[86]⟩ : ByteArray)] from rfl) (Reps.one (show Kd.M Kd.string _ _ _ (⟨#[86, 99, 100, 101]⟩ : ByteArray) [.string (⟨#[86, 99, 100, 101]⟩ : ByteArray)] from rfl) (Reps.one (show Kd.M Kd.string _ _ _ (⟨#[86, 87]⟩ : ByteArray) [.string (⟨#[86, 87]⟩ : ByteArray)] from rfl) (Reps.one (show Kd.M Kd.string _ _ _ (⟨#[86, 87]⟩ : ByteArray) [.string (⟨#[86, 87]⟩ : ByteArray)] from rfl) (Reps.none _ _)))))))))))))))))))))))))); intro m w1 b hb hg_ hnew_; clear hg_ hnew_; (first | rw [← c.out] at b | (simp only [Int.reduceToNat] at b; rw [← c.out] at b)); have d := a_ (Kd.R_lower b (bz_ bel_)); replace HB := hq_ hb; clear hb b))
 go_ret
 exact ⟨_, er_, vR_ d.out, bel_⟩

/-! ### jigsawref06_has: function 37 -/
def jigsawref06_has.l0 : Nat → ByteArray → Int → Int → Int → Option (Int)
 | 0, _, _, _, _ => none
 | k + 1, b, c, d, a => if a < (b.size : Int) then (if 0 ≤ a then (if (bt b a) = c then (jigsawref06_has.l0 k b c (wrap64 (d + 1)) (wrap64 (a + 1))) else (jigsawref06_has.l0 k b c d (wrap64 (a + 1)))) else (none)) else (some d)
def jigsawref06_has.f (k : Nat) (a : ByteArray) (b : Int) : Option (Int) := jigsawref06_has.l0 k a b 0 0
theorem jigsawref06_has.mono_l : ∀ k, (∀ a b c d, LeO (jigsawref06_has.l0 k a b c d) (jigsawref06_has.l0 (k + 1) a b c d))
 | 0 => by intros; exact LeO.none _
 | k + 1 => by
  have ih0 := jigsawref06_has.mono_l k
  intro a b c d
  unfold jigsawref06_has.l0
  exact leo_
theorem jigsawref06_has.mono : ∀ a b k, LeO (jigsawref06_has.f k a b) (jigsawref06_has.f (k + 1) a b) := by
 intro a b k
 have ih0 := jigsawref06_has.mono_l k
 unfold jigsawref06_has.f
 exact leo_
set_option maxHeartbeats 8000000 in
set_option maxRecDepth 100000 in
theorem jigsawref06_has.calls (k : Nat) (b : ByteArray) (d : Int) (r : Int) (w : World) (h : jigsawref06_has.f k b d = some r) :
  Calls Tryz.prog 37 #[.string b, .int .u8 d] w fun e w' => e = .returned (.int .i64 r) ∧ Drawn0 w w' := by
 unfold jigsawref06_has.f at h
 have H := h
 clear h
 have H' := a_ H
 clear H
 go_enter Tryz.func37, Tryz.ntmps37
 go_wp2
 go_loopg [5, 6] k (fun kq n o w' => ∃ (c : Int) (a : Int), n = .int .i64 c ∧ o = .int .i64 a ∧ Aside0 (jigsawref06_has.l0 kq b d c a = some r) ∧ Aside0 (kq ≤ k) ∧ Drawn0 w w')
 case atStart => exact ⟨(0), (0), eq_, eq_, H', ⟨lr_ _⟩, by repeat (first | exact d0_ _ | apply Drawn0.step)⟩
 clear H'
 try clear p2
 obtain ⟨c, a, rfl, rfl, HA, g, ⟨m1, rfl⟩⟩ := hrel
 cases gk with
 | zero => exact absurd HA.out (by simp [jigsawref06_has.l0])
 | succ k1 =>
  have H := HA.out
  clear HA
  simp only [jigsawref06_has.l0] at H
  replace H := cf_ H
  rcases H with ⟨c3b0, H⟩ | ⟨c3b0, H⟩
  ·
   obtain rfl := si_ H
   go_wp2
   go_ret
   exact ⟨by first | rfl | (simp; done) | (simp [*]; done), by repeat (first | exact d0_ _ | apply Drawn0.step)⟩
  replace H := gu_ H
  obtain ⟨c4b0, H⟩ := H
  replace H := ef_ H
  rcases H with ⟨c6, c6b0, c6b1, H⟩ | ⟨-, c6b0, c6b1, H⟩
  ·
   have H' := a_ H
   clear H
   have p5 : 0 ≤ (a : Int) := dq_
   have l : a < (b.size : Int) := dq_
   have m := bt_at b a
   replace p5 := et_ p5
   replace l := et_ l
   go_wp2
   go_roundg k1
   case measure => have := g.out; omega
   exact ⟨(c), (wrap64 (a + 1)), eq_, eq_, H', ⟨by have := g.out; omega⟩, by repeat (first | exact d0_ _ | apply Drawn0.step)⟩
  have H' := a_ H
  clear H
  have p5 : 0 ≤ (a : Int) := dq_
  have l : a < (b.size : Int) := dq_
  have m := bt_at b a
  replace p5 := et_ p5
  replace l := et_ l
  go_wp2
  go_roundg k1
  case measure => have := g.out; omega
  exact ⟨(wrap64 (c + 1)), (wrap64 (a + 1)), eq_, eq_, H', ⟨by have := g.out; omega⟩, by repeat (first | exact d0_ _ | apply Drawn0.step)⟩

/-! ### jigsawref06_places: function 38 -/
def jigsawref06_places.l0 : Nat → List Int → Int → Int → List Int → Int → Option (List Int)
 | 0, _, _, _, _, _ => none
 | k + 1, d, e, b, c, a => if a < e then (if a < (d.length : Int) then (if 0 ≤ a then (if b = 0 then (none) else (if c.length < 17592186044416 then (jigsawref06_places.l0 k d e b (c ++ [Int.tmod (wrap64 (rd d a)) b]) (wrap64 (a + 1))) else (none))) else (none)) else (if b = 0 then (none) else (if c.length < 17592186044416 then (jigsawref06_places.l0 k d e b (c ++ [Int.tmod a b]) (wrap64 (a + 1))) else (none)))) else (some c)
def jigsawref06_places.f (k : Nat) (a : List Int) (b : Int) (c : Int) : Option (List Int) := jigsawref06_places.l0 k a b c ([] : List Int) 0
theorem jigsawref06_places.mono_l : ∀ k, (∀ a b c d e, LeO (jigsawref06_places.l0 k a b c d e) (jigsawref06_places.l0 (k + 1) a b c d e))
 | 0 => by intros; exact LeO.none _
 | k + 1 => by
  have ih0 := jigsawref06_places.mono_l k
  intro a b c d e
  unfold jigsawref06_places.l0
  exact leo_
theorem jigsawref06_places.mono : ∀ a b c k, LeO (jigsawref06_places.f k a b c) (jigsawref06_places.f (k + 1) a b c) := by
 intro a b c k
 have ih0 := jigsawref06_places.mono_l k
 unfold jigsawref06_places.f
 exact leo_
set_option maxHeartbeats 8000000 in
set_option maxRecDepth 100000 in
theorem jigsawref06_places.calls (k : Nat) (F : Option Addr) (c0 : Nat) (g : List Int) (o : Int) (d : Int) (r : List Int) (w : World) (z : Kd.C (Kd.int .u8) w F g.length g) (A : g.length ≤ c0) (h : jigsawref06_places.f k g o d = some r) :
  Calls Tryz.prog 38 #[.slice F g.length c0, .int .i64 o, .int .i64 d] w fun e w' => ∃ B : Value, e = .returned (B) ∧ Kd.R (Kd.int .i64) 3 w' w.heap.size (fun _ => True) B r ∧ Below w.heap.size w w' := by
 have G := a_ z
 have O := a_ A
 clear z A
 have HB := a_ (Below.refl w.heap.size w)
 unfold jigsawref06_places.f at h
 have H := h
 clear h
 have H' := a_ H
 clear H
 go_enter Tryz.func38, Tryz.ntmps38
 go_wp2
 go_loopg [7, 8] k (fun kq J K w' => ∃ (c : List Int) (a : Int), K = .int .i64 a ∧ Aside0 (jigsawref06_places.l0 kq g o d c a = some r) ∧ Aside0 (kq ≤ k) ∧ Aside0 (Kd.R (Kd.int .i64) 3 w' w.heap.size (fun _ => True) J c) ∧ Aside0 (Below w.heap.size w w'))
 case atStart => exact ⟨(([] : List Int)), (0), eq_, H', ⟨lr_ _⟩, ⟨nil_⟩, ⟨bel_⟩⟩
 clear H'
 try clear p2
 try clear c3
 obtain ⟨c, a, rfl, HA, q, HO_7, HB⟩ := hrel
 cases gk with
 | zero => exact absurd HA.out (by simp [jigsawref06_places.l0])
 | succ k1 =>
  have H := HA.out
  clear HA
  simp only [jigsawref06_places.l0] at H
  replace H := cf_ H
  rcases H with ⟨c4b0, H⟩ | ⟨c4b0, H⟩
  ·
   obtain rfl := si_ H
   go_wp2
   go_ret
   exact ⟨_, er_, vR_ HO_7.out, bel_⟩
  replace H := cf_ H
  rcases H with ⟨c5b0, H⟩ | ⟨c5b0, H⟩
  ·
   replace H := gz_ H
   obtain ⟨c10, c10b0, c10b1, H⟩ := H
   replace H := ga_ H
   obtain ⟨LMc11, H⟩ := H
   obtain ⟨t, m⟩ : ∃ y_ : List Int, y_ = (c ++ [Int.tmod a d]) := ⟨_, rfl⟩
   replace H : (jigsawref06_places.l0 k1 g o d t (wrap64 (a + 1))) = some r := h2_ H m
   have x := a_ m
   clear m
   have H' := a_ H
   clear H
   go_wp2_with (first | ((with_reducible refine gate_builtin (b := .append) (xs := #[.tmp 25, .tmp 29]) rfl ?_); at_builtin; refine Kd.R_append (Kd.int .i64) (w0 := w) w.heap.size rfl (.tmp 25) (.tmp 29) 30 3 (.int .i64 0) 8 rfl Tryz.underlying30 info3 rfl (by decide) (by omega) u7 c (Int.tmod a d) [.int .i64 (Int.tmod a d)] (fun _ => True) (fun _ => False) rfl rfl ?aP (fun _ hk => hk.elim) ?aF ?aO ?aB ?aS ?aL ?_; (case aP => exact rfl); (case aB => exact bel_); (case aF => exact (fun _ _ => trivial)); (case aO => exact (vR_ HO_7.out)); (case aS => exact (bz_ bel_)); (case aL => have := LMc11.out; omega); intro N w12 ho hb hg hat; rw [← x.out] at ho; replace HB := a_ (hb); have y := a_ (ho); clear HO_7; clear ho hb hg hat))
   go_roundg k1
   case measure => have := q.out; omega
   exact ⟨(t), (wrap64 (a + 1)), eq_, H', ⟨by have := q.out; omega⟩, ⟨vR_ y.out⟩, ⟨bel_⟩⟩
  replace H := gu_ H
  obtain ⟨c6b0, H⟩ := H
  replace H := gz_ H
  obtain ⟨c7, c7b0, c7b1, H⟩ := H
  replace H := ga_ H
  obtain ⟨LMc8, H⟩ := H
  obtain ⟨s, l⟩ : ∃ y_ : List Int, y_ = (c ++ [Int.tmod (wrap64 (rd g a)) d]) := ⟨_, rfl⟩
  replace H : (jigsawref06_places.l0 k1 g o d s (wrap64 (a + 1))) = some r := h2_ H l
  have u := a_ l
  clear l
  have H' := a_ H
  clear H
  obtain ⟨I, E, n, p467, p⟩ := aj_ G HB a
  cases E
  go_wp2_with (first | ((with_reducible refine gate_builtin (b := .append) (xs := #[.tmp 25, .tmp 29]) rfl ?_); at_builtin; refine Kd.R_append (Kd.int .i64) (w0 := w) w.heap.size rfl (.tmp 25) (.tmp 29) 30 3 (.int .i64 0) 8 rfl Tryz.underlying30 info3 rfl (by decide) (by omega) u7 c (Int.tmod (wrap64 (rd g a)) d) [.int .i64 (Int.tmod (wrap64 (rd g a)) d)] (fun _ => True) (fun _ => False) rfl rfl ?aP (fun _ hk => hk.elim) ?aF ?aO ?aB ?aS ?aL ?_; (case aP => exact rfl); (case aB => exact bel_); (case aF => exact (fun _ _ => trivial)); (case aO => exact (vR_ HO_7.out)); (case aS => exact (bz_ bel_)); (case aL => have := LMc8.out; omega); intro M w9 ho hb hg hat; rw [← u.out] at ho; replace HB := a_ (hb); have v := a_ (ho); clear HO_7; clear ho hb hg hat))
  go_roundg k1
  case measure => have := q.out; omega
  exact ⟨(s), (wrap64 (a + 1)), eq_, H', ⟨by have := q.out; omega⟩, ⟨vR_ v.out⟩, ⟨bel_⟩⟩

end Go.Proofs.YtijjhobjmehhoaaGreatDoor.XGccAll
