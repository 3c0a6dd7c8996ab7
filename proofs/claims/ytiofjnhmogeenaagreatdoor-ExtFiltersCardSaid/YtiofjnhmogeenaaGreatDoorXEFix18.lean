-- by xprint.py, a program of this session, over the kit's print
import Derived.Test.YtiofjnhmogeenaaGreatDoorXEFix0
import Derived.Test.YtiofjnhmogeenaaGreatDoorSq
namespace Go.Proofs.YtiofjnhmogeenaaGreatDoor.XExtFilters
open Go.RowKit Go.Proofs.YtiofjnhmogeenaaGreatDoor.Sq Go.Proofs.YtiofjnhmogeenaaGreatDoorW.PrintWords Go.Proofs.YtiofjnhmogeenaaGreatDoorW.PrintLast Go.Proofs.YtiofjnhmogeenaaGreatDoorW.PrintMore
attribute [local go_sem] max2_int min2_int max_two min_two max_three min_three max_four min_four   -- for this text's walks alone
set_option linter.unusedVariables false
set_option linter.unusedSimpArgs false

/-! ### jigsawref11_Those: function 77 -/
def jigsawref11_Those.l0 : Nat → List Int → List Bool → List Int → Int → Option (List Int)
 | 0, _, _, _, _ => none
 | k + 1, b, c, d, a => if a < (b.length : Int) then (if 0 ≤ a then (if a < (c.length : Int) then (if rdOf false c a = true then (if d.length < 17592186044416 then (jigsawref11_Those.l0 k b c (d ++ [rd b a]) (wrap64 (a + 1))) else (none)) else (jigsawref11_Those.l0 k b c d (wrap64 (a + 1)))) else (none)) else (none)) else (some d)
def jigsawref11_Those.f (k : Nat) (a : List Int) (b : List Bool) : Option (List Int) := jigsawref11_Those.l0 k a b ([] : List Int) 0
theorem jigsawref11_Those.mono_l : ∀ k, (∀ a b c d, LeO (jigsawref11_Those.l0 k a b c d) (jigsawref11_Those.l0 (k + 1) a b c d))
 | 0 => fun _ _ _ _ r h => by simp [jigsawref11_Those.l0] at h
 | k + 1 => by
  have ih0 := jigsawref11_Those.mono_l k
  ·
   intro a b c d
   unfold jigsawref11_Those.l0
   exact leo_
theorem jigsawref11_Those.mono : ∀ a b k, LeO (jigsawref11_Those.f k a b) (jigsawref11_Those.f (k + 1) a b) := by
 intro a b k
 have ih0 := jigsawref11_Those.mono_l k
 unfold jigsawref11_Those.f
 exact leo_
set_option maxHeartbeats 8000000 in
set_option maxRecDepth 100000 in
theorem jigsawref11_Those.calls (k : Nat) (I : Option Addr) (c0 : Nat) (g : List Int) (J : Option Addr) (c1 : Nat) (l : List Bool) (r : List Int) (w : World) (y : Kd.C (Kd.int .i64) w I g.length g) (z : g.length ≤ c0) (A : Kd.C Kd.bool w J l.length l) (B : l.length ≤ c1) (h : jigsawref11_Those.f k g l = some r) :
  Calls Tryz.prog 77 #[.slice I g.length c0, .slice J l.length c1] w fun e w' => ∃ E : Value, e = .returned (E) ∧ Kd.R (Kd.int .i64) 3 w' w.heap.size (fun _ => True) E r ∧ Below w.heap.size w w' := by
 have K := a_ y
 have Q := a_ z
 clear y z
 have F := a_ A
 have U := a_ B
 clear A B
 have HB := a_ (Below.refl w.heap.size w)
 unfold jigsawref11_Those.f at h
 have H := h
 clear h
 have H' := a_ H
 clear H
 go_enter Tryz.func77, Tryz.ntmps77
 go_wp2
 go_loopg [5, 6] k (fun kq N O w' => ∃ (d : List Int) (a : Int), O = .int .i64 a ∧ Aside0 (jigsawref11_Those.l0 kq g l d a = some r) ∧ Aside0 (kq ≤ k) ∧ Aside0 (Kd.R (Kd.int .i64) 3 w' w.heap.size (fun _ => True) N d) ∧ Aside0 (Below w.heap.size w w'))
 case atStart => exact ⟨(([] : List Int)), (0), eq_, H', ⟨lr_ _⟩, ⟨nil_⟩, ⟨bel_⟩⟩
 case round =>
  clear H'
  try clear c1
  try clear p2
  obtain ⟨d, a, rfl, HA, s, HO_5, HB⟩ := hrel
  cases gk with
  | zero => exact absurd HA.out (by simp [jigsawref11_Those.l0])
  | succ k1 =>
   have H := HA.out
   clear HA
   simp only [jigsawref11_Those.l0] at H
   by_cases c3 : a < (g.length : Int)
   ·
    rw [ip_ c3] at H
    have c3b0 : decide (a < (g.length : Int)) = true := dt_ c3
    clear c3
    by_cases c4 : 0 ≤ a
    ·
     rw [ip_ c4] at H
     have c4b0 : decide (0 ≤ a) = true := dt_ c4
     clear c4
     by_cases c5 : a < (l.length : Int)
     ·
      rw [ip_ c5] at H
      have c5b0 : decide (a < (l.length : Int)) = true := dt_ c5
      clear c5
      obtain ⟨bq6, hbq6⟩ : ∃ b_ : Bool, b_ = (rdOf false l a) := ⟨_, rfl⟩
      replace H : (if bq6 = true then (if d.length < 17592186044416 then (jigsawref11_Those.l0 k1 g l (d ++ [rd g a]) (wrap64 (a + 1))) else (none)) else (jigsawref11_Those.l0 k1 g l d (wrap64 (a + 1)))) = some r := by rw [← hbq6] at H; exact H
      have Nbq6 := a_ hbq6
      clear hbq6
      by_cases c7 : bq6 = true
      ·
       subst c7
       rw [ip_ rfl] at H
       by_cases c8 : d.length < 17592186044416
       ·
        rw [ip_ c8] at H
        have LMc8 := a_ c8
        clear c8
        obtain ⟨t, n⟩ : ∃ y_ : List Int, y_ = (d ++ [rd g a]) := ⟨_, rfl⟩
        replace H : (jigsawref11_Those.l0 k1 g l t (wrap64 (a + 1))) = some r := by first | (rw [n]; with_reducible exact H) | (have H2_ := (ob_ _ _).symm.trans H; rw [n]; with_reducible exact H2_) | (have H2_ := (ob_ _ _).symm.trans H; with_reducible exact H2_) | with_reducible exact H | (rw [n]; exact H) | exact H
        have u := a_ n
        clear n
        have H' := a_ H
        clear H
        have p455 : 0 ≤ (a : Int) := dq_
        have m : a < (l.length : Int) := dq_
        obtain ⟨v, p, c⟩ := Kd.at_bool F.out a p455 m
        (try rw [← Nbq6.out] at c)
        cases p
        replace c := (HB.out.cell (wl_ w _ c)).trans c
        replace p455 := et_ p455
        replace m := et_ m
        have p456 : 0 ≤ (a : Int) := dq_
        have q : a < (g.length : Int) := dq_
        obtain ⟨M, G, o⟩ := ai_ K.out a p456 q
        cases G
        replace o := (HB.out.cell (wl_ w _ o)).trans o
        replace p456 := et_ p456
        replace q := et_ q
        go_wp2_with (first | ((with_reducible refine gate_builtin (b := .append) (xs := #[.tmp 17, .tmp 22]) rfl ?_); at_builtin; refine Kd.R_append (Kd.int .i64) (w0 := w) w.heap.size rfl (.tmp 17) (.tmp 22) 30 3 (.int .i64 0) 8 rfl Tryz.underlying30 info3 rfl (by decide) (by omega) u5 d (rd g a) [.int .i64 (rd g a)] (fun _ => True) (fun _ => False) rfl rfl ?aP (fun _ hk => hk.elim) ?aF ?aO ?aB ?aS ?aL ?_; (case aP => exact rfl); (case aB => exact bel_); (case aF => exact (fun _ _ => trivial)); (case aO => exact (vR_ HO_5.out)); (case aS => exact (bz_ bel_)); (case aL => have := LMc8.out; omega); intro P w9 ho hb hg hat; rw [← u.out] at ho; replace HB := a_ (hb); have x := a_ (ho); clear HO_5; clear ho hb hg hat))
        go_roundg k1
        case measure => have := s.out; omega
        case rel => exact ⟨(t), (wrap64 (a + 1)), eq_, H', ⟨by have := s.out; omega⟩, ⟨by refine vR_ ?_; exact x.out⟩, ⟨bel_⟩⟩
       ·
        rw [ig_ c8] at H
        exact absurd H (by simp)
      ·
       replace c7 := bf_.mpr c7
       subst c7
       have H1 : (jigsawref11_Those.l0 k1 g l d (wrap64 (a + 1))) = some r := by rw [ig_ (show ¬ (false = true) by decide)] at H; exact H
       clear H
       have H := H1
       clear H1
       have H' := a_ H
       clear H
       have p455 : 0 ≤ (a : Int) := dq_
       have m : a < (l.length : Int) := dq_
       obtain ⟨v, p, c⟩ := Kd.at_bool F.out a p455 m
       (try rw [← Nbq6.out] at c)
       cases p
       replace c := (HB.out.cell (wl_ w _ c)).trans c
       replace p455 := et_ p455
       replace m := et_ m
       go_wp2
       go_roundg k1
       case measure => have := s.out; omega
       case rel => exact ⟨(d), (wrap64 (a + 1)), eq_, H', ⟨by have := s.out; omega⟩, ⟨by refine vR_ ?_; exact HO_5.out⟩, ⟨bel_⟩⟩
     ·
      rw [ig_ c5] at H
      exact absurd H (by simp)
    ·
     rw [ig_ c4] at H
     exact absurd H (by simp)
   ·
    rw [ig_ c3] at H
    have c3b0 : decide (a < (g.length : Int)) = false := df_ c3
    clear c3
    obtain rfl := si_ H
    go_wp2
    go_ret
    exact ⟨_, by first | rfl | (simp [errW_none, errW_some] <;> rfl) | (simp [*, errW_none, errW_some] <;> rfl), by refine vR_ ?_; exact HO_5.out, bel_⟩

end Go.Proofs.YtiofjnhmogeenaaGreatDoor.XExtFilters
