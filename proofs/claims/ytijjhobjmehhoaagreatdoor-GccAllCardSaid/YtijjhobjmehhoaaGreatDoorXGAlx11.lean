-- by xprint.py, a program of this session, over the kit's print
import Derived.Test.YtijjhobjmehhoaaGreatDoorXGAlx0
import Derived.Test.YtijjhobjmehhoaaGreatDoorXGAlx1
import Derived.Test.YtijjhobjmehhoaaGreatDoorXGAlx4
import Derived.Test.YtijjhobjmehhoaaGreatDoorXGAlx5
import Derived.Test.YtijjhobjmehhoaaGreatDoorXGAlx8
import Derived.Test.YtijjhobjmehhoaaGreatDoorXGAlx10
import Derived.Test.YtijjhobjmehhoaaGreatDoorSq
namespace Go.Proofs.YtijjhobjmehhoaaGreatDoor.XGccAll
open Go.RowKit Go.Proofs.YtijjhobjmehhoaaGreatDoor.Sq Go.Proofs.YtijjhobjmehhoaaGreatDoorW.PrintWords Go.Proofs.YtijjhobjmehhoaaGreatDoorW.PrintLast Go.Proofs.YtijjhobjmehhoaaGreatDoorW.PrintMore
attribute [local go_sem] max2_int min2_int max_two min_two max_three min_three max_four min_four   -- for this text's walks alone
set_option linter.unusedVariables false
set_option linter.unusedSimpArgs false

/-! ### gcc_one: function 29 -/
mutual
def gcc_one.j0 : Nat → Int → Int → Int → Int → Bool → List (S58) → Option ((List (S58)) × Bool × Bool)
 | 0, _, _, _, _, _, _ => none
 | k + 1, d, e, f, b, c, a => if c = true then (some (a, false, false)) else (gcc_one.l0 k d e f b false (a.length : Int) 0 a)
def gcc_one.l0 : Nat → Int → Int → Int → Int → Bool → Int → Int → List (S58) → Option ((List (S58)) × Bool × Bool)
 | 0, _, _, _, _, _, _, _, _ => none
 | k + 1, d, n, o, e, g, l, b, a => if b < l then (if 0 ≤ b then (if b < (a.length : Int) then (if e = o then ((dom_Dom_Has.f ((rd_T58 a b).f0) ((rd_T58 a b).f1) ((rd_T58 a b).f2) ((rd_T58 a b).f3) ((rd_T58 a b).f4) d).bind fun p => (if p = true then ((dom_Dom_Size.f ((rd_T58 a b).f0) ((rd_T58 a b).f1) ((rd_T58 a b).f2) ((rd_T58 a b).f3) ((rd_T58 a b).f4)).bind fun q => (if q > 1 then ((dom_Dom_Without.f k ((rd_T58 a b).f0) ((rd_T58 a b).f1) ((rd_T58 a b).f2) ((rd_T58 a b).f3) ((rd_T58 a b).f4) d).bind fun c => (gcc_one.l0 k d n o e true l (wrap64 (b + 1)) (a.set (b : Int).toNat (⟨c.1, c.2.1, c.2.2.1, c.2.2.2.1, c.2.2.2.2.1⟩ : S58)))) else (gcc_one.l0 k d n o e g l (wrap64 (b + 1)) a))) else (gcc_one.l0 k d n o e g l (wrap64 (b + 1)) a))) else (gcc_one.l0 k d n o e g l (wrap64 (b + 1)) a)) else (none)) else (none)) else ((gcc_counts.f k a d).bind fun m => (if m.2 > n then (some (a, g, true)) else (gcc_one.l1 k d n m.2 g (a.length : Int) 0 a)))
def gcc_one.l1 : Nat → Int → Int → Int → Bool → Int → Int → List (S58) → Option ((List (S58)) × Bool × Bool)
 | 0, _, _, _, _, _, _, _ => none
 | k + 1, g, m, d, l, e, b, a => if b < e then (if 0 ≤ b then (if b < (a.length : Int) then ((dom_Dom_Has.f ((rd_T58 a b).f0) ((rd_T58 a b).f1) ((rd_T58 a b).f2) ((rd_T58 a b).f3) ((rd_T58 a b).f4) g).bind fun n => (if n = true then ((dom_Dom_Size.f ((rd_T58 a b).f0) ((rd_T58 a b).f1) ((rd_T58 a b).f2) ((rd_T58 a b).f3) ((rd_T58 a b).f4)).bind fun o => (if o > 1 then ((dom_Dom_Only.f k ((rd_T58 a b).f0) ((rd_T58 a b).f1) ((rd_T58 a b).f2) ((rd_T58 a b).f3) ((rd_T58 a b).f4) g).bind fun c => (gcc_one.l1 k g m d true e (wrap64 (b + 1)) (a.set (b : Int).toNat (⟨c.1, c.2.1, c.2.2.1, c.2.2.2.1, c.2.2.2.2.1⟩ : S58)))) else (gcc_one.l1 k g m d l e (wrap64 (b + 1)) a))) else (gcc_one.l1 k g m d l e (wrap64 (b + 1)) a))) else (none)) else (none)) else (some (a, l, (d == m)))
end
def gcc_one.f (k : Nat) (b : List (S58)) (c : Int) (d : Int) (e : Int) : Option ((List (S58)) × Bool × Bool) := (gcc_counts.f k b c).bind fun a => (if a.1 > e then (gcc_one.j0 k c d e a.1 true b) else (gcc_one.j0 k c d e a.1 (decide (a.2 < d)) b))
theorem gcc_one.mono_l : ∀ k, (∀ a b c d e f, LeO (gcc_one.j0 k a b c d e f) (gcc_one.j0 (k + 1) a b c d e f)) ∧ (∀ a b c d e f g l, LeO (gcc_one.l0 k a b c d e f g l) (gcc_one.l0 (k + 1) a b c d e f g l)) ∧ (∀ a b c d e f g, LeO (gcc_one.l1 k a b c d e f g) (gcc_one.l1 (k + 1) a b c d e f g))
 | 0 => by refine ⟨?_, ?_, ?_⟩ <;> (intros; exact LeO.none _)
 | k + 1 => by
  obtain ⟨ih0, ih1, ih2⟩ := gcc_one.mono_l k
  have m0 := @dom_Dom_Only.mono
  have m1 := @dom_Dom_Without.mono
  have m2 := @gcc_counts.mono
  refine ⟨?_, ?_, ?_⟩ <;> intros
  all_goals first | unfold gcc_one.j0 | unfold gcc_one.l0 | unfold gcc_one.l1
  all_goals exact leo_
theorem gcc_one.mono : ∀ a b c d k, LeO (gcc_one.f k a b c d) (gcc_one.f (k + 1) a b c d) := by
 intro a b c d k
 obtain ⟨ih0, ih1, ih2⟩ := gcc_one.mono_l k
 unfold gcc_one.f
 have m0 := @dom_Dom_Only.mono
 have m1 := @dom_Dom_Without.mono
 have m2 := @gcc_counts.mono
 exact leo_
set_option maxHeartbeats 8000000 in
set_option maxRecDepth 100000 in
theorem gcc_one.calls (k : Nat) (P0_ : Nat → Prop) (ar : Option Addr) (Y : Nat) (F : List (S58)) (Z : Int) (a2 : Int) (a3 : Int) (r1 : List (S58)) (r2 : Bool) (r3 : Bool) (w wq : World) (hO : Kd.N k58 58 wq w.heap.size (fun l => (P0_ l ∨ w.heap.size ≤ l)) (.slice ar F.length Y) F) (hB0 : Below w.heap.size w wq) (hrtab : Kd.C (Kd.int .u8) w (some ⟨0, 0, none⟩) tabL.length tabL) (h : gcc_one.f k F Z a2 a3 = some (r1, r2, r3)) :
  Calls Tryz.prog 29 #[.slice ar F.length Y, .int .i64 Z, .int .i64 a2, .int .i64 a3] wq fun e w' => e = .returned (.tuple #[.bool r2, .bool r3]) ∧ Kd.N k58 58 w' w.heap.size (fun l => (P0_ l ∨ w.heap.size ≤ l)) (.slice ar F.length Y) r1 ∧ Below w.heap.size w w' := by
 have hu58 := Tryz.underlying58
 have al := a_ hO
 have HB := a_ hB0
 clear hO hB0
 have HRtab := a_ hrtab
 clear hrtab
 unfold gcc_one.f at h
 have H := h
 clear h
 replace H := bs_.mp H
 obtain ⟨⟨aa, bc⟩, bG, H⟩ := H
 try dsimp only at H
 have A6 := a_ bG
 clear bG
 have bd := a_ H
 clear H
 go_enter Tryz.func29, Tryz.ntmps29
 go_upto_region 2 with (first | ((with_reducible refine gate_callee (f := 58) rfl ?_); refine goesL_ (some 20) rfl rfl Tryz.func58 kr_ rfl #[.slice ar F.length Y, .int .i64 Z] rfl ar_ ?_; (with_reducible refine (gcc_counts.calls k _ _ F Z aa bc _ ?_ ?_ A6.out).mono ?_); exact ca_ ((Kd.N_reads' al.out).2.2); exact (Kd.N_reads' al.out).2.1; rintro e w10 ⟨rfl, hb⟩; refine ⟨_, rfl, ?_⟩; have n1_ := a_ (Kd.N_below (vN_ al.out) hb); have n2_ := a_ (bp_ bel_ hb); clear al; clear HB; have al := n1_; have HB := n2_; clear n1_ n2_; clear hb))
 (try simp only [Act.put, List.setIfInBounds_toArray, List.set_cons_zero, List.set_cons_succ])
 go_cut [30] (fun bO wc => ∃ (kq : Nat) (aM : Bool), bO = .bool aM ∧ Aside0 (gcc_one.j0 kq Z a2 a3 aa aM F = some (r1, r2, r3)) ∧ Aside0 (kq ≤ k) ∧ Aside0 (Kd.N k58 58 wc w.heap.size (fun l => (P0_ l ∨ w.heap.size ≤ l)) (.slice ar F.length Y) F) ∧ Aside0 (Below w.heap.size w wc))
 case first =>
  have H := bd.out
  clear bd
  by_cases c11 : aa > a3
  ·
   rw [ip_ c11] at H
   have c11b0 : decide (a3 < aa) = true := dt_ c11
   clear c11
   (first | rw [c11b0] | (simp only [i64_w, i32_w]; rw [c11b0]) | skip)
   have H' := a_ H
   clear H
   go_wp2
   go_meet
   exact ⟨_, (true), eq_, H', ⟨by first | omega | exact lr_ _⟩, ⟨vN_ al.out⟩, ⟨bel_⟩⟩
  rw [ig_ c11] at H
  have c11b0 : decide (a3 < aa) = false := df_ c11
  clear c11
  (first | rw [c11b0] | (simp only [i64_w, i32_w]; rw [c11b0]) | skip)
  have H' := a_ H
  clear H
  go_wp2
  go_meet
  exact ⟨_, (decide (bc < a2)), eq_, H', ⟨by first | omega | exact lr_ _⟩, ⟨vN_ al.out⟩, ⟨bel_⟩⟩
 clear bd
 try clear c1
 try clear c2
 try clear p2
 try clear c5
 try clear c11
 try clear c11b0
 obtain ⟨kq, aM, rfl, HA, ae, HO_100, HB⟩ := hcut
 cases kq with
 | zero => exact absurd HA.out (by simp [gcc_one.j0])
 | succ kj6 =>
  have H := HA.out
  clear HA
  simp only [gcc_one.j0] at H
  replace H := ht_ H
  rcases H with ⟨rfl, H⟩ | ⟨rfl, H⟩
  ·
   simp only [Option.some.injEq, Prod.mk.injEq] at H
   obtain ⟨rfl, rfl, rfl⟩ := H
   go_wp2
   go_ret2
   exact ⟨er_, vN_ HO_100.out, bel_⟩
  have H' := a_ H
  clear H
  go_wp2
  go_loopg [12, 33] kj6 (fun kq be bP w' => ∃ (af : Bool) (d : Int) (c : List (S58)), be = .bool af ∧ bP = .int .i64 d ∧ Aside0 (gcc_one.l0 kq Z a2 a3 aa af (F.length : Int) d c = some (r1, r2, r3)) ∧ Aside0 (kq ≤ kj6) ∧ Aside0 (Kd.N k58 58 w' w.heap.size (fun l => (P0_ l ∨ w.heap.size ≤ l)) (.slice ar F.length Y) c) ∧ Aside0 (Below w.heap.size w w'))
  case atStart => exact ⟨(false), (0), (F), eq_, eq_, H', ⟨lr_ _⟩, ⟨vN_ HO_100.out⟩, ⟨bel_⟩⟩
  clear H'
  try clear c1
  try clear c2
  try clear p2
  try clear c5
  try clear c11
  try clear c11b0
  try clear c12
  try clear p2
  obtain ⟨af, d, c, rfl, rfl, HA, ag, HO_100, HB⟩ := hrel
  have u := (Kd.N_reads' HO_100.out).1
  rw [u] at HO_100
  (try simp only [u])
  cases gk with
  | zero => exact absurd HA.out (by simp [gcc_one.l0])
  | succ k2 =>
   have H := HA.out
   clear HA
   simp only [gcc_one.l0] at H
   by_cases c13 : d < (F.length : Int)
   ·
    rw [ip_ c13] at H
    have c13b0 : decide (d < (F.length : Int)) = true := dt_ c13
    clear c13
    replace H := gu_ H
    obtain ⟨c14b0, H⟩ := H
    replace H := gu_ H
    obtain ⟨c15b0, H⟩ := H
    replace H := ef_ H
    rcases H with ⟨c16, c16b0, c16b1, H⟩ | ⟨-, c16b0, c16b1, H⟩
    ·
     have H' := a_ H
     clear H
     have p263 : 0 ≤ (d : Int) := dq_
     have G : d < (c.length : Int) := dq_
     obtain ⟨aN, O, c263_1, aq, ah, P, ai, aj, ak, I, Q⟩ := at_T58 (Kd.N_reads' HO_100.out).2.2 d p263 G
     cases aq
     obtain ⟨ce263, hce263, hMe263, hcc263⟩ := Kd.N_get HO_100.out z58 d p263 (by first | exact G | exact dq_ | (have e_ := (Kd.N_reads' HO_100.out).1; omega))
     obtain ⟨ua263_1, uc263_1, rfl, y, z⟩ := k58_openF hMe263
     have s := hcc263 1 _ rfl
     rw [add_field _ _ 1 (by omega)] at s
     replace s := si_ (s.symm.trans P)
     injection s with hva_ hvn_ hvc_
     rw [hva_] at z
     rw [hvc_] at y
     clear hva_ hvn_ hvc_ z y hcc263 hce263
     have U := a_ I
     clear Q I
     replace p263 := et_ p263
     replace G := et_ G
     go_wp2_with (first | ((with_reducible refine gate_dst (N := 14) rfl ?_); refine bxe_ (N := 14) (cs := #[.int .i64 0, .slice none 0 0, .int .i64 0, .int .i64 0, .int .i64 0]) (t := 58) ?_; intro m hg w40 hbox hb; replace HO_100 := a_ (Kd.N_below (Kd.N_elderB (vN_ HO_100.out) m (Nat.le_of_eq hg.symm)) hb); have x := a_ (hbox); have am := a_ (by rw [hg]; exact (bz_ bel_) : w.heap.size ≤ m); have aW := am; replace HB := hq_ hb; clear hb hbox hg; obtain ⟨_, _, _, _, _, _, _, _, _, _⟩ := cel5_ x.out))
     (try simp only [← u])
     go_roundg k2
     case measure => have := ae.out; have := ag.out; omega
     exact ⟨(af), (wrap64 (d + 1)), (c), eq_, eq_, H', ⟨by have := ae.out; have := ag.out; omega⟩, ⟨by (try simp only [u]); refine vN_ ?_; exact nm_ (fN_ (fN_ (fN_ (fN_ (fN_ (nm_ HO_100.out (fun l hk => (⟨hk, hk.2⟩ : _ ∧ l ≠ m)))))))) (fun _ hk => hk.1.1)⟩, ⟨bel_⟩⟩
    replace H := bo_ H
    obtain ⟨bK, bf, H⟩ := H
    try dsimp only at H
    replace H := hf_ H
    rcases H with ⟨rfl, H⟩ | ⟨rfl, H⟩
    ·
     have H' := a_ H
     clear H
     have p263 : 0 ≤ (d : Int) := dq_
     have G : d < (c.length : Int) := dq_
     obtain ⟨aN, O, c263_1, aq, ah, P, ai, aj, ak, I, Q⟩ := at_T58 (Kd.N_reads' HO_100.out).2.2 d p263 G
     cases aq
     obtain ⟨ce263, hce263, hMe263, hcc263⟩ := Kd.N_get HO_100.out z58 d p263 (by first | exact G | exact dq_ | (have e_ := (Kd.N_reads' HO_100.out).1; omega))
     obtain ⟨ua263_1, uc263_1, rfl, y, z⟩ := k58_openF hMe263
     have s := hcc263 1 _ rfl
     rw [add_field _ _ 1 (by omega)] at s
     replace s := si_ (s.symm.trans P)
     injection s with hva_ hvn_ hvc_
     rw [hva_] at z
     rw [hvc_] at y
     have HL263_1 := a_ (show Kd.V (Kd.int .u64) 84 _ w.heap.size _ _ ((rd_T58 c d).f1) from Kd.V_mk y z)
     clear hva_ hvn_ hvc_ z y hcc263 hce263
     have U := a_ I
     clear Q I
     replace p263 := et_ p263
     replace G := et_ G
     go_wp2_with (first | ((with_reducible refine gate_dst (N := 14) rfl ?_); refine bxe_ (N := 14) (cs := #[.int .i64 0, .slice none 0 0, .int .i64 0, .int .i64 0, .int .i64 0]) (t := 58) ?_; intro m hg w37 hbox hb; replace HO_100 := a_ (Kd.N_below (Kd.N_elderB (vN_ HO_100.out) m (Nat.le_of_eq hg.symm)) hb); replace HL263_1 := a_ (vb_ (Kd.V_elderB (vV_ HL263_1.out) m (Nat.le_of_eq hg.symm)) hb); have x := a_ (hbox); have am := a_ (by rw [hg]; exact (bz_ bel_) : w.heap.size ≤ m); have aW := am; replace HB := hq_ hb; clear hb hbox hg; obtain ⟨_, _, _, _, _, _, _, _, _, _⟩ := cel5_ x.out) | (go_at_call 22; (with_reducible refine (dom_Dom_Has.calls ((rd_T58 c d).f0) _ _ ((rd_T58 c d).f1) ((rd_T58 c d).f2) ((rd_T58 c d).f3) ((rd_T58 c d).f4) Z false _ ?side1 ?side2 bf.out).mono ?_); (case side1 => repeat (first | exact ((Kd.V_reads' (by refine vV_ ?_; exact (vm_ (fV_ (fV_ (fV_ (fV_ (fV_ (vm_ HL263_1.out (fun l hk => (⟨hk, hk.2⟩ : _ ∧ l ≠ m)))))))) (fun _ h_ => h_.1)))).2.2) | (with_reducible refine Kd.C_alloc ?_ _) | (with_reducible refine Kd.C_drewN ?_ _) | (with_reducible refine Kd.C_drew ?_))); (case side2 => exact U.out); rintro e w39 ⟨rfl, hb⟩; replace HO_100 := a_ (Kd.N_below (by refine vN_ ?_; exact (nm_ (fN_ (fN_ (fN_ (fN_ (fN_ (nm_ HO_100.out (fun l hk => (⟨hk, hk.2⟩ : _ ∧ l ≠ m)))))))) (fun _ h_ => h_.1))) hb); replace HB := hq_ hb; clear hb))
     (try simp only [← u])
     go_roundg k2
     case measure => have := ae.out; have := ag.out; omega
     exact ⟨(af), (wrap64 (d + 1)), (c), eq_, eq_, H', ⟨by have := ae.out; have := ag.out; omega⟩, ⟨by (try simp only [u]); refine vN_ ?_; exact nm_ HO_100.out (fun _ hk => hk.1)⟩, ⟨bel_⟩⟩
    replace H := bo_ H
    obtain ⟨aO, bH, H⟩ := H
    try dsimp only at H
    by_cases c20 : aO > 1
    rotate_left
    ·
     rw [ig_ c20] at H
     have c20b0 : decide (1 < aO) = false := df_ c20
     clear c20
     have H' := a_ H
     clear H
     have p263 : 0 ≤ (d : Int) := dq_
     have G : d < (c.length : Int) := dq_
     obtain ⟨aN, O, c263_1, aq, ah, P, ai, aj, ak, I, Q⟩ := at_T58 (Kd.N_reads' HO_100.out).2.2 d p263 G
     cases aq
     obtain ⟨ce263, hce263, hMe263, hcc263⟩ := Kd.N_get HO_100.out z58 d p263 (by first | exact G | exact dq_ | (have e_ := (Kd.N_reads' HO_100.out).1; omega))
     obtain ⟨ua263_1, uc263_1, rfl, y, z⟩ := k58_openF hMe263
     have s := hcc263 1 _ rfl
     rw [add_field _ _ 1 (by omega)] at s
     replace s := si_ (s.symm.trans P)
     injection s with hva_ hvn_ hvc_
     rw [hva_] at z
     rw [hvc_] at y
     have HL263_1 := a_ (show Kd.V (Kd.int .u64) 84 _ w.heap.size _ _ ((rd_T58 c d).f1) from Kd.V_mk y z)
     clear hva_ hvn_ hvc_ z y hcc263 hce263
     have n := a_ Q
     have U := a_ I
     clear Q I
     replace p263 := et_ p263
     replace G := et_ G
     go_wp2_with (first | ((with_reducible refine gate_dst (N := 14) rfl ?_); refine bxe_ (N := 14) (cs := #[.int .i64 0, .slice none 0 0, .int .i64 0, .int .i64 0, .int .i64 0]) (t := 58) ?_; intro m hg w32 hbox hb; replace HO_100 := a_ (Kd.N_below (Kd.N_elderB (vN_ HO_100.out) m (Nat.le_of_eq hg.symm)) hb); replace HL263_1 := a_ (vb_ (Kd.V_elderB (vV_ HL263_1.out) m (Nat.le_of_eq hg.symm)) hb); replace n := a_ (cb_ (by repeat (first | (with_reducible exact n.out) | (with_reducible refine Kd.C_alloc ?_ _) | (with_reducible refine Kd.C_drewN ?_ _) | (with_reducible refine Kd.C_drew ?_) | exact n.out)) hb); have x := a_ (hbox); have am := a_ (by rw [hg]; exact (bz_ bel_) : w.heap.size ≤ m); have aW := am; replace HB := hq_ hb; clear hb hbox hg; obtain ⟨_, _, _, _, _, _, _, _, _, _⟩ := cel5_ x.out) | (go_at_call 22; (with_reducible refine (dom_Dom_Has.calls ((rd_T58 c d).f0) _ _ ((rd_T58 c d).f1) ((rd_T58 c d).f2) ((rd_T58 c d).f3) ((rd_T58 c d).f4) Z true _ ?side1 ?side2 bf.out).mono ?_); (case side1 => repeat (first | exact ((Kd.V_reads' (by refine vV_ ?_; exact (vm_ (fV_ (fV_ (fV_ (fV_ (fV_ (vm_ HL263_1.out (fun l hk => (⟨hk, hk.2⟩ : _ ∧ l ≠ m)))))))) (fun _ h_ => h_.1)))).2.2) | (with_reducible refine Kd.C_alloc ?_ _) | (with_reducible refine Kd.C_drewN ?_ _) | (with_reducible refine Kd.C_drew ?_))); (case side2 => exact U.out); rintro e w34 ⟨rfl, hb⟩; replace HO_100 := a_ (Kd.N_below (by refine vN_ ?_; exact (nm_ (fN_ (fN_ (fN_ (fN_ (fN_ (nm_ HO_100.out (fun l hk => (⟨hk, hk.2⟩ : _ ∧ l ≠ m)))))))) (fun _ h_ => h_.1))) hb); replace n := a_ (cb_ ((Kd.V_reads' (by refine vV_ ?_; exact (vm_ (fV_ (fV_ (fV_ (fV_ (fV_ (vm_ HL263_1.out (fun l hk => (⟨hk, hk.2⟩ : _ ∧ l ≠ m)))))))) (fun _ h_ => h_.1)))).2.2) hb); replace x := a_ (bb_ (g := m) (o := .cells #[.int .i64 ((rd_T58 c d).f0), .slice O ((rd_T58 c d).f1).length c263_1, .int .i64 ((rd_T58 c d).f2), .int .i64 ((rd_T58 c d).f3), .int .i64 ((rd_T58 c d).f4)] 58 (0, 0)) (by refine bk_ ?_; refine bu_ (cs := #[.int .i64 ((rd_T58 c d).f0), .slice O ((rd_T58 c d).f1).length c263_1, .int .i64 ((rd_T58 c d).f2), .int .i64 ((rd_T58 c d).f3), .int .i64 0]) ?_ 4 _ rfl; refine bk_ ?_; refine bu_ (cs := #[.int .i64 ((rd_T58 c d).f0), .slice O ((rd_T58 c d).f1).length c263_1, .int .i64 ((rd_T58 c d).f2), .int .i64 0, .int .i64 0]) ?_ 3 _ rfl; refine bk_ ?_; refine bu_ (cs := #[.int .i64 ((rd_T58 c d).f0), .slice O ((rd_T58 c d).f1).length c263_1, .int .i64 0, .int .i64 0, .int .i64 0]) ?_ 2 _ rfl; refine bk_ ?_; refine bu_ (cs := #[.int .i64 ((rd_T58 c d).f0), .slice none 0 0, .int .i64 0, .int .i64 0, .int .i64 0]) ?_ 1 _ rfl; refine bk_ ?_; refine bu_ (cs := #[.int .i64 0, .slice none 0 0, .int .i64 0, .int .i64 0, .int .i64 0]) ?_ 0 _ rfl; refine bk_ ?_; exact x.out) hb); replace HB := hq_ hb; clear hb; obtain ⟨_, _, _, _, _, _, _, _, _, _⟩ := cel5_ x.out) | (go_at_call 23; (with_reducible refine (dom_Dom_Size.calls ((rd_T58 c d).f0) _ _ ((rd_T58 c d).f1) ((rd_T58 c d).f2) ((rd_T58 c d).f3) ((rd_T58 c d).f4) aO _ ?side1 ?side2 bH.out).mono ?_); (case side1 => repeat (first | exact (by repeat (first | (with_reducible exact n.out) | (with_reducible refine Kd.C_alloc ?_ _) | (with_reducible refine Kd.C_drewN ?_ _) | (with_reducible refine Kd.C_drew ?_) | exact n.out)) | (with_reducible refine Kd.C_alloc ?_ _) | (with_reducible refine Kd.C_drewN ?_ _) | (with_reducible refine Kd.C_drew ?_))); (case side2 => exact U.out); rintro e w36 ⟨rfl, hb⟩; replace HO_100 := a_ (Kd.N_below (vN_ HO_100.out) hb); replace HB := hq_ hb; clear hb))
     (try simp only [← u])
     go_roundg k2
     case measure => have := ae.out; have := ag.out; omega
     exact ⟨(af), (wrap64 (d + 1)), (c), eq_, eq_, H', ⟨by have := ae.out; have := ag.out; omega⟩, ⟨by (try simp only [u]); refine vN_ ?_; exact nm_ HO_100.out (fun _ hk => hk.1)⟩, ⟨bel_⟩⟩
    rw [ip_ c20] at H
    have c20b0 : decide (1 < aO) = true := dt_ c20
    clear c20
    replace H := bs_.mp H
    obtain ⟨⟨ay, az, aA, aB, aC, bL⟩, bg, H⟩ := H
    try dsimp only at H
    have bQ := a_ bg
    clear bg
    obtain ⟨a7, av⟩ : ∃ y_ : List (S58), y_ = (c.set (d : Int).toNat (⟨ay, az, aA, aB, aC⟩ : S58)) := ⟨_, rfl⟩
    replace H : (gcc_one.l0 k2 Z a2 a3 aa true (F.length : Int) (wrap64 (d + 1)) a7) = some (r1, r2, r3) := h2_ H av
    have bE := a_ av
    clear av
    have H' := a_ H
    clear H
    have p263 : 0 ≤ (d : Int) := dq_
    have G : d < (c.length : Int) := dq_
    obtain ⟨aN, O, c263_1, aq, ah, P, ai, aj, ak, I, Q⟩ := at_T58 (Kd.N_reads' HO_100.out).2.2 d p263 G
    cases aq
    obtain ⟨ce263, hce263, hMe263, hcc263⟩ := Kd.N_get HO_100.out z58 d p263 (by first | exact G | exact dq_ | (have e_ := (Kd.N_reads' HO_100.out).1; omega))
    obtain ⟨ua263_1, uc263_1, rfl, y, z⟩ := k58_openF hMe263
    have s := hcc263 1 _ rfl
    rw [add_field _ _ 1 (by omega)] at s
    replace s := si_ (s.symm.trans P)
    injection s with hva_ hvn_ hvc_
    rw [hva_] at z
    rw [hvc_] at y
    have HL263_1 := a_ (show Kd.V (Kd.int .u64) 84 _ w.heap.size _ _ ((rd_T58 c d).f1) from Kd.V_mk y z)
    clear hva_ hvn_ hvc_ z y hcc263 hce263
    have n := a_ Q
    have U := a_ I
    clear Q I
    replace p263 := et_ p263
    replace G := et_ G
    go_wp2_with (first | ((with_reducible refine gate_dst (N := 14) rfl ?_); refine bxe_ (N := 14) (cs := #[.int .i64 0, .slice none 0 0, .int .i64 0, .int .i64 0, .int .i64 0]) (t := 58) ?_; intro m hg w23 hbox hb; replace HO_100 := a_ (Kd.N_below (Kd.N_elderB (vN_ HO_100.out) m (Nat.le_of_eq hg.symm)) hb); replace HL263_1 := a_ (vb_ (Kd.V_elderB (vV_ HL263_1.out) m (Nat.le_of_eq hg.symm)) hb); replace n := a_ (cb_ (by repeat (first | (with_reducible exact n.out) | (with_reducible refine Kd.C_alloc ?_ _) | (with_reducible refine Kd.C_drewN ?_ _) | (with_reducible refine Kd.C_drew ?_) | exact n.out)) hb); have x := a_ (hbox); have am := a_ (by rw [hg]; exact (bz_ bel_) : w.heap.size ≤ m); have aW := am; replace HB := hq_ hb; clear hb hbox hg; obtain ⟨_, _, _, _, _, _, _, _, _, _⟩ := cel5_ x.out) | (go_at_call 22; (with_reducible refine (dom_Dom_Has.calls ((rd_T58 c d).f0) _ _ ((rd_T58 c d).f1) ((rd_T58 c d).f2) ((rd_T58 c d).f3) ((rd_T58 c d).f4) Z true _ ?side1 ?side2 bf.out).mono ?_); (case side1 => repeat (first | exact ((Kd.V_reads' (by refine vV_ ?_; exact (vm_ (fV_ (fV_ (fV_ (fV_ (fV_ (vm_ HL263_1.out (fun l hk => (⟨hk, hk.2⟩ : _ ∧ l ≠ m)))))))) (fun _ h_ => h_.1)))).2.2) | (with_reducible refine Kd.C_alloc ?_ _) | (with_reducible refine Kd.C_drewN ?_ _) | (with_reducible refine Kd.C_drew ?_))); (case side2 => exact U.out); rintro e w25 ⟨rfl, hb⟩; replace HO_100 := a_ (Kd.N_below (by refine vN_ ?_; exact (nm_ (fN_ (fN_ (fN_ (fN_ (fN_ (nm_ HO_100.out (fun l hk => (⟨hk, hk.2⟩ : _ ∧ l ≠ m)))))))) (fun _ h_ => h_.1))) hb); replace n := a_ (cb_ ((Kd.V_reads' (by refine vV_ ?_; exact (vm_ (fV_ (fV_ (fV_ (fV_ (fV_ (vm_ HL263_1.out (fun l hk => (⟨hk, hk.2⟩ : _ ∧ l ≠ m)))))))) (fun _ h_ => h_.1)))).2.2) hb); replace HL263_1 := a_ (vb_ (by refine vV_ ?_; exact (vm_ (fV_ (fV_ (fV_ (fV_ (fV_ (vm_ HL263_1.out (fun l hk => (⟨hk, hk.2⟩ : _ ∧ l ≠ m)))))))) (fun _ h_ => h_.1))) hb); replace x := a_ (bb_ (g := m) (o := .cells #[.int .i64 ((rd_T58 c d).f0), .slice O ((rd_T58 c d).f1).length c263_1, .int .i64 ((rd_T58 c d).f2), .int .i64 ((rd_T58 c d).f3), .int .i64 ((rd_T58 c d).f4)] 58 (0, 0)) (by refine bk_ ?_; refine bu_ (cs := #[.int .i64 ((rd_T58 c d).f0), .slice O ((rd_T58 c d).f1).length c263_1, .int .i64 ((rd_T58 c d).f2), .int .i64 ((rd_T58 c d).f3), .int .i64 0]) ?_ 4 _ rfl; refine bk_ ?_; refine bu_ (cs := #[.int .i64 ((rd_T58 c d).f0), .slice O ((rd_T58 c d).f1).length c263_1, .int .i64 ((rd_T58 c d).f2), .int .i64 0, .int .i64 0]) ?_ 3 _ rfl; refine bk_ ?_; refine bu_ (cs := #[.int .i64 ((rd_T58 c d).f0), .slice O ((rd_T58 c d).f1).length c263_1, .int .i64 0, .int .i64 0, .int .i64 0]) ?_ 2 _ rfl; refine bk_ ?_; refine bu_ (cs := #[.int .i64 ((rd_T58 c d).f0), .slice none 0 0, .int .i64 0, .int .i64 0, .int .i64 0]) ?_ 1 _ rfl; refine bk_ ?_; refine bu_ (cs := #[.int .i64 0, .slice none 0 0, .int .i64 0, .int .i64 0, .int .i64 0]) ?_ 0 _ rfl; refine bk_ ?_; exact x.out) hb); replace HB := hq_ hb; clear hb; obtain ⟨_, _, _, _, _, _, _, _, _, _⟩ := cel5_ x.out) | (go_at_call 23; (with_reducible refine (dom_Dom_Size.calls ((rd_T58 c d).f0) _ _ ((rd_T58 c d).f1) ((rd_T58 c d).f2) ((rd_T58 c d).f3) ((rd_T58 c d).f4) aO _ ?side1 ?side2 bH.out).mono ?_); (case side1 => repeat (first | exact (by repeat (first | (with_reducible exact n.out) | (with_reducible refine Kd.C_alloc ?_ _) | (with_reducible refine Kd.C_drewN ?_ _) | (with_reducible refine Kd.C_drew ?_) | exact n.out)) | (with_reducible refine Kd.C_alloc ?_ _) | (with_reducible refine Kd.C_drewN ?_ _) | (with_reducible refine Kd.C_drew ?_))); (case side2 => exact U.out); rintro e w27 ⟨rfl, hb⟩; replace HO_100 := a_ (Kd.N_below (vN_ HO_100.out) hb); replace HL263_1 := a_ (vb_ (vV_ HL263_1.out) hb); replace n := a_ (cb_ (by repeat (first | (with_reducible exact n.out) | (with_reducible refine Kd.C_alloc ?_ _) | (with_reducible refine Kd.C_drewN ?_ _) | (with_reducible refine Kd.C_drew ?_) | exact n.out)) hb); replace x := a_ (bq_ x.out hb); replace HB := hq_ hb; clear hb; obtain ⟨_, _, _, _, _, _, _, _, _, _⟩ := cel5_ x.out) | ((with_reducible refine gate_callee (f := 59) rfl ?_); refine goesL_ (some 56) rfl rfl Tryz.func59 kr_ rfl #[.agg #[.int .i64 ((rd_T58 c d).f0), .slice O ((rd_T58 c d).f1).length c263_1, .int .i64 ((rd_T58 c d).f2), .int .i64 ((rd_T58 c d).f3), .int .i64 ((rd_T58 c d).f4)], .int .i64 Z] rfl ar_ ?_; (with_reducible refine (dom_Dom_Without.calls k2 ((rd_T58 c d).f0) _ _ ((rd_T58 c d).f1) ((rd_T58 c d).f2) ((rd_T58 c d).f3) ((rd_T58 c d).f4) Z ay az aA aB aC bL _ ?side1 ?side2 ?side3 bQ.out).mono ?_); (case side1 => repeat (first | exact (by repeat (first | (with_reducible exact n.out) | (with_reducible refine Kd.C_alloc ?_ _) | (with_reducible refine Kd.C_drewN ?_ _) | (with_reducible refine Kd.C_drew ?_) | exact n.out)) | (with_reducible refine Kd.C_alloc ?_ _) | (with_reducible refine Kd.C_drewN ?_ _) | (with_reducible refine Kd.C_drew ?_))); (case side2 => exact U.out); (case side3 => exact ca_ ((cb_ HRtab.out HB.out))); rintro e w29 ⟨b7, rfl, aP, hb⟩; refine ⟨_, rfl, ?_⟩; obtain ⟨Ao_v269, co_v269, ev_⟩ := Kd.V_slice aP; subst ev_; replace HL263_1 := a_ (vb_ (vV_ HL263_1.out) hb); have a9 := a_ (Kd.V_lower (vm_ (ok' := fun l => (P0_ l ∨ w.heap.size ≤ l) ∧ some l ≠ (.slice (some aN) c.length Y : Value).ownBlock ∧ l ≠ m) aP (fun l hk_ => ⟨(.inr (Nat.le_trans (bz_ bel_) hk_)), (fr_ (Kd.N_lt (vN_ HO_100.out)) l hk_), (Kd.freshB (bk_ x.out) l hk_)⟩)) (bz_ bel_)); replace HO_100 := a_ (Kd.N_below (vN_ HO_100.out) hb); replace n := a_ (cb_ (by repeat (first | (with_reducible exact n.out) | (with_reducible refine Kd.C_alloc ?_ _) | (with_reducible refine Kd.C_drewN ?_ _) | (with_reducible refine Kd.C_drew ?_) | exact n.out)) hb); replace x := a_ (bq_ x.out hb); replace HB := hq_ hb; clear hb aP; have p22 : 0 ≤ (d : Int) := dq_; have aY : (d : Int) < ((c.length : Int) : Int) := dq_; obtain ⟨go22, b8, bh, bi, gl22, cl22, HG22⟩ := Kd.N_form HO_100.out (by omega); (first | cases bh | (injection bh with ea_ en_ ec_; (first | subst ea_ | (injection ea_ with ea_; subst ea_)); subst ec_; clear en_)); have GB22 := a_ bi; have GG22 := a_ HG22; clear bi gl22 HG22; (first | simp only [add_plain] at ah | skip); (first | simp only [add_plain] at P | skip); (first | simp only [add_plain] at ai | skip); (first | simp only [add_plain] at aj | skip); (first | simp only [add_plain] at ak | skip); obtain ⟨ce22, hcl22, hM22, hcc22, hfr22⟩ := Kd.N_elem HO_100.out z58 (d : Int) p22 aY; obtain ⟨ua22_1, uc22_1, rfl, bR, bS⟩ := k58_openF hM22; have bj : w29.cell? ⟨go22, (d : Int).toNat * 5, none⟩ = some (.int .i64 ((rd_T58 c d).f0)) := hcc22 0 _ rfl; have bk : w29.cell? ⟨go22, (d : Int).toNat * 5 + 1, none⟩ = some (.slice ua22_1 ((rd_T58 c d).f1).length uc22_1) := hcc22 1 _ rfl; have bl : w29.cell? ⟨go22, (d : Int).toNat * 5 + 2, none⟩ = some (.int .i64 ((rd_T58 c d).f2)) := hcc22 2 _ rfl; have bm : w29.cell? ⟨go22, (d : Int).toNat * 5 + 3, none⟩ = some (.int .i64 ((rd_T58 c d).f3)) := hcc22 3 _ rfl; have bn : w29.cell? ⟨go22, (d : Int).toNat * 5 + 4, none⟩ = some (.int .i64 ((rd_T58 c d).f4)) := hcc22 4 _ rfl; have hf22_0 : w29.frozen? ⟨go22, (d : Int).toNat * 5, none⟩ = false := hfr22 0; have hf22_1 : w29.frozen? ⟨go22, (d : Int).toNat * 5 + 1, none⟩ = false := hfr22 1; have hf22_2 : w29.frozen? ⟨go22, (d : Int).toNat * 5 + 2, none⟩ = false := hfr22 2; have hf22_3 : w29.frozen? ⟨go22, (d : Int).toNat * 5 + 3, none⟩ = false := hfr22 3; have hf22_4 : w29.frozen? ⟨go22, (d : Int).toNat * 5 + 4, none⟩ = false := hfr22 4; clear hcl22 hcc22 hfr22 hM22; replace p22 := et_ p22; replace aY := et_ aY; have bo := a_ (show Kd.N k58 58 w29 w.heap.size (fun l => (P0_ l ∨ w.heap.size ≤ l) ∧ l ≠ m) (.slice (some ⟨go22, 0, none⟩) c.length Y) c from (vN_ HO_100.out)); obtain ⟨ce30, hcl30, hM30, hcc30, hfr30⟩ := Kd.N_elem bo.out z58 (d : Int) (dq_) (by have h_ : (d : Int) < ((c.length : Int) : Int) := dq_; first | exact h_ | (have e_ := (Kd.N_reads' HO_100.out).1; omega) | simpa using h_); obtain ⟨ua30_1, uc30_1, rfl, bT, bU⟩ := k58_openF hM30; have HP30 := Kd.N_seg bo.out (d : Int) (dq_) (by have h_ : (d : Int) < ((c.length : Int) : Int) := dq_; first | exact h_ | (have e_ := (Kd.N_reads' HO_100.out).1; omega) | simpa using h_) (seg := [.int .i64 ay, (.slice Ao_v269 az.length co_v269), .int .i64 aA, .int .i64 aB, .int .i64 aC]) (j := 0) hcl30 hcc30 (show 5 ≤ 5 from by decide) (x' := (⟨ay, az, aA, aB, aC⟩ : S58)) (k58_mkF _ _ (⟨ay, az, aA, aB, aC⟩ : S58) (Kd.V_reads' (vm_ (ok' := (fun l => ((fun l => (P0_ l ∨ w.heap.size ≤ l) ∧ l ≠ m)) l ∧ l ≠ go22)) (a9.out) (fun l hk => ⟨⟨hk.1, hk.2.2⟩, fun e_ => (hk.2.1) (by rw [e_]; rfl)⟩))).2.1 (Kd.V_F (vm_ (ok' := (fun l => ((fun l => (P0_ l ∨ w.heap.size ≤ l) ∧ l ≠ m)) l ∧ l ≠ go22)) (a9.out) (fun l hk => ⟨⟨hk.1, hk.2.2⟩, fun e_ => (hk.2.1) (by rw [e_]; rfl)⟩)))) (fun _ hk => hk); have aZ := hcc30 0 _ rfl; (try simp only [show (k58).sz = 5 from rfl, Nat.mul_one, Nat.add_zero] at aZ); have hf30_0 := hfr30 0; (try simp only [show (k58).sz = 5 from rfl, Nat.mul_one, Nat.add_zero] at hf30_0); have a0 := hcc30 1 _ rfl; (try simp only [show (k58).sz = 5 from rfl, Nat.mul_one, Nat.add_zero] at a0); have hf30_1 := hfr30 1; (try simp only [show (k58).sz = 5 from rfl, Nat.mul_one, Nat.add_zero] at hf30_1); have a4 := hcc30 2 _ rfl; (try simp only [show (k58).sz = 5 from rfl, Nat.mul_one, Nat.add_zero] at a4); have hf30_2 := hfr30 2; (try simp only [show (k58).sz = 5 from rfl, Nat.mul_one, Nat.add_zero] at hf30_2); have a5 := hcc30 3 _ rfl; (try simp only [show (k58).sz = 5 from rfl, Nat.mul_one, Nat.add_zero] at a5); have hf30_3 := hfr30 3; (try simp only [show (k58).sz = 5 from rfl, Nat.mul_one, Nat.add_zero] at hf30_3); have a6 := hcc30 4 _ rfl; (try simp only [show (k58).sz = 5 from rfl, Nat.mul_one, Nat.add_zero] at a6); have hf30_4 := hfr30 4; (try simp only [show (k58).sz = 5 from rfl, Nat.mul_one, Nat.add_zero] at hf30_4); clear hcl30 hcc30 hfr30 hM30) | ((with_reducible refine gate_store (t := 58) (p := 59) rfl ?_); refine store_event (t := 58) (p := 59) (v := ?vo_w31) (w1 := (((((w29.setCell ⟨go22, (d : Int).toNat * 5, none⟩ (.int .i64 ay)).setCell ⟨go22, (d : Int).toNat * 5 + 1, none⟩ ((.slice Ao_v269 az.length co_v269))).setCell ⟨go22, (d : Int).toNat * 5 + 2, none⟩ (.int .i64 aA)).setCell ⟨go22, (d : Int).toNat * 5 + 3, none⟩ (.int .i64 aB)).setCell ⟨go22, (d : Int).toNat * 5 + 4, none⟩ (.int .i64 aC))) ?hg ?ho ?hn ?hr ?_; (case ho => rfl); (case hg => rfl); (case hn => rfl); (case hr => first | (go_simp; done) | (go_simp; rfl)); intro w31 hw; have hg : w29.grownBy w31 (some go22) := (by rw [hw]; exact HP30.2); have hp_ : Kd.N k58 58 w31 w.heap.size (fun l => (P0_ l ∨ w.heap.size ≤ l) ∧ l ≠ m) (.slice (some ⟨go22, 0, none⟩) c.length Y) a7 := (by rw [hw, bE.out]; exact HP30.1); clear HP30; replace HL263_1 := a_ (Kd.V_afterv (v := (.slice (some ⟨go22, 0, none⟩) c.length Y)) (v1 := (.slice (some ⟨go22, 0, none⟩) c.length Y)) (ok := (fun l => (P0_ l ∨ w.heap.size ≤ l) ∧ l ≠ m)) (by refine vV_ ?_; exact vm_ HL263_1.out (fun _ hk => ⟨⟨hk.1.1, hk.2⟩, hk.1.2⟩)) hg (.inl rfl)); replace x := a_ (blk_grown (bk_ x.out) hg (Kd.N_away HO_100.out (fun _ hk => hk.2))); replace HO_100 := a_ (hp_); replace HB := a_ ((by rw [hw]; exact below_set (below_set (below_set (below_set (below_set (HB.out) GB22.out) GB22.out) GB22.out) GB22.out) GB22.out : Below w.heap.size w w31)); clear hg hw hp_))
    (try simp only [← u])
    go_roundg k2
    case measure => have := ae.out; have := ag.out; omega
    exact ⟨(true), (wrap64 (d + 1)), (a7), eq_, eq_, H', ⟨by have := ae.out; have := ag.out; omega⟩, ⟨by (try simp only [u]); refine vN_ ?_; exact nm_ HO_100.out (fun _ hk => hk.1)⟩, ⟨bel_⟩⟩
   rw [ig_ c13] at H
   have c13b0 : decide (d < (F.length : Int)) = false := df_ c13
   (try (have c13b0q := c13b0; simp only [u] at c13b0q))
   (try (have c13b0q := c13b0; simp only [u] at c13b0q))
   clear c13
   replace H := bs_.mp H
   obtain ⟨⟨bp, an⟩, bq, H⟩ := H
   try dsimp only at H
   have bI := a_ bq
   clear bq
   by_cases c43 : an > a2
   ·
    rw [ip_ c43] at H
    have c43b0 : decide (a2 < an) = true := dt_ c43
    clear c43
    simp only [Option.some.injEq, Prod.mk.injEq] at H
    obtain ⟨rfl, rfl, rfl⟩ := H
    go_wp2_with (first | ((with_reducible refine gate_callee (f := 58) rfl ?_); refine goesL_ (some 64) rfl rfl Tryz.func58 kr_ rfl #[.slice ar c.length Y, .int .i64 Z] rfl ar_ ?_; (with_reducible refine (gcc_counts.calls k2 _ _ c Z bp an _ ?_ ?_ bI.out).mono ?_); exact ca_ ((Kd.N_reads' HO_100.out).2.2); exact (Kd.N_reads' HO_100.out).2.1; rintro e w44 ⟨rfl, hb⟩; refine ⟨_, rfl, ?_⟩; replace HO_100 := a_ (Kd.N_below (vN_ HO_100.out) hb); replace HB := hq_ hb; clear hb))
    go_ret2
    exact ⟨er_, by rw [u]; refine vN_ ?_; exact HO_100.out, bel_⟩
   rw [ig_ c43] at H
   have c43b0 : decide (a2 < an) = false := df_ c43
   clear c43
   have H' := a_ H
   clear H
   go_wp2_with (first | ((with_reducible refine gate_callee (f := 58) rfl ?_); refine goesL_ (some 64) rfl rfl Tryz.func58 kr_ rfl #[.slice ar c.length Y, .int .i64 Z] rfl ar_ ?_; (with_reducible refine (gcc_counts.calls k2 _ _ c Z bp an _ ?_ ?_ bI.out).mono ?_); exact ca_ ((Kd.N_reads' HO_100.out).2.2); exact (Kd.N_reads' HO_100.out).2.1; rintro e w45 ⟨rfl, hb⟩; refine ⟨_, rfl, ?_⟩; replace HO_100 := a_ (Kd.N_below (vN_ HO_100.out) hb); replace HB := hq_ hb; clear hb))
   go_loopg [12, 73] k2 (fun kq be bV w' => ∃ (ao : Bool) (a : Int) (b : List (S58)), be = .bool ao ∧ bV = .int .i64 a ∧ Aside0 (gcc_one.l1 kq Z a2 an ao (c.length : Int) a b = some (r1, r2, r3)) ∧ Aside0 (kq ≤ k2) ∧ Aside0 (Kd.N k58 58 w' w.heap.size (fun l => (P0_ l ∨ w.heap.size ≤ l)) (.slice ar c.length Y) b) ∧ Aside0 (Below w.heap.size w w'))
   case atStart => exact ⟨(af), (0), (c), eq_, eq_, H', ⟨lr_ _⟩, ⟨by (try simp only [u]); refine vN_ ?_; exact HO_100.out⟩, ⟨bel_⟩⟩
   clear H'
   try clear c1
   try clear c2
   try clear p2
   try clear q2
   try clear ce
   try clear c3
   try clear cf
   try clear c4
   try clear c5
   try clear p6
   try clear c11
   try clear c11b0
   try clear c12
   try clear c13
   try clear c13b0
   try clear c14
   try clear c14b0
   try clear c15
   try clear c15b0
   try clear c16
   try clear c16b0
   try clear c16b1
   try clear c18
   try clear c20
   try clear c20b0
   try clear c22
   try clear p22
   try clear aY
   try clear b9
   try clear hf22
   try clear c26
   try clear p26
   try clear cg
   try clear ca
   try clear c28
   try clear c29
   try clear c30
   try clear cb
   try clear hf30
   try clear c43
   try clear c43b0
   try clear bj
   try clear bk
   try clear bl
   try clear bm
   try clear bn
   try clear ah
   try clear P
   try clear ai
   try clear aj
   try clear ak
   try clear aZ
   try clear a0
   try clear a4
   try clear a5
   try clear a6
   try clear p2
   try clear p22
   try clear p263
   try clear aY
   try clear G
   obtain ⟨ao, a, b, rfl, rfl, HA, aV, HO_100, HB⟩ := hrel
   have J := (Kd.N_reads' HO_100.out).1
   rw [J] at HO_100
   (try simp only [J])
   cases gk with
   | zero => exact absurd HA.out (by simp [gcc_one.l1])
   | succ k3 =>
    have H := HA.out
    clear HA
    simp only [gcc_one.l1] at H
    by_cases c46 : a < (c.length : Int)
    rotate_left
    ·
     rw [ig_ c46] at H
     have c46b0 : decide (a < (c.length : Int)) = false := df_ c46
     (try (have c46b0q := c46b0; simp only [J] at c46b0q))
     (try (have c46b0q := c46b0; simp only [J] at c46b0q))
     clear c46
     simp only [Option.some.injEq, Prod.mk.injEq] at H
     obtain ⟨rfl, rfl, rfl⟩ := H
     go_wp2
     go_ret2
     exact ⟨er_, by rw [u, J]; refine vN_ ?_; exact HO_100.out, bel_⟩
    rw [ip_ c46] at H
    have c46b0 : decide (a < (c.length : Int)) = true := dt_ c46
    clear c46
    replace H := gu_ H
    obtain ⟨c47b0, H⟩ := H
    replace H := gu_ H
    obtain ⟨c48b0, H⟩ := H
    replace H := bo_ H
    obtain ⟨bM, br, H⟩ := H
    try dsimp only at H
    replace H := hf_ H
    rcases H with ⟨rfl, H⟩ | ⟨rfl, H⟩
    ·
     have H' := a_ H
     clear H
     have p278 : 0 ≤ (a : Int) := dq_
     have ab : a < (b.length : Int) := dq_
     obtain ⟨aX, E, c278_1, aR, aI, ad, aJ, aK, aL, W, ac⟩ := at_T58 (Kd.N_reads' HO_100.out).2.2 a p278 ab
     cases aR
     obtain ⟨ce278, hce278, hMe278, hcc278⟩ := Kd.N_get HO_100.out z58 a p278 (by first | exact ab | exact dq_ | (have e_ := (Kd.N_reads' HO_100.out).1; omega))
     obtain ⟨ua278_1, uc278_1, rfl, K, M⟩ := k58_openF hMe278
     have A := hcc278 1 _ rfl
     rw [add_field _ _ 1 (by omega)] at A
     replace A := si_ (A.symm.trans ad)
     injection A with hva_ hvn_ hvc_
     rw [hva_] at M
     rw [hvc_] at K
     have HL278_1 := a_ (show Kd.V (Kd.int .u64) 84 _ w.heap.size _ _ ((rd_T58 b a).f1) from Kd.V_mk K M)
     clear hva_ hvn_ hvc_ M K hcc278 hce278
     have X := a_ W
     clear ac W
     replace p278 := et_ p278
     replace ab := et_ ab
     go_wp2_with (first | ((with_reducible refine gate_dst (N := 16) rfl ?_); refine bxe_ (N := 16) (cs := #[.int .i64 0, .slice none 0 0, .int .i64 0, .int .i64 0, .int .i64 0]) (t := 58) ?_; intro r hg w69 hbox hb; replace HO_100 := a_ (Kd.N_below (Kd.N_elderB (vN_ HO_100.out) r (Nat.le_of_eq hg.symm)) hb); replace HL278_1 := a_ (vb_ (Kd.V_elderB (vV_ HL278_1.out) r (Nat.le_of_eq hg.symm)) hb); have B := a_ (hbox); have ax := a_ (by rw [hg]; exact (bz_ bel_) : w.heap.size ≤ r); have ba := ax; replace HB := hq_ hb; clear hb hbox hg; obtain ⟨_, _, _, _, _, _, _, _, _, _⟩ := cel5_ B.out) | ((with_reducible refine gate_callee (f := 22) rfl ?_); refine goesL_ (some 80) rfl rfl Tryz.func22 kr_ rfl #[.agg #[.int .i64 ((rd_T58 b a).f0), .slice E ((rd_T58 b a).f1).length c278_1, .int .i64 ((rd_T58 b a).f2), .int .i64 ((rd_T58 b a).f3), .int .i64 ((rd_T58 b a).f4)], .int .i64 Z] rfl ar_ ?_; (with_reducible refine (dom_Dom_Has.calls ((rd_T58 b a).f0) _ _ ((rd_T58 b a).f1) ((rd_T58 b a).f2) ((rd_T58 b a).f3) ((rd_T58 b a).f4) Z false _ ?side1 ?side2 br.out).mono ?_); (case side1 => repeat (first | exact ((Kd.V_reads' (by refine vV_ ?_; exact (vm_ (fV_ (fV_ (fV_ (fV_ (fV_ (vm_ HL278_1.out (fun l hk => (⟨hk, hk.2⟩ : _ ∧ l ≠ r)))))))) (fun _ h_ => h_.1)))).2.2) | (with_reducible refine Kd.C_alloc ?_ _) | (with_reducible refine Kd.C_drewN ?_ _) | (with_reducible refine Kd.C_drew ?_))); (case side2 => exact X.out); rintro e w71 ⟨rfl, hb⟩; refine ⟨_, rfl, ?_⟩; replace HO_100 := a_ (Kd.N_below (by refine vN_ ?_; exact (nm_ (fN_ (fN_ (fN_ (fN_ (fN_ (nm_ HO_100.out (fun l hk => (⟨hk, hk.2⟩ : _ ∧ l ≠ r)))))))) (fun _ h_ => h_.1))) hb); replace HB := hq_ hb; clear hb))
     (try simp only [← J])
     go_roundg k3
     case measure => have := ae.out; have := ag.out; have := aV.out; omega
     exact ⟨(ao), (wrap64 (a + 1)), (b), eq_, eq_, H', ⟨by have := ae.out; have := ag.out; have := aV.out; omega⟩, ⟨by (try simp only [u]); (try simp only [J]); refine vN_ ?_; exact nm_ HO_100.out (fun _ hk => hk.1)⟩, ⟨bel_⟩⟩
    replace H := bo_ H
    obtain ⟨aQ, bJ, H⟩ := H
    try dsimp only at H
    by_cases c52 : aQ > 1
    rotate_left
    ·
     rw [ig_ c52] at H
     have c52b0 : decide (1 < aQ) = false := df_ c52
     clear c52
     have H' := a_ H
     clear H
     have p278 : 0 ≤ (a : Int) := dq_
     have ab : a < (b.length : Int) := dq_
     obtain ⟨aX, E, c278_1, aR, aI, ad, aJ, aK, aL, W, ac⟩ := at_T58 (Kd.N_reads' HO_100.out).2.2 a p278 ab
     cases aR
     obtain ⟨ce278, hce278, hMe278, hcc278⟩ := Kd.N_get HO_100.out z58 a p278 (by first | exact ab | exact dq_ | (have e_ := (Kd.N_reads' HO_100.out).1; omega))
     obtain ⟨ua278_1, uc278_1, rfl, K, M⟩ := k58_openF hMe278
     have A := hcc278 1 _ rfl
     rw [add_field _ _ 1 (by omega)] at A
     replace A := si_ (A.symm.trans ad)
     injection A with hva_ hvn_ hvc_
     rw [hva_] at M
     rw [hvc_] at K
     have HL278_1 := a_ (show Kd.V (Kd.int .u64) 84 _ w.heap.size _ _ ((rd_T58 b a).f1) from Kd.V_mk K M)
     clear hva_ hvn_ hvc_ M K hcc278 hce278
     have q := a_ ac
     have X := a_ W
     clear ac W
     replace p278 := et_ p278
     replace ab := et_ ab
     go_wp2_with (first | ((with_reducible refine gate_dst (N := 16) rfl ?_); refine bxe_ (N := 16) (cs := #[.int .i64 0, .slice none 0 0, .int .i64 0, .int .i64 0, .int .i64 0]) (t := 58) ?_; intro r hg w64 hbox hb; replace HO_100 := a_ (Kd.N_below (Kd.N_elderB (vN_ HO_100.out) r (Nat.le_of_eq hg.symm)) hb); replace HL278_1 := a_ (vb_ (Kd.V_elderB (vV_ HL278_1.out) r (Nat.le_of_eq hg.symm)) hb); replace q := a_ (cb_ (by repeat (first | (with_reducible exact q.out) | (with_reducible refine Kd.C_alloc ?_ _) | (with_reducible refine Kd.C_drewN ?_ _) | (with_reducible refine Kd.C_drew ?_) | exact q.out)) hb); have B := a_ (hbox); have ax := a_ (by rw [hg]; exact (bz_ bel_) : w.heap.size ≤ r); have ba := ax; replace HB := hq_ hb; clear hb hbox hg; obtain ⟨_, _, _, _, _, _, _, _, _, _⟩ := cel5_ B.out) | ((with_reducible refine gate_callee (f := 22) rfl ?_); refine goesL_ (some 80) rfl rfl Tryz.func22 kr_ rfl #[.agg #[.int .i64 ((rd_T58 b a).f0), .slice E ((rd_T58 b a).f1).length c278_1, .int .i64 ((rd_T58 b a).f2), .int .i64 ((rd_T58 b a).f3), .int .i64 ((rd_T58 b a).f4)], .int .i64 Z] rfl ar_ ?_; (with_reducible refine (dom_Dom_Has.calls ((rd_T58 b a).f0) _ _ ((rd_T58 b a).f1) ((rd_T58 b a).f2) ((rd_T58 b a).f3) ((rd_T58 b a).f4) Z true _ ?side1 ?side2 br.out).mono ?_); (case side1 => repeat (first | exact ((Kd.V_reads' (by refine vV_ ?_; exact (vm_ (fV_ (fV_ (fV_ (fV_ (fV_ (vm_ HL278_1.out (fun l hk => (⟨hk, hk.2⟩ : _ ∧ l ≠ r)))))))) (fun _ h_ => h_.1)))).2.2) | (with_reducible refine Kd.C_alloc ?_ _) | (with_reducible refine Kd.C_drewN ?_ _) | (with_reducible refine Kd.C_drew ?_))); (case side2 => exact X.out); rintro e w66 ⟨rfl, hb⟩; refine ⟨_, rfl, ?_⟩; replace HO_100 := a_ (Kd.N_below (by refine vN_ ?_; exact (nm_ (fN_ (fN_ (fN_ (fN_ (fN_ (nm_ HO_100.out (fun l hk => (⟨hk, hk.2⟩ : _ ∧ l ≠ r)))))))) (fun _ h_ => h_.1))) hb); replace q := a_ (cb_ ((Kd.V_reads' (by refine vV_ ?_; exact (vm_ (fV_ (fV_ (fV_ (fV_ (fV_ (vm_ HL278_1.out (fun l hk => (⟨hk, hk.2⟩ : _ ∧ l ≠ r)))))))) (fun _ h_ => h_.1)))).2.2) hb); replace B := a_ (bb_ (g := r) (o := .cells #[.int .i64 ((rd_T58 b a).f0), .slice E ((rd_T58 b a).f1).length c278_1, .int .i64 ((rd_T58 b a).f2), .int .i64 ((rd_T58 b a).f3), .int .i64 ((rd_T58 b a).f4)] 58 (0, 0)) (by refine bk_ ?_; refine bu_ (cs := #[.int .i64 ((rd_T58 b a).f0), .slice E ((rd_T58 b a).f1).length c278_1, .int .i64 ((rd_T58 b a).f2), .int .i64 ((rd_T58 b a).f3), .int .i64 0]) ?_ 4 _ rfl; refine bk_ ?_; refine bu_ (cs := #[.int .i64 ((rd_T58 b a).f0), .slice E ((rd_T58 b a).f1).length c278_1, .int .i64 ((rd_T58 b a).f2), .int .i64 0, .int .i64 0]) ?_ 3 _ rfl; refine bk_ ?_; refine bu_ (cs := #[.int .i64 ((rd_T58 b a).f0), .slice E ((rd_T58 b a).f1).length c278_1, .int .i64 0, .int .i64 0, .int .i64 0]) ?_ 2 _ rfl; refine bk_ ?_; refine bu_ (cs := #[.int .i64 ((rd_T58 b a).f0), .slice none 0 0, .int .i64 0, .int .i64 0, .int .i64 0]) ?_ 1 _ rfl; refine bk_ ?_; refine bu_ (cs := #[.int .i64 0, .slice none 0 0, .int .i64 0, .int .i64 0, .int .i64 0]) ?_ 0 _ rfl; refine bk_ ?_; exact B.out) hb); replace HB := hq_ hb; clear hb; obtain ⟨_, _, _, _, _, _, _, _, _, _⟩ := cel5_ B.out) | (go_at_call 23; (with_reducible refine (dom_Dom_Size.calls ((rd_T58 b a).f0) _ _ ((rd_T58 b a).f1) ((rd_T58 b a).f2) ((rd_T58 b a).f3) ((rd_T58 b a).f4) aQ _ ?side1 ?side2 bJ.out).mono ?_); (case side1 => repeat (first | exact (by repeat (first | (with_reducible exact q.out) | (with_reducible refine Kd.C_alloc ?_ _) | (with_reducible refine Kd.C_drewN ?_ _) | (with_reducible refine Kd.C_drew ?_) | exact q.out)) | (with_reducible refine Kd.C_alloc ?_ _) | (with_reducible refine Kd.C_drewN ?_ _) | (with_reducible refine Kd.C_drew ?_))); (case side2 => exact X.out); rintro e w68 ⟨rfl, hb⟩; replace HO_100 := a_ (Kd.N_below (vN_ HO_100.out) hb); replace HB := hq_ hb; clear hb))
     (try simp only [← J])
     go_roundg k3
     case measure => have := ae.out; have := ag.out; have := aV.out; omega
     exact ⟨(ao), (wrap64 (a + 1)), (b), eq_, eq_, H', ⟨by have := ae.out; have := ag.out; have := aV.out; omega⟩, ⟨by (try simp only [u]); (try simp only [J]); refine vN_ ?_; exact nm_ HO_100.out (fun _ hk => hk.1)⟩, ⟨bel_⟩⟩
    rw [ip_ c52] at H
    have c52b0 : decide (1 < aQ) = true := dt_ c52
    clear c52
    replace H := bs_.mp H
    obtain ⟨⟨aD, aE, aF, aG, aH, bN⟩, bs, H⟩ := H
    try dsimp only at H
    have bW := a_ bs
    clear bs
    obtain ⟨a8, aw⟩ : ∃ y_ : List (S58), y_ = (b.set (a : Int).toNat (⟨aD, aE, aF, aG, aH⟩ : S58)) := ⟨_, rfl⟩
    replace H : (gcc_one.l1 k3 Z a2 an true (c.length : Int) (wrap64 (a + 1)) a8) = some (r1, r2, r3) := h2_ H aw
    have bF := a_ aw
    clear aw
    have H' := a_ H
    clear H
    have p278 : 0 ≤ (a : Int) := dq_
    have ab : a < (b.length : Int) := dq_
    obtain ⟨aX, E, c278_1, aR, aI, ad, aJ, aK, aL, W, ac⟩ := at_T58 (Kd.N_reads' HO_100.out).2.2 a p278 ab
    cases aR
    obtain ⟨ce278, hce278, hMe278, hcc278⟩ := Kd.N_get HO_100.out z58 a p278 (by first | exact ab | exact dq_ | (have e_ := (Kd.N_reads' HO_100.out).1; omega))
    obtain ⟨ua278_1, uc278_1, rfl, K, M⟩ := k58_openF hMe278
    have A := hcc278 1 _ rfl
    rw [add_field _ _ 1 (by omega)] at A
    replace A := si_ (A.symm.trans ad)
    injection A with hva_ hvn_ hvc_
    rw [hva_] at M
    rw [hvc_] at K
    have HL278_1 := a_ (show Kd.V (Kd.int .u64) 84 _ w.heap.size _ _ ((rd_T58 b a).f1) from Kd.V_mk K M)
    clear hva_ hvn_ hvc_ M K hcc278 hce278
    have q := a_ ac
    have X := a_ W
    clear ac W
    replace p278 := et_ p278
    replace ab := et_ ab
    go_wp2_with (first | ((with_reducible refine gate_dst (N := 16) rfl ?_); refine bxe_ (N := 16) (cs := #[.int .i64 0, .slice none 0 0, .int .i64 0, .int .i64 0, .int .i64 0]) (t := 58) ?_; intro r hg w55 hbox hb; replace HO_100 := a_ (Kd.N_below (Kd.N_elderB (vN_ HO_100.out) r (Nat.le_of_eq hg.symm)) hb); replace HL278_1 := a_ (vb_ (Kd.V_elderB (vV_ HL278_1.out) r (Nat.le_of_eq hg.symm)) hb); replace q := a_ (cb_ (by repeat (first | (with_reducible exact q.out) | (with_reducible refine Kd.C_alloc ?_ _) | (with_reducible refine Kd.C_drewN ?_ _) | (with_reducible refine Kd.C_drew ?_) | exact q.out)) hb); have B := a_ (hbox); have ax := a_ (by rw [hg]; exact (bz_ bel_) : w.heap.size ≤ r); have ba := ax; replace HB := hq_ hb; clear hb hbox hg; obtain ⟨_, _, _, _, _, _, _, _, _, _⟩ := cel5_ B.out) | ((with_reducible refine gate_callee (f := 22) rfl ?_); refine goesL_ (some 80) rfl rfl Tryz.func22 kr_ rfl #[.agg #[.int .i64 ((rd_T58 b a).f0), .slice E ((rd_T58 b a).f1).length c278_1, .int .i64 ((rd_T58 b a).f2), .int .i64 ((rd_T58 b a).f3), .int .i64 ((rd_T58 b a).f4)], .int .i64 Z] rfl ar_ ?_; (with_reducible refine (dom_Dom_Has.calls ((rd_T58 b a).f0) _ _ ((rd_T58 b a).f1) ((rd_T58 b a).f2) ((rd_T58 b a).f3) ((rd_T58 b a).f4) Z true _ ?side1 ?side2 br.out).mono ?_); (case side1 => repeat (first | exact ((Kd.V_reads' (by refine vV_ ?_; exact (vm_ (fV_ (fV_ (fV_ (fV_ (fV_ (vm_ HL278_1.out (fun l hk => (⟨hk, hk.2⟩ : _ ∧ l ≠ r)))))))) (fun _ h_ => h_.1)))).2.2) | (with_reducible refine Kd.C_alloc ?_ _) | (with_reducible refine Kd.C_drewN ?_ _) | (with_reducible refine Kd.C_drew ?_))); (case side2 => exact X.out); rintro e w57 ⟨rfl, hb⟩; refine ⟨_, rfl, ?_⟩; replace HO_100 := a_ (Kd.N_below (by refine vN_ ?_; exact (nm_ (fN_ (fN_ (fN_ (fN_ (fN_ (nm_ HO_100.out (fun l hk => (⟨hk, hk.2⟩ : _ ∧ l ≠ r)))))))) (fun _ h_ => h_.1))) hb); replace q := a_ (cb_ ((Kd.V_reads' (by refine vV_ ?_; exact (vm_ (fV_ (fV_ (fV_ (fV_ (fV_ (vm_ HL278_1.out (fun l hk => (⟨hk, hk.2⟩ : _ ∧ l ≠ r)))))))) (fun _ h_ => h_.1)))).2.2) hb); replace HL278_1 := a_ (vb_ (by refine vV_ ?_; exact (vm_ (fV_ (fV_ (fV_ (fV_ (fV_ (vm_ HL278_1.out (fun l hk => (⟨hk, hk.2⟩ : _ ∧ l ≠ r)))))))) (fun _ h_ => h_.1))) hb); replace B := a_ (bb_ (g := r) (o := .cells #[.int .i64 ((rd_T58 b a).f0), .slice E ((rd_T58 b a).f1).length c278_1, .int .i64 ((rd_T58 b a).f2), .int .i64 ((rd_T58 b a).f3), .int .i64 ((rd_T58 b a).f4)] 58 (0, 0)) (by refine bk_ ?_; refine bu_ (cs := #[.int .i64 ((rd_T58 b a).f0), .slice E ((rd_T58 b a).f1).length c278_1, .int .i64 ((rd_T58 b a).f2), .int .i64 ((rd_T58 b a).f3), .int .i64 0]) ?_ 4 _ rfl; refine bk_ ?_; refine bu_ (cs := #[.int .i64 ((rd_T58 b a).f0), .slice E ((rd_T58 b a).f1).length c278_1, .int .i64 ((rd_T58 b a).f2), .int .i64 0, .int .i64 0]) ?_ 3 _ rfl; refine bk_ ?_; refine bu_ (cs := #[.int .i64 ((rd_T58 b a).f0), .slice E ((rd_T58 b a).f1).length c278_1, .int .i64 0, .int .i64 0, .int .i64 0]) ?_ 2 _ rfl; refine bk_ ?_; refine bu_ (cs := #[.int .i64 ((rd_T58 b a).f0), .slice none 0 0, .int .i64 0, .int .i64 0, .int .i64 0]) ?_ 1 _ rfl; refine bk_ ?_; refine bu_ (cs := #[.int .i64 0, .slice none 0 0, .int .i64 0, .int .i64 0, .int .i64 0]) ?_ 0 _ rfl; refine bk_ ?_; exact B.out) hb); replace HB := hq_ hb; clear hb; obtain ⟨_, _, _, _, _, _, _, _, _, _⟩ := cel5_ B.out) | (go_at_call 23; (with_reducible refine (dom_Dom_Size.calls ((rd_T58 b a).f0) _ _ ((rd_T58 b a).f1) ((rd_T58 b a).f2) ((rd_T58 b a).f3) ((rd_T58 b a).f4) aQ _ ?side1 ?side2 bJ.out).mono ?_); (case side1 => repeat (first | exact (by repeat (first | (with_reducible exact q.out) | (with_reducible refine Kd.C_alloc ?_ _) | (with_reducible refine Kd.C_drewN ?_ _) | (with_reducible refine Kd.C_drew ?_) | exact q.out)) | (with_reducible refine Kd.C_alloc ?_ _) | (with_reducible refine Kd.C_drewN ?_ _) | (with_reducible refine Kd.C_drew ?_))); (case side2 => exact X.out); rintro e w59 ⟨rfl, hb⟩; replace HO_100 := a_ (Kd.N_below (vN_ HO_100.out) hb); replace HL278_1 := a_ (vb_ (vV_ HL278_1.out) hb); replace q := a_ (cb_ (by repeat (first | (with_reducible exact q.out) | (with_reducible refine Kd.C_alloc ?_ _) | (with_reducible refine Kd.C_drewN ?_ _) | (with_reducible refine Kd.C_drew ?_) | exact q.out)) hb); replace B := a_ (bq_ B.out hb); replace HB := hq_ hb; clear hb; obtain ⟨_, _, _, _, _, _, _, _, _, _⟩ := cel5_ B.out) | ((with_reducible refine gate_callee (f := 60) rfl ?_); refine goesL_ (some 91) rfl rfl Tryz.func60 kr_ rfl #[.agg #[.int .i64 ((rd_T58 b a).f0), .slice E ((rd_T58 b a).f1).length c278_1, .int .i64 ((rd_T58 b a).f2), .int .i64 ((rd_T58 b a).f3), .int .i64 ((rd_T58 b a).f4)], .int .i64 Z] rfl ar_ ?_; (with_reducible refine (dom_Dom_Only.calls k3 ((rd_T58 b a).f0) _ _ ((rd_T58 b a).f1) ((rd_T58 b a).f2) ((rd_T58 b a).f3) ((rd_T58 b a).f4) Z aD aE aF aG aH bN _ ?side1 ?side2 ?side3 bW.out).mono ?_); (case side1 => repeat (first | exact (by repeat (first | (with_reducible exact q.out) | (with_reducible refine Kd.C_alloc ?_ _) | (with_reducible refine Kd.C_drewN ?_ _) | (with_reducible refine Kd.C_drew ?_) | exact q.out)) | (with_reducible refine Kd.C_alloc ?_ _) | (with_reducible refine Kd.C_drewN ?_ _) | (with_reducible refine Kd.C_drew ?_))); (case side2 => exact X.out); (case side3 => exact ca_ ((cb_ HRtab.out HB.out))); rintro e w61 ⟨cc, rfl, aP, hb⟩; refine ⟨_, rfl, ?_⟩; obtain ⟨Ao_v284, co_v284, ev_⟩ := Kd.V_slice aP; subst ev_; replace HL278_1 := a_ (vb_ (vV_ HL278_1.out) hb); have bb := a_ (Kd.V_lower (vm_ (ok' := fun l => (P0_ l ∨ w.heap.size ≤ l) ∧ some l ≠ (.slice (some aX) b.length Y : Value).ownBlock ∧ l ≠ r) aP (fun l hk_ => ⟨(.inr (Nat.le_trans (bz_ bel_) hk_)), (fr_ (Kd.N_lt (vN_ HO_100.out)) l hk_), (Kd.freshB (bk_ B.out) l hk_)⟩)) (bz_ bel_)); replace HO_100 := a_ (Kd.N_below (vN_ HO_100.out) hb); replace q := a_ (cb_ (by repeat (first | (with_reducible exact q.out) | (with_reducible refine Kd.C_alloc ?_ _) | (with_reducible refine Kd.C_drewN ?_ _) | (with_reducible refine Kd.C_drew ?_) | exact q.out)) hb); replace B := a_ (bq_ B.out hb); replace HB := hq_ hb; clear hb aP; have p54 : 0 ≤ (a : Int) := dq_; have bu : (a : Int) < ((b.length : Int) : Int) := dq_; obtain ⟨go54, cd, bv, bw, gl54, cl54, HG54⟩ := Kd.N_form HO_100.out (by omega); (first | cases bv | (injection bv with ea_ en_ ec_; (first | subst ea_ | (injection ea_ with ea_; subst ea_)); subst ec_; clear en_)); have GB54 := a_ bw; have GG54 := a_ HG54; clear bw gl54 HG54; (first | simp only [add_plain] at aI | skip); (first | simp only [add_plain] at ad | skip); (first | simp only [add_plain] at aJ | skip); (first | simp only [add_plain] at aK | skip); (first | simp only [add_plain] at aL | skip); obtain ⟨ce54, hcl54, hM54, hcc54, hfr54⟩ := Kd.N_elem HO_100.out z58 (a : Int) p54 bu; obtain ⟨ua54_1, uc54_1, rfl, bX, bY⟩ := k58_openF hM54; have bZ : w61.cell? ⟨go54, (a : Int).toNat * 5, none⟩ = some (.int .i64 ((rd_T58 b a).f0)) := hcc54 0 _ rfl; have b0 : w61.cell? ⟨go54, (a : Int).toNat * 5 + 1, none⟩ = some (.slice ua54_1 ((rd_T58 b a).f1).length uc54_1) := hcc54 1 _ rfl; have b1 : w61.cell? ⟨go54, (a : Int).toNat * 5 + 2, none⟩ = some (.int .i64 ((rd_T58 b a).f2)) := hcc54 2 _ rfl; have b2 : w61.cell? ⟨go54, (a : Int).toNat * 5 + 3, none⟩ = some (.int .i64 ((rd_T58 b a).f3)) := hcc54 3 _ rfl; have b3 : w61.cell? ⟨go54, (a : Int).toNat * 5 + 4, none⟩ = some (.int .i64 ((rd_T58 b a).f4)) := hcc54 4 _ rfl; have hf54_0 : w61.frozen? ⟨go54, (a : Int).toNat * 5, none⟩ = false := hfr54 0; have hf54_1 : w61.frozen? ⟨go54, (a : Int).toNat * 5 + 1, none⟩ = false := hfr54 1; have hf54_2 : w61.frozen? ⟨go54, (a : Int).toNat * 5 + 2, none⟩ = false := hfr54 2; have hf54_3 : w61.frozen? ⟨go54, (a : Int).toNat * 5 + 3, none⟩ = false := hfr54 3; have hf54_4 : w61.frozen? ⟨go54, (a : Int).toNat * 5 + 4, none⟩ = false := hfr54 4; clear hcl54 hcc54 hfr54 hM54; replace p54 := et_ p54; replace bu := et_ bu; have bx := a_ (show Kd.N k58 58 w61 w.heap.size (fun l => (P0_ l ∨ w.heap.size ≤ l) ∧ l ≠ r) (.slice (some ⟨go54, 0, none⟩) b.length Y) b from (vN_ HO_100.out)); obtain ⟨ce62, hcl62, hM62, hcc62, hfr62⟩ := Kd.N_elem bx.out z58 (a : Int) (dq_) (by have h_ : (a : Int) < ((b.length : Int) : Int) := dq_; first | exact h_ | (have e_ := (Kd.N_reads' HO_100.out).1; omega) | simpa using h_); obtain ⟨ua62_1, uc62_1, rfl, b4, b5⟩ := k58_openF hM62; have HP62 := Kd.N_seg bx.out (a : Int) (dq_) (by have h_ : (a : Int) < ((b.length : Int) : Int) := dq_; first | exact h_ | (have e_ := (Kd.N_reads' HO_100.out).1; omega) | simpa using h_) (seg := [.int .i64 aD, (.slice Ao_v284 aE.length co_v284), .int .i64 aF, .int .i64 aG, .int .i64 aH]) (j := 0) hcl62 hcc62 (show 5 ≤ 5 from by decide) (x' := (⟨aD, aE, aF, aG, aH⟩ : S58)) (k58_mkF _ _ (⟨aD, aE, aF, aG, aH⟩ : S58) (Kd.V_reads' (vm_ (ok' := (fun l => ((fun l => (P0_ l ∨ w.heap.size ≤ l) ∧ l ≠ r)) l ∧ l ≠ go54)) (bb.out) (fun l hk => ⟨⟨hk.1, hk.2.2⟩, fun e_ => (hk.2.1) (by rw [e_]; rfl)⟩))).2.1 (Kd.V_F (vm_ (ok' := (fun l => ((fun l => (P0_ l ∨ w.heap.size ≤ l) ∧ l ≠ r)) l ∧ l ≠ go54)) (bb.out) (fun l hk => ⟨⟨hk.1, hk.2.2⟩, fun e_ => (hk.2.1) (by rw [e_]; rfl)⟩)))) (fun _ hk => hk); have bz := hcc62 0 _ rfl; (try simp only [show (k58).sz = 5 from rfl, Nat.mul_one, Nat.add_zero] at bz); have hf62_0 := hfr62 0; (try simp only [show (k58).sz = 5 from rfl, Nat.mul_one, Nat.add_zero] at hf62_0); have bA := hcc62 1 _ rfl; (try simp only [show (k58).sz = 5 from rfl, Nat.mul_one, Nat.add_zero] at bA); have hf62_1 := hfr62 1; (try simp only [show (k58).sz = 5 from rfl, Nat.mul_one, Nat.add_zero] at hf62_1); have bB := hcc62 2 _ rfl; (try simp only [show (k58).sz = 5 from rfl, Nat.mul_one, Nat.add_zero] at bB); have hf62_2 := hfr62 2; (try simp only [show (k58).sz = 5 from rfl, Nat.mul_one, Nat.add_zero] at hf62_2); have bC := hcc62 3 _ rfl; (try simp only [show (k58).sz = 5 from rfl, Nat.mul_one, Nat.add_zero] at bC); have hf62_3 := hfr62 3; (try simp only [show (k58).sz = 5 from rfl, Nat.mul_one, Nat.add_zero] at hf62_3); have bD := hcc62 4 _ rfl; (try simp only [show (k58).sz = 5 from rfl, Nat.mul_one, Nat.add_zero] at bD); have hf62_4 := hfr62 4; (try simp only [show (k58).sz = 5 from rfl, Nat.mul_one, Nat.add_zero] at hf62_4); clear hcl62 hcc62 hfr62 hM62) | ((with_reducible refine gate_store (t := 58) (p := 94) rfl ?_); refine store_event (t := 58) (p := 94) (v := ?vo_w63) (w1 := (((((w61.setCell ⟨go54, (a : Int).toNat * 5, none⟩ (.int .i64 aD)).setCell ⟨go54, (a : Int).toNat * 5 + 1, none⟩ ((.slice Ao_v284 aE.length co_v284))).setCell ⟨go54, (a : Int).toNat * 5 + 2, none⟩ (.int .i64 aF)).setCell ⟨go54, (a : Int).toNat * 5 + 3, none⟩ (.int .i64 aG)).setCell ⟨go54, (a : Int).toNat * 5 + 4, none⟩ (.int .i64 aH))) ?hg ?ho ?hn ?hr ?_; (case ho => rfl); (case hg => rfl); (case hn => rfl); (case hr => first | (go_simp; done) | (go_simp; rfl)); intro w63 hw; have hg : w61.grownBy w63 (some go54) := (by rw [hw]; exact HP62.2); have hp_ : Kd.N k58 58 w63 w.heap.size (fun l => (P0_ l ∨ w.heap.size ≤ l) ∧ l ≠ r) (.slice (some ⟨go54, 0, none⟩) b.length Y) a8 := (by rw [hw, bF.out]; exact HP62.1); clear HP62; replace HL278_1 := a_ (Kd.V_afterv (v := (.slice (some ⟨go54, 0, none⟩) b.length Y)) (v1 := (.slice (some ⟨go54, 0, none⟩) b.length Y)) (ok := (fun l => (P0_ l ∨ w.heap.size ≤ l) ∧ l ≠ r)) (by refine vV_ ?_; exact vm_ HL278_1.out (fun _ hk => ⟨⟨hk.1.1, hk.2⟩, hk.1.2⟩)) hg (.inl rfl)); replace B := a_ (blk_grown (bk_ B.out) hg (Kd.N_away HO_100.out (fun _ hk => hk.2))); replace HO_100 := a_ (hp_); replace HB := a_ ((by rw [hw]; exact below_set (below_set (below_set (below_set (below_set (HB.out) GB54.out) GB54.out) GB54.out) GB54.out) GB54.out : Below w.heap.size w w63)); clear hg hw hp_))
    (try simp only [← J])
    go_roundg k3
    case measure => have := ae.out; have := ag.out; have := aV.out; omega
    exact ⟨(true), (wrap64 (a + 1)), (a8), eq_, eq_, H', ⟨by have := ae.out; have := ag.out; have := aV.out; omega⟩, ⟨by (try simp only [u]); (try simp only [J]); refine vN_ ?_; exact nm_ HO_100.out (fun _ hk => hk.1)⟩, ⟨bel_⟩⟩

end Go.Proofs.YtijjhobjmehhoaaGreatDoor.XGccAll
