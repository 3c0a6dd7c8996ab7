-- by xprint.py, a program of this session, over the kit's print
import Derived.Test.YtijjhobjmehhoaaGreatDoorXGAlx0
import Derived.Test.YtijjhobjmehhoaaGreatDoorXGAlx1
import Derived.Test.YtijjhobjmehhoaaGreatDoorXGAlx4
import Derived.Test.YtijjhobjmehhoaaGreatDoorSq
namespace Go.Proofs.YtijjhobjmehhoaaGreatDoor.XGccAll
open Go.RowKit Go.Proofs.YtijjhobjmehhoaaGreatDoor.Sq Go.Proofs.YtijjhobjmehhoaaGreatDoorW.PrintWords Go.Proofs.YtijjhobjmehhoaaGreatDoorW.PrintLast Go.Proofs.YtijjhobjmehhoaaGreatDoorW.PrintMore
attribute [local go_sem] max2_int min2_int max_two min_two max_three min_three max_four min_four   -- for this text's walks alone
set_option linter.unusedVariables false
set_option linter.unusedSimpArgs false

/-! ### gcc_counts: function 58 -/
def gcc_counts.l0 : Nat → Int → Int → Int → List (S58) → Int → Int → Option (Int × Int)
 | 0, _, _, _, _, _, _ => none
 | k + 1, d, e, g, b, c, a => if a < c then (if 0 ≤ a then (if a < (b.length : Int) then ((dom_Dom_Has.f ((rd_T58 b a).f0) ((rd_T58 b a).f1) ((rd_T58 b a).f2) ((rd_T58 b a).f3) ((rd_T58 b a).f4) d).bind fun l => (if l = true then ((dom_Dom_Size.f ((rd_T58 b a).f0) ((rd_T58 b a).f1) ((rd_T58 b a).f2) ((rd_T58 b a).f3) ((rd_T58 b a).f4)).bind fun m => (if m = 1 then (gcc_counts.l0 k d (wrap64 (e + 1)) (wrap64 (g + 1)) b c (wrap64 (a + 1))) else (gcc_counts.l0 k d e (wrap64 (g + 1)) b c (wrap64 (a + 1))))) else (gcc_counts.l0 k d e g b c (wrap64 (a + 1))))) else (none)) else (none)) else (some (e, g))
def gcc_counts.f (k : Nat) (a : List (S58)) (b : Int) : Option (Int × Int) := gcc_counts.l0 k b 0 0 a (a.length : Int) 0
theorem gcc_counts.mono_l : ∀ k, (∀ a b c d e f, LeO (gcc_counts.l0 k a b c d e f) (gcc_counts.l0 (k + 1) a b c d e f))
 | 0 => by intros; exact LeO.none _
 | k + 1 => by
  have ih0 := gcc_counts.mono_l k
  intro a b c d e f
  unfold gcc_counts.l0
  exact leo_
theorem gcc_counts.mono : ∀ a b k, LeO (gcc_counts.f k a b) (gcc_counts.f (k + 1) a b) := by
 intro a b k
 have ih0 := gcc_counts.mono_l k
 unfold gcc_counts.f
 exact leo_
set_option maxHeartbeats 8000000 in
set_option maxRecDepth 100000 in
theorem gcc_counts.calls (k : Nat) (X : Option Addr) (c0 : Nat) (b : List (S58)) (G : Int) (O : Int) (P : Int) (w : World) (Q : Kd.C k58 w X b.length b) (U : b.length ≤ c0) (h : gcc_counts.f k b G = some (O, P)) :
  Calls Tryz.prog 58 #[.slice X b.length c0, .int .i64 G] w fun e w' => e = .returned (.tuple #[.int .i64 O, .int .i64 P]) ∧ Below w.heap.size w w' := by
 have hu58 := Tryz.underlying58
 have M := a_ Q
 have ac := a_ U
 clear Q U
 have HB := a_ (Below.refl w.heap.size w)
 unfold gcc_counts.f at h
 have H := h
 clear h
 have H' := a_ H
 clear H
 go_enter Tryz.func58, Tryz.ntmps58
 go_wp2
 go_loopg [6, 7, 12] k (fun kq v6 v7 Y w' => ∃ (z : Int) (A : Int) (a : Int), v6 = .int .i64 z ∧ v7 = .int .i64 A ∧ Y = .int .i64 a ∧ Aside0 (gcc_counts.l0 kq G z A b (b.length : Int) a = some (O, P)) ∧ Aside0 (kq ≤ k) ∧ Aside0 (Below w.heap.size w w'))
 case atStart => exact ⟨(0), (0), (0), eq_, eq_, eq_, H', ⟨lr_ _⟩, ⟨bel_⟩⟩
 clear H'
 try clear p2
 obtain ⟨z, A, a, rfl, rfl, rfl, HA, I, HB⟩ := hrel
 cases gk with
 | zero => exact absurd HA.out (by simp [gcc_counts.l0])
 | succ k1 =>
  have H := HA.out
  clear HA
  simp only [gcc_counts.l0] at H
  replace H := cf_ H
  rcases H with ⟨c3b0, H⟩ | ⟨c3b0, H⟩
  ·
   simp only [Option.some.injEq, Prod.mk.injEq] at H
   obtain ⟨rfl, rfl⟩ := H
   go_wp2
   go_ret2
   exact ⟨er_, bel_⟩
  replace H := gu_ H
  obtain ⟨c4b0, H⟩ := H
  replace H := gu_ H
  obtain ⟨c5b0, H⟩ := H
  replace H := bo_ H
  obtain ⟨V, W, H⟩ := H
  try dsimp only at H
  replace H := hf_ H
  rcases H with ⟨rfl, H⟩ | ⟨rfl, H⟩
  ·
   have H' := a_ H
   clear H
   have p190 : 0 ≤ (a : Int) := dq_
   have x : a < (b.length : Int) := dq_
   obtain ⟨J, c, c190_1, F, d, l, m, n, p, r, s⟩ := at_T58 M.out a p190 x
   cases F
   replace d := hx_ HB d
   replace l := hx_ HB l
   replace m := hx_ HB m
   replace n := hx_ HB n
   replace p := hx_ HB p
   have u := a_ s
   have v := a_ r
   clear s r
   replace p190 := et_ p190
   replace x := et_ x
   go_wp2_with (first | ((with_reducible refine gate_dst (N := 9) rfl ?_); refine bxe_ (N := 9) (cs := #[.int .i64 0, .slice none 0 0, .int .i64 0, .int .i64 0, .int .i64 0]) (t := 58) ?_; intro y hg w20 hbox hb; have q := a_ (hbox); have E := a_ (by rw [hg]; exact (bz_ bel_) : w.heap.size ≤ y); have K := E; replace HB := hq_ hb; clear hb hbox hg; obtain ⟨_, _, _, _, _, _, _, _, _, _⟩ := cel5_ q.out) | ((with_reducible refine gate_callee (f := 22) rfl ?_); refine goesL_ (some 18) rfl rfl Tryz.func22 kr_ rfl #[.agg #[.int .i64 ((rd_T58 b a).f0), .slice c ((rd_T58 b a).f1).length c190_1, .int .i64 ((rd_T58 b a).f2), .int .i64 ((rd_T58 b a).f3), .int .i64 ((rd_T58 b a).f4)], .int .i64 G] rfl ar_ ?_; (with_reducible refine (dom_Dom_Has.calls ((rd_T58 b a).f0) _ _ ((rd_T58 b a).f1) ((rd_T58 b a).f2) ((rd_T58 b a).f3) ((rd_T58 b a).f4) G false _ ?_ ?_ W.out).mono ?_); exact cb_ u.out bel_; exact v.out; rintro e w22 ⟨rfl, hb⟩; refine ⟨_, rfl, ?_⟩; replace HB := hq_ hb; clear hb))
   go_roundg k1
   case measure => have := I.out; omega
   exact ⟨(z), (A), (wrap64 (a + 1)), eq_, eq_, eq_, H', ⟨by have := I.out; omega⟩, ⟨bel_⟩⟩
  replace H := bo_ H
  obtain ⟨B, Z, H⟩ := H
  try dsimp only at H
  replace H := ef_ H
  rcases H with ⟨c9, c9b0, c9b1, H⟩ | ⟨-, c9b0, c9b1, H⟩
  ·
   have H' := a_ H
   clear H
   have p190 : 0 ≤ (a : Int) := dq_
   have x : a < (b.length : Int) := dq_
   obtain ⟨J, c, c190_1, F, d, l, m, n, p, r, s⟩ := at_T58 M.out a p190 x
   cases F
   replace d := hx_ HB d
   replace l := hx_ HB l
   replace m := hx_ HB m
   replace n := hx_ HB n
   replace p := hx_ HB p
   have u := a_ s
   have v := a_ r
   clear s r
   replace p190 := et_ p190
   replace x := et_ x
   go_wp2_with (first | ((with_reducible refine gate_dst (N := 9) rfl ?_); refine bxe_ (N := 9) (cs := #[.int .i64 0, .slice none 0 0, .int .i64 0, .int .i64 0, .int .i64 0]) (t := 58) ?_; intro y hg w15 hbox hb; have q := a_ (hbox); have E := a_ (by rw [hg]; exact (bz_ bel_) : w.heap.size ≤ y); have K := E; replace HB := hq_ hb; clear hb hbox hg; obtain ⟨_, _, _, _, _, _, _, _, _, _⟩ := cel5_ q.out) | ((with_reducible refine gate_callee (f := 22) rfl ?_); refine goesL_ (some 18) rfl rfl Tryz.func22 kr_ rfl #[.agg #[.int .i64 ((rd_T58 b a).f0), .slice c ((rd_T58 b a).f1).length c190_1, .int .i64 ((rd_T58 b a).f2), .int .i64 ((rd_T58 b a).f3), .int .i64 ((rd_T58 b a).f4)], .int .i64 G] rfl ar_ ?_; (with_reducible refine (dom_Dom_Has.calls ((rd_T58 b a).f0) _ _ ((rd_T58 b a).f1) ((rd_T58 b a).f2) ((rd_T58 b a).f3) ((rd_T58 b a).f4) G true _ ?_ ?_ W.out).mono ?_); exact cb_ u.out bel_; exact v.out; rintro e w17 ⟨rfl, hb⟩; refine ⟨_, rfl, ?_⟩; replace q := a_ (bb_ (g := y) (o := .cells #[.int .i64 ((rd_T58 b a).f0), .slice c ((rd_T58 b a).f1).length c190_1, .int .i64 ((rd_T58 b a).f2), .int .i64 ((rd_T58 b a).f3), .int .i64 ((rd_T58 b a).f4)] 58 (0, 0)) (by refine bk_ ?_; refine bu_ (cs := #[.int .i64 ((rd_T58 b a).f0), .slice c ((rd_T58 b a).f1).length c190_1, .int .i64 ((rd_T58 b a).f2), .int .i64 ((rd_T58 b a).f3), .int .i64 0]) ?_ 4 _ rfl; refine bk_ ?_; refine bu_ (cs := #[.int .i64 ((rd_T58 b a).f0), .slice c ((rd_T58 b a).f1).length c190_1, .int .i64 ((rd_T58 b a).f2), .int .i64 0, .int .i64 0]) ?_ 3 _ rfl; refine bk_ ?_; refine bu_ (cs := #[.int .i64 ((rd_T58 b a).f0), .slice c ((rd_T58 b a).f1).length c190_1, .int .i64 0, .int .i64 0, .int .i64 0]) ?_ 2 _ rfl; refine bk_ ?_; refine bu_ (cs := #[.int .i64 ((rd_T58 b a).f0), .slice none 0 0, .int .i64 0, .int .i64 0, .int .i64 0]) ?_ 1 _ rfl; refine bk_ ?_; refine bu_ (cs := #[.int .i64 0, .slice none 0 0, .int .i64 0, .int .i64 0, .int .i64 0]) ?_ 0 _ rfl; refine bk_ ?_; exact q.out) hb); replace HB := hq_ hb; clear hb; obtain ⟨_, _, _, _, _, _, _, _, _, _⟩ := cel5_ q.out) | ((with_reducible refine gate_callee (f := 23) rfl ?_); refine goesL_ (some 23) rfl rfl Tryz.func23 kr_ rfl #[.agg #[.int .i64 ((rd_T58 b a).f0), .slice c ((rd_T58 b a).f1).length c190_1, .int .i64 ((rd_T58 b a).f2), .int .i64 ((rd_T58 b a).f3), .int .i64 ((rd_T58 b a).f4)]] rfl ar_ ?_; (with_reducible refine (dom_Dom_Size.calls ((rd_T58 b a).f0) _ _ ((rd_T58 b a).f1) ((rd_T58 b a).f2) ((rd_T58 b a).f3) ((rd_T58 b a).f4) B _ ?_ ?_ Z.out).mono ?_); exact ca_ ((cb_ u.out HB.out)); exact v.out; rintro e w19 ⟨rfl, hb⟩; refine ⟨_, rfl, ?_⟩; replace HB := hq_ hb; clear hb))
   go_roundg k1
   case measure => have := I.out; omega
   exact ⟨(z), (wrap64 (A + 1)), (wrap64 (a + 1)), eq_, eq_, eq_, H', ⟨by have := I.out; omega⟩, ⟨bel_⟩⟩
  have H' := a_ H
  clear H
  have p190 : 0 ≤ (a : Int) := dq_
  have x : a < (b.length : Int) := dq_
  obtain ⟨J, c, c190_1, F, d, l, m, n, p, r, s⟩ := at_T58 M.out a p190 x
  cases F
  replace d := hx_ HB d
  replace l := hx_ HB l
  replace m := hx_ HB m
  replace n := hx_ HB n
  replace p := hx_ HB p
  have u := a_ s
  have v := a_ r
  clear s r
  replace p190 := et_ p190
  replace x := et_ x
  go_wp2_with (first | ((with_reducible refine gate_dst (N := 9) rfl ?_); refine bxe_ (N := 9) (cs := #[.int .i64 0, .slice none 0 0, .int .i64 0, .int .i64 0, .int .i64 0]) (t := 58) ?_; intro y hg w10 hbox hb; have q := a_ (hbox); have E := a_ (by rw [hg]; exact (bz_ bel_) : w.heap.size ≤ y); have K := E; replace HB := hq_ hb; clear hb hbox hg; obtain ⟨_, _, _, _, _, _, _, _, _, _⟩ := cel5_ q.out) | ((with_reducible refine gate_callee (f := 22) rfl ?_); refine goesL_ (some 18) rfl rfl Tryz.func22 kr_ rfl #[.agg #[.int .i64 ((rd_T58 b a).f0), .slice c ((rd_T58 b a).f1).length c190_1, .int .i64 ((rd_T58 b a).f2), .int .i64 ((rd_T58 b a).f3), .int .i64 ((rd_T58 b a).f4)], .int .i64 G] rfl ar_ ?_; (with_reducible refine (dom_Dom_Has.calls ((rd_T58 b a).f0) _ _ ((rd_T58 b a).f1) ((rd_T58 b a).f2) ((rd_T58 b a).f3) ((rd_T58 b a).f4) G true _ ?_ ?_ W.out).mono ?_); exact cb_ u.out bel_; exact v.out; rintro e w12 ⟨rfl, hb⟩; refine ⟨_, rfl, ?_⟩; replace q := a_ (bb_ (g := y) (o := .cells #[.int .i64 ((rd_T58 b a).f0), .slice c ((rd_T58 b a).f1).length c190_1, .int .i64 ((rd_T58 b a).f2), .int .i64 ((rd_T58 b a).f3), .int .i64 ((rd_T58 b a).f4)] 58 (0, 0)) (by refine bk_ ?_; refine bu_ (cs := #[.int .i64 ((rd_T58 b a).f0), .slice c ((rd_T58 b a).f1).length c190_1, .int .i64 ((rd_T58 b a).f2), .int .i64 ((rd_T58 b a).f3), .int .i64 0]) ?_ 4 _ rfl; refine bk_ ?_; refine bu_ (cs := #[.int .i64 ((rd_T58 b a).f0), .slice c ((rd_T58 b a).f1).length c190_1, .int .i64 ((rd_T58 b a).f2), .int .i64 0, .int .i64 0]) ?_ 3 _ rfl; refine bk_ ?_; refine bu_ (cs := #[.int .i64 ((rd_T58 b a).f0), .slice c ((rd_T58 b a).f1).length c190_1, .int .i64 0, .int .i64 0, .int .i64 0]) ?_ 2 _ rfl; refine bk_ ?_; refine bu_ (cs := #[.int .i64 ((rd_T58 b a).f0), .slice none 0 0, .int .i64 0, .int .i64 0, .int .i64 0]) ?_ 1 _ rfl; refine bk_ ?_; refine bu_ (cs := #[.int .i64 0, .slice none 0 0, .int .i64 0, .int .i64 0, .int .i64 0]) ?_ 0 _ rfl; refine bk_ ?_; exact q.out) hb); replace HB := hq_ hb; clear hb; obtain ⟨_, _, _, _, _, _, _, _, _, _⟩ := cel5_ q.out) | ((with_reducible refine gate_callee (f := 23) rfl ?_); refine goesL_ (some 23) rfl rfl Tryz.func23 kr_ rfl #[.agg #[.int .i64 ((rd_T58 b a).f0), .slice c ((rd_T58 b a).f1).length c190_1, .int .i64 ((rd_T58 b a).f2), .int .i64 ((rd_T58 b a).f3), .int .i64 ((rd_T58 b a).f4)]] rfl ar_ ?_; (with_reducible refine (dom_Dom_Size.calls ((rd_T58 b a).f0) _ _ ((rd_T58 b a).f1) ((rd_T58 b a).f2) ((rd_T58 b a).f3) ((rd_T58 b a).f4) B _ ?_ ?_ Z.out).mono ?_); exact ca_ ((cb_ u.out HB.out)); exact v.out; rintro e w14 ⟨rfl, hb⟩; refine ⟨_, rfl, ?_⟩; replace q := a_ (bq_ q.out hb); replace HB := hq_ hb; clear hb))
  go_roundg k1
  case measure => have := I.out; omega
  exact ⟨(wrap64 (z + 1)), (wrap64 (A + 1)), (wrap64 (a + 1)), eq_, eq_, eq_, H', ⟨by have := I.out; omega⟩, ⟨bel_⟩⟩

/-! ### bits_TrailingZeros64: function 48 -/
def tabL : List Int := [0, 1, 56, 2, 57, 49, 28, 3, 61, 58, 42, 50, 38, 29, 17, 4, 62, 47, 59, 36, 45, 43, 51, 22, 53, 39, 33, 30, 24, 18, 12, 5, 63, 55, 48, 27, 60, 41, 37, 16, 46, 35, 44, 21, 52, 32, 23, 11, 54, 26, 40, 15, 34, 20, 31, 10, 25, 14, 19, 9, 13, 8, 7, 6]
def bits_TrailingZeros64.f (a : Int) : Option Int := if 0 ≤ a ∧ a < 18446744073709551616 then some (Lib.ctz 64 a.toNat : Nat) else none
theorem tz64_key (x a : Nat) (hx : x < 18446744073709551616) (hx0 : x ≠ 0) (hlow : x &&& (18446744073709551616 - x) = a) :
  IntKind.u64.wrap (Go.bits .and .u64 (x : Int) (IntKind.u64.wrap (-(x : Int))) * 285870213051353865) / 288230376151711744 = ((a * 285870213051353865 % 18446744073709551616 / 288230376151711744 : Nat) : Int) := by
 have e1 : IntKind.u64.wrap (-(x : Int)) = ((18446744073709551616 - x : Nat) : Int) := by rw [IntKind.wrap_u64]; omega
 rw [e1, bits_and_u64_nat x _ hx (by omega), hlow, IntKind.wrap_u64]
 omega
set_option maxHeartbeats 1000000 in
theorem tz64_core (x k idx : Nat) (w : World) (hx0 : ((x : Int) == 0) = false)
  (key : IntKind.u64.wrap (Go.bits .and .u64 (x : Int) (IntKind.u64.wrap (-(x : Int))) * 285870213051353865) / 288230376151711744 = (idx : Int))
  (hi : idx < 64) (hk : k < 64) (hcell : w.cell? ⟨0, idx, none⟩ = some (.int .u8 k)) :
  Calls Tryz.prog 48 #[.int .u64 x] w fun e w' => e = .returned (.int .i64 k) ∧ w = w' := by
 go_enter Tryz.func48, Tryz.ntmps48
 go_wp2_with (simp only [key])
 go_ret
 exact ⟨rfl, rfl⟩
theorem tz64_zero (w : World) : Calls Tryz.prog 48 #[.int .u64 0] w fun e w' => e = .returned (.int .i64 64) ∧ w = w' := by
 go_enter Tryz.func48, Tryz.ntmps48
 go_wp2
 go_ret
 exact ⟨rfl, rfl⟩
theorem tabL_at (i : Nat) (h : i < 64) : tabL.getD i 0 = ((Lib.deBruijn64tab.getD i 0 : Nat) : Int) := by
 revert i; decide +kernel
theorem bits_TrailingZeros64.calls (b : Int) (r : Int) (w : World) (hrtab : Kd.C (Kd.int .u8) w (some ⟨0, 0, none⟩) tabL.length tabL) (h : bits_TrailingZeros64.f b = some r) :
  Calls Tryz.prog 48 #[.int .u64 b] w fun e w' => e = .returned (.int .i64 r) ∧ Drawn0 w w' := by
 unfold bits_TrailingZeros64.f at h
 by_cases hb : 0 ≤ b ∧ b < 18446744073709551616
 rotate_left
 ·
  rw [if_neg hb] at h
  cases h
 rw [if_pos hb] at h
 obtain rfl := Option.some.inj h
 obtain ⟨x, rfl⟩ := Int.eq_ofNat_of_zero_le hb.1
 rw [Int.toNat_natCast]
 by_cases a : x = 0
 ·
  subst a
  exact (tz64_zero w).mono (fun e w' ⟨he, hw⟩ => ⟨he, by subst hw; exact Drawn0.refl _⟩)
 have hx : x < 18446744073709551616 := by omega
 obtain ⟨hlow, hk⟩ := Lib.lowest_bit 64 x a hx
 obtain ⟨hi, htab⟩ := Lib.deBruijn64_at _ hk
 obtain ⟨ad, had, hcell⟩ := Kd.at_int hrtab ((2 ^ Lib.ctz 64 x * 285870213051353865 % 18446744073709551616 / 288230376151711744 : Nat) : Int) (by omega) (by show _ < ((64 : Nat) : Int); omega)
 obtain rfl := Option.some.inj had
 rw [Int.toNat_natCast] at hcell
 have c : rd tabL ((2 ^ Lib.ctz 64 x * 285870213051353865 % 18446744073709551616 / 288230376151711744 : Nat) : Int) = ((Lib.ctz 64 x : Nat) : Int) := by
  unfold rd
  rw [Int.toNat_natCast, tabL_at _ hi, htab]
 rw [c, add_plain] at hcell
 exact (tz64_core x _ _ w (by simp; omega) (tz64_key x _ hx a hlow) hi hk hcell).mono (fun e w' ⟨he, hw⟩ => ⟨he, by subst hw; exact Drawn0.refl _⟩)

/-! ### bits_LeadingZeros64: function 88 -/
def bits_LeadingZeros64.f (a : Int) : Option Int := if 0 ≤ a ∧ a < 18446744073709551616 then some (64 - (Lib.bitLen a.toNat : Int)) else none
theorem bits_LeadingZeros64.calls (a : Int) (r : Int) (w : World) (h : bits_LeadingZeros64.f a = some r) :
  Calls Tryz.prog 88 #[.int .u64 a] w fun e w' => e = .returned (.int .i64 r) ∧ Below w.heap.size w w' := by
 unfold bits_LeadingZeros64.f at h
 by_cases hb : 0 ≤ a ∧ a < 18446744073709551616
 rotate_left
 · rw [if_neg hb] at h; cases h
 rw [if_pos hb] at h
 obtain rfl := Option.some.inj h
 exact (Tryz.bits_LeadingZeros64 a w hb.1 (by omega)).mono (fun e w' ⟨he, hw⟩ => ⟨he, by subst hw; exact Below.refl _ _⟩)

/-! ### bits_OnesCount64: function 89 -/
def bits_OnesCount64.f (a : Int) : Option (Int) := some (Go.bits .and .i64 (wrap64 (IntKind.u64.wrap ((IntKind.u64.wrap ((IntKind.u64.wrap ((Go.bits .and .u64 (IntKind.u64.wrap (((IntKind.u64.wrap ((Go.bits .and .u64 ((IntKind.u64.wrap ((Go.bits .and .u64 (a / 2) 6148914691236517205) + (Go.bits .and .u64 a 6148914691236517205))) / 4) 3689348814741910323) + (Go.bits .and .u64 (IntKind.u64.wrap ((Go.bits .and .u64 (a / 2) 6148914691236517205) + (Go.bits .and .u64 a 6148914691236517205))) 3689348814741910323))) / 16) + (IntKind.u64.wrap ((Go.bits .and .u64 ((IntKind.u64.wrap ((Go.bits .and .u64 (a / 2) 6148914691236517205) + (Go.bits .and .u64 a 6148914691236517205))) / 4) 3689348814741910323) + (Go.bits .and .u64 (IntKind.u64.wrap ((Go.bits .and .u64 (a / 2) 6148914691236517205) + (Go.bits .and .u64 a 6148914691236517205))) 3689348814741910323))))) 1085102592571150095) + ((Go.bits .and .u64 (IntKind.u64.wrap (((IntKind.u64.wrap ((Go.bits .and .u64 ((IntKind.u64.wrap ((Go.bits .and .u64 (a / 2) 6148914691236517205) + (Go.bits .and .u64 a 6148914691236517205))) / 4) 3689348814741910323) + (Go.bits .and .u64 (IntKind.u64.wrap ((Go.bits .and .u64 (a / 2) 6148914691236517205) + (Go.bits .and .u64 a 6148914691236517205))) 3689348814741910323))) / 16) + (IntKind.u64.wrap ((Go.bits .and .u64 ((IntKind.u64.wrap ((Go.bits .and .u64 (a / 2) 6148914691236517205) + (Go.bits .and .u64 a 6148914691236517205))) / 4) 3689348814741910323) + (Go.bits .and .u64 (IntKind.u64.wrap ((Go.bits .and .u64 (a / 2) 6148914691236517205) + (Go.bits .and .u64 a 6148914691236517205))) 3689348814741910323))))) 1085102592571150095) / 256))) + ((IntKind.u64.wrap ((Go.bits .and .u64 (IntKind.u64.wrap (((IntKind.u64.wrap ((Go.bits .and .u64 ((IntKind.u64.wrap ((Go.bits .and .u64 (a / 2) 6148914691236517205) + (Go.bits .and .u64 a 6148914691236517205))) / 4) 3689348814741910323) + (Go.bits .and .u64 (IntKind.u64.wrap ((Go.bits .and .u64 (a / 2) 6148914691236517205) + (Go.bits .and .u64 a 6148914691236517205))) 3689348814741910323))) / 16) + (IntKind.u64.wrap ((Go.bits .and .u64 ((IntKind.u64.wrap ((Go.bits .and .u64 (a / 2) 6148914691236517205) + (Go.bits .and .u64 a 6148914691236517205))) / 4) 3689348814741910323) + (Go.bits .and .u64 (IntKind.u64.wrap ((Go.bits .and .u64 (a / 2) 6148914691236517205) + (Go.bits .and .u64 a 6148914691236517205))) 3689348814741910323))))) 1085102592571150095) + ((Go.bits .and .u64 (IntKind.u64.wrap (((IntKind.u64.wrap ((Go.bits .and .u64 ((IntKind.u64.wrap ((Go.bits .and .u64 (a / 2) 6148914691236517205) + (Go.bits .and .u64 a 6148914691236517205))) / 4) 3689348814741910323) + (Go.bits .and .u64 (IntKind.u64.wrap ((Go.bits .and .u64 (a / 2) 6148914691236517205) + (Go.bits .and .u64 a 6148914691236517205))) 3689348814741910323))) / 16) + (IntKind.u64.wrap ((Go.bits .and .u64 ((IntKind.u64.wrap ((Go.bits .and .u64 (a / 2) 6148914691236517205) + (Go.bits .and .u64 a 6148914691236517205))) / 4) 3689348814741910323) + (Go.bits .and .u64 (IntKind.u64.wrap ((Go.bits .and .u64 (a / 2) 6148914691236517205) + (Go.bits .and .u64 a 6148914691236517205))) 3689348814741910323))))) 1085102592571150095) / 256))) / 65536))) + ((IntKind.u64.wrap ((IntKind.u64.wrap ((Go.bits .and .u64 (IntKind.u64.wrap (((IntKind.u64.wrap ((Go.bits .and .u64 ((IntKind.u64.wrap ((Go.bits .and .u64 (a / 2) 6148914691236517205) + (Go.bits .and .u64 a 6148914691236517205))) / 4) 3689348814741910323) + (Go.bits .and .u64 (IntKind.u64.wrap ((Go.bits .and .u64 (a / 2) 6148914691236517205) + (Go.bits .and .u64 a 6148914691236517205))) 3689348814741910323))) / 16) + (IntKind.u64.wrap ((Go.bits .and .u64 ((IntKind.u64.wrap ((Go.bits .and .u64 (a / 2) 6148914691236517205) + (Go.bits .and .u64 a 6148914691236517205))) / 4) 3689348814741910323) + (Go.bits .and .u64 (IntKind.u64.wrap ((Go.bits .and .u64 (a / 2) 6148914691236517205) + (Go.bits .and .u64 a 6148914691236517205))) 3689348814741910323))))) 1085102592571150095) + ((Go.bits .and .u64 (IntKind.u64.wrap (((IntKind.u64.wrap ((Go.bits .and .u64 ((IntKind.u64.wrap ((Go.bits .and .u64 (a / 2) 6148914691236517205) + (Go.bits .and .u64 a 6148914691236517205))) / 4) 3689348814741910323) + (Go.bits .and .u64 (IntKind.u64.wrap ((Go.bits .and .u64 (a / 2) 6148914691236517205) + (Go.bits .and .u64 a 6148914691236517205))) 3689348814741910323))) / 16) + (IntKind.u64.wrap ((Go.bits .and .u64 ((IntKind.u64.wrap ((Go.bits .and .u64 (a / 2) 6148914691236517205) + (Go.bits .and .u64 a 6148914691236517205))) / 4) 3689348814741910323) + (Go.bits .and .u64 (IntKind.u64.wrap ((Go.bits .and .u64 (a / 2) 6148914691236517205) + (Go.bits .and .u64 a 6148914691236517205))) 3689348814741910323))))) 1085102592571150095) / 256))) + ((IntKind.u64.wrap ((Go.bits .and .u64 (IntKind.u64.wrap (((IntKind.u64.wrap ((Go.bits .and .u64 ((IntKind.u64.wrap ((Go.bits .and .u64 (a / 2) 6148914691236517205) + (Go.bits .and .u64 a 6148914691236517205))) / 4) 3689348814741910323) + (Go.bits .and .u64 (IntKind.u64.wrap ((Go.bits .and .u64 (a / 2) 6148914691236517205) + (Go.bits .and .u64 a 6148914691236517205))) 3689348814741910323))) / 16) + (IntKind.u64.wrap ((Go.bits .and .u64 ((IntKind.u64.wrap ((Go.bits .and .u64 (a / 2) 6148914691236517205) + (Go.bits .and .u64 a 6148914691236517205))) / 4) 3689348814741910323) + (Go.bits .and .u64 (IntKind.u64.wrap ((Go.bits .and .u64 (a / 2) 6148914691236517205) + (Go.bits .and .u64 a 6148914691236517205))) 3689348814741910323))))) 1085102592571150095) + ((Go.bits .and .u64 (IntKind.u64.wrap (((IntKind.u64.wrap ((Go.bits .and .u64 ((IntKind.u64.wrap ((Go.bits .and .u64 (a / 2) 6148914691236517205) + (Go.bits .and .u64 a 6148914691236517205))) / 4) 3689348814741910323) + (Go.bits .and .u64 (IntKind.u64.wrap ((Go.bits .and .u64 (a / 2) 6148914691236517205) + (Go.bits .and .u64 a 6148914691236517205))) 3689348814741910323))) / 16) + (IntKind.u64.wrap ((Go.bits .and .u64 ((IntKind.u64.wrap ((Go.bits .and .u64 (a / 2) 6148914691236517205) + (Go.bits .and .u64 a 6148914691236517205))) / 4) 3689348814741910323) + (Go.bits .and .u64 (IntKind.u64.wrap ((Go.bits .and .u64 (a / 2) 6148914691236517205) + (Go.bits .and .u64 a 6148914691236517205))) 3689348814741910323))))) 1085102592571150095) / 256))) / 65536))) / 4294967296)))) 127)
set_option maxHeartbeats 8000000 in
set_option maxRecDepth 100000 in
theorem bits_OnesCount64.calls (a : Int) (r : Int) (w : World) (h : bits_OnesCount64.f a = some r) :
  Calls Tryz.prog 89 #[.int .u64 a] w fun e w' => e = .returned (.int .i64 r) ∧ Drawn0 w w' := by
 unfold bits_OnesCount64.f at h
 have H := h
 clear h
 obtain rfl := si_ H
 go_enter Tryz.func89, Tryz.ntmps89
 go_wp2
 go_ret
 exact ⟨by first | rfl | (simp; done) | (simp [*]; done), by repeat (first | exact d0_ _ | apply Drawn0.step)⟩

end Go.Proofs.YtijjhobjmehhoaaGreatDoor.XGccAll
