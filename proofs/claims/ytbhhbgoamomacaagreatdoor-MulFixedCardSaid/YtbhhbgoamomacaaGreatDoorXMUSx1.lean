-- by xprint.py, a program of this session, over the kit's print
import Derived.Test.YtbhhbgoamomacaaGreatDoorXMUSx0
import Derived.Test.YtbhhbgoamomacaaGreatDoorSq
namespace Go.Proofs.YtbhhbgoamomacaaGreatDoor.XMulFixed
open Go.RowKit Go.Proofs.YtbhhbgoamomacaaGreatDoor.Sq Go.Proofs.YtbhhbgoamomacaaGreatDoorW.PrintWords Go.Proofs.YtbhhbgoamomacaaGreatDoorW.PrintLast Go.Proofs.YtbhhbgoamomacaaGreatDoorW.PrintMore
attribute [local go_sem] max2_int min2_int max_two min_two max_three min_three max_four min_four   -- for this text's walks alone
set_option linter.unusedVariables false
set_option linter.unusedSimpArgs false

theorem fold_step {op : Int → Int → Int} {l : List Int} {z : Int} {k : Nat} (h : k < l.length) : (l.take (k + 1)).foldl op z = op ((l.take k).foldl op z) (rd l k) := by
 rw [List.take_succ_eq_append_getElem h, List.foldl_append]
 have e : rd l k = l[k] := by unfold rd; rw [Int.toNat_natCast, List.getD_eq_getElem?_getD, List.getElem?_eq_getElem h]; rfl
 rw [e]; rfl
theorem mx_self (a : Int) : mx a a = a := by unfold mx; split <;> rfl
theorem mn_self (a : Int) : mn a a = a := by unfold mn; split <;> rfl

def IdxPost (l0 : List Int) (p : Int → Bool) (w : World) (e : Ending) (w' : World) : Prop := ∃ i : Int, e = .returned (.int .i64 i) ∧ (0 ≤ i ↔ l0.any p = true) ∧ Drawn0 w w'
/-- slices.IndexFunc at numbers and whatever function that captures nothing and makes nothing. -/
theorem indexInt (g : Nat) (lb : Array Value) (p : Int → Bool) (eg : ∀ args w, (callFunc g args).run Tryz.prog w = .ok (.enter g args) w)
  (A0 : Option Addr) (c0 : Nat) (l0 : List Int) (w : World)
  (hp : ∀ v m, Calls Tryz.prog g (#[.int .i64 v] ++ lb) (w.drewN m) fun e w' => e = .returned (.bool (p v)) ∧ Drawn0 (w.drewN m) w') (hr0 : Kd.C (Kd.int .i64) w A0 l0.length l0) :
  Calls Tryz.prog 101 #[.slice A0 l0.length c0, .func (.func g) #[] lb] w (IdxPost l0 p w) := by
 have hbig : l0.length ≤ 9223372036854775807 := hr0.2.1
 have HR := Aside0.mk hr0
 have HP := Aside0.mk hp
 clear hr0 hp
 go_enter Tryz.func101, Tryz.ntmps101
 go_wp2
 go_loopg [8] l0.length (fun gg s8 wr => ∃ kk : Nat, kk ≤ l0.length ∧ l0.length - kk ≤ gg ∧ s8 = .int .i64 kk ∧ Aside0 (Drawn0 w wr) ∧ Aside0 (∀ j, j < kk → p (rd l0 (j : Nat)) = false))
 case atStart => exact ⟨0, Nat.zero_le _, by omega, rfl, ⟨Drawn0.refl _⟩, ⟨fun j hj => absurd hj (Nat.not_lt_zero _)⟩⟩
 case round =>
  obtain ⟨kk, hkk, hg, rfl, BW, AF⟩ := hrel
  obtain ⟨⟨m, rfl⟩⟩ := BW
  by_cases hlt : kk < l0.length
  ·
   have hltz : (kk : Int) < (l0.length : Int) := by omega
   obtain ⟨ad, rfl, hcell⟩ := Kd.at_int HR.out (kk : Int) (by omega) hltz
   rw [Int.toNat_natCast] at hcell
   have hcell' : (w.drewN m).cell? (ad.add kk) = some (.int .i64 (rd l0 kk)) := by rw [World.cell?_drewN]; exact hcell
   clear hcell
   have hcall := HP.out (rd l0 kk) m
   cases hq : p (rd l0 kk) with
   | true =>
    rw [hq] at hcall
    have HQ := Aside0.mk hq
    have HC := Aside0.mk hcall
    clear hq hcall
    go_wp2_with (go_at_fn g; refine HC.out.mono ?_; rintro e w' ⟨rfl, ⟨nd, rfl⟩⟩)
    go_ret
    refine ⟨kk, rfl, ⟨fun _ => ?_, fun _ => by omega⟩, ⟨_, rfl⟩⟩
    rw [List.any_eq_true]
    exact ⟨rd l0 kk, by unfold rd; rw [Int.toNat_natCast, List.getD_eq_getElem?_getD, List.getElem?_eq_getElem hlt]; exact List.getElem_mem hlt, HQ.out⟩
   | false =>
    rw [hq] at hcall
    have HQ := Aside0.mk hq
    have HC := Aside0.mk hcall
    clear hq hcall
    go_wp2_with (go_at_fn g; refine HC.out.mono ?_; rintro e w' ⟨rfl, ⟨nd, rfl⟩⟩)
    go_roundg (l0.length - (kk + 1))
    case measure => omega
    case rel =>
     refine ⟨kk + 1, by omega, by omega, by go_num, ⟨⟨_, rfl⟩⟩, ⟨fun j hj => ?_⟩⟩
     by_cases e : j = kk
     ·
      subst e; exact HQ.out
     ·
      exact AF.out j (by omega)
  ·
   have hltz : ¬ (kk : Int) < (l0.length : Int) := by omega
   have : kk = l0.length := by omega
   subst this
   go_wp2
   go_ret
   refine ⟨-1, rfl, ⟨fun h => absurd h (by decide), fun h => ?_⟩, ⟨_, rfl⟩⟩
   rw [List.any_eq_true] at h
   obtain ⟨x, hx, hp⟩ := h
   obtain ⟨j, hj, rfl⟩ := List.getElem_of_mem hx
   have := AF.out j hj
   unfold rd at this
   rw [Int.toNat_natCast, List.getD_eq_getElem?_getD, List.getElem?_eq_getElem hj] at this
   simp only [Option.getD_some] at this
   rw [this] at hp; cases hp
/-- slices.ContainsFunc at numbers and whatever function that captures nothing and makes nothing. -/
theorem containsInt (g : Nat) (lb : Array Value) (p : Int → Bool) (eg : ∀ args w, (callFunc g args).run Tryz.prog w = .ok (.enter g args) w)
  (A0 : Option Addr) (c0 : Nat) (l0 : List Int) (w : World)
  (hp : ∀ v m, Calls Tryz.prog g (#[.int .i64 v] ++ lb) (w.drewN m) fun e w' => e = .returned (.bool (p v)) ∧ Drawn0 (w.drewN m) w') (hr0 : Kd.C (Kd.int .i64) w A0 l0.length l0) (hc0 : l0.length ≤ c0) :
  Calls Tryz.prog 70 #[.slice A0 l0.length c0, .func (.func g) #[] lb] w fun e w' => e = .returned (.bool (l0.any p)) ∧ Drawn0 w w' := by
 have HC := Aside0.mk (indexInt g lb p eg A0 c0 l0 w hp hr0)
 clear hr0
 go_enter Tryz.func70, Tryz.ntmps70
 go_wp2_with (go_at_call 101; refine HC.out.mono ?_; rintro e w' ⟨i, rfl, hi, hd⟩; have HI := Aside0.mk hi; clear hi)
 go_ret
 refine ⟨?_, hd⟩
 have := HI.out
 by_cases h : 0 ≤ i
 ·
  rw [this.mp h]; simp [h]
 ·
  have : l0.any p = false := by rw [Bool.eq_false_iff]; exact fun e => h (this.mpr e)
  rw [this]; simp [h]

/-! ### jigsawlaw11_kind: function 9 -/
def jigsawlaw11_kind.f (a0 : Int) : Option (Int) := some (wrap64 (5 + (wrap64 (Int.tmod a0 3))))
set_option maxHeartbeats 8000000 in
set_option maxRecDepth 100000 in
theorem jigsawlaw11_kind.calls (a0 : Int) (r : Int) (w : World) (h : jigsawlaw11_kind.f a0 = some r) :
  Calls Tryz.prog 9 #[.int .u8 a0] w fun e w' => e = .returned (.int .i64 r) ∧ Drawn0 w w' := by
 have H : (some (wrap64 (5 + (wrap64 (Int.tmod a0 3))))) = some r := h
 clear h
 obtain rfl := Option.some.inj H
 go_enter Tryz.func9, Tryz.ntmps9
 go_wp2
 go_ret
 exact ⟨by first | rfl | (simp; done) | (simp [*]; done), by repeat (first | exact Drawn0.refl _ | apply Drawn0.step)⟩

-- NOT PRINTED: function 86 (dom_Dom_86)

-- NOT PRINTED: function 61 (dom_Dom_61)

/-! ### dom_Dom_Size: function 28 -/
def dom_Dom_Size.f (a0_0 : Int) (l0_1 : List Int) (a0_2 : Int) (a0_3 : Int) (a0_4 : Int) : Option (Int) := some a0_4
set_option maxHeartbeats 8000000 in
set_option maxRecDepth 100000 in
theorem dom_Dom_Size.calls (a0_0 : Int) (A0_1 : Option Addr) (c0_1 : Nat) (l0_1 : List Int) (a0_2 : Int) (a0_3 : Int) (a0_4 : Int) (r : Int) (w : World) (hr0_1 : Kd.C (Kd.int .u64) w A0_1 l0_1.length l0_1) (hc0_1 : l0_1.length ≤ c0_1) (h : dom_Dom_Size.f a0_0 l0_1 a0_2 a0_3 a0_4 = some r) :
  Calls Tryz.prog 28 #[.agg #[.int .i64 a0_0, .slice A0_1 l0_1.length c0_1, .int .i64 a0_2, .int .i64 a0_3, .int .i64 a0_4]] w fun e w' => e = .returned (.int .i64 r) ∧ Below w.heap.size w w' := by
 have hu61 := Tryz.underlying61
 have HC0_1 := Aside0.mk hc0_1
 clear hr0_1 hc0_1
 have HB := Aside0.mk (Below.refl w.heap.size w)
 have H : (some a0_4) = some r := h
 clear h
 obtain rfl := Option.some.inj H
 go_enter Tryz.func28, Tryz.ntmps28
 go_wp2_with (first | ((with_reducible refine gate_dst (N := 1) rfl ?_); refine bxe_ (N := 1) (cs := #[.int .i64 a0_0, .slice A0_1 l0_1.length c0_1, .int .i64 a0_2, .int .i64 a0_3, .int .i64 a0_4]) (t := 61) ?_; intro gb101 hg w2 hbox hb; have BK101 := Aside0.mk (hbox); have GW101 := Aside0.mk (by rw [hg]; exact (below_size bel_) : w.heap.size ≤ gb101); have GE101 := GW101; replace HB := Aside0.mk (below_step bel_ hb); clear hb hbox hg; obtain ⟨_, _, _, _, _, _, _, _, _, _⟩ := cel5_ BK101.out))
 go_ret
 exact ⟨by first | rfl | (simp [errW_none, errW_some] <;> rfl) | (simp [*, errW_none, errW_some] <;> rfl), bel_⟩

/-! ### prop_Fits_1: function 62 -/
def prop_Fits_1.f (a0_0 : Int) (l0_1 : List Int) (a0_2 : Int) (a0_3 : Int) (a0_4 : Int) : Option (Bool) := (dom_Dom_Size.f a0_0 l0_1 a0_2 a0_3 a0_4).bind fun t103 => (some (t103 == 0))
set_option maxHeartbeats 8000000 in
set_option maxRecDepth 100000 in
theorem prop_Fits_1.calls (a0_0 : Int) (A0_1 : Option Addr) (c0_1 : Nat) (l0_1 : List Int) (a0_2 : Int) (a0_3 : Int) (a0_4 : Int) (r : Bool) (w : World) (hr0_1 : Kd.C (Kd.int .u64) w A0_1 l0_1.length l0_1) (hc0_1 : l0_1.length ≤ c0_1) (h : prop_Fits_1.f a0_0 l0_1 a0_2 a0_3 a0_4 = some r) :
  Calls Tryz.prog 62 #[.agg #[.int .i64 a0_0, .slice A0_1 l0_1.length c0_1, .int .i64 a0_2, .int .i64 a0_3, .int .i64 a0_4]] w fun e w' => e = .returned (.bool r) ∧ Below w.heap.size w w' := by
 have hu61 := Tryz.underlying61
 have HR0_1 := Aside0.mk hr0_1
 have HC0_1 := Aside0.mk hc0_1
 clear hr0_1 hc0_1
 have HB := Aside0.mk (Below.refl w.heap.size w)
 have H : ((dom_Dom_Size.f a0_0 l0_1 a0_2 a0_3 a0_4).bind fun t103 => (some (t103 == 0))) = some r := h
 clear h
 replace H := Option.bind_eq_some_iff.mp H
 obtain ⟨t103, A20, H⟩ := H
 try dsimp only at H
 have A2 := Aside0.mk A20
 clear A20
 obtain rfl := Option.some.inj H
 go_enter Tryz.func62, Tryz.ntmps62
 go_wp2_with (first | ((with_reducible refine gate_dst (N := 1) rfl ?_); refine bxe_ (N := 1) (cs := #[.int .i64 a0_0, .slice A0_1 l0_1.length c0_1, .int .i64 a0_2, .int .i64 a0_3, .int .i64 a0_4]) (t := 61) ?_; intro gb102 hg w3 hbox hb; have BK102 := Aside0.mk (hbox); have GW102 := Aside0.mk (by rw [hg]; exact (below_size bel_) : w.heap.size ≤ gb102); have GE102 := GW102; replace HB := Aside0.mk (below_step bel_ hb); clear hb hbox hg; obtain ⟨_, _, _, _, _, _, _, _, _, _⟩ := cel5_ BK102.out) | ((with_reducible refine gate_callee (f := 28) rfl ?_); refine goesL_ (some 4) rfl rfl Tryz.func28 (by kernel_rfl) rfl #[.agg #[.int .i64 a0_0, .slice A0_1 l0_1.length c0_1, .int .i64 a0_2, .int .i64 a0_3, .int .i64 a0_4]] rfl ar_ ?_; (with_reducible refine (dom_Dom_Size.calls a0_0 _ _ l0_1 a0_2 a0_3 a0_4 t103 _ ?_ ?_ A2.out).mono ?_); exact ca_ ((Kd.C_below HR0_1.out HB.out)); exact HC0_1.out; rintro e w5 ⟨rfl, hb⟩; refine ⟨_, rfl, ?_⟩; replace HB := Aside0.mk (below_step bel_ hb); clear hb))
 go_ret
 exact ⟨by first | rfl | (simp [errW_none, errW_some] <;> rfl) | (simp [*, errW_none, errW_some] <;> rfl), bel_⟩

-- NOT PRINTED: function 101 (slices_IndexFunc_int_int_101)

-- NOT PRINTED: function 70 (slices_ContainsFunc_int_int_70)

/-! ### model_forms: function 108 -/
def model_forms.f  : Option ((List (S131))) := some (([(⟨(⟨#[108, 105, 110, 95, 101, 113]⟩ : ByteArray), (⟨#[99, 86, 107]⟩ : ByteArray)⟩ : S131), (⟨(⟨#[108, 105, 110, 95, 108, 101]⟩ : ByteArray), (⟨#[99, 86, 107]⟩ : ByteArray)⟩ : S131), (⟨(⟨#[108, 105, 110, 95, 110, 101]⟩ : ByteArray), (⟨#[99, 86, 107]⟩ : ByteArray)⟩ : S131), (⟨(⟨#[108, 105, 110, 95, 114, 101, 105, 102]⟩ : ByteArray), (⟨#[99, 86, 107, 119]⟩ : ByteArray)⟩ : S131), (⟨(⟨#[116, 105, 109, 101, 115]⟩ : ByteArray), (⟨#[118, 118, 118]⟩ : ByteArray)⟩ : S131), (⟨(⟨#[100, 105, 118]⟩ : ByteArray), (⟨#[118, 118, 118]⟩ : ByteArray)⟩ : S131), (⟨(⟨#[109, 111, 100]⟩ : ByteArray), (⟨#[118, 118, 118]⟩ : ByteArray)⟩ : S131), (⟨(⟨#[97, 98, 115]⟩ : ByteArray), (⟨#[118, 118]⟩ : ByteArray)⟩ : S131), (⟨(⟨#[109, 105, 110]⟩ : ByteArray), (⟨#[118, 118, 118]⟩ : ByteArray)⟩ : S131), (⟨(⟨#[109, 97, 120]⟩ : ByteArray), (⟨#[118, 118, 118]⟩ : ByteArray)⟩ : S131), (⟨(⟨#[101, 108, 101, 109, 101, 110, 116]⟩ : ByteArray), (⟨#[118, 99, 118]⟩ : ByteArray)⟩ : S131), (⟨(⟨#[99, 108, 97, 117, 115, 101]⟩ : ByteArray), (⟨#[86, 87]⟩ : ByteArray)⟩ : S131), (⟨(⟨#[101, 113, 95, 114, 101, 105, 102]⟩ : ByteArray), (⟨#[118, 107, 119]⟩ : ByteArray)⟩ : S131), (⟨(⟨#[108, 101, 95, 114, 101, 105, 102]⟩ : ByteArray), (⟨#[118, 107, 119]⟩ : ByteArray)⟩ : S131), (⟨(⟨#[101, 113, 95, 105, 109, 112]⟩ : ByteArray), (⟨#[118, 107, 119]⟩ : ByteArray)⟩ : S131), (⟨(⟨#[108, 101, 95, 105, 109, 112]⟩ : ByteArray), (⟨#[118, 107, 119]⟩ : ByteArray)⟩ : S131), (⟨(⟨#[97, 108, 108, 95, 100, 105, 102, 102, 101, 114, 101, 110, 116]⟩ : ByteArray), (⟨#[86]⟩ : ByteArray)⟩ : S131), (⟨(⟨#[116, 97, 98, 108, 101]⟩ : ByteArray), (⟨#[86, 114]⟩ : ByteArray)⟩ : S131), (⟨(⟨#[99, 117, 109, 117, 108, 97, 116, 105, 118, 101]⟩ : ByteArray), (⟨#[86, 99, 100, 107]⟩ : ByteArray)⟩ : S131), (⟨(⟨#[99, 105, 114, 99, 117, 105, 116]⟩ : ByteArray), (⟨#[86]⟩ : ByteArray)⟩ : S131), (⟨(⟨#[103, 99, 99]⟩ : ByteArray), (⟨#[86, 99, 100, 101]⟩ : ByteArray)⟩ : S131), (⟨(⟨#[108, 101, 120, 95, 108, 101]⟩ : ByteArray), (⟨#[86, 87]⟩ : ByteArray)⟩ : S131), (⟨(⟨#[105, 110, 118, 101, 114, 115, 101]⟩ : ByteArray), (⟨#[86, 87]⟩ : ByteArray)⟩ : S131)] : List (S131)))
set_option maxHeartbeats 8000000 in
set_option maxRecDepth 100000 in
theorem model_forms.calls  (r : List (S131)) (w : World) (h : model_forms.f  = some r) :
  Calls Tryz.prog 108 #[] w fun e w' => ∃ v0_ : Value, e = .returned (v0_) ∧ Kd.R k131 131 w' w.heap.size (fun _ => True) v0_ r ∧ Below w.heap.size w w' := by
 have hu131 := Tryz.underlying131
 have HB := Aside0.mk (Below.refl w.heap.size w)
 have H : (some (([(⟨(⟨#[108, 105, 110, 95, 101, 113]⟩ : ByteArray), (⟨#[99, 86, 107]⟩ : ByteArray)⟩ : S131), (⟨(⟨#[108, 105, 110, 95, 108, 101]⟩ : ByteArray), (⟨#[99, 86, 107]⟩ : ByteArray)⟩ : S131), (⟨(⟨#[108, 105, 110, 95, 110, 101]⟩ : ByteArray), (⟨#[99, 86, 107]⟩ : ByteArray)⟩ : S131), (⟨(⟨#[108, 105, 110, 95, 114, 101, 105, 102]⟩ : ByteArray), (⟨#[99, 86, 107, 119]⟩ : ByteArray)⟩ : S131), (⟨(⟨#[116, 105, 109, 101, 115]⟩ : ByteArray), (⟨#[118, 118, 118]⟩ : ByteArray)⟩ : S131), (⟨(⟨#[100, 105, 118]⟩ : ByteArray), (⟨#[118, 118, 118]⟩ : ByteArray)⟩ : S131), (⟨(⟨#[109, 111, 100]⟩ : ByteArray), (⟨#[118, 118, 118]⟩ : ByteArray)⟩ : S131), (⟨(⟨#[97, 98, 115]⟩ : ByteArray), (⟨#[118, 118]⟩ : ByteArray)⟩ : S131), (⟨(⟨#[109, 105, 110]⟩ : ByteArray), (⟨#[118, 118, 118]⟩ : ByteArray)⟩ : S131), (⟨(⟨#[109, 97, 120]⟩ : ByteArray), (⟨#[118, 118, 118]⟩ : ByteArray)⟩ : S131), (⟨(⟨#[101, 108, 101, 109, 101, 110, 116]⟩ : ByteArray), (⟨#[118, 99, 118]⟩ : ByteArray)⟩ : S131), (⟨(⟨#[99, 108, 97, 117, 115, 101]⟩ : ByteArray), (⟨#[86, 87]⟩ : ByteArray)⟩ : S131), (⟨(⟨#[101, 113, 95, 114, 101, 105, 102]⟩ : ByteArray), (⟨#[118, 107, 119]⟩ : ByteArray)⟩ : S131), (⟨(⟨#[108, 101, 95, 114, 101, 105, 102]⟩ : ByteArray), (⟨#[118, 107, 119]⟩ : ByteArray)⟩ : S131), (⟨(⟨#[101, 113, 95, 105, 109, 112]⟩ : ByteArray), (⟨#[118, 107, 119]⟩ : ByteArray)⟩ : S131), (⟨(⟨#[108, 101, 95, 105, 109, 112]⟩ : ByteArray), (⟨#[118, 107, 119]⟩ : ByteArray)⟩ : S131), (⟨(⟨#[97, 108, 108, 95, 100, 105, 102, 102, 101, 114, 101, 110, 116]⟩ : ByteArray), (⟨#[86]⟩ : ByteArray)⟩ : S131), (⟨(⟨#[116, 97, 98, 108, 101]⟩ : ByteArray), (⟨#[86, 114]⟩ : ByteArray)⟩ : S131), (⟨(⟨#[99, 117, 109, 117, 108, 97, 116, 105, 118, 101]⟩ : ByteArray), (⟨#[86, 99, 100, 107]⟩ : ByteArray)⟩ : S131), (⟨(⟨#[99, 105, 114, 99, 117, 105, 116]⟩ : ByteArray), (⟨#[86]⟩ : ByteArray)⟩ : S131), (⟨(⟨#[103, 99, 99]⟩ : ByteArray), (⟨#[86, 99, 100, 101]⟩ : ByteArray)⟩ : S131), (⟨(⟨#[108, 101, 120, 95, 108, 101]⟩ : ByteArray), (⟨#[86, 87]⟩ : ByteArray)⟩ : S131), (⟨(⟨#[105, 110, 118, 101, 114, 115, 101]⟩ : ByteArray), (⟨#[86, 87]⟩ : ByteArray)⟩ : S131)] : List (S131)))) = some r := h
 clear h
 obtain ⟨y104, hy104⟩ : ∃ y_ : List (S131), y_ = (([(⟨(⟨#[108, 105, 110, 95, 101, 113]⟩ : ByteArray), (⟨#[99, 86, 107]⟩ : ByteArray)⟩ : S131), (⟨(⟨#[108, 105, 110, 95, 108, 101]⟩ : ByteArray), (⟨#[99, 86, 107]⟩ : ByteArray)⟩ : S131), (⟨(⟨#[108, 105, 110, 95, 110, 101]⟩ : ByteArray), (⟨#[99, 86, 107]⟩ : ByteArray)⟩ : S131), (⟨(⟨#[108, 105, 110, 95, 114, 101, 105, 102]⟩ : ByteArray), (⟨#[99, 86, 107, 119]⟩ : ByteArray)⟩ : S131), (⟨(⟨#[116, 105, 109, 101, 115]⟩ : ByteArray), (⟨#[118, 118, 118]⟩ : ByteArray)⟩ : S131), (⟨(⟨#[100, 105, 118]⟩ : ByteArray), (⟨#[118, 118, 118]⟩ : ByteArray)⟩ : S131), (⟨(⟨#[109, 111, 100]⟩ : ByteArray), (⟨#[118, 118, 118]⟩ : ByteArray)⟩ : S131), (⟨(⟨#[97, 98, 115]⟩ : ByteArray), (⟨#[118, 118]⟩ : ByteArray)⟩ : S131), (⟨(⟨#[109, 105, 110]⟩ : ByteArray), (⟨#[118, 118, 118]⟩ : ByteArray)⟩ : S131), (⟨(⟨#[109, 97, 120]⟩ : ByteArray), (⟨#[118, 118, 118]⟩ : ByteArray)⟩ : S131), (⟨(⟨#[101, 108, 101, 109, 101, 110, 116]⟩ : ByteArray), (⟨#[118, 99, 118]⟩ : ByteArray)⟩ : S131), (⟨(⟨#[99, 108, 97, 117, 115, 101]⟩ : ByteArray), (⟨#[86, 87]⟩ : ByteArray)⟩ : S131), (⟨(⟨#[101, 113, 95, 114, 101, 105, 102]⟩ : ByteArray), (⟨#[118, 107, 119]⟩ : ByteArray)⟩ : S131), (⟨(⟨#[108, 101, 95, 114, 101, 105, 102]⟩ : ByteArray), (⟨#[118, 107, 119]⟩ : ByteArray)⟩ : S131), (⟨(⟨#[101, 113, 95, 105, 109, 112]⟩ : ByteArray), (⟨#[118, 107, 119]⟩ : ByteArray)⟩ : S131), (⟨(⟨#[108, 101, 95, 105, 109, 112]⟩ : ByteArray), (⟨#[118, 107, 119]⟩ : ByteArray)⟩ : S131), (⟨(⟨#[97, 108, 108, 95, 100, 105, 102, 102, 101, 114, 101, 110, 116]⟩ : ByteArray), (⟨#[86]⟩ : ByteArray)⟩ : S131), (⟨(⟨#[116, 97, 98, 108, 101]⟩ : ByteArray), (⟨#[86, 114]⟩ : ByteArray)⟩ : S131), (⟨(⟨#[99, 117, 109, 117, 108, 97, 116, 105, 118, 101]⟩ : ByteArray), (⟨#[86, 99, 100, 107]⟩ : ByteArray)⟩ : S131), (⟨(⟨#[99, 105, 114, 99, 117, 105, 116]⟩ : ByteArray), (⟨#[86]⟩ : ByteArray)⟩ : S131), (⟨(⟨#[103, 99, 99]⟩ : ByteArray), (⟨#[86, 99, 100, 101]⟩ : ByteArray)⟩ : S131), (⟨(⟨#[108, 101, 120, 95, 108, 101]⟩ : ByteArray), (⟨#[86, 87]⟩ : ByteArray)⟩ : S131), (⟨(⟨#[105, 110, 118, 101, 114, 115, 101]⟩ : ByteArray), (⟨#[86, 87]⟩ : ByteArray)⟩ : S131)] : List (S131))) := ⟨_, rfl⟩
 replace H : (some y104) = some r := by first | (rw [hy104]; with_reducible exact H) | (have H2_ := (Option.bind_some _ _).symm.trans H; rw [hy104]; with_reducible exact H2_) | (have H2_ := (Option.bind_some _ _).symm.trans H; with_reducible exact H2_) | with_reducible exact H | (rw [hy104]; exact H) | exact H
 have Ny104 := Aside0.mk hy104
 clear hy104
 obtain rfl := Option.some.inj H
 go_enter Tryz.func108, Tryz.ntmps108
 go_wp2_with (first | ((with_reducible refine gate_dst (N := 24) rfl ?_); refine Kd.R_lit k131 _ 131 ?hg (N := 24) ?hd (xs := ([(⟨(⟨#[108, 105, 110, 95, 101, 113]⟩ : ByteArray), (⟨#[99, 86, 107]⟩ : ByteArray)⟩ : S131), (⟨(⟨#[108, 105, 110, 95, 108, 101]⟩ : ByteArray), (⟨#[99, 86, 107]⟩ : ByteArray)⟩ : S131), (⟨(⟨#[108, 105, 110, 95, 110, 101]⟩ : ByteArray), (⟨#[99, 86, 107]⟩ : ByteArray)⟩ : S131), (⟨(⟨#[108, 105, 110, 95, 114, 101, 105, 102]⟩ : ByteArray), (⟨#[99, 86, 107, 119]⟩ : ByteArray)⟩ : S131), (⟨(⟨#[116, 105, 109, 101, 115]⟩ : ByteArray), (⟨#[118, 118, 118]⟩ : ByteArray)⟩ : S131), (⟨(⟨#[100, 105, 118]⟩ : ByteArray), (⟨#[118, 118, 118]⟩ : ByteArray)⟩ : S131), (⟨(⟨#[109, 111, 100]⟩ : ByteArray), (⟨#[118, 118, 118]⟩ : ByteArray)⟩ : S131), (⟨(⟨#[97, 98, 115]⟩ : ByteArray), (⟨#[118, 118]⟩ : ByteArray)⟩ : S131), (⟨(⟨#[109, 105, 110]⟩ : ByteArray), (⟨#[118, 118, 118]⟩ : ByteArray)⟩ : S131), (⟨(⟨#[109, 97, 120]⟩ : ByteArray), (⟨#[118, 118, 118]⟩ : ByteArray)⟩ : S131), (⟨(⟨#[101, 108, 101, 109, 101, 110, 116]⟩ : ByteArray), (⟨#[118, 99, 118]⟩ : ByteArray)⟩ : S131), (⟨(⟨#[99, 108, 97, 117, 115, 101]⟩ : ByteArray), (⟨#[86, 87]⟩ : ByteArray)⟩ : S131), (⟨(⟨#[101, 113, 95, 114, 101, 105, 102]⟩ : ByteArray), (⟨#[118, 107, 119]⟩ : ByteArray)⟩ : S131), (⟨(⟨#[108, 101, 95, 114, 101, 105, 102]⟩ : ByteArray), (⟨#[118, 107, 119]⟩ : ByteArray)⟩ : S131), (⟨(⟨#[101, 113, 95, 105, 109, 112]⟩ : ByteArray), (⟨#[118, 107, 119]⟩ : ByteArray)⟩ : S131), (⟨(⟨#[108, 101, 95, 105, 109, 112]⟩ : ByteArray), (⟨#[118, 107, 119]⟩ : ByteArray)⟩ : S131), (⟨(⟨#[97, 108, 108, 95, 100, 105, 102, 102, 101, 114, 101, 110, 116]⟩ : ByteArray), (⟨#[86]⟩ : ByteArray)⟩ : S131), (⟨(⟨#[116, 97, 98, 108, 101]⟩ : ByteArray), (⟨#[86, 114]⟩ : ByteArray)⟩ : S131), (⟨(⟨#[99, 117, 109, 117, 108, 97, 116, 105, 118, 101]⟩ : ByteArray), (⟨#[86, 99, 100, 107]⟩ : ByteArray)⟩ : S131), (⟨(⟨#[99, 105, 114, 99, 117, 105, 116]⟩ : ByteArray), (⟨#[86]⟩ : ByteArray)⟩ : S131), (⟨(⟨#[103, 99, 99]⟩ : ByteArray), (⟨#[86, 99, 100, 101]⟩ : ByteArray)⟩ : S131), (⟨(⟨#[108, 101, 120, 95, 108, 101]⟩ : ByteArray), (⟨#[86, 87]⟩ : ByteArray)⟩ : S131), (⟨(⟨#[105, 110, 118, 101, 114, 115, 101]⟩ : ByteArray), (⟨#[86, 87]⟩ : ByteArray)⟩ : S131)] : List (S131))) (inner := [.string (⟨#[108, 105, 110, 95, 101, 113]⟩ : ByteArray), .string (⟨#[99, 86, 107]⟩ : ByteArray), .string (⟨#[108, 105, 110, 95, 108, 101]⟩ : ByteArray), .string (⟨#[99, 86, 107]⟩ : ByteArray), .string (⟨#[108, 105, 110, 95, 110, 101]⟩ : ByteArray), .string (⟨#[99, 86, 107]⟩ : ByteArray), .string (⟨#[108, 105, 110, 95, 114, 101, 105, 102]⟩ : ByteArray), .string (⟨#[99, 86, 107, 119]⟩ : ByteArray), .string (⟨#[116, 105, 109, 101, 115]⟩ : ByteArray), .string (⟨#[118, 118, 118]⟩ : ByteArray), .string (⟨#[100, 105, 118]⟩ : ByteArray), .string (⟨#[118, 118, 118]⟩ : ByteArray), .string (⟨#[109, 111, 100]⟩ : ByteArray), .string (⟨#[118, 118, 118]⟩ : ByteArray), .string (⟨#[97, 98, 115]⟩ : ByteArray), .string (⟨#[118, 118]⟩ : ByteArray), .string (⟨#[109, 105, 110]⟩ : ByteArray), .string (⟨#[118, 118, 118]⟩ : ByteArray), .string (⟨#[109, 97, 120]⟩ : ByteArray), .string (⟨#[118, 118, 118]⟩ : ByteArray), .string (⟨#[101, 108, 101, 109, 101, 110, 116]⟩ : ByteArray), .string (⟨#[118, 99, 118]⟩ : ByteArray), .string (⟨#[99, 108, 97, 117, 115, 101]⟩ : ByteArray), .string (⟨#[86, 87]⟩ : ByteArray), .string (⟨#[101, 113, 95, 114, 101, 105, 102]⟩ : ByteArray), .string (⟨#[118, 107, 119]⟩ : ByteArray), .string (⟨#[108, 101, 95, 114, 101, 105, 102]⟩ : ByteArray), .string (⟨#[118, 107, 119]⟩ : ByteArray), .string (⟨#[101, 113, 95, 105, 109, 112]⟩ : ByteArray), .string (⟨#[118, 107, 119]⟩ : ByteArray), .string (⟨#[108, 101, 95, 105, 109, 112]⟩ : ByteArray), .string (⟨#[118, 107, 119]⟩ : ByteArray), .string (⟨#[97, 108, 108, 95, 100, 105, 102, 102, 101, 114, 101, 110, 116]⟩ : ByteArray), .string (⟨#[86]⟩ : ByteArray), .string (⟨#[116, 97, 98, 108, 101]⟩ : ByteArray), .string (⟨#[86, 114]⟩ : ByteArray), .string (⟨#[99, 117, 109, 117, 108, 97, 116, 105, 118, 101]⟩ : ByteArray), .string (⟨#[86, 99, 100, 107]⟩ : ByteArray), .string (⟨#[99, 105, 114, 99, 117, 105, 116]⟩ : ByteArray), .string (⟨#[86]⟩ : ByteArray), .string (⟨#[103, 99, 99]⟩ : ByteArray), .string (⟨#[86, 99, 100, 101]⟩ : ByteArray), .string (⟨#[108, 101, 120, 95, 108, 101]⟩ : ByteArray), .string (⟨#[86, 87]⟩ : ByteArray), .string (⟨#[105, 110, 118, 101, 114, 115, 101]⟩ : ByteArray), .string (⟨#[86, 87]⟩ : ByteArray)]) (ok := fun _ => True) (okp := fun _ => True) ?hr ?hp (fun _ hk => hk) trivial (Below.refl _ _) (Nat.le_refl _) (by simp) ?_; (case hd => rfl); (case hg => rfl); (case hr => first | (go_simp; done) | (go_simp; rfl)); (case hp => exact (Reps.c2 (show Kd.M k131 _ _ _ (⟨(⟨#[108, 105, 110, 95, 101, 113]⟩ : ByteArray), (⟨#[99, 86, 107]⟩ : ByteArray)⟩ : S131) [.string (⟨#[108, 105, 110, 95, 101, 113]⟩ : ByteArray), .string (⟨#[99, 86, 107]⟩ : ByteArray)] from (k131_mkM _ _ _ (⟨(⟨#[108, 105, 110, 95, 101, 113]⟩ : ByteArray), (⟨#[99, 86, 107]⟩ : ByteArray)⟩ : S131) )) (Reps.c2 (show Kd.M k131 _ _ _ (⟨(⟨#[108, 105, 110, 95, 108, 101]⟩ : ByteArray), (⟨#[99, 86, 107]⟩ : ByteArray)⟩ : S131) [.string (⟨#[108, 105, 110, 95, 108, 101]⟩ : ByteArray), .string (⟨#[99, 86, 107]⟩ : ByteArray)] from (k131_mkM _ _ _ (⟨(⟨#[108, 105, 110, 95, 108, 101]⟩ : ByteArray), (⟨#[99, 86, 107]⟩ : ByteArray)⟩ : S131) )) (Reps.c2 (show Kd.M k131 _ _ _ (⟨(⟨#[108, 105, 110, 95, 110, 101]⟩ : ByteArray), (⟨#[99, 86, 107]⟩ : ByteArray)⟩ : S131) [.string (⟨#[108, 105, 110, 95, 110, 101]⟩ : ByteArray), .string (⟨#[99, 86, 107]⟩ : ByteArray)] from (k131_mkM _ _ _ (⟨(⟨#[108, 105, 110, 95, 110, 101]⟩ : ByteArray), (⟨#[99, 86, 107]⟩ : ByteArray)⟩ : S131) )) (Reps.c2 (show Kd.M k131 _ _ _ (⟨(⟨#[108, 105, 110, 95, 114, 101, 105, 102]⟩ : ByteArray), (⟨#[99, 86, 107, 119]⟩ : ByteArray)⟩ : S131) [.string (⟨#[108, 105, 110, 95, 114, 101, 105, 102]⟩ : ByteArray), .string (⟨#[99, 86, 107, 119]⟩ : ByteArray)] from (k131_mkM _ _ _ (⟨(⟨#[108, 105, 110, 95, 114, 101, 105, 102]⟩ : ByteArray), (⟨#[99, 86, 107, 119]⟩ : ByteArray)⟩ : S131) )) (Reps.c2 (show Kd.M k131 _ _ _ (⟨(⟨#[116, 105, 109, 101, 115]⟩ : ByteArray), (⟨#[118, 118, 118]⟩ : ByteArray)⟩ : S131) [.string (⟨#[116, 105, 109, 101, 115]⟩ : ByteArray), .string (⟨#[118, 118, 118]⟩ : ByteArray)] from (k131_mkM _ _ _ (⟨(⟨#[116, 105, 109, 101, 115]⟩ : ByteArray), (⟨#[118, 118, 118]⟩ : ByteArray)⟩ : S131) )) (Reps.c2 (show Kd.M k131 _ _ _ (⟨(⟨#[100, 105, 118]⟩ : ByteArray), (⟨#[118, 118, 118]⟩ : ByteArray)⟩ : S131) [.string (⟨#[100, 105, 118]⟩ : ByteArray), .string (⟨#[118, 118, 118]⟩ : ByteArray)] from (k131_mkM _ _ _ (⟨(⟨#[100, 105, 118]⟩ : ByteArray), (⟨#[118, 118, 118]⟩ : ByteArray)⟩ : S131) )) (Reps.c2 (show Kd.M k131 _ _ _ (⟨(⟨#[109, 111, 100]⟩ : ByteArray), (⟨#[118, 118, 118]⟩ : ByteArray)⟩ : S131) [.string (⟨#[109, 111, 100]⟩ : ByteArray), .string (⟨#[118, 118, 118]⟩ : ByteArray)] from (k131_mkM _ _ _ (⟨(⟨#[109, 111, 100]⟩ : ByteArray), (⟨#[118, 118, 118]⟩ : ByteArray)⟩ : S131) )) (Reps.c2 (show Kd.M k131 _ _ _ (⟨(⟨#[97, 98, 115]⟩ : ByteArray), (⟨#[118, 118]⟩ : ByteArray)⟩ : S131) [.string (⟨#[97, 98, 115]⟩ : ByteArray), .string (⟨#[118, 118]⟩ : ByteArray)] from (k131_mkM _ _ _ (⟨(⟨#[97, 98, 115]⟩ : ByteArray), (⟨#[118, 118]⟩ : ByteArray)⟩ : S131) )) (Reps.c2 (show Kd.M k131 _ _ _ (⟨(⟨#[109, 105, 110]⟩ : ByteArray), (⟨#[118, 118, 118]⟩ : ByteArray)⟩ : S131) [.string (⟨#[109, 105, 110]⟩ : ByteArray), .string (⟨#[118, 118, 118]⟩ : ByteArray)] from (k131_mkM _ _ _ (⟨(⟨#[109, 105, 110]⟩ : ByteArray), (⟨#[118, 118, 118]⟩ : ByteArray)⟩ : S131) )) (Reps.c2 (show Kd.M k131 _ _ _ (⟨(⟨#[109, 97, 120]⟩ : ByteArray), (⟨#[118, 118, 118]⟩ : ByteArray)⟩ : S131) [.string (⟨#[109, 97, 120]⟩ : ByteArray), .string (⟨#[118, 118, 118]⟩ : ByteArray)] from (k131_mkM _ _ _ (⟨(⟨#[109, 97, 120]⟩ : ByteArray), (⟨#[118, 118, 118]⟩ : ByteArray)⟩ : S131) )) (Reps.c2 (show Kd.M k131 _ _ _ (⟨(⟨#[101, 108, 101, 109, 101, 110, 116]⟩ : ByteArray), (⟨#[118, 99, 118]⟩ : ByteArray)⟩ : S131) [.string (⟨#[101, 108, 101, 109, 101, 110, 116]⟩ : ByteArray), .string (⟨#[118, 99, 118]⟩ : ByteArray)] from (k131_mkM _ _ _ (⟨(⟨#[101, 108, 101, 109, 101, 110, 116]⟩ : ByteArray), (⟨#[118, 99, 118]⟩ : ByteArray)⟩ : S131) )) (Reps.c2 (show Kd.M k131 _ _ _ (⟨(⟨#[99, 108, 97, 117, 115, 101]⟩ : ByteArray), (⟨#[86, 87]⟩ : ByteArray)⟩ : S131) [.string (⟨#[99, 108, 97, 117, 115, 101]⟩ : ByteArray), .string (⟨#[86, 87]⟩ : ByteArray)] from (k131_mkM _ _ _ (⟨(⟨#[99, 108, 97, 117, 115, 101]⟩ : ByteArray), (⟨#[86, 87]⟩ : ByteArray)⟩ : S131) )) (Reps.c2 (show Kd.M k131 _ _ _ (⟨(⟨#[101, 113, 95, 114, 101, 105, 102]⟩ : ByteArray), (⟨#[118, 107, 119]⟩ : ByteArray)⟩ : S131) [.string (⟨#[101, 113, 95, 114, 101, 105, 102]⟩ : ByteArray), .string (⟨#[118, 107, 119]⟩ : ByteArray)] from (k131_mkM _ _ _ (⟨(⟨#[101, 113, 95, 114, 101, 105, 102]⟩ : ByteArray), (⟨#[118, 107, 119]⟩ : ByteArray)⟩ : S131) )) (Reps.c2 (show Kd.M k131 _ _ _ (⟨(⟨#[108, 101, 95, 114, 101, 105, 102]⟩ : ByteArray), (⟨#[118, 107, 119]⟩ : ByteArray)⟩ : S131) [.string (⟨#[108, 101, 95, 114, 101, 105, 102]⟩ : ByteArray), .string (⟨#[118, 107, 119]⟩ : ByteArray)] from (k131_mkM _ _ _ (⟨(⟨#[108, 101, 95, 114, 101, 105, 102]⟩ : ByteArray), (⟨#[118, 107, 119]⟩ : ByteArray)⟩ : S131) )) (Reps.c2 (show Kd.M k131 _ _ _ (⟨(⟨#[101, 113, 95, 105, 109, 112]⟩ : ByteArray), (⟨#[118, 107, 119]⟩ : ByteArray)⟩ : S131) [.string (⟨#[101, 113, 95, 105, 109, 112]⟩ : ByteArray), .string (⟨#[118, 107, 119]⟩ : ByteArray)] from (k131_mkM _ _ _ (⟨(⟨#[101, 113, 95, 105, 109, 112]⟩ : ByteArray), (⟨#[118, 107, 119]⟩ : ByteArray)⟩ : S131) )) (Reps.c2 (show Kd.M k131 _ _ _ (⟨(⟨#[108, 101, 95, 105, 109, 112]⟩ : ByteArray), (⟨#[118, 107, 119]⟩ : ByteArray)⟩ : S131) [.string (⟨#[108, 101, 95, 105, 109, 112]⟩ : ByteArray), .string (⟨#[118, 107, 119]⟩ : ByteArray)] from (k131_mkM _ _ _ (⟨(⟨#[108, 101, 95, 105, 109, 112]⟩ : ByteArray), (⟨#[118, 107, 119]⟩ : ByteArray)⟩ : S131) )) (Reps.c2 (show Kd.M k131 _ _ _ (⟨(⟨#[97, 108, 108, 95, 100, 105, 102, 102, 101, 114, 101, 110, 116]⟩ : ByteArray), (⟨#[86]⟩ : ByteArray)⟩ : S131) [.string (⟨#[97, 108, 108, 95, 100, 105, 102, 102, 101, 114, 101, 110, 116]⟩ : ByteArray), .string (⟨#[86]⟩ : ByteArray)] from (k131_mkM _ _ _ (⟨(⟨#[97, 108, 108, 95, 100, 105, 102, 102, 101, 114, 101, 110, 116]⟩ : ByteArray), (⟨#[86]⟩ : ByteArray)⟩ : S131) )) (Reps.c2 (show Kd.M k131 _ _ _ (⟨(⟨#[116, 97, 98, 108, 101]⟩ : ByteArray), (⟨#[86, 114]⟩ : ByteArray)⟩ : S131) [.string (⟨#[116, 97, 98, 108, 101]⟩ : ByteArray), .string (⟨#[86, 114]⟩ : ByteArray)] from (k131_mkM _ _ _ (⟨(⟨#[116, 97, 98, 108, 101]⟩ : ByteArray), (⟨#[86, 114]⟩ : ByteArray)⟩ : S131) )) (Reps.c2 (show Kd.M k131 _ _ _ (⟨(⟨#[99, 117, 109, 117, 108, 97, 116, 105, 118, 101]⟩ : ByteArray), (⟨#[86, 99, 100, 107]⟩ : ByteArray)⟩ : S131) [.string (⟨#[99, 117, 109, 117, 108, 97, 116, 105, 118, 101]⟩ : ByteArray), .string (⟨#[86, 99, 100, 107]⟩ : ByteArray)] from (k131_mkM _ _ _ (⟨(⟨#[99, 117, 109, 117, 108, 97, 116, 105, 118, 101]⟩ : ByteArray), (⟨#[86, 99, 100, 107]⟩ : ByteArray)⟩ : S131) )) (Reps.c2 (show Kd.M k131 _ _ _ (⟨(⟨#[99, 105, 114, 99, 117, 105, 116]⟩ : ByteArray), (⟨#[86]⟩ : ByteArray)⟩ : S131) [.string (⟨#[99, 105, 114, 99, 117, 105, 116]⟩ : ByteArray), .string (⟨#[86]⟩ : ByteArray)] from (k131_mkM _ _ _ (⟨(⟨#[99, 105, 114, 99, 117, 105, 116]⟩ : ByteArray), (⟨#[86]⟩ : ByteArray)⟩ : S131) )) (Reps.c2 (show Kd.M k131 _ _ _ (⟨(⟨#[103, 99, 99]⟩ : ByteArray), (⟨#[86, 99, 100, 101]⟩ : ByteArray)⟩ : S131) [.string (⟨#[103, 99, 99]⟩ : ByteArray), .string (⟨#[86, 99, 100, 101]⟩ : ByteArray)] from (k131_mkM _ _ _ (⟨(⟨#[103, 99, 99]⟩ : ByteArray), (⟨#[86, 99, 100, 101]⟩ : ByteArray)⟩ : S131) )) (Reps.c2 (show Kd.M k131 _ _ _ (⟨(⟨#[108, 101, 120, 95, 108, 101]⟩ : ByteArray), (⟨#[86, 87]⟩ : ByteArray)⟩ : S131) [.string (⟨#[108, 101, 120, 95, 108, 101]⟩ : ByteArray), .string (⟨#[86, 87]⟩ : ByteArray)] from (k131_mkM _ _ _ (⟨(⟨#[108, 101, 120, 95, 108, 101]⟩ : ByteArray), (⟨#[86, 87]⟩ : ByteArray)⟩ : S131) )) (Reps.c2 (show Kd.M k131 _ _ _ (⟨(⟨#[105, 110, 118, 101, 114, 115, 101]⟩ : ByteArray), (⟨#[86, 87]⟩ : ByteArray)⟩ : S131) [.string (⟨#[105, 110, 118, 101, 114, 115, 101]⟩ : ByteArray), .string (⟨#[86, 87]⟩ : ByteArray)] from (k131_mkM _ _ _ (⟨(⟨#[105, 110, 118, 101, 114, 115, 101]⟩ : ByteArray), (⟨#[86, 87]⟩ : ByteArray)⟩ : S131) )) (Reps.none _ _))))))))))))))))))))))))); intro v105 w1 ho2 hb hg_ hnew_; clear hg_ hnew_; (first | rw [← Ny104.out] at ho2 | (simp only [Int.reduceToNat] at ho2; rw [← Ny104.out] at ho2)); have HO106 := Aside0.mk (Kd.R_lower ho2 (below_size bel_)); replace HB := Aside0.mk (below_step bel_ hb); clear hb ho2))
 go_ret
 exact ⟨_, by first | rfl | (simp [errW_none, errW_some] <;> rfl) | (simp [*, errW_none, errW_some] <;> rfl), by refine vR_ ?_; exact HO106.out, bel_⟩

/-! ### model_Word: function 107 -/
def model_Word.f (a0 : Int) : Option (ByteArray × Bool) := if a0 < 1 then (none) else ((model_forms.f).bind fun t107 => (if a0 > (t107.length : Int) then (none) else ((model_forms.f).bind fun t110 => (if 0 ≤ (wrap64 (a0 - 1)) then (if (wrap64 (a0 - 1)) < (t110.length : Int) then (some ((rd_T131 t110 (wrap64 (a0 - 1))).f0, true)) else (none)) else (none)))))
set_option maxHeartbeats 8000000 in
set_option maxRecDepth 100000 in
theorem model_Word.calls (a0 : Int) (r1 : ByteArray) (r2 : Bool) (w : World) (h : model_Word.f a0 = some (r1, r2)) :
  Calls Tryz.prog 107 #[.int .i64 a0] w fun e w' => e = .returned (.tuple #[.string r1, .bool r2]) ∧ Below w.heap.size w w' := by
 have HB := Aside0.mk (Below.refl w.heap.size w)
 have H : (if a0 < 1 then (none) else ((model_forms.f).bind fun t107 => (if a0 > (t107.length : Int) then (none) else ((model_forms.f).bind fun t110 => (if 0 ≤ (wrap64 (a0 - 1)) then (if (wrap64 (a0 - 1)) < (t110.length : Int) then (some ((rd_T131 t110 (wrap64 (a0 - 1))).f0, true)) else (none)) else (none)))))) = some (r1, r2) := h
 clear h
 by_cases c2 : a0 < 1
 ·
  rw [if_pos c2] at H
  exact absurd H (by simp)
 ·
  rw [if_neg c2] at H
  have c2b0 : decide (a0 < 1) = false := decide_eq_false c2
  clear c2
  replace H := Option.bind_eq_some_iff.mp H
  obtain ⟨t107, A30, H⟩ := H
  replace H : (if a0 > (t107.length : Int) then (none) else ((model_forms.f).bind fun t110 => (if 0 ≤ (wrap64 (a0 - 1)) then (if (wrap64 (a0 - 1)) < (t110.length : Int) then (some ((rd_T131 t110 (wrap64 (a0 - 1))).f0, true)) else (none)) else (none)))) = some (r1, r2) := H
  have A3 := Aside0.mk A30
  clear A30
  by_cases c4 : a0 > (t107.length : Int)
  ·
   rw [if_pos c4] at H
   exact absurd H (by simp)
  ·
   rw [if_neg c4] at H
   have c4b0 : decide ((t107.length : Int) < a0) = false := decide_eq_false c4
   clear c4
   replace H := Option.bind_eq_some_iff.mp H
   obtain ⟨t110, A50, H⟩ := H
   replace H : (if 0 ≤ (wrap64 (a0 - 1)) then (if (wrap64 (a0 - 1)) < (t110.length : Int) then (some ((rd_T131 t110 (wrap64 (a0 - 1))).f0, true)) else (none)) else (none)) = some (r1, r2) := H
   have A5 := Aside0.mk A50
   clear A50
   obtain ⟨ji6, hji6⟩ : ∃ j_ : Int, (wrap64 (a0 - 1)) = j_ := ⟨_, rfl⟩
   replace H : (if 0 ≤ (ji6) then (if (ji6) < (t110.length : Int) then (some ((rd_T131 t110 (ji6)).f0, true)) else (none)) else (none)) = some (r1, r2) := by first | (rw [hji6] at H; exact H) | (simp only [hji6] at H ⊢; exact H)
   (try rw [hji6] at A3)
   (try rw [hji6] at A5)
   have hji6w : (IntKind.i64.wrap (a0 - 1)) = ji6 := (i64_w _).trans hji6
   by_cases c7 : 0 ≤ (ji6)
   ·
    rw [if_pos c7] at H
    have c7b0 : decide (0 ≤ (ji6)) = true := decide_eq_true c7
    clear c7
    by_cases c8 : (ji6) < (t110.length : Int)
    ·
     rw [if_pos c8] at H
     have c8b0 : decide ((ji6) < (t110.length : Int)) = true := decide_eq_true c8
     clear c8
     simp only [Option.some.injEq, Prod.mk.injEq] at H
     obtain ⟨rfl, rfl⟩ := H
     go_enter Tryz.func107, Tryz.ntmps107
     go_wp2_with (first | (go_at_call 108; (with_reducible refine (model_forms.calls t107 _ A3.out).mono ?_); rintro e w9 ⟨v108, rfl, ho0, hb⟩; have HO109 := Aside0.mk (Kd.R_lower ho0 (below_size bel_)); replace HB := Aside0.mk (below_step bel_ hb); clear hb ho0; obtain ⟨Ao10, co10, eo10⟩ := Kd.R_slice HO109.out; subst eo10) | ((with_reducible refine gate_callee (f := 108) rfl ?_); refine goesL_ (some 12) rfl rfl Tryz.func108 (by kernel_rfl) rfl #[] rfl ar_ ?_; (with_reducible refine (model_forms.calls t110 _ A5.out).mono ?_); rintro e w11 ⟨v111, rfl, ho0, hb⟩; refine ⟨_, rfl, ?_⟩; have HO112 := Aside0.mk (Kd.R_lower (Kd.R_new' ho0 (Kd.R_lt (vR_ HO109.out))) (below_size bel_)); replace HB := Aside0.mk (below_step bel_ hb); clear hb ho0; obtain ⟨Ao12, co12, eo12⟩ := Kd.R_slice HO112.out; subst eo12; have p113 : 0 ≤ ((ji6) : Int) := dq_; have q113 : (ji6) < (t110.length : Int) := dq_; obtain ⟨ad113, e113, hx113_0, hx113_1⟩ := at_T131 (Kd.R_reads' HO112.out).2.2 (ji6) p113 q113; cases e113; replace p113 := eq_true p113; replace q113 := eq_true q113))
     go_ret2
     exact ⟨by first | rfl | (simp [errW_none, errW_some] <;> rfl) | (simp only [← hji6]; first | rfl | (simp [errW_none, errW_some] <;> rfl)) | (simp [*, errW_none, errW_some] <;> rfl), bel_⟩
    ·
     rw [if_neg c8] at H
     exact absurd H (by simp)
   ·
    rw [if_neg c7] at H
    exact absurd H (by simp)

/-! ### model_Shape: function 87 -/
def model_Shape.f (a0 : Int) : Option (ByteArray) := (model_Word.f a0).bind fun bt114 => (if bt114.2 = true then ((model_forms.f).bind fun t116 => (if 0 ≤ (wrap64 (a0 - 1)) then (if (wrap64 (a0 - 1)) < (t116.length : Int) then (some ((rd_T131 t116 (wrap64 (a0 - 1))).f1)) else (none)) else (none))) else (none))
set_option maxHeartbeats 8000000 in
set_option maxRecDepth 100000 in
theorem model_Shape.calls (a0 : Int) (r : ByteArray) (w : World) (h : model_Shape.f a0 = some r) :
  Calls Tryz.prog 87 #[.int .i64 a0] w fun e w' => e = .returned (.string r) ∧ Below w.heap.size w w' := by
 have HB := Aside0.mk (Below.refl w.heap.size w)
 have H : ((model_Word.f a0).bind fun bt114 => (if bt114.2 = true then ((model_forms.f).bind fun t116 => (if 0 ≤ (wrap64 (a0 - 1)) then (if (wrap64 (a0 - 1)) < (t116.length : Int) then (some ((rd_T131 t116 (wrap64 (a0 - 1))).f1)) else (none)) else (none))) else (none))) = some r := h
 clear h
 replace H := Option.bind_eq_some_iff.mp H
 obtain ⟨⟨t114, t115⟩, A20, H⟩ := H
 try dsimp only at H
 have A2 := Aside0.mk A20
 clear A20
 by_cases c3 : t115 = true
 ·
  subst c3
  have H1 : ((model_forms.f).bind fun t116 => (if 0 ≤ (wrap64 (a0 - 1)) then (if (wrap64 (a0 - 1)) < (t116.length : Int) then (some ((rd_T131 t116 (wrap64 (a0 - 1))).f1)) else (none)) else (none))) = some r := by rw [if_pos rfl] at H; exact H
  clear H
  have H := H1
  clear H1
  replace H := Option.bind_eq_some_iff.mp H
  obtain ⟨t116, A40, H⟩ := H
  try dsimp only at H
  have A4 := Aside0.mk A40
  clear A40
  obtain ⟨ji5, hji5⟩ : ∃ j_ : Int, (wrap64 (a0 - 1)) = j_ := ⟨_, rfl⟩
  replace H : (if 0 ≤ (ji5) then (if (ji5) < (t116.length : Int) then (some ((rd_T131 t116 (ji5)).f1)) else (none)) else (none)) = some r := by first | (rw [hji5] at H; exact H) | (simp only [hji5] at H ⊢; exact H)
  (try rw [hji5] at A2)
  (try rw [hji5] at A4)
  have hji5w : (IntKind.i64.wrap (a0 - 1)) = ji5 := (i64_w _).trans hji5
  by_cases c6 : 0 ≤ (ji5)
  ·
   rw [if_pos c6] at H
   have c6b0 : decide (0 ≤ (ji5)) = true := decide_eq_true c6
   clear c6
   by_cases c7 : (ji5) < (t116.length : Int)
   ·
    rw [if_pos c7] at H
    have c7b0 : decide ((ji5) < (t116.length : Int)) = true := decide_eq_true c7
    clear c7
    obtain rfl := Option.some.inj H
    go_enter Tryz.func87, Tryz.ntmps87
    go_wp2_with (first | ((with_reducible refine gate_callee (f := 107) rfl ?_); refine goesL_ (some 7) rfl rfl Tryz.func107 (by kernel_rfl) rfl #[.int .i64 a0] rfl ar_ ?_; (with_reducible refine (model_Word.calls a0 t114 true _ A2.out).mono ?_); rintro e w8 ⟨rfl, hb⟩; refine ⟨_, rfl, ?_⟩; replace HB := Aside0.mk (below_step bel_ hb); clear hb) | ((with_reducible refine gate_callee (f := 108) rfl ?_); refine goesL_ (some 12) rfl rfl Tryz.func108 (by kernel_rfl) rfl #[] rfl ar_ ?_; (with_reducible refine (model_forms.calls  t116 _ A4.out).mono ?_); rintro e w9 ⟨v117, rfl, ho0, hb⟩; refine ⟨_, rfl, ?_⟩; have HO118 := Aside0.mk (Kd.R_lower ho0 (below_size bel_)); replace HB := Aside0.mk (below_step bel_ hb); clear hb ho0; obtain ⟨Ao10, co10, eo10⟩ := Kd.R_slice HO118.out; subst eo10; have p119 : 0 ≤ ((ji5) : Int) := dq_; have q119 : (ji5) < (t116.length : Int) := dq_; obtain ⟨ad119, e119, hx119_0, hx119_1⟩ := at_T131 (Kd.R_reads' HO118.out).2.2 (ji5) p119 q119; cases e119; replace p119 := eq_true p119; replace q119 := eq_true q119))
    go_ret
    exact ⟨by first | rfl | (simp [errW_none, errW_some] <;> rfl) | (simp only [← hji5]; first | rfl | (simp [errW_none, errW_some] <;> rfl)) | (simp [*, errW_none, errW_some] <;> rfl), bel_⟩
   ·
    rw [if_neg c7] at H
    exact absurd H (by simp)
  ·
   rw [if_neg c6] at H
   exact absurd H (by simp)
 ·
  replace c3 := Bool.eq_false_iff.mpr c3
  subst c3
  have H1 : (none) = some r := by rw [if_neg (show ¬ (false = true) by decide)] at H; exact H
  clear H
  have H := H1
  clear H1
  exact absurd H (by simp)

/-! ### strings_Contains: function 90 -/
def strings_Contains.f (a0 : ByteArray) (a1 : ByteArray) : Option Bool := match a1.data.toList with
 | [c] => some (decide (0 ≤ Lib.indexByte a0.data.toList c))
 | _ => none
theorem one_byte (s : ByteArray) (c : UInt8) (h : s.data.toList = [c]) : s = ⟨#[c]⟩ := by
 obtain ⟨⟨l⟩⟩ := s
 simp only at h
 subst h; rfl
theorem strings_Contains.calls (a0 : ByteArray) (a1 : ByteArray) (r : Bool) (w : World) (h : strings_Contains.f a0 a1 = some r) :
  Calls Tryz.prog 90 #[.string a0, .string a1] w fun e w' => e = .returned (.bool r) ∧ Drawn0 w w' := by
 unfold strings_Contains.f at h
 split at h
 ·
  rename_i c hc
  obtain rfl := Option.some.inj h
  rw [one_byte a1 c hc]
  exact (Tryz.strings_Contains_one a0 c w).mono (fun e w' ⟨he, hw⟩ => ⟨he, by subst hw; exact Drawn0.refl _⟩)
 ·
  cases h

/-! ### model_within: function 109 -/
def model_within.f (a0 : Int) (a1 : Int) (a2 : Int) : Option (Bool) := if a0 ≥ a1 then (some (decide (a0 ≤ a2))) else (some false)
set_option maxHeartbeats 8000000 in
set_option maxRecDepth 100000 in
theorem model_within.calls (a0 : Int) (a1 : Int) (a2 : Int) (r : Bool) (w : World) (h : model_within.f a0 a1 a2 = some r) :
  Calls Tryz.prog 109 #[.int .i64 a0, .int .i64 a1, .int .i64 a2] w fun e w' => e = .returned (.bool r) ∧ Drawn0 w w' := by
 have H : (if a0 ≥ a1 then (some (decide (a0 ≤ a2))) else (some false)) = some r := h
 clear h
 by_cases c4 : a0 ≥ a1
 ·
  rw [if_pos c4] at H
  have c4b0 : decide (a1 ≤ a0) = true := decide_eq_true c4
  clear c4
  obtain rfl := Option.some.inj H
  go_enter Tryz.func109, Tryz.ntmps109
  go_wp2
  go_ret
  exact ⟨by first | rfl | (simp; done) | (simp [*]; done), by repeat (first | exact Drawn0.refl _ | apply Drawn0.step)⟩
 ·
  rw [if_neg c4] at H
  have c4b0 : decide (a1 ≤ a0) = false := decide_eq_false c4
  clear c4
  obtain rfl := Option.some.inj H
  go_enter Tryz.func109, Tryz.ntmps109
  go_wp2
  go_ret
  exact ⟨by first | rfl | (simp; done) | (simp [*]; done), by repeat (first | exact Drawn0.refl _ | apply Drawn0.step)⟩

/-! ### strings_Count: function 123 -/
def strings_Count.f (a0 : ByteArray) (a1 : ByteArray) : Option Int := match a1.data.toList with
 | [c] => some (Lib.countByte a0.data.toList c : Nat)
 | _ => none
theorem strings_Count.calls (a0 : ByteArray) (a1 : ByteArray) (r : Int) (w : World) (h : strings_Count.f a0 a1 = some r) :
  Calls Tryz.prog 123 #[.string a0, .string a1] w fun e w' => e = .returned (.int .i64 r) ∧ Drawn0 w w' := by
 unfold strings_Count.f at h
 split at h
 ·
  rename_i c hc
  obtain rfl := Option.some.inj h
  rw [one_byte a1 c hc]
  exact (Tryz.strings_Count_one a0 c w).mono (fun e w' ⟨he, hw⟩ => ⟨he, by subst hw; exact Drawn0.refl _⟩)
 ·
  cases h

/-! ### model_named: function 110 -/
def model_named.f (a0 : Int) (a1 : ByteArray) (a2 : ByteArray) (a3 : ByteArray) : Option (Bool) := (strings_Contains.f a1 a3).bind fun t120 => (if t120 = true then (none) else ((strings_Count.f a1 a2).bind fun t121 => (some (a0 == t121))))
set_option maxHeartbeats 8000000 in
set_option maxRecDepth 100000 in
theorem model_named.calls (a0 : Int) (a1 : ByteArray) (a2 : ByteArray) (a3 : ByteArray) (r : Bool) (w : World) (h : model_named.f a0 a1 a2 a3 = some r) :
  Calls Tryz.prog 110 #[.int .i64 a0, .string a1, .string a2, .string a3] w fun e w' => e = .returned (.bool r) ∧ Drawn0 w w' := by
 have H : ((strings_Contains.f a1 a3).bind fun t120 => (if t120 = true then (none) else ((strings_Count.f a1 a2).bind fun t121 => (some (a0 == t121))))) = some r := h
 clear h
 replace H := Option.bind_eq_some_iff.mp H
 obtain ⟨t120, A50, H⟩ := H
 try dsimp only at H
 have A5 := Aside0.mk A50
 clear A50
 by_cases c6 : t120 = true
 ·
  subst c6
  have H1 : (none) = some r := by rw [if_pos rfl] at H; exact H
  clear H
  have H := H1
  clear H1
  exact absurd H (by simp)
 ·
  replace c6 := Bool.eq_false_iff.mpr c6
  subst c6
  have H1 : ((strings_Count.f a1 a2).bind fun t121 => (some (a0 == t121))) = some r := by rw [if_neg (show ¬ (false = true) by decide)] at H; exact H
  clear H
  have H := H1
  clear H1
  replace H := Option.bind_eq_some_iff.mp H
  obtain ⟨t121, A70, H⟩ := H
  try dsimp only at H
  have A7 := Aside0.mk A70
  clear A70
  obtain rfl := Option.some.inj H
  go_enter Tryz.func110, Tryz.ntmps110
  go_wp2_with (first | ((with_reducible refine gate_callee (f := 90) rfl ?_); refine goesL_ (some 11) rfl rfl Tryz.func90 (by kernel_rfl) rfl #[.string a1, .string a3] rfl ar_ ?_; (with_reducible refine (strings_Contains.calls a1 a3 false _ A5.out).mono ?_); rintro e w' ⟨rfl, ⟨nd, rfl⟩⟩; refine ⟨_, rfl, ?_⟩) | ((with_reducible refine gate_callee (f := 123) rfl ?_); refine goesL_ (some 17) rfl rfl Tryz.func123 (by kernel_rfl) rfl #[.string a1, .string a2] rfl ar_ ?_; (with_reducible refine (strings_Count.calls a1 a2 t121 _ A7.out).mono ?_); rintro e w' ⟨rfl, ⟨nd, rfl⟩⟩; refine ⟨_, rfl, ?_⟩))
  go_ret
  exact ⟨by first | rfl | (simp; done) | (simp [*]; done), by repeat (first | exact Drawn0.refl _ | apply Drawn0.step)⟩

end Go.Proofs.YtbhhbgoamomacaaGreatDoor.XMulFixed
