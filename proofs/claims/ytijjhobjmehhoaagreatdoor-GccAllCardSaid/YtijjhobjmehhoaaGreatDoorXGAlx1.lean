-- by xprint.py, a program of this session, over the kit's print
import Derived.Test.YtijjhobjmehhoaaGreatDoorXGAlx0
import Derived.Test.YtijjhobjmehhoaaGreatDoorSq
namespace Go.Proofs.YtijjhobjmehhoaaGreatDoor.XGccAll
open Go.RowKit Go.Proofs.YtijjhobjmehhoaaGreatDoor.Sq Go.Proofs.YtijjhobjmehhoaaGreatDoorW.PrintWords Go.Proofs.YtijjhobjmehhoaaGreatDoorW.PrintLast Go.Proofs.YtijjhobjmehhoaaGreatDoorW.PrintMore
attribute [local go_sem] max2_int min2_int max_two min_two max_three min_three max_four min_four   -- for this text's walks alone
set_option linter.unusedVariables false
set_option linter.unusedSimpArgs false

theorem fold_step {op : Int → Int → Int} {l : List Int} {z : Int} {k : Nat} (h : k < l.length) : (l.take (k + 1)).foldl op z = op ((l.take k).foldl op z) (rd l k) := by
 rw [List.take_succ_eq_append_getElem h, List.foldl_append]
 have e : rd l k = l[k] := by unfold rd; rw [Int.toNat_natCast, List.getD_eq_getElem?_getD, List.getElem?_eq_getElem h]; rfl
 rw [e]; rfl
theorem mx_self (a : Int) : mx a a = a := by unfold mx; split <;> rfl
theorem mn_self (a : Int) : mn a a = a := by unfold mn; split <;> rfl

def IdxPost (l0 : List Int) (p : Int → Bool) (w : World) (e : Ending) (w' : World) : Prop := ∃ i : Int, e = .returned (.int .i64 i) ∧ (0 ≤ i ↔ l0.any p = true) ∧ Drawn0 w w'
/-- slices.IndexFunc at numbers and whatever function that captures nothing and makes nothing. -/
theorem indexInt (g : Nat) (lb : Array Value) (p : Int → Bool) (eg : ∀ args w, (callFunc g args).run Tryz.prog w = .ok (.enter g args) w)
  (A0 : Option Addr) (c0 : Nat) (l0 : List Int) (w : World)
  (hp : ∀ v m, Calls Tryz.prog g (#[.int .i64 v] ++ lb) (w.drewN m) fun e w' => e = .returned (.bool (p v)) ∧ Drawn0 (w.drewN m) w') (hr0 : Kd.C (Kd.int .i64) w A0 l0.length l0) :
  Calls Tryz.prog 87 #[.slice A0 l0.length c0, .func (.func g) #[] lb] w (IdxPost l0 p w) := by
 have hbig : l0.length ≤ 9223372036854775807 := hr0.2.1
 have HR := Aside0.mk hr0
 have HP := Aside0.mk hp
 clear hr0 hp
 go_enter Tryz.func87, Tryz.ntmps87
 go_wp2
 go_loopg [8] l0.length (fun gg s8 wr => ∃ kk : Nat, kk ≤ l0.length ∧ l0.length - kk ≤ gg ∧ s8 = .int .i64 kk ∧ Aside0 (Drawn0 w wr) ∧ Aside0 (∀ j, j < kk → p (rd l0 (j : Nat)) = false))
 case atStart => exact ⟨0, Nat.zero_le _, by omega, rfl, ⟨Drawn0.refl _⟩, ⟨fun j hj => absurd hj (Nat.not_lt_zero _)⟩⟩
 obtain ⟨kk, hkk, hg, rfl, BW, AF⟩ := hrel
 obtain ⟨⟨m, rfl⟩⟩ := BW
 by_cases hlt : kk < l0.length
 rotate_left
 ·
  have hltz : ¬ (kk : Int) < (l0.length : Int) := by omega
  have : kk = l0.length := by omega
  subst this
  go_wp2
  go_ret
  refine ⟨-1, rfl, ⟨fun h => absurd h (by decide), fun h => ?_⟩, ⟨_, rfl⟩⟩
  rw [List.any_eq_true] at h
  obtain ⟨x, hx, hp⟩ := h
  obtain ⟨j, hj, rfl⟩ := List.getElem_of_mem hx
  have := AF.out j hj
  unfold rd at this
  rw [Int.toNat_natCast, List.getD_eq_getElem?_getD, List.getElem?_eq_getElem hj] at this
  simp only [Option.getD_some] at this
  rw [this] at hp; cases hp
 have hltz : (kk : Int) < (l0.length : Int) := by omega
 obtain ⟨ad, rfl, hcell⟩ := Kd.at_int HR.out (kk : Int) (by omega) hltz
 rw [Int.toNat_natCast] at hcell
 have hcell' : (w.drewN m).cell? (ad.add kk) = some (.int .i64 (rd l0 kk)) := by rw [World.cell?_drewN]; exact hcell
 clear hcell
 have hcall := HP.out (rd l0 kk) m
 cases hq : p (rd l0 kk) with
 | true =>
  rw [hq] at hcall
  have HQ := Aside0.mk hq
  have HC := Aside0.mk hcall
  clear hq hcall
  go_wp2_with (go_at_fn g; refine HC.out.mono ?_; rintro e w' ⟨rfl, ⟨nd, rfl⟩⟩)
  go_ret
  refine ⟨kk, rfl, ⟨fun _ => ?_, fun _ => by omega⟩, ⟨_, rfl⟩⟩
  rw [List.any_eq_true]
  exact ⟨rd l0 kk, by unfold rd; rw [Int.toNat_natCast, List.getD_eq_getElem?_getD, List.getElem?_eq_getElem hlt]; exact List.getElem_mem hlt, HQ.out⟩
 | false =>
  rw [hq] at hcall
  have HQ := Aside0.mk hq
  have HC := Aside0.mk hcall
  clear hq hcall
  go_wp2_with (go_at_fn g; refine HC.out.mono ?_; rintro e w' ⟨rfl, ⟨nd, rfl⟩⟩)
  go_roundg (l0.length - (kk + 1))
  case measure => omega
  refine ⟨kk + 1, by omega, by omega, by go_num, ⟨⟨_, rfl⟩⟩, ⟨fun j hj => ?_⟩⟩
  by_cases e : j = kk
  · subst e; exact HQ.out
  exact AF.out j (by omega)
/-- slices.ContainsFunc at numbers and whatever function that captures nothing and makes nothing. -/
theorem containsInt (g : Nat) (lb : Array Value) (p : Int → Bool) (eg : ∀ args w, (callFunc g args).run Tryz.prog w = .ok (.enter g args) w)
  (A0 : Option Addr) (c0 : Nat) (l0 : List Int) (w : World)
  (hp : ∀ v m, Calls Tryz.prog g (#[.int .i64 v] ++ lb) (w.drewN m) fun e w' => e = .returned (.bool (p v)) ∧ Drawn0 (w.drewN m) w') (hr0 : Kd.C (Kd.int .i64) w A0 l0.length l0) (hc0 : l0.length ≤ c0) :
  Calls Tryz.prog 61 #[.slice A0 l0.length c0, .func (.func g) #[] lb] w fun e w' => e = .returned (.bool (l0.any p)) ∧ Drawn0 w w' := by
 have HC := Aside0.mk (indexInt g lb p eg A0 c0 l0 w hp hr0)
 clear hr0
 go_enter Tryz.func61, Tryz.ntmps61
 go_wp2_with (go_at_call 87; refine HC.out.mono ?_; rintro e w' ⟨i, rfl, hi, hd⟩; have HI := Aside0.mk hi; clear hi)
 go_ret
 refine ⟨?_, hd⟩
 have := HI.out
 by_cases h : 0 ≤ i
 · rw [this.mp h]; simp [h]
 have : l0.any p = false := by rw [Bool.eq_false_iff]; exact fun e => h (this.mpr e)
 rw [this]; simp [h]

-- NOT PRINTED: function 75 (dom_Dom_75)

-- NOT PRINTED: function 55 (dom_Dom_55)

/-! ### dom_Dom_Size: function 23 -/
def dom_Dom_Size.f (b : Int) (c : List Int) (d : Int) (e : Int) (a : Int) : Option (Int) := some a
set_option maxHeartbeats 8000000 in
set_option maxRecDepth 100000 in
theorem dom_Dom_Size.calls (b : Int) (c : Option Addr) (c0_1 : Nat) (a : List Int) (d : Int) (g : Int) (l : Int) (r : Int) (w : World) (n : Kd.C (Kd.int .u64) w c a.length a) (m : a.length ≤ c0_1) (h : dom_Dom_Size.f b a d g l = some r) :
  Calls Tryz.prog 23 #[.agg #[.int .i64 b, .slice c a.length c0_1, .int .i64 d, .int .i64 g, .int .i64 l]] w fun e w' => e = .returned (.int .i64 r) ∧ Below w.heap.size w w' := by
 have hu58 := Tryz.underlying58
 have s := a_ m
 clear n m
 have HB := a_ (Below.refl w.heap.size w)
 unfold dom_Dom_Size.f at h
 have H := h
 clear h
 obtain rfl := si_ H
 go_enter Tryz.func23, Tryz.ntmps23
 go_wp2_with (first | ((with_reducible refine gate_dst (N := 1) rfl ?_); refine bxe_ (N := 1) (cs := #[.int .i64 b, .slice c a.length c0_1, .int .i64 d, .int .i64 g, .int .i64 l]) (t := 58) ?_; intro o hg w2 hbox hb; have p := a_ (hbox); have q := a_ (by rw [hg]; exact (bz_ bel_) : w.heap.size ≤ o); have u := q; replace HB := hq_ hb; clear hb hbox hg; obtain ⟨_, _, _, _, _, _, _, _, _, _⟩ := cel5_ p.out))
 go_ret
 exact ⟨er_, bel_⟩

/-! ### prop_Fits_1: function 56 -/
def prop_Fits_1.f (a : Int) (b : List Int) (c : Int) (d : Int) (e : Int) : Option (Bool) := (dom_Dom_Size.f a b c d e).bind fun g => (some (g == 0))
set_option maxHeartbeats 8000000 in
set_option maxRecDepth 100000 in
theorem prop_Fits_1.calls (b : Int) (l : Option Addr) (c0_1 : Nat) (a : List Int) (c : Int) (d : Int) (g : Int) (r : Bool) (w : World) (m : Kd.C (Kd.int .u64) w l a.length a) (n : a.length ≤ c0_1) (h : prop_Fits_1.f b a c d g = some r) :
  Calls Tryz.prog 56 #[.agg #[.int .i64 b, .slice l a.length c0_1, .int .i64 c, .int .i64 d, .int .i64 g]] w fun e w' => e = .returned (.bool r) ∧ Below w.heap.size w w' := by
 have hu58 := Tryz.underlying58
 have o := a_ m
 have p := a_ n
 clear m n
 have HB := a_ (Below.refl w.heap.size w)
 unfold prop_Fits_1.f at h
 have H := h
 clear h
 replace H := bo_ H
 obtain ⟨v, y, H⟩ := H
 try dsimp only at H
 obtain rfl := si_ H
 go_enter Tryz.func56, Tryz.ntmps56
 go_wp2_with (first | ((with_reducible refine gate_dst (N := 1) rfl ?_); refine bxe_ (N := 1) (cs := #[.int .i64 b, .slice l a.length c0_1, .int .i64 c, .int .i64 d, .int .i64 g]) (t := 58) ?_; intro q hg w3 hbox hb; have s := a_ (hbox); have u := a_ (by rw [hg]; exact (bz_ bel_) : w.heap.size ≤ q); have x := u; replace HB := hq_ hb; clear hb hbox hg; obtain ⟨_, _, _, _, _, _, _, _, _, _⟩ := cel5_ s.out) | ((with_reducible refine gate_callee (f := 23) rfl ?_); refine goesL_ (some 4) rfl rfl Tryz.func23 kr_ rfl #[.agg #[.int .i64 b, .slice l a.length c0_1, .int .i64 c, .int .i64 d, .int .i64 g]] rfl ar_ ?_; (with_reducible refine (dom_Dom_Size.calls b _ _ a c d g v _ ?_ ?_ y.out).mono ?_); exact ca_ ((cb_ o.out HB.out)); exact p.out; rintro e w5 ⟨rfl, hb⟩; refine ⟨_, rfl, ?_⟩; replace HB := hq_ hb; clear hb))
 go_ret
 exact ⟨er_, bel_⟩

-- NOT PRINTED: function 87 (slices_IndexFunc_int_int_87)

-- NOT PRINTED: function 61 (slices_ContainsFunc_int_int_61)

/-! ### model_forms: function 94 -/
def model_forms.f  : Option ((List (S125))) := some (([(⟨(⟨#[108, 105, 110, 95, 101, 113]⟩ : ByteArray), (⟨#[99, 86, 107]⟩ : ByteArray)⟩ : S125), (⟨(⟨#[108, 105, 110, 95, 108, 101]⟩ : ByteArray), (⟨#[99, 86, 107]⟩ : ByteArray)⟩ : S125), (⟨(⟨#[108, 105, 110, 95, 110, 101]⟩ : ByteArray), (⟨#[99, 86, 107]⟩ : ByteArray)⟩ : S125), (⟨(⟨#[108, 105, 110, 95, 114, 101, 105, 102]⟩ : ByteArray), (⟨#[99, 86, 107, 119]⟩ : ByteArray)⟩ : S125), (⟨(⟨#[116, 105, 109, 101, 115]⟩ : ByteArray), (⟨#[118, 118, 118]⟩ : ByteArray)⟩ : S125), (⟨(⟨#[100, 105, 118]⟩ : ByteArray), (⟨#[118, 118, 118]⟩ : ByteArray)⟩ : S125), (⟨(⟨#[109, 111, 100]⟩ : ByteArray), (⟨#[118, 118, 118]⟩ : ByteArray)⟩ : S125), (⟨(⟨#[97, 98, 115]⟩ : ByteArray), (⟨#[118, 118]⟩ : ByteArray)⟩ : S125), (⟨(⟨#[109, 105, 110]⟩ : ByteArray), (⟨#[118, 118, 118]⟩ : ByteArray)⟩ : S125), (⟨(⟨#[109, 97, 120]⟩ : ByteArray), (⟨#[118, 118, 118]⟩ : ByteArray)⟩ : S125), (⟨(⟨#[101, 108, 101, 109, 101, 110, 116]⟩ : ByteArray), (⟨#[118, 99, 118]⟩ : ByteArray)⟩ : S125), (⟨(⟨#[99, 108, 97, 117, 115, 101]⟩ : ByteArray), (⟨#[86, 87]⟩ : ByteArray)⟩ : S125), (⟨(⟨#[101, 113, 95, 114, 101, 105, 102]⟩ : ByteArray), (⟨#[118, 107, 119]⟩ : ByteArray)⟩ : S125), (⟨(⟨#[108, 101, 95, 114, 101, 105, 102]⟩ : ByteArray), (⟨#[118, 107, 119]⟩ : ByteArray)⟩ : S125), (⟨(⟨#[101, 113, 95, 105, 109, 112]⟩ : ByteArray), (⟨#[118, 107, 119]⟩ : ByteArray)⟩ : S125), (⟨(⟨#[108, 101, 95, 105, 109, 112]⟩ : ByteArray), (⟨#[118, 107, 119]⟩ : ByteArray)⟩ : S125), (⟨(⟨#[97, 108, 108, 95, 100, 105, 102, 102, 101, 114, 101, 110, 116]⟩ : ByteArray), (⟨#[86]⟩ : ByteArray)⟩ : S125), (⟨(⟨#[116, 97, 98, 108, 101]⟩ : ByteArray), (⟨#[86, 114]⟩ : ByteArray)⟩ : S125), (⟨(⟨#[99, 117, 109, 117, 108, 97, 116, 105, 118, 101]⟩ : ByteArray), (⟨#[86, 99, 100, 107]⟩ : ByteArray)⟩ : S125), (⟨(⟨#[99, 105, 114, 99, 117, 105, 116]⟩ : ByteArray), (⟨#[86]⟩ : ByteArray)⟩ : S125), (⟨(⟨#[103, 99, 99]⟩ : ByteArray), (⟨#[86, 99, 100, 101]⟩ : ByteArray)⟩ : S125), (⟨(⟨#[108, 101, 120, 95, 108, 101]⟩ : ByteArray), (⟨#[86, 87]⟩ : ByteArray)⟩ : S125), (⟨(⟨#[105, 110, 118, 101, 114, 115, 101]⟩ : ByteArray), (⟨#[86, 87]⟩ : ByteArray)⟩ : S125)] : List (S125)))
set_option maxHeartbeats 8000000 in
set_option maxRecDepth 100000 in
theorem model_forms.calls  (r : List (S125)) (w : World) (h : model_forms.f  = some r) :
  Calls Tryz.prog 94 #[] w fun e w' => ∃ g : Value, e = .returned (g) ∧ Kd.R k125 125 w' w.heap.size (fun _ => True) g r ∧ Below w.heap.size w w' := by
 have hu125 := Tryz.underlying125
 have HB := a_ (Below.refl w.heap.size w)
 unfold model_forms.f at h
 have H := h
 clear h
 obtain ⟨l, a⟩ : ∃ y_ : List (S125), y_ = (([(⟨(⟨#[108, 105, 110, 95, 101, 113]⟩ : ByteArray), (⟨#[99, 86, 107]⟩ : ByteArray)⟩ : S125), (⟨(⟨#[108, 105, 110, 95, 108, 101]⟩ : ByteArray), (⟨#[99, 86, 107]⟩ : ByteArray)⟩ : S125), (⟨(⟨#[108, 105, 110, 95, 110, 101]⟩ : ByteArray), (⟨#[99, 86, 107]⟩ : ByteArray)⟩ : S125), (⟨(⟨#[108, 105, 110, 95, 114, 101, 105, 102]⟩ : ByteArray), (⟨#[99, 86, 107, 119]⟩ : ByteArray)⟩ : S125), (⟨(⟨#[116, 105, 109, 101, 115]⟩ : ByteArray), (⟨#[118, 118, 118]⟩ : ByteArray)⟩ : S125), (⟨(⟨#[100, 105, 118]⟩ : ByteArray), (⟨#[118, 118, 118]⟩ : ByteArray)⟩ : S125), (⟨(⟨#[109, 111, 100]⟩ : ByteArray), (⟨#[118, 118, 118]⟩ : ByteArray)⟩ : S125), (⟨(⟨#[97, 98, 115]⟩ : ByteArray), (⟨#[118, 118]⟩ : ByteArray)⟩ : S125), (⟨(⟨#[109, 105, 110]⟩ : ByteArray), (⟨#[118, 118, 118]⟩ : ByteArray)⟩ : S125), (⟨(⟨#[109, 97, 120]⟩ : ByteArray), (⟨#[118, 118, 118]⟩ : ByteArray)⟩ : S125), (⟨(⟨#[101, 108, 101, 109, 101, 110, 116]⟩ : ByteArray), (⟨#[118, 99, 118]⟩ : ByteArray)⟩ : S125), (⟨(⟨#[99, 108, 97, 117, 115, 101]⟩ : ByteArray), (⟨#[86, 87]⟩ : ByteArray)⟩ : S125), (⟨(⟨#[101, 113, 95, 114, 101, 105, 102]⟩ : ByteArray), (⟨#[118, 107, 119]⟩ : ByteArray)⟩ : S125), (⟨(⟨#[108, 101, 95, 114, 101, 105, 102]⟩ : ByteArray), (⟨#[118, 107, 119]⟩ : ByteArray)⟩ : S125), (⟨(⟨#[101, 113, 95, 105, 109, 112]⟩ : ByteArray), (⟨#[118, 107, 119]⟩ : ByteArray)⟩ : S125), (⟨(⟨#[108, 101, 95, 105, 109, 112]⟩ : ByteArray), (⟨#[118, 107, 119]⟩ : ByteArray)⟩ : S125), (⟨(⟨#[97, 108, 108, 95, 100, 105, 102, 102, 101, 114, 101, 110, 116]⟩ : ByteArray), (⟨#[86]⟩ : ByteArray)⟩ : S125), (⟨(⟨#[116, 97, 98, 108, 101]⟩ : ByteArray), (⟨#[86, 114]⟩ : ByteArray)⟩ : S125), (⟨(⟨#[99, 117, 109, 117, 108, 97, 116, 105, 118, 101]⟩ : ByteArray), (⟨#[86, 99, 100, 107]⟩ : ByteArray)⟩ : S125), (⟨(⟨#[99, 105, 114, 99, 117, 105, 116]⟩ : ByteArray), (⟨#[86]⟩ : ByteArray)⟩ : S125), (⟨(⟨#[103, 99, 99]⟩ : ByteArray), (⟨#[86, 99, 100, 101]⟩ : ByteArray)⟩ : S125), (⟨(⟨#[108, 101, 120, 95, 108, 101]⟩ : ByteArray), (⟨#[86, 87]⟩ : ByteArray)⟩ : S125), (⟨(⟨#[105, 110, 118, 101, 114, 115, 101]⟩ : ByteArray), (⟨#[86, 87]⟩ : ByteArray)⟩ : S125)] : List (S125))) := ⟨_, rfl⟩
 replace H : (some l) = some r := h2_ H a
 have c := a_ a
 clear a
 obtain rfl := si_ H
 go_enter Tryz.func94, Tryz.ntmps94
 go_wp2_with (first | ((with_reducible refine gate_dst (N := 24) rfl ?_); refine Kd.R_lit k125 _ 125 ?hg (N := 24) ?hd (xs := ([(⟨(⟨#[108, 105, 110, 95, 101, 113]⟩ : ByteArray), (⟨#[99, 86, 107]⟩ : ByteArray)⟩ : S125), (⟨(⟨#[108, 105, 110, 95, 108, 101]⟩ : ByteArray), (⟨#[99, 86, 107]⟩ : ByteArray)⟩ : S125), (⟨(⟨#[108, 105, 110, 95, 110, 101]⟩ : ByteArray), (⟨#[99, 86, 107]⟩ : ByteArray)⟩ : S125), (⟨(⟨#[108, 105, 110, 95, 114, 101, 105, 102]⟩ : ByteArray), (⟨#[99, 86, 107, 119]⟩ : ByteArray)⟩ : S125), (⟨(⟨#[116, 105, 109, 101, 115]⟩ : ByteArray), (⟨#[118, 118, 118]⟩ : ByteArray)⟩ : S125), (⟨(⟨#[100, 105, 118]⟩ : ByteArray), (⟨#[118, 118, 118]⟩ : ByteArray)⟩ : S125), (⟨(⟨#[109, 111, 100]⟩ : ByteArray), (⟨#[118, 118, 118]⟩ : ByteArray)⟩ : S125), (⟨(⟨#[97, 98, 115]⟩ : ByteArray), (⟨#[118, 118]⟩ : ByteArray)⟩ : S125), (⟨(⟨#[109, 105, 110]⟩ : ByteArray), (⟨#[118, 118, 118]⟩ : ByteArray)⟩ : S125), (⟨(⟨#[109, 97, 120]⟩ : ByteArray), (⟨#[118, 118, 118]⟩ : ByteArray)⟩ : S125), (⟨(⟨#[101, 108, 101, 109, 101, 110, 116]⟩ : ByteArray), (⟨#[118, 99, 118]⟩ : ByteArray)⟩ : S125), (⟨(⟨#[99, 108, 97, 117, 115, 101]⟩ : ByteArray), (⟨#[86, 87]⟩ : ByteArray)⟩ : S125), (⟨(⟨#[101, 113, 95, 114, 101, 105, 102]⟩ : ByteArray), (⟨#[118, 107, 119]⟩ : ByteArray)⟩ : S125), (⟨(⟨#[108, 101, 95, 114, 101, 105, 102]⟩ : ByteArray), (⟨#[118, 107, 119]⟩ : ByteArray)⟩ : S125), (⟨(⟨#[101, 113, 95, 105, 109, 112]⟩ : ByteArray), (⟨#[118, 107, 119]⟩ : ByteArray)⟩ : S125), (⟨(⟨#[108, 101, 95, 105, 109, 112]⟩ : ByteArray), (⟨#[118, 107, 119]⟩ : ByteArray)⟩ : S125), (⟨(⟨#[97, 108, 108, 95, 100, 105, 102, 102, 101, 114, 101, 110, 116]⟩ : ByteArray), (⟨#[86]⟩ : ByteArray)⟩ : S125), (⟨(⟨#[116, 97, 98, 108, 101]⟩ : ByteArray), (⟨#[86, 114]⟩ : ByteArray)⟩ : S125), (⟨(⟨#[99, 117, 109, 117, 108, 97, 116, 105, 118, 101]⟩ : ByteArray), (⟨#[86, 99, 100, 107]⟩ : ByteArray)⟩ : S125), (⟨(⟨#[99, 105, 114, 99, 117, 105, 116]⟩ : ByteArray), (⟨#[86]⟩ : ByteArray)⟩ : S125), (⟨(⟨#[103, 99, 99]⟩ : ByteArray), (⟨#[86, 99, 100, 101]⟩ : ByteArray)⟩ : S125), (⟨(⟨#[108, 101, 120, 95, 108, 101]⟩ : ByteArray), (⟨#[86, 87]⟩ : ByteArray)⟩ : S125), (⟨(⟨#[105, 110, 118, 101, 114, 115, 101]⟩ : ByteArray), (⟨#[86, 87]⟩ : ByteArray)⟩ : S125)] : List (S125))) (inner := [.string (⟨#[108, 105, 110, 95, 101, 113]⟩ : ByteArray), .string (⟨#[99, 86, 107]⟩ : ByteArray), .string (⟨#[108, 105, 110, 95, 108, 101]⟩ : ByteArray), .string (⟨#[99, 86, 107]⟩ : ByteArray), .string (⟨#[108, 105, 110, 95, 110, 101]⟩ : ByteArray), .string (⟨#[99, 86, 107]⟩ : ByteArray), .string (⟨#[108, 105, 110, 95, 114, 101, 105, 102]⟩ : ByteArray), .string (⟨#[99, 86, 107, 119]⟩ : ByteArray), .string (⟨#[116, 105, 109, 101, 115]⟩ : ByteArray), .string (⟨#[118, 118, 118]⟩ : ByteArray), .string (⟨#[100, 105, 118]⟩ : ByteArray), .string (⟨#[118, 118, 118]⟩ : ByteArray), .string (⟨#[109, 111, 100]⟩ : ByteArray), .string (⟨#[118, 118, 118]⟩ : ByteArray), .string (⟨#[97, 98, 115]⟩ : ByteArray), .string (⟨#[118, 118]⟩ : ByteArray), .string (⟨#[109, 105, 110]⟩ : ByteArray), .string (⟨#[118, 118, 118]⟩ : ByteArray), .string (⟨#[109, 97, 120]⟩ : ByteArray), .string (⟨#[118, 118, 118]⟩ : ByteArray), .string (⟨#[101, 108, 101, 109, 101, 110, 116]⟩ : ByteArray), .string (⟨#[118, 99, 118]⟩ : ByteArray), .string (⟨#[99, 108, 97, 117, 115, 101]⟩ : ByteArray), .string (⟨#[86, 87]⟩ : ByteArray), .string (⟨#[101, 113, 95, 114, 101, 105, 102]⟩ : ByteArray), .string (⟨#[118, 107, 119]⟩ : ByteArray), .string (⟨#[108, 101, 95, 114, 101, 105, 102]⟩ : ByteArray), .string (⟨#[118, 107, 119]⟩ : ByteArray), .string (⟨#[101, 113, 95, 105, 109, 112]⟩ : ByteArray), .string (⟨#[118, 107, 119]⟩ : ByteArray), .string (⟨#[108, 101, 95, 105, 109, 112]⟩ : ByteArray), .string (⟨#[118, 107, 119]⟩ : ByteArray), .string (⟨#[97, 108, 108, 95, 100, 105, 102, 102, 101, 114, 101, 110, 116]⟩ : ByteArray), .string (⟨#[86]⟩ : ByteArray), .string (⟨#[116, 97, 98, 108, 101]⟩ : ByteArray), .string (⟨#[86, 114]⟩ : ByteArray), .string (⟨#[99, 117, 109, 117, 108, 97, 116, 105, 118, 101]⟩ : ByteArray), .string (⟨#[86, 99, 100, 107]⟩ : ByteArray), .string (⟨#[99, 105, 114, 99, 117, 105, 116]⟩ : ByteArray), .string (⟨#[86]⟩ : ByteArray), .string (⟨#[103, 99, 99]⟩ : ByteArray), .string (⟨#[86, 99, 100, 101]⟩ : ByteArray), .string (⟨#[108, 101, 120, 95, 108, 101]⟩ : ByteArray), .string (⟨#[86, 87]⟩ : ByteArray), .string (⟨#[105, 110, 118, 101, 114, 115, 101]⟩ : ByteArray), .string (⟨#[86, 87]⟩ : ByteArray)]) (ok := fun _ => True) (okp := fun _ => True) ?hr ?hp (fun _ hk => hk) trivial (Below.refl _ _) (lr_ _) (by simp) ?_; (case hd => rfl); (case hg => rfl); (case hr => first | (go_simp; done) | (go_simp; rfl)); (case hp => exact (Reps.c2 (show Kd.M k125 _ _ _ (⟨(⟨#[108, 105, 110, 95, 101, 113]⟩ : ByteArray), (⟨#[99, 86, 107]⟩ : ByteArray)⟩ : S125) [.string (⟨#[108, 105, 110, 95, 101, 113]⟩ : ByteArray), .string (⟨#[99, 86, 107]⟩ : ByteArray)] from (k125_mkM _ _ _ (⟨(⟨#[108, 105, 110, 95, 101, 113]⟩ : ByteArray), (⟨#[99, 86, 107]⟩ : ByteArray)⟩ : S125) )) (Reps.c2 (show Kd.M k125 _ _ _ (⟨(⟨#[108, 105, 110, 95, 108, 101]⟩ : ByteArray), (⟨#[99, 86, 107]⟩ : ByteArray)⟩ : S125) [.string (⟨#[108, 105, 110, 95, 108, 101]⟩ : ByteArray), .string (⟨#[99, 86, 107]⟩ : ByteArray)] from (k125_mkM _ _ _ (⟨(⟨#[108, 105, 110, 95, 108, 101]⟩ : ByteArray), (⟨#[99, 86, 107]⟩ : ByteArray)⟩ : S125) )) (Reps.c2 (show Kd.M k125 _ _ _ (⟨(⟨#[108, 105, 110, 95, 110, 101]⟩ : ByteArray), (⟨#[99, 86, 107]⟩ : ByteArray)⟩ : S125) [.string (⟨#[108, 105, 110, 95, 110, 101]⟩ : ByteArray), .string (⟨#[99, 86, 107]⟩ : ByteArray)] from (k125_mkM _ _ _ (⟨(⟨#[108, 105, 110, 95, 110, 101]⟩ : ByteArray), (⟨#[99, 86, 107]⟩ : ByteArray)⟩ : S125) )) (Reps.c2 (show Kd.M k125 _ _ _ (⟨(⟨#[108, 105, 110, 95, 114, 101, 105, 102]⟩ : ByteArray), (⟨#[99, 86, 107, 119]⟩ : ByteArray)⟩ : S125) [.string (⟨#[108, 105, 110, 95, 114, 101, 105, 102]⟩ : ByteArray), .string (⟨#[99, 86, 107, 119]⟩ : ByteArray)] from (k125_mkM _ _ _ (⟨(⟨#[108, 105, 110, 95, 114, 101, 105, 102]⟩ : ByteArray), (⟨#[99, 86, 107, 119]⟩ : ByteArray)⟩ : S125) )) (Reps.c2 (show Kd.M k125 _ _ _ (⟨(⟨#[116, 105, 109, 101, 115]⟩ : ByteArray), (⟨#[118, 118, 118]⟩ : ByteArray)⟩ : S125) [.string (⟨#[116, 105, 109, 101, 115]⟩ : ByteArray), .string (⟨#[118, 118, 118]⟩ : ByteArray)] from (k125_mkM _ _ _ (⟨(⟨#[116, 105, 109, 101, 115]⟩ : ByteArray), (⟨#[118, 118, 118]⟩ : ByteArray)⟩ : S125) )) (Reps.c2 (show Kd.M k125 _ _ _ (⟨(⟨#[100, 105, 118]⟩ : ByteArray), (⟨#[118, 118, 118]⟩ : ByteArray)⟩ : S125) [.string (⟨#[100, 105, 118]⟩ : ByteArray), .string (⟨#[118, 118, 118]⟩ : ByteArray)] from (k125_mkM _ _ _ (⟨(⟨#[100, 105, 118]⟩ : ByteArray), (⟨#[118, 118, 118]⟩ : ByteArray)⟩ : S125) )) (Reps.c2 (show Kd.M k125 _ _ _ (⟨(⟨#[109, 111, 100]⟩ : ByteArray), (⟨#[118, 118, 118]⟩ : ByteArray)⟩ : S125) [.string (⟨#[109, 111, 100]⟩ : ByteArray), .string (⟨#[118, 118, 118]⟩ : ByteArray)] from (k125_mkM _ _ _ (⟨(⟨#[109, 111, 100]⟩ : ByteArray), (⟨#[118, 118, 118]⟩ : ByteArray)⟩ : S125) )) (Reps.c2 (show Kd.M k125 _ _ _ (⟨(⟨#[97, 98, 115]⟩ : ByteArray), (⟨#[118, 118]⟩ : ByteArray)⟩ : S125) [.string (⟨#[97, 98, 115]⟩ : ByteArray), .string (⟨#[118, 118]⟩ : ByteArray)] from (k125_mkM _ _ _ (⟨(⟨#[97, 98, 115]⟩ : ByteArray), (⟨#[118, 118]⟩ : ByteArray)⟩ : S125) )) (Reps.c2 (show Kd.M k125 _ _ _ (⟨(⟨#[109, 105, 110]⟩ : ByteArray), (⟨#[118, 118, 118]⟩ : ByteArray)⟩ : S125) [.string (⟨#[109, 105, 110]⟩ : ByteArray), .string (⟨#[118, 118, 118]⟩ : ByteArray)] from (k125_mkM _ _ _ (⟨(⟨#[109, 105, 110]⟩ : ByteArray), (⟨#[118, 118, 118]⟩ : ByteArray)⟩ : S125) )) (Reps.c2 (show Kd.M k125 _ _ _ (⟨(⟨#[109, 97, 120]⟩ : ByteArray), (⟨#[118, 118, 118]⟩ : ByteArray)⟩ : S125) [.string (⟨#[109, 97, 120]⟩ : ByteArray), .string (⟨#[118, 118, 118]⟩ : ByteArray)] from (k125_mkM _ _ _ (⟨(⟨#[109, 97, 120]⟩ : ByteArray), (⟨#[118, 118, 118]⟩ : ByteArray)⟩ : S125) )) (Reps.c2 (show Kd.M k125 _ _ _ (⟨(⟨#[101, 108, 101, 109, 101, 110, 116]⟩ : ByteArray), (⟨#[118, 99, 118]⟩ : ByteArray)⟩ : S125) [.string (⟨#[101, 108, 101, 109, 101, 110, 116]⟩ : ByteArray), .string (⟨#[118, 99, 118]⟩ : ByteArray)] from (k125_mkM _ _ _ (⟨(⟨#[101, 108, 101, 109, 101, 110, 116]⟩ : ByteArray), (⟨#[118, 99, 118]⟩ : ByteArray)⟩ : S125) )) (Reps.c2 (show Kd.M k125 _ _ _ (⟨(⟨#[99, 108, 97, 117, 115, 101]⟩ : ByteArray), (⟨#[86, 87]⟩ : ByteArray)⟩ : S125) [.string (⟨#[99, 108, 97, 117, 115, 101]⟩ : ByteArray), .string (⟨#[86, 87]⟩ : ByteArray)] from (k125_mkM _ _ _ (⟨(⟨#[99, 108, 97, 117, 115, 101]⟩ : ByteArray), (⟨#[86, 87]⟩ : ByteArray)⟩ : S125) )) (Reps.c2 (show Kd.M k125 _ _ _ (⟨(⟨#[101, 113, 95, 114, 101, 105, 102]⟩ : ByteArray), (⟨#[118, 107, 119]⟩ : ByteArray)⟩ : S125) [.string (⟨#[101, 113, 95, 114, 101, 105, 102]⟩ : ByteArray), .string (⟨#[118, 107, 119]⟩ : ByteArray)] from (k125_mkM _ _ _ (⟨(⟨#[101, 113, 95, 114, 101, 105, 102]⟩ : ByteArray), (⟨#[118, 107, 119]⟩ : ByteArray)⟩ : S125) )) (Reps.c2 (show Kd.M k125 _ _ _ (⟨(⟨#[108, 101, 95, 114, 101, 105, 102]⟩ : ByteArray), (⟨#[118, 107, 119]⟩ : ByteArray)⟩ : S125) [.string (⟨#[108, 101, 95, 114, 101, 105, 102]⟩ : ByteArray), .string (⟨#[118, 107, 119]⟩ : ByteArray)] from (k125_mkM _ _ _ (⟨(⟨#[108, 101, 95, 114, 101, 105, 102]⟩ : ByteArray), (⟨#[118, 107, 119]⟩ : ByteArray)⟩ : S125) )) (Reps.c2 (show Kd.M k125 _ _ _ (⟨(⟨#[101, 113, 95, 105, 109, 112]⟩ : ByteArray), (⟨#[118, 107, 119]⟩ : ByteArray)⟩ : S125) [.string (⟨#[101, 113, 95, 105, 109, 112]⟩ : ByteArray), .string (⟨#[118, 107, 119]⟩ : ByteArray)] from (k125_mkM _ _ _ (⟨(⟨#[101, 113, 95, 105, 109, 112]⟩ : ByteArray), (⟨#[118, 107, 119]⟩ : ByteArray)⟩ : S125) )) (Reps.c2 (show Kd.M k125 _ _ _ (⟨(⟨#[108, 101, 95, 105, 109, 112]⟩ : ByteArray), (⟨#[118, 107, 119]⟩ : ByteArray)⟩ : S125) [.string (⟨#[108, 101, 95, 105, 109, 112]⟩ : ByteArray), .string (⟨#[118, 107, 119]⟩ : ByteArray)] from (k125_mkM _ _ _ (⟨(⟨#[108, 101, 95, 105, 109, 112]⟩ : ByteArray), (⟨#[118, 107, 119]⟩ : ByteArray)⟩ : S125) )) (Reps.c2 (show Kd.M k125 _ _ _ (⟨(⟨#[97, 108, 108, 95, 100, 105, 102, 102, 101, 114, 101, 110, 116]⟩ : ByteArray), (⟨#[86]⟩ : ByteArray)⟩ : S125) [.string (⟨#[97, 108, 108, 95, 100, 105, 102, 102, 101, 114, 101, 110, 116]⟩ : ByteArray), .string (⟨#[86]⟩ : ByteArray)] from (k125_mkM _ _ _ (⟨(⟨#[97, 108, 108, 95, 100, 105, 102, 102, 101, 114, 101, 110, 116]⟩ : ByteArray), (⟨#[86]⟩ : ByteArray)⟩ : S125) )) (Reps.c2 (show Kd.M k125 _ _ _ (⟨(⟨#[116, 97, 98, 108, 101]⟩ : ByteArray), (⟨#[86, 114]⟩ : ByteArray)⟩ : S125) [.string (⟨#[116, 97, 98, 108, 101]⟩ : ByteArray), .string (⟨#[86, 114]⟩ : ByteArray)] from (k125_mkM _ _ _ (⟨(⟨#[116, 97, 98, 108, 101]⟩ : ByteArray), (⟨#[86, 114]⟩ : ByteArray)⟩ : S125) )) (Reps.c2 (show Kd.M k125 _ _ _ (⟨(⟨#[99, 117, 109, 117, 108, 97, 116, 105, 118, 101]⟩ : ByteArray), (⟨#[86, 99, 100, 107]⟩ : ByteArray)⟩ : S125) [.string (⟨#[99, 117, 109, 117, 108, 97, 116, 105, 118, 101]⟩ : ByteArray), .string (⟨#[86, 99, 100, 107]⟩ : ByteArray)] from (k125_mkM _ _ _ (⟨(⟨#[99, 117, 109, 117, 108, 97, 116, 105, 118, 101]⟩ : ByteArray), (⟨#[86, 99, 100, 107]⟩ : ByteArray)⟩ : S125) )) (Reps.c2 (show Kd.M k125 _ _ _ (⟨(⟨#[99, 105, 114, 99, 117, 105, 116]⟩ : ByteArray), (⟨#[86]⟩ : ByteArray)⟩ : S125) [.string (⟨#[99, 105, 114, 99, 117, 105, 116]⟩ : ByteArray), .string (⟨#[86]⟩ : ByteArray)] from (k125_mkM _ _ _ (⟨(⟨#[99, 105, 114, 99, 117, 105, 116]⟩ : ByteArray), (⟨#[86]⟩ : ByteArray)⟩ : S125) )) (Reps.c2 (show Kd.M k125 _ _ _ (⟨(⟨#[103, 99, 99]⟩ : ByteArray), (⟨#[86, 99, 100, 101]⟩ : ByteArray)⟩ : S125) [.string (⟨#[103, 99, 99]⟩ : ByteArray), .string (⟨#[86, 99, 100, 101]⟩ : ByteArray)] from (k125_mkM _ _ _ (⟨(⟨#[103, 99, 99]⟩ : ByteArray), (⟨#[86, 99, 100, 101]⟩ : ByteArray)⟩ : S125) )) (Reps.c2 (show Kd.M k125 _ _ _ (⟨(⟨#[108, 101, 120, 95, 108, 101]⟩ : ByteArray), (⟨#[86, 87]⟩ : ByteArray)⟩ : S125) [.string (⟨#[108, 101, 120, 95, 108, 101]⟩ : ByteArray), .string (⟨#[86, 87]⟩ : ByteArray)] from (k125_mkM _ _ _ (⟨(⟨#[108, 101, 120, 95, 108, 101]⟩ : ByteArray), (⟨#[86, 87]⟩ : ByteArray)⟩ : S125) )) (Reps.c2 (show Kd.M k125 _ _ _ (⟨(⟨#[105, 110, 118, 101, 114, 115, 101]⟩ : ByteArray), (⟨#[86, 87]⟩ : ByteArray)⟩ : S125) [.string (⟨#[105, 110, 118, 101, 114, 115, 101]⟩ : ByteArray), .string (⟨#[86, 87]⟩ : ByteArray)] from (k125_mkM _ _ _ (⟨(⟨#[105, 110, 118, 101, 114, 115, 101]⟩ : ByteArray), (⟨#[86, 87]⟩ : ByteArray)⟩ : S125) )) (Reps.none _ _))))))))))))))))))))))))); intro m w1 b hb hg_ hnew_; clear hg_ hnew_; (first | rw [← c.out] at b | (simp only [Int.reduceToNat] at b; rw [← c.out] at b)); have d := a_ (Kd.R_lower b (bz_ bel_)); replace HB := hq_ hb; clear hb b))
 go_ret
 exact ⟨_, er_, vR_ d.out, bel_⟩

/-! ### model_Word: function 93 -/
def model_Word.f (a : Int) : Option (ByteArray × Bool) := if a < 1 then (none) else ((model_forms.f).bind fun c => (if a > (c.length : Int) then (none) else ((model_forms.f).bind fun b => (if 0 ≤ (wrap64 (a - 1)) then (if (wrap64 (a - 1)) < (b.length : Int) then (some ((rd_T125 b (wrap64 (a - 1))).f0, true)) else (none)) else (none)))))
set_option maxHeartbeats 8000000 in
set_option maxRecDepth 100000 in
theorem model_Word.calls (d : Int) (p : ByteArray) (q : Bool) (w : World) (h : model_Word.f d = some (p, q)) :
  Calls Tryz.prog 93 #[.int .i64 d] w fun e w' => e = .returned (.tuple #[.string p, .bool q]) ∧ Below w.heap.size w w' := by
 have HB := a_ (Below.refl w.heap.size w)
 unfold model_Word.f at h
 have H := h
 clear h
 replace H := gn_ H
 obtain ⟨c2, H⟩ := H
 have c2b0 : decide (d < 1) = false := df_ c2
 clear c2
 replace H := bo_ H
 obtain ⟨l, x, H⟩ := H
 try dsimp only at H
 replace H := gn_ H
 obtain ⟨c4, H⟩ := H
 have c4b0 : decide ((l.length : Int) < d) = false := df_ c4
 clear c4
 replace H := bo_ H
 obtain ⟨b, y, H⟩ := H
 try dsimp only at H
 obtain ⟨a, c⟩ : ∃ j_ : Int, (wrap64 (d - 1)) = j_ := ⟨_, rfl⟩
 replace H : (if 0 ≤ (a) then (if (a) < (b.length : Int) then (some ((rd_T125 b (a)).f0, true)) else (none)) else (none)) = some (p, q) := by first | (rw [c] at H; exact H) | (simp only [c] at H ⊢; exact H)
 (try rw [c] at x)
 (try rw [c] at y)
 have hji6w : (IntKind.i64.wrap (d - 1)) = a := (i64_w _).trans c
 replace H := gu_ H
 obtain ⟨c7b0, H⟩ := H
 replace H := gu_ H
 obtain ⟨c8b0, H⟩ := H
 simp only [Option.some.injEq, Prod.mk.injEq] at H
 obtain ⟨rfl, rfl⟩ := H
 go_enter Tryz.func93, Tryz.ntmps93
 go_wp2_with (first | (go_at_call 94; (with_reducible refine (model_forms.calls l _ x.out).mono ?_); rintro e w9 ⟨A, rfl, g, hb⟩; have n := a_ (Kd.R_lower g (bz_ bel_)); replace HB := hq_ hb; clear hb g; obtain ⟨B, C, r⟩ := Kd.R_slice n.out; subst r) | ((with_reducible refine gate_callee (f := 94) rfl ?_); refine goesL_ (some 12) rfl rfl Tryz.func94 kr_ rfl #[] rfl ar_ ?_; (with_reducible refine (model_forms.calls b _ y.out).mono ?_); rintro e w11 ⟨E, rfl, g, hb⟩; refine ⟨_, rfl, ?_⟩; have o := a_ (Kd.R_lower (Kd.R_new' g (rl_ (vR_ n.out))) (bz_ bel_)); replace HB := hq_ hb; clear hb g; obtain ⟨F, G, s⟩ := Kd.R_slice o.out; subst s; have p113 : 0 ≤ ((a) : Int) := dq_; have m : (a) < (b.length : Int) := dq_; obtain ⟨z, t, u, v⟩ := at_T125 (rr_ o.out).2.2 (a) p113 m; cases t; replace p113 := et_ p113; replace m := et_ m))
 go_ret2
 exact ⟨by first | rfl | (simp [errW_none, errW_some] <;> rfl) | (simp only [← c]; first | rfl | (simp [errW_none, errW_some] <;> rfl)) | (simp [*, errW_none, errW_some] <;> rfl), bel_⟩

/-! ### model_Shape: function 76 -/
def model_Shape.f (b : Int) : Option (ByteArray) := (model_Word.f b).bind fun c => (if c.2 = true then ((model_forms.f).bind fun a => (if 0 ≤ (wrap64 (b - 1)) then (if (wrap64 (b - 1)) < (a.length : Int) then (some ((rd_T125 a (wrap64 (b - 1))).f1)) else (none)) else (none))) else (none))
set_option maxHeartbeats 8000000 in
set_option maxRecDepth 100000 in
theorem model_Shape.calls (l : Int) (r : ByteArray) (w : World) (h : model_Shape.f l = some r) :
  Calls Tryz.prog 76 #[.int .i64 l] w fun e w' => e = .returned (.string r) ∧ Below w.heap.size w w' := by
 have HB := a_ (Below.refl w.heap.size w)
 unfold model_Shape.f at h
 have H := h
 clear h
 replace H := bs_.mp H
 obtain ⟨⟨o, p⟩, m, H⟩ := H
 try dsimp only at H
 have v := a_ m
 clear m
 replace H := gp_ H
 obtain ⟨rfl, H⟩ := H
 replace H := bo_ H
 obtain ⟨b, x, H⟩ := H
 try dsimp only at H
 obtain ⟨a, c⟩ : ∃ j_ : Int, (wrap64 (l - 1)) = j_ := ⟨_, rfl⟩
 replace H : (if 0 ≤ (a) then (if (a) < (b.length : Int) then (some ((rd_T125 b (a)).f1)) else (none)) else (none)) = some r := by first | (rw [c] at H; exact H) | (simp only [c] at H ⊢; exact H)
 (try rw [c] at v)
 (try rw [c] at x)
 have hji5w : (IntKind.i64.wrap (l - 1)) = a := (i64_w _).trans c
 replace H := gu_ H
 obtain ⟨c6b0, H⟩ := H
 replace H := gu_ H
 obtain ⟨c7b0, H⟩ := H
 obtain rfl := si_ H
 go_enter Tryz.func76, Tryz.ntmps76
 go_wp2_with (first | ((with_reducible refine gate_callee (f := 93) rfl ?_); refine goesL_ (some 7) rfl rfl Tryz.func93 kr_ rfl #[.int .i64 l] rfl ar_ ?_; (with_reducible refine (model_Word.calls l o true _ v.out).mono ?_); rintro e w8 ⟨rfl, hb⟩; refine ⟨_, rfl, ?_⟩; replace HB := hq_ hb; clear hb) | ((with_reducible refine gate_callee (f := 94) rfl ?_); refine goesL_ (some 12) rfl rfl Tryz.func94 kr_ rfl #[] rfl ar_ ?_; (with_reducible refine (model_forms.calls  b _ x.out).mono ?_); rintro e w9 ⟨z, rfl, n, hb⟩; refine ⟨_, rfl, ?_⟩; have g := a_ (Kd.R_lower n (bz_ bel_)); replace HB := hq_ hb; clear hb n; obtain ⟨A, B, q⟩ := Kd.R_slice g.out; subst q; have p119 : 0 ≤ ((a) : Int) := dq_; have d : (a) < (b.length : Int) := dq_; obtain ⟨y, s, t, u⟩ := at_T125 (rr_ g.out).2.2 (a) p119 d; cases s; replace p119 := et_ p119; replace d := et_ d))
 go_ret
 exact ⟨by first | rfl | (simp [errW_none, errW_some] <;> rfl) | (simp only [← c]; first | rfl | (simp [errW_none, errW_some] <;> rfl)) | (simp [*, errW_none, errW_some] <;> rfl), bel_⟩

/-! ### strings_Contains: function 79 -/
def strings_Contains.f (a : ByteArray) (b : ByteArray) : Option Bool := match b.data.toList with
 | [c] => some (decide (0 ≤ Lib.indexByte a.data.toList c))
 | _ => none
theorem one_byte (s : ByteArray) (c : UInt8) (h : s.data.toList = [c]) : s = ⟨#[c]⟩ := by
 obtain ⟨⟨l⟩⟩ := s
 simp only at h
 subst h; rfl
theorem strings_Contains.calls (a : ByteArray) (b : ByteArray) (r : Bool) (w : World) (h : strings_Contains.f a b = some r) :
  Calls Tryz.prog 79 #[.string a, .string b] w fun e w' => e = .returned (.bool r) ∧ Drawn0 w w' := by
 unfold strings_Contains.f at h
 split at h
 ·
  rename_i c hc
  obtain rfl := Option.some.inj h
  rw [one_byte b c hc]
  exact (Tryz.strings_Contains_one a c w).mono (fun e w' ⟨he, hw⟩ => ⟨he, by subst hw; exact Drawn0.refl _⟩)
 cases h

/-! ### model_within: function 95 -/
def model_within.f (a : Int) (b : Int) (c : Int) : Option (Bool) := if a ≥ b then (some (decide (a ≤ c))) else (some false)
set_option maxHeartbeats 8000000 in
set_option maxRecDepth 100000 in
theorem model_within.calls (a : Int) (b : Int) (c : Int) (r : Bool) (w : World) (h : model_within.f a b c = some r) :
  Calls Tryz.prog 95 #[.int .i64 a, .int .i64 b, .int .i64 c] w fun e w' => e = .returned (.bool r) ∧ Drawn0 w w' := by
 unfold model_within.f at h
 have H := h
 clear h
 by_cases c4 : a ≥ b
 ·
  rw [ip_ c4] at H
  have c4b0 : decide (b ≤ a) = true := dt_ c4
  clear c4
  obtain rfl := si_ H
  go_enter Tryz.func95, Tryz.ntmps95
  go_wp2
  go_ret
  exact ⟨by first | rfl | (simp; done) | (simp [*]; done), by repeat (first | exact d0_ _ | apply Drawn0.step)⟩
 rw [ig_ c4] at H
 have c4b0 : decide (b ≤ a) = false := df_ c4
 clear c4
 obtain rfl := si_ H
 go_enter Tryz.func95, Tryz.ntmps95
 go_wp2
 go_ret
 exact ⟨by first | rfl | (simp; done) | (simp [*]; done), by repeat (first | exact d0_ _ | apply Drawn0.step)⟩

/-! ### strings_Count: function 106 -/
def strings_Count.f (a : ByteArray) (b : ByteArray) : Option Int := match b.data.toList with
 | [c] => some (Lib.countByte a.data.toList c : Nat)
 | _ => none
theorem strings_Count.calls (a : ByteArray) (b : ByteArray) (r : Int) (w : World) (h : strings_Count.f a b = some r) :
  Calls Tryz.prog 106 #[.string a, .string b] w fun e w' => e = .returned (.int .i64 r) ∧ Drawn0 w w' := by
 unfold strings_Count.f at h
 split at h
 ·
  rename_i c hc
  obtain rfl := Option.some.inj h
  rw [one_byte b c hc]
  exact (Tryz.strings_Count_one a c w).mono (fun e w' ⟨he, hw⟩ => ⟨he, by subst hw; exact Drawn0.refl _⟩)
 cases h

/-! ### model_named: function 96 -/
def model_named.f (d : Int) (e : ByteArray) (g : ByteArray) (l : ByteArray) : Option (Bool) := (strings_Contains.f e l).bind fun a => (if a = true then ((model_within.f d 1 64).bind fun b => (some b)) else ((strings_Count.f e g).bind fun c => (some (d == c))))
set_option maxHeartbeats 8000000 in
set_option maxRecDepth 100000 in
theorem model_named.calls (d : Int) (a : ByteArray) (g : ByteArray) (c : ByteArray) (r : Bool) (w : World) (h : model_named.f d a g c = some r) :
  Calls Tryz.prog 96 #[.int .i64 d, .string a, .string g, .string c] w fun e w' => e = .returned (.bool r) ∧ Drawn0 w w' := by
 unfold model_named.f at h
 have H := h
 clear h
 replace H := bo_ H
 obtain ⟨l, n, H⟩ := H
 try dsimp only at H
 replace H := ht_ H
 rcases H with ⟨rfl, H⟩ | ⟨rfl, H⟩
 ·
  replace H := bo_ H
  obtain ⟨m, o, H⟩ := H
  try dsimp only at H
  obtain rfl := si_ H
  go_enter Tryz.func96, Tryz.ntmps96
  go_wp2_with (first | ((with_reducible refine gate_callee (f := 79) rfl ?_); refine goesL_ (some 11) rfl rfl Tryz.func79 kr_ rfl #[.string a, .string c] rfl ar_ ?_; (with_reducible refine (strings_Contains.calls a c true _ n.out).mono ?_); rintro e w' ⟨rfl, ⟨nd, rfl⟩⟩; refine ⟨_, rfl, ?_⟩) | ((with_reducible refine gate_callee (f := 95) rfl ?_); refine goesL_ (some 13) rfl rfl Tryz.func95 kr_ rfl #[.int .i64 d, .int .i64 1, .int .i64 64] rfl ar_ ?_; (with_reducible refine (model_within.calls d 1 64 m _ o.out).mono ?_); rintro e w' ⟨rfl, ⟨nd, rfl⟩⟩; refine ⟨_, rfl, ?_⟩))
  go_ret
  exact ⟨by first | rfl | (simp; done) | (simp [*]; done), by repeat (first | exact d0_ _ | apply Drawn0.step)⟩
 replace H := bo_ H
 obtain ⟨b, p, H⟩ := H
 try dsimp only at H
 obtain rfl := si_ H
 go_enter Tryz.func96, Tryz.ntmps96
 go_wp2_with (first | ((with_reducible refine gate_callee (f := 79) rfl ?_); refine goesL_ (some 11) rfl rfl Tryz.func79 kr_ rfl #[.string a, .string c] rfl ar_ ?_; (with_reducible refine (strings_Contains.calls a c false _ n.out).mono ?_); rintro e w' ⟨rfl, ⟨nd, rfl⟩⟩; refine ⟨_, rfl, ?_⟩) | ((with_reducible refine gate_callee (f := 106) rfl ?_); refine goesL_ (some 17) rfl rfl Tryz.func106 kr_ rfl #[.string a, .string g] rfl ar_ ?_; (with_reducible refine (strings_Count.calls a g b _ p.out).mono ?_); rintro e w' ⟨rfl, ⟨nd, rfl⟩⟩; refine ⟨_, rfl, ?_⟩))
 go_ret
 exact ⟨by first | rfl | (simp; done) | (simp [*]; done), by repeat (first | exact d0_ _ | apply Drawn0.step)⟩

/-! ### model_counted: function 77 -/
def model_counted.f (b : Int) (c : List Int) (d : List Int) (e : List Int) (g : List Int) (l : List Int) (t : Int) (m : List (List Int)) (a : ByteArray) : Option (Bool) := if b = 12 then (none) else ((strings_Contains.f a (⟨#[114]⟩ : ByteArray)).bind fun n => (if n = true then (none) else (if (m.length : Int) = 0 then ((model_named.f (c.length : Int) a (⟨#[118]⟩ : ByteArray) (⟨#[86]⟩ : ByteArray)).bind fun o => (if o = true then ((model_named.f (d.length : Int) a (⟨#[119]⟩ : ByteArray) (⟨#[87]⟩ : ByteArray)).bind fun p => (if p = true then ((model_named.f (e.length : Int) a (⟨#[45]⟩ : ByteArray) (⟨#[99]⟩ : ByteArray)).bind fun q => (if q = true then ((model_named.f (g.length : Int) a (⟨#[45]⟩ : ByteArray) (⟨#[100]⟩ : ByteArray)).bind fun r => (if r = true then ((model_named.f (l.length : Int) a (⟨#[45]⟩ : ByteArray) (⟨#[101]⟩ : ByteArray)).bind fun s => (some s)) else (none))) else (none))) else (none))) else (none))) else (none))))
set_option maxHeartbeats 8000000 in
set_option maxRecDepth 100000 in
theorem model_counted.calls (n : Int) (o : Option Addr) (c0_1 : Nat) (b : List Int) (p : Option Addr) (c0_2 : Nat) (c : List Int) (q : Option Addr) (c0_3 : Nat) (d : List Int) (s : Option Addr) (c0_4 : Nat) (g : List Int) (u : Option Addr) (c0_5 : Nat) (l : List Int) (v : Int) (x : Option Addr) (c0_7 : Nat) (a : List (List Int)) (m : ByteArray) (r : Bool) (w : World) (O : Kd.C (Kd.int .i64) w o b.length b) (F : b.length ≤ c0_1) (P : Kd.C (Kd.int .i64) w p c.length c) (G : c.length ≤ c0_2) (Q : Kd.C (Kd.int .i64) w q d.length d) (I : d.length ≤ c0_3) (U : Kd.C (Kd.int .i64) w s g.length g) (J : g.length ≤ c0_4) (V : Kd.C (Kd.int .i64) w u l.length l) (K : l.length ≤ c0_5) (W : Kd.C (Kd.slice 3 (Kd.int .i64)) w x a.length a) (M : a.length ≤ c0_7) (h : model_counted.f n b c d g l v a m = some r) :
  Calls Tryz.prog 77 #[.agg #[.int .i64 n, .slice o b.length c0_1, .slice p c.length c0_2, .slice q d.length c0_3, .slice s g.length c0_4, .slice u l.length c0_5, .int .i64 v, .slice x a.length c0_7], .string m] w fun e w' => e = .returned (.bool r) ∧ Below w.heap.size w w' := by
 have hu32 := Tryz.underlying32
 have ae := a_ F
 clear O F
 have af := a_ G
 clear P G
 have ag := a_ I
 clear Q I
 have ah := a_ J
 clear U J
 have ai := a_ K
 clear V K
 have aj := a_ M
 clear W M
 have HB := a_ (Below.refl w.heap.size w)
 unfold model_counted.f at h
 have H := h
 clear h
 replace H := gz_ H
 obtain ⟨c3, c3b0, c3b1, H⟩ := H
 replace H := bo_ H
 obtain ⟨aa, A4, H⟩ := H
 try dsimp only at H
 replace H := gf_ H
 obtain ⟨rfl, H⟩ := H
 replace H := gq_ H
 obtain ⟨c6b0, c6b1, H⟩ := H
 replace H := bo_ H
 obtain ⟨y, A7, H⟩ := H
 try dsimp only at H
 replace H := gp_ H
 obtain ⟨rfl, H⟩ := H
 replace H := bo_ H
 obtain ⟨z, A9, H⟩ := H
 try dsimp only at H
 replace H := gp_ H
 obtain ⟨rfl, H⟩ := H
 replace H := bo_ H
 obtain ⟨A, ab, H⟩ := H
 try dsimp only at H
 replace H := gp_ H
 obtain ⟨rfl, H⟩ := H
 replace H := bo_ H
 obtain ⟨B, ac, H⟩ := H
 try dsimp only at H
 replace H := gp_ H
 obtain ⟨rfl, H⟩ := H
 replace H := bo_ H
 obtain ⟨E, ad, H⟩ := H
 try dsimp only at H
 obtain rfl := si_ H
 go_enter Tryz.func77, Tryz.ntmps77
 go_wp2_with (first | ((with_reducible refine gate_dst (N := 2) rfl ?_); (try (refine gate_guard (by rfl) ?_; dsimp only)); refine bxe_ (N := 2) (cs := #[.int .i64 n, .slice o b.length c0_1, .slice p c.length c0_2, .slice q d.length c0_3, .slice s g.length c0_4, .slice u l.length c0_5, .int .i64 v, .slice x a.length c0_7]) (t := 32) ?_; intro X hg w16 hbox hb; have Y := a_ (hbox); have Z := a_ (by rw [hg]; exact (bz_ bel_) : w.heap.size ≤ X); have ak := Z; replace HB := hq_ hb; clear hb hbox hg; obtain ⟨_, _, _, _, _, _, _, _, _, _, _, _, _, _, _, _⟩ := cel8_ Y.out) | ((with_reducible refine gate_callee (f := 79) rfl ?_); refine goesL_ (some 50) rfl rfl Tryz.func79 kr_ rfl #[.string m, .string (⟨#[114]⟩ : ByteArray)] rfl ar_ ?_; (with_reducible refine (strings_Contains.calls m (⟨#[114]⟩ : ByteArray) false _ A4.out).mono ?_); rintro e w' ⟨rfl, ⟨nd, rfl⟩⟩; refine ⟨_, rfl, ?_⟩) | (go_at_call 96; (with_reducible refine (model_named.calls (b.length : Int) m (⟨#[118]⟩ : ByteArray) (⟨#[86]⟩ : ByteArray) true _ A7.out).mono ?_); rintro e w' ⟨rfl, ⟨nd, rfl⟩⟩) | (go_at_call 96; (with_reducible refine (model_named.calls (c.length : Int) m (⟨#[119]⟩ : ByteArray) (⟨#[87]⟩ : ByteArray) true _ A9.out).mono ?_); rintro e w' ⟨rfl, ⟨nd, rfl⟩⟩) | (go_at_call 96; (with_reducible refine (model_named.calls (d.length : Int) m (⟨#[45]⟩ : ByteArray) (⟨#[99]⟩ : ByteArray) true _ ab.out).mono ?_); rintro e w' ⟨rfl, ⟨nd, rfl⟩⟩) | (go_at_call 96; (with_reducible refine (model_named.calls (g.length : Int) m (⟨#[45]⟩ : ByteArray) (⟨#[100]⟩ : ByteArray) true _ ac.out).mono ?_); rintro e w' ⟨rfl, ⟨nd, rfl⟩⟩) | (go_at_call 96; (with_reducible refine (model_named.calls (l.length : Int) m (⟨#[45]⟩ : ByteArray) (⟨#[101]⟩ : ByteArray) E _ ad.out).mono ?_); rintro e w' ⟨rfl, ⟨nd, rfl⟩⟩))
 go_ret
 exact ⟨er_, bel_⟩

/-! ### model_alike: function 78 -/
def model_alike.f (a : Int) (e : List Int) (g : List Int) (b : List Int) (c : List Int) (d : List Int) (l : Int) (m : List (List Int)) : Option (Bool) := if a = 1 then (none) else (if a = 2 then (none) else (if a = 3 then (none) else (if a = 4 then (none) else (if a = 19 then (none) else (if a = 21 then (if (c.length : Int) = (b.length : Int) then (some ((d.length : Int) == (b.length : Int))) else (some false)) else (none))))))
set_option maxHeartbeats 8000000 in
set_option maxRecDepth 100000 in
theorem model_alike.calls (a : Int) (n : Option Addr) (c0_1 : Nat) (d : List Int) (o : Option Addr) (c0_2 : Nat) (g : List Int) (p : Option Addr) (c0_3 : Nat) (b : List Int) (q : Option Addr) (c0_4 : Nat) (c : List Int) (s : Option Addr) (c0_5 : Nat) (l : List Int) (u : Int) (v : Option Addr) (c0_7 : Nat) (m : List (List Int)) (r : Bool) (w : World) (J : Kd.C (Kd.int .i64) w n d.length d) (A : d.length ≤ c0_1) (K : Kd.C (Kd.int .i64) w o g.length g) (B : g.length ≤ c0_2) (M : Kd.C (Kd.int .i64) w p b.length b) (E : b.length ≤ c0_3) (O : Kd.C (Kd.int .i64) w q c.length c) (F : c.length ≤ c0_4) (P : Kd.C (Kd.int .i64) w s l.length l) (G : l.length ≤ c0_5) (Q : Kd.C (Kd.slice 3 (Kd.int .i64)) w v m.length m) (I : m.length ≤ c0_7) (h : model_alike.f a d g b c l u m = some r) :
  Calls Tryz.prog 78 #[.agg #[.int .i64 a, .slice n d.length c0_1, .slice o g.length c0_2, .slice p b.length c0_3, .slice q c.length c0_4, .slice s l.length c0_5, .int .i64 u, .slice v m.length c0_7]] w fun e w' => e = .returned (.bool r) ∧ Below w.heap.size w w' := by
 have hu32 := Tryz.underlying32
 have V := a_ A
 clear J A
 have W := a_ B
 clear K B
 have X := a_ E
 clear M E
 have Y := a_ F
 clear O F
 have Z := a_ G
 clear P G
 have aa := a_ I
 clear Q I
 have HB := a_ (Below.refl w.heap.size w)
 unfold model_alike.f at h
 have H := h
 clear h
 replace H := gz_ H
 obtain ⟨c2, c2b0, c2b1, H⟩ := H
 replace H := gz_ H
 obtain ⟨c3, c3b0, c3b1, H⟩ := H
 replace H := gz_ H
 obtain ⟨c4, c4b0, c4b1, H⟩ := H
 replace H := gz_ H
 obtain ⟨c5, c5b0, c5b1, H⟩ := H
 replace H := gz_ H
 obtain ⟨c6, c6b0, c6b1, H⟩ := H
 replace H := gq_ H
 obtain ⟨c7b0, c7b1, H⟩ := H
 replace H := eg_ H
 rcases H with ⟨c8, c8b0, c8b1, H⟩ | ⟨c8, c8b0, c8b1, H⟩
 ·
  have c8b2 : (c.length == b.length) = true := by first | simpa using c8 | (simp at c8 ⊢; omega)
  clear c8
  obtain rfl := si_ H
  go_enter Tryz.func78, Tryz.ntmps78
  go_wp2_with (first | ((with_reducible refine gate_dst (N := 1) rfl ?_); (try (refine gate_guard (by rfl) ?_; dsimp only)); refine bxe_ (N := 1) (cs := #[.int .i64 a, .slice n d.length c0_1, .slice o g.length c0_2, .slice p b.length c0_3, .slice q c.length c0_4, .slice s l.length c0_5, .int .i64 u, .slice v m.length c0_7]) (t := 32) ?_; intro x hg w9 hbox hb; have y := a_ (hbox); have z := a_ (by rw [hg]; exact (bz_ bel_) : w.heap.size ≤ x); have U := z; replace HB := hq_ hb; clear hb hbox hg; obtain ⟨_, _, _, _, _, _, _, _, _, _, _, _, _, _, _, _⟩ := cel8_ y.out))
  go_ret
  exact ⟨er_, bel_⟩
 have c8b2 : (c.length == b.length) = false := by first | simpa using c8 | (simp at c8 ⊢; omega)
 obtain rfl := si_ H
 go_enter Tryz.func78, Tryz.ntmps78
 go_wp2_with (first | ((with_reducible refine gate_dst (N := 1) rfl ?_); (try (refine gate_guard (by rfl) ?_; dsimp only)); refine bxe_ (N := 1) (cs := #[.int .i64 a, .slice n d.length c0_1, .slice o g.length c0_2, .slice p b.length c0_3, .slice q c.length c0_4, .slice s l.length c0_5, .int .i64 u, .slice v m.length c0_7]) (t := 32) ?_; intro x hg w11 hbox hb; have y := a_ (hbox); have z := a_ (by rw [hg]; exact (bz_ bel_) : w.heap.size ≤ x); have U := z; replace HB := hq_ hb; clear hb hbox hg; obtain ⟨_, _, _, _, _, _, _, _, _, _, _, _, _, _, _, _⟩ := cel8_ y.out))
 go_ret
 exact ⟨er_, bel_⟩

/-! ### slices_GrowNil: function 109 -/
def slices_GrowNil.f (a : Int) : Option (List Int) := if 0 ≤ a ∧ a ≤ 17592186044415 then some [] else none
theorem infoGrow : (Tryz.prog.info? 3).map (fun i => (i.zero, i.size, i.bytes)) = some (some (.int .i64 0), 1, 8) := by kernel_rfl
theorem slices_GrowNil.calls (a : Int) (r : List Int) (w : World) (h : slices_GrowNil.f a = some r) :
  Calls Tryz.prog 109 #[.slice none 0 0, .int .i64 a] w fun e w' => ∃ v_ : Value, e = .returned v_ ∧ Kd.R (Kd.int .i64) 3 w' w.heap.size (fun _ => True) v_ r ∧ Below w.heap.size w w' := by
 unfold slices_GrowNil.f at h
 by_cases hb : 0 ≤ a ∧ a ≤ 17592186044415
 rotate_left
 · rw [if_neg hb] at h; cases h
 rw [if_pos hb] at h
 obtain rfl := Option.some.inj h
 obtain ⟨h0, h1⟩ := hb
 have d1 : decide (a < 0) = false := decide_eq_false (by omega)
 by_cases hz : a = 0
 ·
  subst hz
  go_enter Tryz.func109, Tryz.ntmps109
  go_wp2
  go_ret
  exact ⟨_, rfl, Kd.R_nil _ _ _ _ _, Below.refl _ _⟩
 have d2 : decide (0 < a) = true := decide_eq_true (by omega)
 have hn : a.toNat * 8 ≤ 140737488355328 := by omega
 clear h
 go_enter Tryz.func109, Tryz.ntmps109
 go_wp2_with ((with_reducible refine gate_builtin (b := .append) (xs := #[.tmp 20, .tmp 21]) rfl ?_); at_builtin; refine Kd.R_append_zeros (Kd.int .i64) (w0 := w) w.heap.size rfl (.tmp 20) (.tmp 21) 30 3 3 (.int .i64 0) 8 rfl Tryz.underlying30 Tryz.underlying3 infoGrow rfl (by decide) (by omega) (.slice none 0 0) [] (0 : Int) a (fun _ => True) rfl rfl rfl (fun _ _ => trivial) (Kd.R_nil _ _ _ _ _) h0 (Below.refl _ _) (Nat.le_refl _) (by simp only [List.length_nil]; omega) ?_; intro c w1 hR hB hG hat; (obtain ⟨d, c1, rfl⟩ := Kd.R_slice hR); have HR := Aside0.mk hR; have HB := Aside0.mk hB; clear hR hB hG hat)
 go_ret
 exact ⟨_, rfl, Kd.R_take HR.out (Nat.zero_le _), HB.out⟩

/-! ### slices_Concat_int_int: function 100 -/
mutual
def slices_Concat_int_int.l0 : Nat → List (List Int) → Int → List (List Int) → Int → Int → Option (List Int)
 | 0, _, _, _, _, _ => none
 | k + 1, d, e, b, c, a => if a < c then (if 0 ≤ a then (if a < (b.length : Int) then (if (wrap64 (e + ((rd_L7 b a).length : Int))) < 0 then (none) else (slices_Concat_int_int.l0 k d (wrap64 (e + ((rd_L7 b a).length : Int))) b c (wrap64 (a + 1)))) else (none)) else (none)) else ((slices_GrowNil.f e).bind fun g => (slices_Concat_int_int.l1 k g d (d.length : Int) 0))
def slices_Concat_int_int.l1 : Nat → List Int → List (List Int) → Int → Int → Option (List Int)
 | 0, _, _, _, _ => none
 | k + 1, d, b, c, a => if a < c then (if 0 ≤ a then (if a < (b.length : Int) then (if d.length + (rd_L7 b a).length < 17592186044416 then (slices_Concat_int_int.l1 k (d ++ (rd_L7 b a)) b c (wrap64 (a + 1))) else (none)) else (none)) else (none)) else (some d)
end
def slices_Concat_int_int.f (k : Nat) (a : List (List Int)) : Option (List Int) := slices_Concat_int_int.l0 k a 0 a (a.length : Int) 0
theorem slices_Concat_int_int.mono_l : ∀ k, (∀ a b c d e, LeO (slices_Concat_int_int.l0 k a b c d e) (slices_Concat_int_int.l0 (k + 1) a b c d e)) ∧ (∀ a b c d, LeO (slices_Concat_int_int.l1 k a b c d) (slices_Concat_int_int.l1 (k + 1) a b c d))
 | 0 => by refine ⟨?_, ?_⟩ <;> (intros; exact LeO.none _)
 | k + 1 => by
  obtain ⟨ih0, ih1⟩ := slices_Concat_int_int.mono_l k
  refine ⟨?_, ?_⟩ <;> intros
  all_goals first | unfold slices_Concat_int_int.l0 | unfold slices_Concat_int_int.l1
  all_goals exact leo_
theorem slices_Concat_int_int.mono : ∀ a k, LeO (slices_Concat_int_int.f k a) (slices_Concat_int_int.f (k + 1) a) := by
 intro a k
 obtain ⟨ih0, ih1⟩ := slices_Concat_int_int.mono_l k
 unfold slices_Concat_int_int.f
 exact leo_
set_option maxHeartbeats 8000000 in
set_option maxRecDepth 100000 in
theorem slices_Concat_int_int.calls (k : Nat) (V : Option Addr) (c0 : Nat) (d : List (List Int)) (r : List Int) (w : World) (G : Kd.C (Kd.slice 3 (Kd.int .i64)) w V d.length d) (I : d.length ≤ c0) (h : slices_Concat_int_int.f k d = some r) :
  Calls Tryz.prog 100 #[.slice V d.length c0] w fun e w' => ∃ J : Value, e = .returned (J) ∧ Kd.R (Kd.int .i64) 3 w' w.heap.size (fun _ => True) J r ∧ Below w.heap.size w w' := by
 have K := a_ G
 have ah := a_ I
 clear G I
 have HB := a_ (Below.refl w.heap.size w)
 unfold slices_Concat_int_int.f at h
 have H := h
 clear h
 have H' := a_ H
 clear H
 go_enter Tryz.func100, Tryz.ntmps100
 go_wp2
 go_loopg [3, 11] k (fun kq v3 W w' => ∃ (g : Int) (c : Int), v3 = .int .i64 g ∧ W = .int .i64 c ∧ Aside0 (slices_Concat_int_int.l0 kq d g d (d.length : Int) c = some r) ∧ Aside0 (kq ≤ k) ∧ Aside0 (Below w.heap.size w w'))
 case atStart => exact ⟨(0), (0), eq_, eq_, H', ⟨lr_ _⟩, ⟨bel_⟩⟩
 clear H'
 try clear c1
 obtain ⟨g, c, rfl, rfl, HA, v, HB⟩ := hrel
 cases gk with
 | zero => exact absurd HA.out (by simp [slices_Concat_int_int.l0])
 | succ k1 =>
  have H := HA.out
  clear HA
  simp only [slices_Concat_int_int.l0] at H
  replace H := ct_ H
  rcases H with ⟨c2b0, H⟩ | ⟨c2b0, H⟩
  ·
   replace H := gu_ H
   obtain ⟨c3b0, H⟩ := H
   replace H := gu_ H
   obtain ⟨c4b0, H⟩ := H
   replace H := gn_ H
   obtain ⟨c5, H⟩ := H
   have c5b0 : decide ((wrap64 (g + ((rd_L7 d c).length : Int))) < 0) = false := df_ c5
   clear c5
   have H' := a_ H
   clear H
   have p131 : 0 ≤ (c : Int) := dq_
   have t : c < (d.length : Int) := dq_
   obtain ⟨aa, X, c131_0, O, l, p, x⟩ := at_L7 K.out c p131 t
   cases O
   replace l := hx_ HB l
   have Q := a_ p
   clear x p
   replace p131 := et_ p131
   replace t := et_ t
   go_wp2
   go_roundg k1
   case measure => have := v.out; omega
   exact ⟨(wrap64 (g + ((rd_L7 d c).length : Int))), (wrap64 (c + 1)), eq_, eq_, H', ⟨by have := v.out; omega⟩, ⟨bel_⟩⟩
  replace H := bo_ H
  obtain ⟨z, A6, H⟩ := H
  try dsimp only at H
  have H' := a_ H
  clear H
  go_wp2_with (first | ((with_reducible refine gate_callee (f := 109) rfl ?_); refine goesL_ (some 24) rfl rfl Tryz.func109 kr_ rfl #[.slice none 0 0, .int .i64 g] rfl ar_ ?_; (with_reducible refine (slices_GrowNil.calls g z _ A6.out).mono ?_); rintro e w7 ⟨ae, rfl, M, hb⟩; refine ⟨_, rfl, ?_⟩; have B := a_ (Kd.R_lower M (bz_ bel_)); replace HB := hq_ hb; clear hb M))
  go_loopg [6, 27] k1 (fun kq v6 Y w' => ∃ (n : List Int) (a : Int), Y = .int .i64 a ∧ Aside0 (slices_Concat_int_int.l1 kq n d (d.length : Int) a = some r) ∧ Aside0 (kq ≤ k1) ∧ Aside0 (Kd.R (Kd.int .i64) 3 w' w.heap.size (fun _ => True) v6 n) ∧ Aside0 (Below w.heap.size w w'))
  case atStart => exact ⟨(z), (0), eq_, H', ⟨lr_ _⟩, ⟨vR_ B.out⟩, ⟨bel_⟩⟩
  clear H'
  try clear c1
  try clear p1
  try clear q1
  try clear ai
  try clear c2
  try clear c2b0
  try clear p2
  try clear c3
  try clear c3b0
  try clear c4
  try clear c4b0
  try clear c5
  try clear c5b0
  try clear p6
  try clear l
  try clear p131
  try clear t
  obtain ⟨n, a, rfl, HA, N, HO_6, HB⟩ := hrel
  cases gk with
  | zero => exact absurd HA.out (by simp [slices_Concat_int_int.l1])
  | succ k2 =>
   have H := HA.out
   clear HA
   simp only [slices_Concat_int_int.l1] at H
   replace H := cf_ H
   rcases H with ⟨c8b0, H⟩ | ⟨c8b0, H⟩
   ·
    obtain rfl := si_ H
    go_wp2
    go_ret
    exact ⟨_, er_, vR_ HO_6.out, bel_⟩
   replace H := gu_ H
   obtain ⟨c9b0, H⟩ := H
   replace H := gu_ H
   obtain ⟨c10b0, H⟩ := H
   replace H := ga_ H
   obtain ⟨LMc11, H⟩ := H
   obtain ⟨A, m⟩ : ∃ y_ : List Int, y_ = (n ++ (rd_L7 d a)) := ⟨_, rfl⟩
   replace H : (slices_Concat_int_int.l1 k2 A d (d.length : Int) (wrap64 (a + 1))) = some r := h2_ H m
   have E := a_ m
   clear m
   have H' := a_ H
   clear H
   have p135 : 0 ≤ (a : Int) := dq_
   have u : a < (d.length : Int) := dq_
   obtain ⟨ab, Z, c135_0, P, o, q, s⟩ := at_L7 K.out a p135 u
   cases P
   replace o := hx_ HB o
   have y := a_ s
   have U := a_ q
   clear s q
   replace p135 := et_ p135
   replace u := et_ u
   go_wp2_with (first | ((with_reducible refine gate_builtin (b := .append) (xs := #[.tmp 31, .tmp 32]) rfl ?_); at_builtin; refine Kd.R_append_rows (Kd.int .i64) (w0 := w) w.heap.size rfl (.tmp 31) (.tmp 32) 30 3 (.int .i64 0) 8 rfl Tryz.underlying30 info3 rfl (by decide) (by omega) u6 n (rd_L7 d a) _ _ _ (fun _ => True) (fun _ => False) rfl rfl ?aO ?aR (fun _ _ h => h) (fun _ h => h.elim) ?aF ?aB ?aS ?aL ?_; (case aR => repeat (first | exact (cb_ y.out HB.out) | (with_reducible refine Kd.C_alloc ?_ _) | (with_reducible refine Kd.C_drewN ?_ _) | (with_reducible refine Kd.C_drew ?_))); (case aB => exact bel_); (case aF => exact (fun _ _ => trivial)); (case aO => exact (vR_ HO_6.out)); (case aS => exact (bz_ bel_)); (case aL => have := LMc11.out; omega); intro ag w12 ho hb hg hat; rw [← E.out] at ho; replace HB := a_ (hb); have F := a_ (ho); clear HO_6; clear ho hb hg hat))
   go_roundg k2
   case measure => have := v.out; have := N.out; omega
   exact ⟨(A), (wrap64 (a + 1)), eq_, H', ⟨by have := v.out; have := N.out; omega⟩, ⟨vR_ F.out⟩, ⟨bel_⟩⟩

end Go.Proofs.YtijjhobjmehhoaaGreatDoor.XGccAll
