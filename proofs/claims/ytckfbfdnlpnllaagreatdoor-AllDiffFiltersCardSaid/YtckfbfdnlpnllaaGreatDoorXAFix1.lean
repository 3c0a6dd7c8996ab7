-- by xprint.py, a program of this session, over the kit's print
import Derived.Test.YtckfbfdnlpnllaaGreatDoorXAFix0
import Derived.Test.YtckfbfdnlpnllaaGreatDoorSq
namespace Go.Proofs.YtckfbfdnlpnllaaGreatDoor.XAllDiffFilters
open Go.RowKit Go.Proofs.YtckfbfdnlpnllaaGreatDoor.Sq Go.Proofs.YtckfbfdnlpnllaaGreatDoorW.PrintWords Go.Proofs.YtckfbfdnlpnllaaGreatDoorW.PrintLast Go.Proofs.YtckfbfdnlpnllaaGreatDoorW.PrintMore
attribute [local go_sem] max2_int min2_int max_two min_two max_three min_three max_four min_four   -- for this text's walks alone
set_option linter.unusedVariables false
set_option linter.unusedSimpArgs false

theorem fold_step {op : Int → Int → Int} {l : List Int} {z : Int} {k : Nat} (h : k < l.length) : (l.take (k + 1)).foldl op z = op ((l.take k).foldl op z) (rd l k) := by
 rw [List.take_succ_eq_append_getElem h, List.foldl_append]
 have e : rd l k = l[k] := by unfold rd; rw [Int.toNat_natCast, List.getD_eq_getElem?_getD, List.getElem?_eq_getElem h]; rfl
 rw [e]; rfl
theorem mx_self (a : Int) : mx a a = a := by unfold mx; split <;> rfl
theorem mn_self (a : Int) : mn a a = a := by unfold mn; split <;> rfl

def IdxPost (l0 : List Int) (p : Int → Bool) (w : World) (e : Ending) (w' : World) : Prop := ∃ i : Int, e = .returned (.int .i64 i) ∧ (0 ≤ i ↔ l0.any p = true) ∧ Drawn0 w w'
/-- slices.IndexFunc at numbers and whatever function that captures nothing and makes nothing. -/
theorem indexInt (g : Nat) (lb : Array Value) (p : Int → Bool) (eg : ∀ args w, (callFunc g args).run Tryz.prog w = .ok (.enter g args) w)
  (A0 : Option Addr) (c0 : Nat) (l0 : List Int) (w : World)
  (hp : ∀ v m, Calls Tryz.prog g (#[.int .i64 v] ++ lb) (w.drewN m) fun e w' => e = .returned (.bool (p v)) ∧ Drawn0 (w.drewN m) w') (hr0 : Kd.C (Kd.int .i64) w A0 l0.length l0) :
  Calls Tryz.prog 83 #[.slice A0 l0.length c0, .func (.func g) #[] lb] w (IdxPost l0 p w) := by
 have hbig : l0.length ≤ 9223372036854775807 := hr0.2.1
 have HR := Aside0.mk hr0
 have HP := Aside0.mk hp
 clear hr0 hp
 go_enter Tryz.func83, Tryz.ntmps83
 go_wp2
 go_loopg [8] l0.length (fun gg s8 wr => ∃ kk : Nat, kk ≤ l0.length ∧ l0.length - kk ≤ gg ∧ s8 = .int .i64 kk ∧ Aside0 (Drawn0 w wr) ∧ Aside0 (∀ j, j < kk → p (rd l0 (j : Nat)) = false))
 case atStart => exact ⟨0, Nat.zero_le _, by omega, rfl, ⟨Drawn0.refl _⟩, ⟨fun j hj => absurd hj (Nat.not_lt_zero _)⟩⟩
 obtain ⟨kk, hkk, hg, rfl, BW, AF⟩ := hrel
 obtain ⟨⟨m, rfl⟩⟩ := BW
 by_cases hlt : kk < l0.length
 rotate_left
 ·
  have hltz : ¬ (kk : Int) < (l0.length : Int) := by omega
  have : kk = l0.length := by omega
  subst this
  go_wp2
  go_ret
  refine ⟨-1, rfl, ⟨fun h => absurd h (by decide), fun h => ?_⟩, ⟨_, rfl⟩⟩
  rw [List.any_eq_true] at h
  obtain ⟨x, hx, hp⟩ := h
  obtain ⟨j, hj, rfl⟩ := List.getElem_of_mem hx
  have := AF.out j hj
  unfold rd at this
  rw [Int.toNat_natCast, List.getD_eq_getElem?_getD, List.getElem?_eq_getElem hj] at this
  simp only [Option.getD_some] at this
  rw [this] at hp; cases hp
 have hltz : (kk : Int) < (l0.length : Int) := by omega
 obtain ⟨ad, rfl, hcell⟩ := Kd.at_int HR.out (kk : Int) (by omega) hltz
 rw [Int.toNat_natCast] at hcell
 have hcell' : (w.drewN m).cell? (ad.add kk) = some (.int .i64 (rd l0 kk)) := by rw [World.cell?_drewN]; exact hcell
 clear hcell
 have hcall := HP.out (rd l0 kk) m
 cases hq : p (rd l0 kk) with
 | true =>
  rw [hq] at hcall
  have HQ := Aside0.mk hq
  have HC := Aside0.mk hcall
  clear hq hcall
  go_wp2_with (go_at_fn g; refine HC.out.mono ?_; rintro e w' ⟨rfl, ⟨nd, rfl⟩⟩)
  go_ret
  refine ⟨kk, rfl, ⟨fun _ => ?_, fun _ => by omega⟩, ⟨_, rfl⟩⟩
  rw [List.any_eq_true]
  exact ⟨rd l0 kk, by unfold rd; rw [Int.toNat_natCast, List.getD_eq_getElem?_getD, List.getElem?_eq_getElem hlt]; exact List.getElem_mem hlt, HQ.out⟩
 | false =>
  rw [hq] at hcall
  have HQ := Aside0.mk hq
  have HC := Aside0.mk hcall
  clear hq hcall
  go_wp2_with (go_at_fn g; refine HC.out.mono ?_; rintro e w' ⟨rfl, ⟨nd, rfl⟩⟩)
  go_roundg (l0.length - (kk + 1))
  case measure => omega
  refine ⟨kk + 1, by omega, by omega, by go_num, ⟨⟨_, rfl⟩⟩, ⟨fun j hj => ?_⟩⟩
  by_cases e : j = kk
  · subst e; exact HQ.out
  exact AF.out j (by omega)
/-- slices.ContainsFunc at numbers and whatever function that captures nothing and makes nothing. -/
theorem containsInt (g : Nat) (lb : Array Value) (p : Int → Bool) (eg : ∀ args w, (callFunc g args).run Tryz.prog w = .ok (.enter g args) w)
  (A0 : Option Addr) (c0 : Nat) (l0 : List Int) (w : World)
  (hp : ∀ v m, Calls Tryz.prog g (#[.int .i64 v] ++ lb) (w.drewN m) fun e w' => e = .returned (.bool (p v)) ∧ Drawn0 (w.drewN m) w') (hr0 : Kd.C (Kd.int .i64) w A0 l0.length l0) (hc0 : l0.length ≤ c0) :
  Calls Tryz.prog 60 #[.slice A0 l0.length c0, .func (.func g) #[] lb] w fun e w' => e = .returned (.bool (l0.any p)) ∧ Drawn0 w w' := by
 have HC := Aside0.mk (indexInt g lb p eg A0 c0 l0 w hp hr0)
 clear hr0
 go_enter Tryz.func60, Tryz.ntmps60
 go_wp2_with (go_at_call 83; refine HC.out.mono ?_; rintro e w' ⟨i, rfl, hi, hd⟩; have HI := Aside0.mk hi; clear hi)
 go_ret
 refine ⟨?_, hd⟩
 have := HI.out
 by_cases h : 0 ≤ i
 · rw [this.mp h]; simp [h]
 have : l0.any p = false := by rw [Bool.eq_false_iff]; exact fun e => h (this.mpr e)
 rw [this]; simp [h]

/-! ### jigsawref06_Shapes: function 35 -/
def jigsawref06_Shapes.f  : Option (List ByteArray) := some (([(⟨#[]⟩ : ByteArray), (⟨#[99, 86, 107]⟩ : ByteArray), (⟨#[99, 86, 107]⟩ : ByteArray), (⟨#[99, 86, 107]⟩ : ByteArray), (⟨#[99, 86, 107, 119]⟩ : ByteArray), (⟨#[118, 118, 118]⟩ : ByteArray), (⟨#[118, 118, 118]⟩ : ByteArray), (⟨#[118, 118, 118]⟩ : ByteArray), (⟨#[118, 118]⟩ : ByteArray), (⟨#[118, 118, 118]⟩ : ByteArray), (⟨#[118, 118, 118]⟩ : ByteArray), (⟨#[118, 99, 118]⟩ : ByteArray), (⟨#[86, 87]⟩ : ByteArray), (⟨#[118, 107, 119]⟩ : ByteArray), (⟨#[118, 107, 119]⟩ : ByteArray), (⟨#[118, 107, 119]⟩ : ByteArray), (⟨#[118, 107, 119]⟩ : ByteArray), (⟨#[86]⟩ : ByteArray), (⟨#[86, 114]⟩ : ByteArray), (⟨#[86, 99, 100, 107]⟩ : ByteArray), (⟨#[86]⟩ : ByteArray), (⟨#[86, 99, 100, 101]⟩ : ByteArray), (⟨#[86, 87]⟩ : ByteArray), (⟨#[86, 87]⟩ : ByteArray)] : List ByteArray))
set_option maxHeartbeats 8000000 in
set_option maxRecDepth 100000 in
theorem jigsawref06_Shapes.calls  (r : List ByteArray) (w : World) (h : jigsawref06_Shapes.f  = some r) :
  Calls Tryz.prog 35 #[] w fun e w' => ∃ g : Value, e = .returned (g) ∧ Kd.R Kd.string 9 w' w.heap.size (fun _ => True) g r ∧ Below w.heap.size w w' := by
 have HB := a_ (Below.refl w.heap.size w)
 unfold jigsawref06_Shapes.f at h
 have H := h
 clear h
 obtain ⟨l, a⟩ : ∃ y_ : List ByteArray, y_ = (([(⟨#[]⟩ : ByteArray), (⟨#[99, 86, 107]⟩ : ByteArray), (⟨#[99, 86, 107]⟩ : ByteArray), (⟨#[99, 86, 107]⟩ : ByteArray), (⟨#[99, 86, 107, 119]⟩ : ByteArray), (⟨#[118, 118, 118]⟩ : ByteArray), (⟨#[118, 118, 118]⟩ : ByteArray), (⟨#[118, 118, 118]⟩ : ByteArray), (⟨#[118, 118]⟩ : ByteArray), (⟨#[118, 118, 118]⟩ : ByteArray), (⟨#[118, 118, 118]⟩ : ByteArray), (⟨#[118, 99, 118]⟩ : ByteArray), (⟨#[86, 87]⟩ : ByteArray), (⟨#[118, 107, 119]⟩ : ByteArray), (⟨#[118, 107, 119]⟩ : ByteArray), (⟨#[118, 107, 119]⟩ : ByteArray), (⟨#[118, 107, 119]⟩ : ByteArray), (⟨#[86]⟩ : ByteArray), (⟨#[86, 114]⟩ : ByteArray), (⟨#[86, 99, 100, 107]⟩ : ByteArray), (⟨#[86]⟩ : ByteArray), (⟨#[86, 99, 100, 101]⟩ : ByteArray), (⟨#[86, 87]⟩ : ByteArray), (⟨#[86, 87]⟩ : ByteArray)] : List ByteArray)) := ⟨_, rfl⟩
 replace H : (some l) = some r := h2_ H a
 have c := a_ a
 clear a
 obtain rfl := si_ H
 go_enter Tryz.func35, Tryz.ntmps35
 go_wp2_with (first | ((with_reducible refine gate_dst (N := 1) rfl ?_); refine Kd.R_lit Kd.string _ 9 ?hg (N := 1) ?hd (xs := ([(⟨#[]⟩ : ByteArray), (⟨#[99, 86, 107]⟩ : ByteArray), (⟨#[99, 86, 107]⟩ : ByteArray), (⟨#[99, 86, 107]⟩ : ByteArray), (⟨#[99, 86, 107, 119]⟩ : ByteArray), (⟨#[118, 118, 118]⟩ : ByteArray), (⟨#[118, 118, 118]⟩ : ByteArray), (⟨#[118, 118, 118]⟩ : ByteArray), (⟨#[118, 118]⟩ : ByteArray), (⟨#[118, 118, 118]⟩ : ByteArray), (⟨#[118, 118, 118]⟩ : ByteArray), (⟨#[118, 99, 118]⟩ : ByteArray), (⟨#[86, 87]⟩ : ByteArray), (⟨#[118, 107, 119]⟩ : ByteArray), (⟨#[118, 107, 119]⟩ : ByteArray), (⟨#[118, 107, 119]⟩ : ByteArray), (⟨#[118, 107, 119]⟩ : ByteArray), (⟨#[86]⟩ : ByteArray), (⟨#[86, 114]⟩ : ByteArray), (⟨#[86, 99, 100, 107]⟩ : ByteArray), (⟨#[86]⟩ : ByteArray), (⟨#[86, 99, 100, 101]⟩ : ByteArray), (⟨#[86, 87]⟩ : ByteArray), (⟨#[86, 87]⟩ : ByteArray)] : List ByteArray)) (inner := [.string (⟨#[]⟩ : ByteArray), .string (⟨#[99, 86, 107]⟩ : ByteArray), .string (⟨#[99, 86, 107]⟩ : ByteArray), .string (⟨#[99, 86, 107]⟩ : ByteArray), .string (⟨#[99, 86, 107, 119]⟩ : ByteArray), .string (⟨#[118, 118, 118]⟩ : ByteArray), .string (⟨#[118, 118, 118]⟩ : ByteArray), .string (⟨#[118, 118, 118]⟩ : ByteArray), .string (⟨#[118, 118]⟩ : ByteArray), .string (⟨#[118, 118, 118]⟩ : ByteArray), .string (⟨#[118, 118, 118]⟩ : ByteArray), .string (⟨#[118, 99, 118]⟩ : ByteArray), .string (⟨#[86, 87]⟩ : ByteArray), .string (⟨#[118, 107, 119]⟩ : ByteArray), .string (⟨#[118, 107, 119]⟩ : ByteArray), .string (⟨#[118, 107, 119]⟩ : ByteArray), .string (⟨#[118, 107, 119]⟩ : ByteArray), .string (⟨#[86]⟩ : ByteArray), .string (⟨#[86, 114]⟩ : ByteArray), .string (⟨#[86, 99, 100, 107]⟩ : ByteArray), .string (⟨#[86]⟩ : ByteArray), .string (⟨#[86, 99, 100, 101]⟩ : ByteArray), .string (⟨#[86, 87]⟩ : ByteArray), .string (⟨#[86, 87]⟩ : ByteArray)]) (ok := fun _ => True) (okp := fun _ => True) ?hr ?hp (fun _ hk => hk) trivial (Below.refl _ _) (lr_ _) (by simp) ?_; (case hd => rfl); (case hg => rfl); (case hr => first | (go_simp; done) | (go_simp; rfl)); (case hp => exact (Reps.one (show Kd.M Kd.string _ _ _ (⟨#[]⟩ : ByteArray) [.string (⟨#[]⟩ : ByteArray)] from rfl) (Reps.one (show Kd.M Kd.string _ _ _ (⟨#[99, 86, 107]⟩ : ByteArray) [.string (⟨#[99, 86, 107]⟩ : ByteArray)] from rfl) (Reps.one (show Kd.M Kd.string _ _ _ (⟨#[99, 86, 107]⟩ : ByteArray) [.string (⟨#[99, 86, 107]⟩ : ByteArray)] from rfl) (Reps.one (show Kd.M Kd.string _ _ _ (⟨#[99, 86, 107]⟩ : ByteArray) [.string (⟨#[99, 86, 107]⟩ : ByteArray)] from rfl) (Reps.one (show Kd.M Kd.string _ _ _ (⟨#[99, 86, 107, 119]⟩ : ByteArray) [.string (⟨#[99, 86, 107, 119]⟩ : ByteArray)] from rfl) (Reps.one (show Kd.M Kd.string _ _ _ (⟨#[118, 118, 118]⟩ : ByteArray) [.string (⟨#[118, 118, 118]⟩ : ByteArray)] from rfl) (Reps.one (show Kd.M Kd.string _ _ _ (⟨#[118, 118, 118]⟩ : ByteArray) [.string (⟨#[118, 118, 118]⟩ : ByteArray)] from rfl) (Reps.one (show Kd.M Kd.string _ _ _ (⟨#[118, 118, 118]⟩ : ByteArray) [.string (⟨#[118, 118, 118]⟩ : ByteArray)] from rfl) (Reps.one (show Kd.M Kd.string _ _ _ (⟨#[118, 118]⟩ : ByteArray) [.string (⟨#[118, 118]⟩ : ByteArray)] from rfl) (Reps.one (show Kd.M Kd.string _ _ _ (⟨#[118, 118, 118]⟩ : ByteArray) [.string (⟨#[118, 118, 118]⟩ : ByteArray)] from rfl) (Reps.one (show Kd.M Kd.string _ _ _ (⟨#[118, 118, 118]⟩ : ByteArray) [.string (⟨#[118, 118, 118]⟩ : ByteArray)] from rfl) (Reps.one (show Kd.M Kd.string _ _ _ (⟨#[118, 99, 118]⟩ : ByteArray) [.string (⟨#[118, 99, 118]⟩ : ByteArray)] from rfl) (Reps.one (show Kd.M Kd.string _ _ _ (⟨#[86, 87]⟩ : ByteArray) [.string (⟨#[86, 87]⟩ : ByteArray)] from rfl) (Reps.one (show Kd.M Kd.string _ _ _ (⟨#[118, 107, 119]⟩ : ByteArray) [.string (⟨#[118, 107, 119]⟩ : ByteArray)] from rfl) (Reps.one (show Kd.M Kd.string _ _ _ (⟨#[118, 107, 119]⟩ : ByteArray) [.string (⟨#[118, 107, 119]⟩ : ByteArray)] from rfl) (Reps.one (show Kd.M Kd.string _ _ _ (⟨#[118, 107, 119]⟩ : ByteArray) [.string (⟨#[118, 107, 119]⟩ : ByteArray)] from rfl) (Reps.one (show Kd.M Kd.string _ _ _ (⟨#[118, 107, 119]⟩ : ByteArray) [.string (⟨#[118, 107, 119]⟩ : ByteArray)] from rfl) (Reps.one (show Kd.M Kd.string _ _ _ (⟨#[86]⟩ : ByteArray) [.string (⟨#[86]⟩ : ByteArray)] from rfl) (Reps.one (show Kd.M Kd.string _ _ _ (⟨#[86, 114]⟩ : ByteArray) [.string (⟨#[86, 114]⟩ : ByteArray)] from rfl) (Reps.one (show Kd.M Kd.string _ _ _ (⟨#[86, 99, 100, 107]⟩ : ByteArray) [.string (⟨#[86, 99, 100, 107]⟩ : ByteArray)] from rfl) (Reps.one (show Kd.M Kd.string _ _ _ (⟨#[86]⟩ : ByteArray) [.string (⟨#[86]⟩ : ByteArray)] from rfl) (Reps.one (show Kd.M Kd.string _ _ _ (⟨#[86, 99, 100, 101]⟩ : ByteArray) [.string (⟨#[86, 99, 100, 101]⟩ : ByteArray)] from rfl) (Reps.one (show Kd.M Kd.string _ _ _ (⟨#[86, 87]⟩ : ByteArray) [.string (⟨#[86, 87]⟩ : ByteArray)] from rfl) (Reps.one (show Kd.M Kd.string _ _ _ (⟨#[86, 87]⟩ : ByteArray) [.string (⟨#[86, 87]⟩ : ByteArray)] from rfl) (Reps.none _ _)))))))))))))))))))))))))); intro m w1 b hb hg_ hnew_; clear hg_ hnew_; (first | rw [← c.out] at b | (simp only [Int.reduceToNat] at b; rw [← c.out] at b)); have d := a_ (Kd.R_lower b (bz_ bel_)); replace HB := hq_ hb; clear hb b))
 go_ret
 exact ⟨_, er_, vR_ d.out, bel_⟩

/-! ### jigsawref06_has: function 36 -/
def jigsawref06_has.l0 : Nat → ByteArray → Int → Int → Int → Option (Int)
 | 0, _, _, _, _ => none
 | k + 1, b, c, d, a => if a < (b.size : Int) then (if 0 ≤ a then (if (bt b a) = c then (jigsawref06_has.l0 k b c (wrap64 (d + 1)) (wrap64 (a + 1))) else (jigsawref06_has.l0 k b c d (wrap64 (a + 1)))) else (none)) else (some d)
def jigsawref06_has.f (k : Nat) (a : ByteArray) (b : Int) : Option (Int) := jigsawref06_has.l0 k a b 0 0
theorem jigsawref06_has.mono_l : ∀ k, (∀ a b c d, LeO (jigsawref06_has.l0 k a b c d) (jigsawref06_has.l0 (k + 1) a b c d))
 | 0 => by intros; exact LeO.none _
 | k + 1 => by
  have ih0 := jigsawref06_has.mono_l k
  intro a b c d
  unfold jigsawref06_has.l0
  exact leo_
theorem jigsawref06_has.mono : ∀ a b k, LeO (jigsawref06_has.f k a b) (jigsawref06_has.f (k + 1) a b) := by
 intro a b k
 have ih0 := jigsawref06_has.mono_l k
 unfold jigsawref06_has.f
 exact leo_
set_option maxHeartbeats 8000000 in
set_option maxRecDepth 100000 in
theorem jigsawref06_has.calls (k : Nat) (b : ByteArray) (d : Int) (r : Int) (w : World) (h : jigsawref06_has.f k b d = some r) :
  Calls Tryz.prog 36 #[.string b, .int .u8 d] w fun e w' => e = .returned (.int .i64 r) ∧ Drawn0 w w' := by
 unfold jigsawref06_has.f at h
 have H := h
 clear h
 have H' := a_ H
 clear H
 go_enter Tryz.func36, Tryz.ntmps36
 go_wp2
 go_loopg [5, 6] k (fun kq n o w' => ∃ (c : Int) (a : Int), n = .int .i64 c ∧ o = .int .i64 a ∧ Aside0 (jigsawref06_has.l0 kq b d c a = some r) ∧ Aside0 (kq ≤ k) ∧ Drawn0 w w')
 case atStart => exact ⟨(0), (0), eq_, eq_, H', ⟨lr_ _⟩, by repeat (first | exact d0_ _ | apply Drawn0.step)⟩
 clear H'
 try clear p2
 obtain ⟨c, a, rfl, rfl, HA, g, ⟨m1, rfl⟩⟩ := hrel
 cases gk with
 | zero => exact absurd HA.out (by simp [jigsawref06_has.l0])
 | succ k1 =>
  have H := HA.out
  clear HA
  simp only [jigsawref06_has.l0] at H
  by_cases c3 : a < (b.size : Int)
  rotate_left
  ·
   rw [ig_ c3] at H
   have c3b0 : decide (a < (b.size : Int)) = false := df_ c3
   clear c3
   obtain rfl := si_ H
   go_wp2
   go_ret
   exact ⟨by first | rfl | (simp; done) | (simp [*]; done), by repeat (first | exact d0_ _ | apply Drawn0.step)⟩
  rw [ip_ c3] at H
  have c3b0 : decide (a < (b.size : Int)) = true := dt_ c3
  clear c3
  by_cases c4 : 0 ≤ a
  rotate_left
  ·
   rw [ig_ c4] at H
   exact ab_ H
  rw [ip_ c4] at H
  have c4b0 : decide (0 ≤ a) = true := dt_ c4
  clear c4
  by_cases c6 : (bt b a) = d
  rotate_left
  ·
   rw [ig_ c6] at H
   have c6b0 : ((bt b a) == d) = false := be_.mpr c6
   have c6b1 : ((bt b a) != d) = true := ni_.mpr c6
   have H' := a_ H
   clear H
   have p5 : 0 ≤ (a : Int) := dq_
   have l : a < (b.size : Int) := dq_
   have m := bt_at b a
   replace p5 := et_ p5
   replace l := et_ l
   go_wp2
   go_roundg k1
   case measure => have := g.out; omega
   exact ⟨(c), (wrap64 (a + 1)), eq_, eq_, H', ⟨by have := g.out; omega⟩, by repeat (first | exact d0_ _ | apply Drawn0.step)⟩
  rw [ip_ c6] at H
  have c6b0 : ((bt b a) == d) = true := beq_iff_eq.mpr c6
  have c6b1 : ((bt b a) != d) = false := bn_.mpr c6
  clear c6
  have H' := a_ H
  clear H
  have p5 : 0 ≤ (a : Int) := dq_
  have l : a < (b.size : Int) := dq_
  have m := bt_at b a
  replace p5 := et_ p5
  replace l := et_ l
  go_wp2
  go_roundg k1
  case measure => have := g.out; omega
  exact ⟨(wrap64 (c + 1)), (wrap64 (a + 1)), eq_, eq_, H', ⟨by have := g.out; omega⟩, by repeat (first | exact d0_ _ | apply Drawn0.step)⟩

/-! ### jigsawref06_places: function 37 -/
def jigsawref06_places.l0 : Nat → List Int → Int → Int → List Int → Int → Option (List Int)
 | 0, _, _, _, _, _ => none
 | k + 1, d, e, b, c, a => if a < e then (if a < (d.length : Int) then (if 0 ≤ a then (if b = 0 then (none) else (if c.length < 17592186044416 then (jigsawref06_places.l0 k d e b (c ++ [Int.tmod (wrap64 (rd d a)) b]) (wrap64 (a + 1))) else (none))) else (none)) else (if b = 0 then (none) else (if c.length < 17592186044416 then (jigsawref06_places.l0 k d e b (c ++ [Int.tmod a b]) (wrap64 (a + 1))) else (none)))) else (some c)
def jigsawref06_places.f (k : Nat) (a : List Int) (b : Int) (c : Int) : Option (List Int) := jigsawref06_places.l0 k a b c ([] : List Int) 0
theorem jigsawref06_places.mono_l : ∀ k, (∀ a b c d e, LeO (jigsawref06_places.l0 k a b c d e) (jigsawref06_places.l0 (k + 1) a b c d e))
 | 0 => by intros; exact LeO.none _
 | k + 1 => by
  have ih0 := jigsawref06_places.mono_l k
  intro a b c d e
  unfold jigsawref06_places.l0
  exact leo_
theorem jigsawref06_places.mono : ∀ a b c k, LeO (jigsawref06_places.f k a b c) (jigsawref06_places.f (k + 1) a b c) := by
 intro a b c k
 have ih0 := jigsawref06_places.mono_l k
 unfold jigsawref06_places.f
 exact leo_
set_option maxHeartbeats 8000000 in
set_option maxRecDepth 100000 in
theorem jigsawref06_places.calls (k : Nat) (F : Option Addr) (c0 : Nat) (g : List Int) (o : Int) (d : Int) (r : List Int) (w : World) (z : Kd.C (Kd.int .u8) w F g.length g) (A : g.length ≤ c0) (h : jigsawref06_places.f k g o d = some r) :
  Calls Tryz.prog 37 #[.slice F g.length c0, .int .i64 o, .int .i64 d] w fun e w' => ∃ B : Value, e = .returned (B) ∧ Kd.R (Kd.int .i64) 3 w' w.heap.size (fun _ => True) B r ∧ Below w.heap.size w w' := by
 have G := a_ z
 have O := a_ A
 clear z A
 have HB := a_ (Below.refl w.heap.size w)
 unfold jigsawref06_places.f at h
 have H := h
 clear h
 have H' := a_ H
 clear H
 go_enter Tryz.func37, Tryz.ntmps37
 go_wp2
 go_loopg [7, 8] k (fun kq J K w' => ∃ (c : List Int) (a : Int), K = .int .i64 a ∧ Aside0 (jigsawref06_places.l0 kq g o d c a = some r) ∧ Aside0 (kq ≤ k) ∧ Aside0 (Kd.R (Kd.int .i64) 3 w' w.heap.size (fun _ => True) J c) ∧ Aside0 (Below w.heap.size w w'))
 case atStart => exact ⟨(([] : List Int)), (0), eq_, H', ⟨lr_ _⟩, ⟨nil_⟩, ⟨bel_⟩⟩
 clear H'
 try clear p2
 try clear c3
 obtain ⟨c, a, rfl, HA, q, HO_7, HB⟩ := hrel
 cases gk with
 | zero => exact absurd HA.out (by simp [jigsawref06_places.l0])
 | succ k1 =>
  have H := HA.out
  clear HA
  simp only [jigsawref06_places.l0] at H
  by_cases c4 : a < o
  rotate_left
  ·
   rw [ig_ c4] at H
   have c4b0 : decide (a < o) = false := df_ c4
   clear c4
   obtain rfl := si_ H
   go_wp2
   go_ret
   exact ⟨_, er_, vR_ HO_7.out, bel_⟩
  rw [ip_ c4] at H
  have c4b0 : decide (a < o) = true := dt_ c4
  clear c4
  by_cases c5 : a < (g.length : Int)
  rotate_left
  ·
   rw [ig_ c5] at H
   have c5b0 : decide (a < (g.length : Int)) = false := df_ c5
   clear c5
   by_cases c10 : d = 0
   ·
    rw [ip_ c10] at H
    exact ab_ H
   rw [ig_ c10] at H
   have c10b0 : (d == 0) = false := be_.mpr c10
   have c10b1 : (d != 0) = true := ni_.mpr c10
   by_cases c11 : c.length < 17592186044416
   rotate_left
   ·
    rw [ig_ c11] at H
    exact ab_ H
   rw [ip_ c11] at H
   have LMc11 := a_ c11
   clear c11
   obtain ⟨t, m⟩ : ∃ y_ : List Int, y_ = (c ++ [Int.tmod a d]) := ⟨_, rfl⟩
   replace H : (jigsawref06_places.l0 k1 g o d t (wrap64 (a + 1))) = some r := h2_ H m
   have x := a_ m
   clear m
   have H' := a_ H
   clear H
   go_wp2_with (first | ((with_reducible refine gate_builtin (b := .append) (xs := #[.tmp 25, .tmp 29]) rfl ?_); at_builtin; refine Kd.R_append (Kd.int .i64) (w0 := w) w.heap.size rfl (.tmp 25) (.tmp 29) 30 3 (.int .i64 0) 8 rfl Tryz.underlying30 info3 rfl (by decide) (by omega) u7 c (Int.tmod a d) [.int .i64 (Int.tmod a d)] (fun _ => True) (fun _ => False) rfl rfl ?aP (fun _ hk => hk.elim) ?aF ?aO ?aB ?aS ?aL ?_; (case aP => exact rfl); (case aB => exact bel_); (case aF => exact (fun _ _ => trivial)); (case aO => exact (vR_ HO_7.out)); (case aS => exact (bz_ bel_)); (case aL => have := LMc11.out; omega); intro N w12 ho hb hg hat; rw [← x.out] at ho; replace HB := a_ (hb); have y := a_ (ho); clear HO_7; clear ho hb hg hat))
   go_roundg k1
   case measure => have := q.out; omega
   exact ⟨(t), (wrap64 (a + 1)), eq_, H', ⟨by have := q.out; omega⟩, ⟨vR_ y.out⟩, ⟨bel_⟩⟩
  rw [ip_ c5] at H
  have c5b0 : decide (a < (g.length : Int)) = true := dt_ c5
  clear c5
  by_cases c6 : 0 ≤ a
  rotate_left
  ·
   rw [ig_ c6] at H
   exact ab_ H
  rw [ip_ c6] at H
  have c6b0 : decide (0 ≤ a) = true := dt_ c6
  clear c6
  by_cases c7 : d = 0
  ·
   rw [ip_ c7] at H
   exact ab_ H
  rw [ig_ c7] at H
  have c7b0 : (d == 0) = false := be_.mpr c7
  have c7b1 : (d != 0) = true := ni_.mpr c7
  by_cases c8 : c.length < 17592186044416
  rotate_left
  ·
   rw [ig_ c8] at H
   exact ab_ H
  rw [ip_ c8] at H
  have LMc8 := a_ c8
  clear c8
  obtain ⟨s, l⟩ : ∃ y_ : List Int, y_ = (c ++ [Int.tmod (wrap64 (rd g a)) d]) := ⟨_, rfl⟩
  replace H : (jigsawref06_places.l0 k1 g o d s (wrap64 (a + 1))) = some r := h2_ H l
  have u := a_ l
  clear l
  have H' := a_ H
  clear H
  have p104 : 0 ≤ (a : Int) := dq_
  have p : a < (g.length : Int) := dq_
  obtain ⟨I, E, n⟩ := ai_ G.out a p104 p
  cases E
  replace n := hx_ HB n
  replace p104 := et_ p104
  replace p := et_ p
  go_wp2_with (first | ((with_reducible refine gate_builtin (b := .append) (xs := #[.tmp 25, .tmp 29]) rfl ?_); at_builtin; refine Kd.R_append (Kd.int .i64) (w0 := w) w.heap.size rfl (.tmp 25) (.tmp 29) 30 3 (.int .i64 0) 8 rfl Tryz.underlying30 info3 rfl (by decide) (by omega) u7 c (Int.tmod (wrap64 (rd g a)) d) [.int .i64 (Int.tmod (wrap64 (rd g a)) d)] (fun _ => True) (fun _ => False) rfl rfl ?aP (fun _ hk => hk.elim) ?aF ?aO ?aB ?aS ?aL ?_; (case aP => exact rfl); (case aB => exact bel_); (case aF => exact (fun _ _ => trivial)); (case aO => exact (vR_ HO_7.out)); (case aS => exact (bz_ bel_)); (case aL => have := LMc8.out; omega); intro M w9 ho hb hg hat; rw [← u.out] at ho; replace HB := a_ (hb); have v := a_ (ho); clear HO_7; clear ho hb hg hat))
  go_roundg k1
  case measure => have := q.out; omega
  exact ⟨(s), (wrap64 (a + 1)), eq_, H', ⟨by have := q.out; omega⟩, ⟨vR_ v.out⟩, ⟨bel_⟩⟩

/-! ### jigsawref06_Make: function 18 -/
mutual
def jigsawref06_Make.j0 : Nat → Int → ByteArray → Int → Int → List Int → List Int → List Int → Int → Int → Int → Int → Option (Int × List Int × List Int × List Int × List Int × List Int × Int × (List (List Int)))
 | 0, _, _, _, _, _, _, _, _, _, _, _ => none
 | k + 1, m, n, o, a, b, c, d, e, f, g, l => if o > 4 then (jigsawref06_Make.j1 k m n 4 a b c d e f g l) else (jigsawref06_Make.j1 k m n o a b c d e f g l)
def jigsawref06_Make.j1 : Nat → Int → ByteArray → Int → Int → List Int → List Int → List Int → Int → Int → Int → Int → Option (Int × List Int × List Int × List Int × List Int × List Int × Int × (List (List Int)))
 | 0, _, _, _, _, _, _, _, _, _, _, _ => none
 | k + 1, u, d, v, p, b, q, r, s, t, a, c => (jigsawref06_has.f k d 118).bind fun e => (if e > 0 then (none) else ((jigsawref06_places.f k b v u).bind fun g => ((jigsawref06_has.f k d 119).bind fun l => (if l > 0 then (none) else ((jigsawref06_has.f k d 87).bind fun m => (if m > 0 then (none) else ((jigsawref06_has.f k d 99).bind fun n => (if n > 0 then (none) else (if a = 11 then (none) else ((jigsawref06_has.f k d 107).bind fun o => (if o > 0 then (none) else (if a = 19 then (none) else (if a = 21 then (none) else (if a = 18 then (none) else (some (a, g, ([] : List Int), ([] : List Int), ([] : List Int), ([] : List Int), c, ([] : List (List Int))))))))))))))))))
end
def jigsawref06_Make.f (k : Nat) (a : Int) (b : List Int) (d : List Int) (e : List Int) (g : Int) (l : Int) (m : Int) : Option (Int × List Int × List Int × List Int × List Int × List Int × Int × (List (List Int))) := (jigsawref06_Shapes.f).bind fun c => (if 0 ≤ (wrap64 (1 + (Int.tmod (wrap64 (a)) 23))) then (if (wrap64 (1 + (Int.tmod (wrap64 (a)) 23))) < (c.length : Int) then (if (b.length : Int) < 1 then (jigsawref06_Make.j0 k m (rdOf ByteArray.empty c (wrap64 (1 + (Int.tmod (wrap64 (a)) 23)))) 1 a b d e g l (wrap64 (1 + (Int.tmod (wrap64 (a)) 23))) 0) else (jigsawref06_Make.j0 k m (rdOf ByteArray.empty c (wrap64 (1 + (Int.tmod (wrap64 (a)) 23)))) (b.length : Int) a b d e g l (wrap64 (1 + (Int.tmod (wrap64 (a)) 23))) 0)) else (none)) else (none))
theorem jigsawref06_Make.mono_l : ∀ k, (∀ b c d e f g l m n o a, LeO (jigsawref06_Make.j0 k b c d e f g l m n o a) (jigsawref06_Make.j0 (k + 1) b c d e f g l m n o a)) ∧ (∀ b c d e f g l m n o a, LeO (jigsawref06_Make.j1 k b c d e f g l m n o a) (jigsawref06_Make.j1 (k + 1) b c d e f g l m n o a))
 | 0 => by refine ⟨?_, ?_⟩ <;> (intros; exact LeO.none _)
 | k + 1 => by
  obtain ⟨ih0, ih1⟩ := jigsawref06_Make.mono_l k
  have m0 := @jigsawref06_has.mono
  have m1 := @jigsawref06_places.mono
  refine ⟨?_, ?_⟩ <;> intros
  all_goals first | unfold jigsawref06_Make.j0 | unfold jigsawref06_Make.j1
  all_goals exact leo_
theorem jigsawref06_Make.mono : ∀ a b c d e g l k, LeO (jigsawref06_Make.f k a b c d e g l) (jigsawref06_Make.f (k + 1) a b c d e g l) := by
 intro a b c d e g l k
 obtain ⟨ih0, ih1⟩ := jigsawref06_Make.mono_l k
 unfold jigsawref06_Make.f
 have m0 := @jigsawref06_has.mono
 have m1 := @jigsawref06_places.mono
 exact leo_
set_option maxHeartbeats 8000000 in
set_option maxRecDepth 100000 in
theorem jigsawref06_Make.calls (k : Nat) (u : Int) (G : Option Addr) (c0_1 : Nat) (m : List Int) (M : Option Addr) (c0_2 : Nat) (r : List Int) (O : Option Addr) (c0_3 : Nat) (s : List Int) (A : Int) (B : Int) (a1 : Int) (r1 : Int) (r2 : List Int) (r3 : List Int) (r4 : List Int) (r5 : List Int) (r6 : List Int) (r7 : Int) (r8 : List (List Int)) (w : World) (an : Kd.C (Kd.int .u8) w G m.length m) (ao : m.length ≤ c0_1) (aF : Kd.C (Kd.int .u8) w M r.length r) (ap : r.length ≤ c0_2) (aG : Kd.C (Kd.int .i8) w O s.length s) (aq : s.length ≤ c0_3) (h : jigsawref06_Make.f k u m r s A B a1 = some (r1, r2, r3, r4, r5, r6, r7, r8)) :
  Calls Tryz.prog 18 #[.agg #[.int .u8 u, .slice G m.length c0_1, .slice M r.length c0_2, .slice O s.length c0_3, .int .i16 A, .int .u8 B], .int .i64 a1] w fun e w' => ∃ Y Z aa ab ac aM : Value, e = .returned (.agg #[.int .i64 r1, Y, Z, aa, ab, ac, .int .i64 r7, aM]) ∧ Kd.R (Kd.int .i64) 3 w' w.heap.size (fun q => some q ≠ Z.ownBlock ∧ some q ≠ aa.ownBlock ∧ some q ≠ ab.ownBlock ∧ some q ≠ ac.ownBlock) Y r2 ∧ Kd.R (Kd.int .i64) 3 w' w.heap.size (fun q => some q ≠ Y.ownBlock ∧ some q ≠ aa.ownBlock ∧ some q ≠ ab.ownBlock ∧ some q ≠ ac.ownBlock) Z r3 ∧ Kd.R (Kd.int .i64) 3 w' w.heap.size (fun q => some q ≠ Y.ownBlock ∧ some q ≠ Z.ownBlock ∧ some q ≠ ab.ownBlock ∧ some q ≠ ac.ownBlock) aa r4 ∧ Kd.R (Kd.int .i64) 3 w' w.heap.size (fun q => some q ≠ Y.ownBlock ∧ some q ≠ Z.ownBlock ∧ some q ≠ aa.ownBlock ∧ some q ≠ ac.ownBlock) ab r5 ∧ Kd.R (Kd.int .i64) 3 w' w.heap.size (fun q => some q ≠ Y.ownBlock ∧ some q ≠ Z.ownBlock ∧ some q ≠ aa.ownBlock ∧ some q ≠ ab.ownBlock) ac r6 ∧ Kd.S (Kd.slice 3 (Kd.int .i64)) 30 w' w.heap.size (fun q => some q ≠ Y.ownBlock ∧ some q ≠ Z.ownBlock ∧ some q ≠ aa.ownBlock ∧ some q ≠ ab.ownBlock ∧ some q ≠ ac.ownBlock) aM r8 ∧ Below w.heap.size w w' := by
 have hu26 := Tryz.underlying26
 have hu32 := Tryz.underlying32
 have aH := a_ an
 have aI := a_ ao
 clear an ao
 have a3 := a_ ap
 clear aF ap
 have a4 := a_ aq
 clear aG aq
 have HB := a_ (Below.refl w.heap.size w)
 unfold jigsawref06_Make.f at h
 have H := h
 clear h
 replace H := bo_ H
 obtain ⟨p, A3, H⟩ := H
 try dsimp only at H
 obtain ⟨a, E⟩ : ∃ j_ : Int, (wrap64 (1 + (Int.tmod (wrap64 (u)) 23))) = j_ := ⟨_, rfl⟩
 replace H : (if 0 ≤ (a) then (if (a) < (p.length : Int) then (if (m.length : Int) < 1 then (jigsawref06_Make.j0 k a1 (rdOf ByteArray.empty p (a)) 1 u m r s A B a 0) else (jigsawref06_Make.j0 k a1 (rdOf ByteArray.empty p (a)) (m.length : Int) u m r s A B a 0)) else (none)) else (none)) = some (r1, r2, r3, r4, r5, r6, r7, r8) := by first | (rw [E] at H; exact H) | (simp only [E] at H ⊢; exact H)
 (try rw [E] at A3)
 have hji4w : (IntKind.i64.wrap (1 + (Int.tmod (wrap64 (u)) 23))) = a := (i64_w _).trans E
 by_cases c5 : 0 ≤ (a)
 rotate_left
 ·
  rw [ig_ c5] at H
  exact ab_ H
 rw [ip_ c5] at H
 have c5b0 : decide (0 ≤ (a)) = true := dt_ c5
 clear c5
 by_cases c6 : (a) < (p.length : Int)
 rotate_left
 ·
  rw [ig_ c6] at H
  exact ab_ H
 rw [ip_ c6] at H
 have c6b0 : decide ((a) < (p.length : Int)) = true := dt_ c6
 clear c6
 have aD := a_ H
 clear H
 go_enter Tryz.func18, Tryz.ntmps18
 try go_wp2_with (first | ((with_reducible refine gate_dst (N := 2) rfl ?_); refine bxe_ (N := 2) (cs := #[.int .u8 u, .slice G m.length c0_1, .slice M r.length c0_2, .slice O s.length c0_3, .int .i16 A, .int .u8 B]) (t := 26) ?_; intro z hg w8 hbox hb; have b := a_ (hbox); have aJ := a_ (by rw [hg]; exact (bz_ bel_) : w.heap.size ≤ z); have a5 := aJ; replace HB := hq_ hb; clear hb hbox hg) | ((with_reducible refine gate_dst (N := 4) rfl ?_); refine bxe_ (N := 4) (cs := #[.int .i64 0, .slice none 0 0, .slice none 0 0, .slice none 0 0, .slice none 0 0, .slice none 0 0, .int .i64 0, .slice none 0 0]) (t := 32) ?_; intro y hg w9 hbox hb; have c := a_ (hbox); have aK := a_ (by rw [hg]; exact (bz_ bel_) : w.heap.size ≤ y); have a6 := aK; replace HB := hq_ hb; have U := a_ ((by rw [hg]; exact Nat.ne_of_lt (blk_lt (bk_ b.out)) : z ≠ y)); have V := a_ ((by rw [hg]; exact Nat.ne_of_gt (blk_lt (bk_ b.out)) : y ≠ z)); replace b := a_ (bq_ b.out hb); clear hb hbox hg; have a7 := U.out; have a8 := V.out; obtain ⟨_, _, _, _, _, _, _, _, _, _, _, _⟩ := cel6_ b.out) | ((with_reducible refine gate_dst (N := 5) rfl ?_); refine bxe_ (N := 5) (cs := #[.int .i64 0, .slice none 0 0, .slice none 0 0, .slice none 0 0, .slice none 0 0, .slice none 0 0, .int .i64 0, .slice none 0 0]) (t := 32) ?_; intro d hg w12 hbox hb; have g := a_ (hbox); have aL := a_ (by rw [hg]; exact (bz_ bel_) : w.heap.size ≤ d); have a9 := aL; replace HB := hq_ hb; have o := a_ ((by rw [hg]; exact Nat.ne_of_lt (blk_lt (bk_ b.out)) : z ≠ d)); have W := a_ ((by rw [hg]; exact Nat.ne_of_gt (blk_lt (bk_ b.out)) : d ≠ z)); replace b := a_ (bq_ b.out hb); have l := a_ ((by rw [hg]; exact Nat.ne_of_lt (blk_lt (bk_ c.out)) : y ≠ d)); have X := a_ ((by rw [hg]; exact Nat.ne_of_gt (blk_lt (bk_ c.out)) : d ≠ y)); replace c := a_ (bq_ c.out hb); clear hb hbox hg; have ba := W.out; have bb := o.out; have bc := X.out; have bd := l.out; obtain ⟨_, _, _, _, _, _, _, _, _, _, _, _, _, _, _, _⟩ := cel8_ g.out))
 obtain ⟨w16, hq_⟩ : ∃ x, x = ((((((((w12.setCell ⟨d, 0, none⟩ (.int .i64 a)).setCell ⟨d, 1, none⟩ (.slice none 0 0)).setCell ⟨d, 2, none⟩ (.slice none 0 0)).setCell ⟨d, 3, none⟩ (.slice none 0 0)).setCell ⟨d, 4, none⟩ (.slice none 0 0)).setCell ⟨d, 5, none⟩ (.slice none 0 0)).setCell ⟨d, 6, none⟩ (.int .i64 0)).setCell ⟨d, 7, none⟩ (.slice none 0 0)) := ⟨_, rfl⟩
 replace b : Aside0 (w16.heap[z]? = some (.cells #[.int .u8 u, .slice G m.length c0_1, .slice M r.length c0_2, .slice O s.length c0_3, .int .i16 A, .int .u8 B] 26 (0, 0))) := ⟨by subst hq_; refine bk_ ?_; refine blk_far ?_ o.out _; refine bk_ ?_; refine blk_far ?_ o.out _; refine bk_ ?_; refine blk_far ?_ o.out _; refine bk_ ?_; refine blk_far ?_ o.out _; refine bk_ ?_; refine blk_far ?_ o.out _; refine bk_ ?_; refine blk_far ?_ o.out _; refine bk_ ?_; refine blk_far ?_ o.out _; refine bk_ ?_; refine blk_far ?_ o.out _; refine bk_ ?_; exact b.out⟩
 replace c : Aside0 (w16.heap[y]? = some (.cells #[.int .i64 0, .slice none 0 0, .slice none 0 0, .slice none 0 0, .slice none 0 0, .slice none 0 0, .int .i64 0, .slice none 0 0] 32 (0, 0))) := ⟨by subst hq_; refine bk_ ?_; refine blk_far ?_ l.out _; refine bk_ ?_; refine blk_far ?_ l.out _; refine bk_ ?_; refine blk_far ?_ l.out _; refine bk_ ?_; refine blk_far ?_ l.out _; refine bk_ ?_; refine blk_far ?_ l.out _; refine bk_ ?_; refine blk_far ?_ l.out _; refine bk_ ?_; refine blk_far ?_ l.out _; refine bk_ ?_; refine blk_far ?_ l.out _; refine bk_ ?_; exact c.out⟩
 replace g : Aside0 (w16.heap[d]? = some (.cells #[.int .i64 a, .slice none 0 0, .slice none 0 0, .slice none 0 0, .slice none 0 0, .slice none 0 0, .int .i64 0, .slice none 0 0] 32 (0, 0))) := ⟨by subst hq_; refine bk_ ?_; refine bu_ (cs := #[.int .i64 a, .slice none 0 0, .slice none 0 0, .slice none 0 0, .slice none 0 0, .slice none 0 0, .int .i64 0, .slice none 0 0]) ?_ 7 _ rfl; refine bk_ ?_; refine bu_ (cs := #[.int .i64 a, .slice none 0 0, .slice none 0 0, .slice none 0 0, .slice none 0 0, .slice none 0 0, .int .i64 0, .slice none 0 0]) ?_ 6 _ rfl; refine bk_ ?_; refine bu_ (cs := #[.int .i64 a, .slice none 0 0, .slice none 0 0, .slice none 0 0, .slice none 0 0, .slice none 0 0, .int .i64 0, .slice none 0 0]) ?_ 5 _ rfl; refine bk_ ?_; refine bu_ (cs := #[.int .i64 a, .slice none 0 0, .slice none 0 0, .slice none 0 0, .slice none 0 0, .slice none 0 0, .int .i64 0, .slice none 0 0]) ?_ 4 _ rfl; refine bk_ ?_; refine bu_ (cs := #[.int .i64 a, .slice none 0 0, .slice none 0 0, .slice none 0 0, .slice none 0 0, .slice none 0 0, .int .i64 0, .slice none 0 0]) ?_ 3 _ rfl; refine bk_ ?_; refine bu_ (cs := #[.int .i64 a, .slice none 0 0, .slice none 0 0, .slice none 0 0, .slice none 0 0, .slice none 0 0, .int .i64 0, .slice none 0 0]) ?_ 2 _ rfl; refine bk_ ?_; refine bu_ (cs := #[.int .i64 a, .slice none 0 0, .slice none 0 0, .slice none 0 0, .slice none 0 0, .slice none 0 0, .int .i64 0, .slice none 0 0]) ?_ 1 _ rfl; refine bk_ ?_; refine bu_ (cs := #[.int .i64 0, .slice none 0 0, .slice none 0 0, .slice none 0 0, .slice none 0 0, .slice none 0 0, .int .i64 0, .slice none 0 0]) ?_ 0 _ rfl; refine bk_ ?_; exact g.out⟩
 replace HB : Aside0 (Below w.heap.size w w16) := ⟨by subst hq_; exact bel_⟩
 rw [← hq_]
 clear hq_
 replace b := a_ (blk_drew b.out)
 replace c := a_ (blk_drew c.out)
 replace g := a_ (blk_drew g.out)
 replace HB := a_ (below_drew1 HB.out)
 refine start_ (n := 6) (S := fun w' => w'.cell? ⟨d, 0, none⟩ = some (.int .i64 a) ∧ w'.cell? ⟨d, 1, none⟩ = some (.slice none 0 0) ∧ w'.cell? ⟨d, 2, none⟩ = some (.slice none 0 0) ∧ w'.cell? ⟨d, 3, none⟩ = some (.slice none 0 0) ∧ w'.cell? ⟨d, 4, none⟩ = some (.slice none 0 0) ∧ w'.cell? ⟨d, 5, none⟩ = some (.slice none 0 0) ∧ w'.cell? ⟨d, 6, none⟩ = some (.int .i64 0) ∧ w'.cell? ⟨d, 7, none⟩ = some (.slice none 0 0)) (ds := []) #[false, false, false, false, false, false] kr_ rfl rfl (ca8_ g.out) (fun hHeld => ?_)
 generalize w16.drew = w17 at b c g HB hHeld ⊢
 refine pn_ 1 20 kr_ ?_
 refine tn_ 2 21 kr_ hHeld ?_
 refine onn_ 0 19 #[true, true, true, false, false, false] rfl rfl kr_ (by decide) (fun K hK => ?_)
 refine goes_ Tryz.func35 kr_ rfl #[] (by rfl) rfl rfl ar_ ?_
 with_reducible refine (jigsawref06_Shapes.calls p _ A3.out).mono ?_
 rintro e w18 ⟨bl, rfl, ag, hb⟩
 refine ⟨_, rfl, ?_⟩
 have ar := a_ (Kd.R_lower ag (bz_ bel_))
 replace b := a_ (bq_ b.out hb)
 replace c := a_ (bq_ c.out hb)
 replace g := a_ (bq_ g.out hb)
 replace HB := hq_ hb
 clear hb ag
 obtain ⟨bm, bn, aE⟩ := Kd.R_slice ar.out
 (first | subst aE | (injection aE with f1_ f2_ f3_; have f4_ := f1_.symm; have f5_ := f3_.symm; clear f1_ f2_ f3_; subst f4_; subst f5_))
 have p117 : 0 ≤ ((a) : Int) := dq_
 have ad : (a) < (p.length : Int) := dq_
 obtain ⟨be, aP, ae⟩ := Kd.at_string (rr_ ar.out).2.2 (a) p117 ad
 cases aP
 replace p117 := et_ p117
 replace ad := et_ ad
 refine hK.out _ _ (ca8_ g.out) (fun hHeld => ?_)
 clear hK K
 refine nor_ (N := some 19) ?_
 refine pn_ 3 22 kr_ ?_
 refine onn_ 4 23 #[true, true, true, true, true, false] rfl rfl kr_ (by decide) (fun K hK => ?_)
 skip
 refine value_ (w1 := ?_) (v := ?_) (by rfl) rfl ?_ ?_
 rotate_left 2
 ·
  go_simp
  constructor
  · rfl
  rfl
 skip
 refine hK.out _ _ (ca8_ g.out) (fun hHeld => ?_)
 clear hK K
 refine nor_ (N := some 23) ?_
 refine pn_ 5 6 kr_ ?_
 refine done_ kr_ ?_
 obtain ⟨_, _, _, _, _, _, _, _, _, _, _, _⟩ := cel6_ b.out
 go_upto_if 28 with (fail)
 go_cut [7] (fun v7 wc => ∃ (kq : Nat) (P : Int), v7 = .int .i64 P ∧ Aside0 (jigsawref06_Make.j0 kq a1 (rdOf ByteArray.empty p (a)) P u m r s A B a 0 = some (r1, r2, r3, r4, r5, r6, r7, r8)) ∧ Aside0 (kq ≤ k) ∧ Aside0 (wc.heap[z]? = some (.cells #[.int .u8 u, (.slice G m.length c0_1), (.slice M r.length c0_2), (.slice O s.length c0_3), .int .i16 A, .int .u8 B] 26 (0, 0))) ∧ Aside0 (wc.heap[y]? = some (.cells #[.int .i64 0, (.slice none 0 0), (.slice none 0 0), (.slice none 0 0), (.slice none 0 0), (.slice none 0 0), .int .i64 0, (.slice none 0 0)] 32 (0, 0))) ∧ Aside0 (wc.heap[d]? = some (.cells #[.int .i64 a, (.slice none 0 0), (.slice none 0 0), (.slice none 0 0), (.slice none 0 0), (.slice none 0 0), .int .i64 0, (.slice none 0 0)] 32 (0, 0))) ∧ Aside0 (Below w.heap.size w wc))
 case first =>
  have H := aD.out
  clear aD
  by_cases c21 : (m.length : Int) < 1
  ·
   rw [ip_ c21] at H
   have c21b0 : decide ((m.length : Int) < 1) = true := dt_ c21
   have c21b1 : decide (m.length < 1) = true := dt_ (by omega)
   clear c21
   (first | rw [c21b0] | (simp only [i64_w, i32_w]; rw [c21b0]) | skip)
   have H' := a_ H
   clear H
   go_wp2
   go_meet
   exact ⟨_, (1), eq_, H', ⟨by first | omega | exact lr_ _⟩, ⟨bk_ b.out⟩, ⟨bk_ c.out⟩, ⟨bk_ g.out⟩, ⟨bel_⟩⟩
  rw [ig_ c21] at H
  have c21b0 : decide ((m.length : Int) < 1) = false := df_ c21
  have c21b1 : decide (m.length < 1) = false := df_ (by omega)
  clear c21
  (first | rw [c21b0] | (simp only [i64_w, i32_w]; rw [c21b0]) | skip)
  have H' := a_ H
  clear H
  go_wp2
  go_meet
  exact ⟨_, ((m.length : Int)), eq_, H', ⟨by first | omega | exact lr_ _⟩, ⟨bk_ b.out⟩, ⟨bk_ c.out⟩, ⟨bk_ g.out⟩, ⟨bel_⟩⟩
 clear aD
 try clear c1
 try clear p1
 try clear q1
 try clear aV
 try clear c2
 try clear p2
 try clear c3
 try clear c5
 try clear c5b0
 try clear c6
 try clear c6b0
 try clear p6
 try clear c10
 try clear p11
 try clear aN
 try clear aR
 try clear c13
 try clear c14
 try clear c18
 try clear c21
 try clear c21b0
 try clear c21b1
 try clear ae
 try clear p117
 try clear ad
 obtain ⟨kq, P, rfl, HA, aO, b, c, g, HB⟩ := hcut
 cases kq with
 | zero => exact absurd HA.out (by simp [jigsawref06_Make.j0])
 | succ kj6 =>
  have H := HA.out
  clear HA
  simp only [jigsawref06_Make.j0] at H
  have ah := a_ H
  clear H
  go_upto_if 30 with (fail)
  go_cut [7] (fun v7 wc => ∃ (kq : Nat) (Q : Int), v7 = .int .i64 Q ∧ Aside0 (jigsawref06_Make.j1 kq a1 (rdOf ByteArray.empty p (a)) Q u m r s A B a 0 = some (r1, r2, r3, r4, r5, r6, r7, r8)) ∧ Aside0 (kq ≤ kj6) ∧ Aside0 (wc.heap[z]? = some (.cells #[.int .u8 u, (.slice G m.length c0_1), (.slice M r.length c0_2), (.slice O s.length c0_3), .int .i16 A, .int .u8 B] 26 (0, 0))) ∧ Aside0 (wc.heap[y]? = some (.cells #[.int .i64 0, (.slice none 0 0), (.slice none 0 0), (.slice none 0 0), (.slice none 0 0), (.slice none 0 0), .int .i64 0, (.slice none 0 0)] 32 (0, 0))) ∧ Aside0 (wc.heap[d]? = some (.cells #[.int .i64 a, (.slice none 0 0), (.slice none 0 0), (.slice none 0 0), (.slice none 0 0), (.slice none 0 0), .int .i64 0, (.slice none 0 0)] 32 (0, 0))) ∧ Aside0 (Below w.heap.size w wc))
  case first =>
   have H := ah.out
   clear ah
   by_cases c23 : P > 4
   ·
    rw [ip_ c23] at H
    have c23b0 : decide (4 < P) = true := dt_ c23
    clear c23
    (first | rw [c23b0] | (simp only [i64_w, i32_w]; rw [c23b0]) | skip)
    have H' := a_ H
    clear H
    go_wp2
    go_meet
    exact ⟨_, (4), eq_, H', ⟨by have := aO.out; first | omega | exact lr_ _⟩, ⟨bk_ b.out⟩, ⟨bk_ c.out⟩, ⟨bk_ g.out⟩, ⟨bel_⟩⟩
   rw [ig_ c23] at H
   have c23b0 : decide (4 < P) = false := df_ c23
   clear c23
   (first | rw [c23b0] | (simp only [i64_w, i32_w]; rw [c23b0]) | skip)
   have H' := a_ H
   clear H
   go_wp2
   go_meet
   exact ⟨_, (P), eq_, H', ⟨by have := aO.out; first | omega | exact lr_ _⟩, ⟨bk_ b.out⟩, ⟨bk_ c.out⟩, ⟨bk_ g.out⟩, ⟨bel_⟩⟩
  clear ah
  try clear c1
  try clear p1
  try clear q1
  try clear aV
  try clear c2
  try clear p2
  try clear c3
  try clear c5
  try clear c5b0
  try clear c6
  try clear c6b0
  try clear p6
  try clear c10
  try clear p11
  try clear aN
  try clear aR
  try clear c13
  try clear c14
  try clear c18
  try clear c21
  try clear c21b0
  try clear c21b1
  try clear c23
  try clear c23b0
  try clear ae
  try clear p1
  try clear p11
  try clear p117
  try clear p2
  try clear p6
  try clear q1
  try clear aN
  try clear ad
  obtain ⟨kq, Q, rfl, HA, bo, b, c, g, HB⟩ := hcut
  cases kq with
  | zero => exact absurd HA.out (by simp [jigsawref06_Make.j1])
  | succ kj21 =>
   have H := HA.out
   clear HA
   simp only [jigsawref06_Make.j1] at H
   replace H := bo_ H
   obtain ⟨ai, aW, H⟩ := H
   try dsimp only at H
   by_cases c25 : ai > 0
   ·
    rw [ip_ c25] at H
    exact ab_ H
   rw [ig_ c25] at H
   have c25b0 : decide (0 < ai) = false := df_ c25
   clear c25
   replace H := bo_ H
   obtain ⟨F, aX, H⟩ := H
   try dsimp only at H
   replace H := bo_ H
   obtain ⟨aj, aY, H⟩ := H
   try dsimp only at H
   by_cases c28 : aj > 0
   ·
    rw [ip_ c28] at H
    exact ab_ H
   rw [ig_ c28] at H
   have c28b0 : decide (0 < aj) = false := df_ c28
   clear c28
   replace H := bo_ H
   obtain ⟨ak, aZ, H⟩ := H
   try dsimp only at H
   by_cases c30 : ak > 0
   ·
    rw [ip_ c30] at H
    exact ab_ H
   rw [ig_ c30] at H
   have c30b0 : decide (0 < ak) = false := df_ c30
   clear c30
   replace H := bo_ H
   obtain ⟨al, a0, H⟩ := H
   try dsimp only at H
   by_cases c32 : al > 0
   ·
    rw [ip_ c32] at H
    exact ab_ H
   rw [ig_ c32] at H
   have c32b0 : decide (0 < al) = false := df_ c32
   clear c32
   by_cases c33 : a = 11
   ·
    rw [ip_ c33] at H
    exact ab_ H
   rw [ig_ c33] at H
   have c33b0 : (a == 11) = false := be_.mpr c33
   have c33b1 : (a != 11) = true := ni_.mpr c33
   replace H := bo_ H
   obtain ⟨am, a2, H⟩ := H
   try dsimp only at H
   by_cases c35 : am > 0
   ·
    rw [ip_ c35] at H
    exact ab_ H
   rw [ig_ c35] at H
   have c35b0 : decide (0 < am) = false := df_ c35
   clear c35
   by_cases c36 : a = 19
   ·
    rw [ip_ c36] at H
    exact ab_ H
   rw [ig_ c36] at H
   have c36b0 : (a == 19) = false := be_.mpr c36
   have c36b1 : (a != 19) = true := ni_.mpr c36
   by_cases c37 : a = 21
   ·
    rw [ip_ c37] at H
    exact ab_ H
   rw [ig_ c37] at H
   have c37b0 : (a == 21) = false := be_.mpr c37
   have c37b1 : (a != 21) = true := ni_.mpr c37
   by_cases c38 : a = 18
   ·
    rw [ip_ c38] at H
    exact ab_ H
   rw [ig_ c38] at H
   have c38b0 : (a == 18) = false := be_.mpr c38
   have c38b1 : (a != 18) = true := ni_.mpr c38
   simp only [Option.some.injEq, Prod.mk.injEq] at H
   obtain ⟨rfl, rfl, rfl, rfl, rfl, rfl, rfl, rfl⟩ := H
   go_wp2_with (first | ((with_reducible refine gate_callee (f := 36) rfl ?_); refine goesL_ (some 32) rfl rfl Tryz.func36 kr_ rfl #[.string (rdOf ByteArray.empty p (a)), .int .u8 118] rfl (by (try simp only [List.map_toArray, List.map_cons, List.map_nil]); first | done | (simp only [E]; rfl) | rfl | (simp only [List.length_drop, List.length_take]; rfl)) ?_; (with_reducible refine (jigsawref06_has.calls kj21 (rdOf ByteArray.empty p (a)) 118 ai _ aW.out).mono ?_); rintro e w' ⟨rfl, ⟨nd, rfl⟩⟩; refine ⟨_, rfl, ?_⟩; (try (rw [drewN_self wc]; generalize hq_ : World.drewN wc _ = wc; replace b : Aside0 (wc.heap[z]? = some (.cells #[.int .u8 u, .slice G m.length c0_1, .slice M r.length c0_2, .slice O s.length c0_3, .int .i16 A, .int .u8 B] 26 (0, 0))) := ⟨by rw [← hq_]; exact (bk_ b.out)⟩; replace c : Aside0 (wc.heap[y]? = some (.cells #[.int .i64 0, .slice none 0 0, .slice none 0 0, .slice none 0 0, .slice none 0 0, .slice none 0 0, .int .i64 0, .slice none 0 0] 32 (0, 0))) := ⟨by rw [← hq_]; exact (bk_ c.out)⟩; replace g : Aside0 (wc.heap[d]? = some (.cells #[.int .i64 a, .slice none 0 0, .slice none 0 0, .slice none 0 0, .slice none 0 0, .slice none 0 0, .int .i64 0, .slice none 0 0] 32 (0, 0))) := ⟨by rw [← hq_]; exact (bk_ g.out)⟩; replace HB : Aside0 (Below w.heap.size w wc) := ⟨by rw [← hq_]; exact bel_⟩; clear hq_)); (try (obtain ⟨_, _, _, _, _, _, _, _, _, _, _, _⟩ := cel6_ b.out)); (try (obtain ⟨_, _, _, _, _, _, _, _, _, _, _, _, _, _, _, _⟩ := cel8_ c.out)); (try (obtain ⟨_, _, _, _, _, _, _, _, _, _, _, _, _, _, _, _⟩ := cel8_ g.out)); have bf := U.out; have bg := V.out; have bh := o.out; have bi := W.out; obtain ⟨_, _, _, _, _, _, _, _, _, _, _, _⟩ := cel6_ b.out) | ((with_reducible refine gate_callee (f := 37) rfl ?_); refine goesL_ (some 40) rfl rfl Tryz.func37 kr_ rfl #[.slice G m.length c0_1, .int .i64 Q, .int .i64 a1] rfl ar_ ?_; (with_reducible refine (jigsawref06_places.calls kj21 _ _ m Q a1 F _ ?_ ?_ aX.out).mono ?_); exact ca_ ((cb_ aH.out HB.out)); exact aI.out; rintro e w45 ⟨bp, rfl, ag, hb⟩; refine ⟨_, rfl, ?_⟩; have au := a_ (Kd.R_lower ag (bz_ bel_)); replace c := a_ (bq_ c.out hb); replace g := a_ (bq_ g.out hb); replace HB := hq_ hb; clear hb ag; obtain ⟨I, J, aS⟩ := Kd.R_slice au.out; subst aS; have bj := X.out; have bk := l.out; obtain ⟨_, _, _, _, _, _, _, _, _, _, _, _, _, _, _, _⟩ := cel8_ g.out) | ((with_reducible refine gate_callee (f := 36) rfl ?_); refine goesL_ (some 43) rfl rfl Tryz.func36 kr_ rfl #[.string (rdOf ByteArray.empty p (a)), .int .u8 119] rfl (by (try simp only [List.map_toArray, List.map_cons, List.map_nil]); first | done | (simp only [E]; rfl) | rfl | (simp only [List.length_drop, List.length_take]; rfl)) ?_; (with_reducible refine (jigsawref06_has.calls kj21 (rdOf ByteArray.empty p (a)) 119 aj _ aY.out).mono ?_); rintro e w' ⟨rfl, ⟨nd, rfl⟩⟩; refine ⟨_, rfl, ?_⟩) | ((with_reducible refine gate_callee (f := 36) rfl ?_); refine goesL_ (some 51) rfl rfl Tryz.func36 kr_ rfl #[.string (rdOf ByteArray.empty p (a)), .int .u8 87] rfl (by (try simp only [List.map_toArray, List.map_cons, List.map_nil]); first | done | (simp only [E]; rfl) | rfl | (simp only [List.length_drop, List.length_take]; rfl)) ?_; (with_reducible refine (jigsawref06_has.calls kj21 (rdOf ByteArray.empty p (a)) 87 ak _ aZ.out).mono ?_); rintro e w' ⟨rfl, ⟨nd, rfl⟩⟩; refine ⟨_, rfl, ?_⟩) | ((with_reducible refine gate_callee (f := 36) rfl ?_); refine goesL_ (some 60) rfl rfl Tryz.func36 kr_ rfl #[.string (rdOf ByteArray.empty p (a)), .int .u8 99] rfl (by (try simp only [List.map_toArray, List.map_cons, List.map_nil]); first | done | (simp only [E]; rfl) | rfl | (simp only [List.length_drop, List.length_take]; rfl)) ?_; (with_reducible refine (jigsawref06_has.calls kj21 (rdOf ByteArray.empty p (a)) 99 al _ a0.out).mono ?_); rintro e w' ⟨rfl, ⟨nd, rfl⟩⟩; refine ⟨_, rfl, ?_⟩) | ((with_reducible refine gate_callee (f := 36) rfl ?_); refine goesL_ (some 80) rfl rfl Tryz.func36 kr_ rfl #[.string (rdOf ByteArray.empty p (a)), .int .u8 107] rfl (by (try simp only [List.map_toArray, List.map_cons, List.map_nil]); first | done | (simp only [E]; rfl) | rfl | (simp only [List.length_drop, List.length_take]; rfl)) ?_; (with_reducible refine (jigsawref06_has.calls kj21 (rdOf ByteArray.empty p (a)) 107 am _ a2.out).mono ?_); rintro e w' ⟨rfl, ⟨nd, rfl⟩⟩; refine ⟨_, rfl, ?_⟩; obtain ⟨_, _, _, _, _, _, _, _, _, _, _, _, _, _, _, _⟩ := cel8_ c.out))
   refine bodyPost_ret (results_cell_row rfl _ _ y 32 #[.int .i64 a, .slice I F.length J, .slice none 0 0, .slice none 0 0, .slice none 0 0, .slice none 0 0, .int .i64 0, .slice none 0 0] (0, 0) _ rfl (by refine bk_ ?_; refine bu_ (cs := #[.int .i64 a, .slice I F.length J, .slice none 0 0, .slice none 0 0, .slice none 0 0, .slice none 0 0, .int .i64 0, .slice none 0 0]) ?_ 7 _ rfl; refine bk_ ?_; refine bu_ (cs := #[.int .i64 a, .slice I F.length J, .slice none 0 0, .slice none 0 0, .slice none 0 0, .slice none 0 0, .int .i64 0, .slice none 0 0]) ?_ 6 _ rfl; refine bk_ ?_; refine bu_ (cs := #[.int .i64 a, .slice I F.length J, .slice none 0 0, .slice none 0 0, .slice none 0 0, .slice none 0 0, .int .i64 0, .slice none 0 0]) ?_ 5 _ rfl; refine bk_ ?_; refine bu_ (cs := #[.int .i64 a, .slice I F.length J, .slice none 0 0, .slice none 0 0, .slice none 0 0, .slice none 0 0, .int .i64 0, .slice none 0 0]) ?_ 4 _ rfl; refine bk_ ?_; refine bu_ (cs := #[.int .i64 a, .slice I F.length J, .slice none 0 0, .slice none 0 0, .slice none 0 0, .slice none 0 0, .int .i64 0, .slice none 0 0]) ?_ 3 _ rfl; refine bk_ ?_; refine bu_ (cs := #[.int .i64 a, .slice I F.length J, .slice none 0 0, .slice none 0 0, .slice none 0 0, .slice none 0 0, .int .i64 0, .slice none 0 0]) ?_ 2 _ rfl; refine bk_ ?_; refine bu_ (cs := #[.int .i64 a, .slice none 0 0, .slice none 0 0, .slice none 0 0, .slice none 0 0, .slice none 0 0, .int .i64 0, .slice none 0 0]) ?_ 1 _ rfl; refine bk_ ?_; refine bu_ (cs := #[.int .i64 0, .slice none 0 0, .slice none 0 0, .slice none 0 0, .slice none 0 0, .slice none 0 0, .int .i64 0, .slice none 0 0]) ?_ 0 _ rfl; refine bk_ ?_; refine blk_far ?_ l.out _; refine bk_ ?_; exact c.out) Tryz.underlying32 rfl kr_) rfl ?_
   exact ⟨_, _, _, _, _, _, by first | rfl | (simp [errW_none, errW_some] <;> rfl) | (simp only [← E]; first | rfl | (simp [errW_none, errW_some] <;> rfl)) | (simp [*, errW_none, errW_some] <;> rfl), by refine vR_ ?_; exact rm_ (fR_ (fR_ (fR_ (fR_ (fR_ (fR_ (fR_ (fR_ (Kd.R_far (rt_ (rt_ au.out g.out (by decide)) c.out (by decide)) (fun _ hk => hk.1.2) (.slice I F.length J)))))))))) (fun _ hk => ⟨(by simp [Value.ownBlock]), ⟨(by simp [Value.ownBlock]), ⟨(by simp [Value.ownBlock]), (by simp [Value.ownBlock])⟩⟩⟩), by first | exact Kd.R_nil _ _ _ _ _ | exact Kd.N_nil _ _ _ _ _ | exact Kd.V_nil _ _ _ _ _ | exact Kd.Q_nil _ _ _ _ _ | exact Kd.S_nil _ _ _ _ _, by first | exact Kd.R_nil _ _ _ _ _ | exact Kd.N_nil _ _ _ _ _ | exact Kd.V_nil _ _ _ _ _ | exact Kd.Q_nil _ _ _ _ _ | exact Kd.S_nil _ _ _ _ _, by first | exact Kd.R_nil _ _ _ _ _ | exact Kd.N_nil _ _ _ _ _ | exact Kd.V_nil _ _ _ _ _ | exact Kd.Q_nil _ _ _ _ _ | exact Kd.S_nil _ _ _ _ _, by first | exact Kd.R_nil _ _ _ _ _ | exact Kd.N_nil _ _ _ _ _ | exact Kd.V_nil _ _ _ _ _ | exact Kd.Q_nil _ _ _ _ _ | exact Kd.S_nil _ _ _ _ _, by first | exact Kd.S_nil _ _ _ _ _ | exact Kd.N_nil _ _ _ _ _ | exact Kd.V_nil _ _ _ _ _ | exact Kd.Q_nil _ _ _ _ _ | exact Kd.R_nil _ _ _ _ _, bel_⟩

end Go.Proofs.YtckfbfdnlpnllaaGreatDoor.XAllDiffFilters
