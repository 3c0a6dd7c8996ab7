-- by xprint.py, a program of this session, over the kit's print
import Derived.Test.YtmhchlbbfpmdgaaGreatDoorXCFmx0
import Derived.Test.YtmhchlbbfpmdgaaGreatDoorSq
namespace Go.Proofs.YtmhchlbbfpmdgaaGreatDoor.XClauseFilters
open Go.RowKit Go.Proofs.YtmhchlbbfpmdgaaGreatDoor.Sq Go.Proofs.YtmhchlbbfpmdgaaGreatDoorW.PrintWords Go.Proofs.YtmhchlbbfpmdgaaGreatDoorW.PrintLast Go.Proofs.YtmhchlbbfpmdgaaGreatDoorW.PrintMore
attribute [local go_sem] max2_int min2_int max_two min_two max_three min_three max_four min_four   -- for this text's walks alone
set_option linter.unusedVariables false
set_option linter.unusedSimpArgs false

theorem fold_step {op : Int → Int → Int} {l : List Int} {z : Int} {k : Nat} (h : k < l.length) : (l.take (k + 1)).foldl op z = op ((l.take k).foldl op z) (rd l k) := by
 rw [List.take_succ_eq_append_getElem h, List.foldl_append]
 have e : rd l k = l[k] := by unfold rd; rw [Int.toNat_natCast, List.getD_eq_getElem?_getD, List.getElem?_eq_getElem h]; rfl
 rw [e]; rfl
theorem mx_self (a : Int) : mx a a = a := by unfold mx; split <;> rfl
theorem mn_self (a : Int) : mn a a = a := by unfold mn; split <;> rfl

def IdxPost (l0 : List Int) (p : Int → Bool) (w : World) (e : Ending) (w' : World) : Prop := ∃ i : Int, e = .returned (.int .i64 i) ∧ (0 ≤ i ↔ l0.any p = true) ∧ Drawn0 w w'
/-- slices.IndexFunc at numbers and whatever function that captures nothing and makes nothing. -/
theorem indexInt (g : Nat) (lb : Array Value) (p : Int → Bool) (eg : ∀ args w, (callFunc g args).run Tryz.prog w = .ok (.enter g args) w)
  (A0 : Option Addr) (c0 : Nat) (l0 : List Int) (w : World)
  (hp : ∀ v m, Calls Tryz.prog g (#[.int .i64 v] ++ lb) (w.drewN m) fun e w' => e = .returned (.bool (p v)) ∧ Drawn0 (w.drewN m) w') (hr0 : Kd.C (Kd.int .i64) w A0 l0.length l0) :
  Calls Tryz.prog 83 #[.slice A0 l0.length c0, .func (.func g) #[] lb] w (IdxPost l0 p w) := by
 have hbig : l0.length ≤ 9223372036854775807 := hr0.2.1
 have HR := Aside0.mk hr0
 have HP := Aside0.mk hp
 clear hr0 hp
 go_enter Tryz.func83, Tryz.ntmps83
 go_wp2
 go_loopg [8] l0.length (fun gg s8 wr => ∃ kk : Nat, kk ≤ l0.length ∧ l0.length - kk ≤ gg ∧ s8 = .int .i64 kk ∧ Aside0 (Drawn0 w wr) ∧ Aside0 (∀ j, j < kk → p (rd l0 (j : Nat)) = false))
 case atStart => exact ⟨0, Nat.zero_le _, by omega, rfl, ⟨Drawn0.refl _⟩, ⟨fun j hj => absurd hj (Nat.not_lt_zero _)⟩⟩
 case round =>
  obtain ⟨kk, hkk, hg, rfl, BW, AF⟩ := hrel
  obtain ⟨⟨m, rfl⟩⟩ := BW
  by_cases hlt : kk < l0.length
  ·
   have hltz : (kk : Int) < (l0.length : Int) := by omega
   obtain ⟨ad, rfl, hcell⟩ := Kd.at_int HR.out (kk : Int) (by omega) hltz
   rw [Int.toNat_natCast] at hcell
   have hcell' : (w.drewN m).cell? (ad.add kk) = some (.int .i64 (rd l0 kk)) := by rw [World.cell?_drewN]; exact hcell
   clear hcell
   have hcall := HP.out (rd l0 kk) m
   cases hq : p (rd l0 kk) with
   | true =>
    rw [hq] at hcall
    have HQ := Aside0.mk hq
    have HC := Aside0.mk hcall
    clear hq hcall
    go_wp2_with (go_at_fn g; refine HC.out.mono ?_; rintro e w' ⟨rfl, ⟨nd, rfl⟩⟩)
    go_ret
    refine ⟨kk, rfl, ⟨fun _ => ?_, fun _ => by omega⟩, ⟨_, rfl⟩⟩
    rw [List.any_eq_true]
    exact ⟨rd l0 kk, by unfold rd; rw [Int.toNat_natCast, List.getD_eq_getElem?_getD, List.getElem?_eq_getElem hlt]; exact List.getElem_mem hlt, HQ.out⟩
   | false =>
    rw [hq] at hcall
    have HQ := Aside0.mk hq
    have HC := Aside0.mk hcall
    clear hq hcall
    go_wp2_with (go_at_fn g; refine HC.out.mono ?_; rintro e w' ⟨rfl, ⟨nd, rfl⟩⟩)
    go_roundg (l0.length - (kk + 1))
    case measure => omega
    case rel =>
     refine ⟨kk + 1, by omega, by omega, by go_num, ⟨⟨_, rfl⟩⟩, ⟨fun j hj => ?_⟩⟩
     by_cases e : j = kk
     ·
      subst e; exact HQ.out
     ·
      exact AF.out j (by omega)
  ·
   have hltz : ¬ (kk : Int) < (l0.length : Int) := by omega
   have : kk = l0.length := by omega
   subst this
   go_wp2
   go_ret
   refine ⟨-1, rfl, ⟨fun h => absurd h (by decide), fun h => ?_⟩, ⟨_, rfl⟩⟩
   rw [List.any_eq_true] at h
   obtain ⟨x, hx, hp⟩ := h
   obtain ⟨j, hj, rfl⟩ := List.getElem_of_mem hx
   have := AF.out j hj
   unfold rd at this
   rw [Int.toNat_natCast, List.getD_eq_getElem?_getD, List.getElem?_eq_getElem hj] at this
   simp only [Option.getD_some] at this
   rw [this] at hp; cases hp
/-- slices.ContainsFunc at numbers and whatever function that captures nothing and makes nothing. -/
theorem containsInt (g : Nat) (lb : Array Value) (p : Int → Bool) (eg : ∀ args w, (callFunc g args).run Tryz.prog w = .ok (.enter g args) w)
  (A0 : Option Addr) (c0 : Nat) (l0 : List Int) (w : World)
  (hp : ∀ v m, Calls Tryz.prog g (#[.int .i64 v] ++ lb) (w.drewN m) fun e w' => e = .returned (.bool (p v)) ∧ Drawn0 (w.drewN m) w') (hr0 : Kd.C (Kd.int .i64) w A0 l0.length l0) (hc0 : l0.length ≤ c0) :
  Calls Tryz.prog 60 #[.slice A0 l0.length c0, .func (.func g) #[] lb] w fun e w' => e = .returned (.bool (l0.any p)) ∧ Drawn0 w w' := by
 have HC := Aside0.mk (indexInt g lb p eg A0 c0 l0 w hp hr0)
 clear hr0
 go_enter Tryz.func60, Tryz.ntmps60
 go_wp2_with (go_at_call 83; refine HC.out.mono ?_; rintro e w' ⟨i, rfl, hi, hd⟩; have HI := Aside0.mk hi; clear hi)
 go_ret
 refine ⟨?_, hd⟩
 have := HI.out
 by_cases h : 0 ≤ i
 ·
  rw [this.mp h]; simp [h]
 ·
  have : l0.any p = false := by rw [Bool.eq_false_iff]; exact fun e => h (this.mpr e)
  rw [this]; simp [h]

/-! ### jigsawref06_Shapes: function 36 -/
def jigsawref06_Shapes.f  : Option (List ByteArray) := some (([(⟨#[]⟩ : ByteArray), (⟨#[99, 86, 107]⟩ : ByteArray), (⟨#[99, 86, 107]⟩ : ByteArray), (⟨#[99, 86, 107]⟩ : ByteArray), (⟨#[99, 86, 107, 119]⟩ : ByteArray), (⟨#[118, 118, 118]⟩ : ByteArray), (⟨#[118, 118, 118]⟩ : ByteArray), (⟨#[118, 118, 118]⟩ : ByteArray), (⟨#[118, 118]⟩ : ByteArray), (⟨#[118, 118, 118]⟩ : ByteArray), (⟨#[118, 118, 118]⟩ : ByteArray), (⟨#[118, 99, 118]⟩ : ByteArray), (⟨#[86, 87]⟩ : ByteArray), (⟨#[118, 107, 119]⟩ : ByteArray), (⟨#[118, 107, 119]⟩ : ByteArray), (⟨#[118, 107, 119]⟩ : ByteArray), (⟨#[118, 107, 119]⟩ : ByteArray), (⟨#[86]⟩ : ByteArray), (⟨#[86, 114]⟩ : ByteArray), (⟨#[86, 99, 100, 107]⟩ : ByteArray), (⟨#[86]⟩ : ByteArray), (⟨#[86, 99, 100, 101]⟩ : ByteArray), (⟨#[86, 87]⟩ : ByteArray), (⟨#[86, 87]⟩ : ByteArray)] : List ByteArray))
set_option maxHeartbeats 8000000 in
set_option maxRecDepth 100000 in
theorem jigsawref06_Shapes.calls  (r : List ByteArray) (w : World) (h : jigsawref06_Shapes.f  = some r) :
  Calls Tryz.prog 36 #[] w fun e w' => ∃ v0_ : Value, e = .returned (v0_) ∧ Kd.R Kd.string 9 w' w.heap.size (fun _ => True) v0_ r ∧ Below w.heap.size w w' := by
 have HB := Aside0.mk (Below.refl w.heap.size w)
 unfold jigsawref06_Shapes.f at h
 have H := h
 clear h
 obtain ⟨y101, hy101⟩ : ∃ y_ : List ByteArray, y_ = (([(⟨#[]⟩ : ByteArray), (⟨#[99, 86, 107]⟩ : ByteArray), (⟨#[99, 86, 107]⟩ : ByteArray), (⟨#[99, 86, 107]⟩ : ByteArray), (⟨#[99, 86, 107, 119]⟩ : ByteArray), (⟨#[118, 118, 118]⟩ : ByteArray), (⟨#[118, 118, 118]⟩ : ByteArray), (⟨#[118, 118, 118]⟩ : ByteArray), (⟨#[118, 118]⟩ : ByteArray), (⟨#[118, 118, 118]⟩ : ByteArray), (⟨#[118, 118, 118]⟩ : ByteArray), (⟨#[118, 99, 118]⟩ : ByteArray), (⟨#[86, 87]⟩ : ByteArray), (⟨#[118, 107, 119]⟩ : ByteArray), (⟨#[118, 107, 119]⟩ : ByteArray), (⟨#[118, 107, 119]⟩ : ByteArray), (⟨#[118, 107, 119]⟩ : ByteArray), (⟨#[86]⟩ : ByteArray), (⟨#[86, 114]⟩ : ByteArray), (⟨#[86, 99, 100, 107]⟩ : ByteArray), (⟨#[86]⟩ : ByteArray), (⟨#[86, 99, 100, 101]⟩ : ByteArray), (⟨#[86, 87]⟩ : ByteArray), (⟨#[86, 87]⟩ : ByteArray)] : List ByteArray)) := ⟨_, rfl⟩
 replace H : (some y101) = some r := by first | (rw [hy101]; with_reducible exact H) | (have H2_ := (Option.bind_some _ _).symm.trans H; rw [hy101]; with_reducible exact H2_) | (have H2_ := (Option.bind_some _ _).symm.trans H; with_reducible exact H2_) | with_reducible exact H | (rw [hy101]; exact H) | exact H
 have Ny101 := Aside0.mk hy101
 clear hy101
 obtain rfl := Option.some.inj H
 go_enter Tryz.func36, Tryz.ntmps36
 go_wp2_with (first | ((with_reducible refine gate_dst (N := 1) rfl ?_); refine Kd.R_lit Kd.string _ 9 ?hg (N := 1) ?hd (xs := ([(⟨#[]⟩ : ByteArray), (⟨#[99, 86, 107]⟩ : ByteArray), (⟨#[99, 86, 107]⟩ : ByteArray), (⟨#[99, 86, 107]⟩ : ByteArray), (⟨#[99, 86, 107, 119]⟩ : ByteArray), (⟨#[118, 118, 118]⟩ : ByteArray), (⟨#[118, 118, 118]⟩ : ByteArray), (⟨#[118, 118, 118]⟩ : ByteArray), (⟨#[118, 118]⟩ : ByteArray), (⟨#[118, 118, 118]⟩ : ByteArray), (⟨#[118, 118, 118]⟩ : ByteArray), (⟨#[118, 99, 118]⟩ : ByteArray), (⟨#[86, 87]⟩ : ByteArray), (⟨#[118, 107, 119]⟩ : ByteArray), (⟨#[118, 107, 119]⟩ : ByteArray), (⟨#[118, 107, 119]⟩ : ByteArray), (⟨#[118, 107, 119]⟩ : ByteArray), (⟨#[86]⟩ : ByteArray), (⟨#[86, 114]⟩ : ByteArray), (⟨#[86, 99, 100, 107]⟩ : ByteArray), (⟨#[86]⟩ : ByteArray), (⟨#[86, 99, 100, 101]⟩ : ByteArray), (⟨#[86, 87]⟩ : ByteArray), (⟨#[86, 87]⟩ : ByteArray)] : List ByteArray)) (inner := [.string (⟨#[]⟩ : ByteArray), .string (⟨#[99, 86, 107]⟩ : ByteArray), .string (⟨#[99, 86, 107]⟩ : ByteArray), .string (⟨#[99, 86, 107]⟩ : ByteArray), .string (⟨#[99, 86, 107, 119]⟩ : ByteArray), .string (⟨#[118, 118, 118]⟩ : ByteArray), .string (⟨#[118, 118, 118]⟩ : ByteArray), .string (⟨#[118, 118, 118]⟩ : ByteArray), .string (⟨#[118, 118]⟩ : ByteArray), .string (⟨#[118, 118, 118]⟩ : ByteArray), .string (⟨#[118, 118, 118]⟩ : ByteArray), .string (⟨#[118, 99, 118]⟩ : ByteArray), .string (⟨#[86, 87]⟩ : ByteArray), .string (⟨#[118, 107, 119]⟩ : ByteArray), .string (⟨#[118, 107, 119]⟩ : ByteArray), .string (⟨#[118, 107, 119]⟩ : ByteArray), .string (⟨#[118, 107, 119]⟩ : ByteArray), .string (⟨#[86]⟩ : ByteArray), .string (⟨#[86, 114]⟩ : ByteArray), .string (⟨#[86, 99, 100, 107]⟩ : ByteArray), .string (⟨#[86]⟩ : ByteArray), .string (⟨#[86, 99, 100, 101]⟩ : ByteArray), .string (⟨#[86, 87]⟩ : ByteArray), .string (⟨#[86, 87]⟩ : ByteArray)]) (ok := fun _ => True) (okp := fun _ => True) ?hr ?hp (fun _ hk => hk) trivial (Below.refl _ _) (Nat.le_refl _) (by simp) ?_; (case hd => rfl); (case hg => rfl); (case hr => first | (go_simp; done) | (go_simp; rfl)); (case hp => exact (Reps.one (show Kd.M Kd.string _ _ _ (⟨#[]⟩ : ByteArray) [.string (⟨#[]⟩ : ByteArray)] from rfl) (Reps.one (show Kd.M Kd.string _ _ _ (⟨#[99, 86, 107]⟩ : ByteArray) [.string (⟨#[99, 86, 107]⟩ : ByteArray)] from rfl) (Reps.one (show Kd.M Kd.string _ _ _ (⟨#[99, 86, 107]⟩ : ByteArray) [.string (⟨#[99, 86, 107]⟩ : ByteArray)] from rfl) (Reps.one (show Kd.M Kd.string _ _ _ (⟨#[99, 86, 107]⟩ : ByteArray) [.string (⟨#[99, 86, 107]⟩ : ByteArray)] from rfl) (Reps.one (show Kd.M Kd.string _ _ _ (⟨#[99, 86, 107, 119]⟩ : ByteArray) [.string (⟨#[99, 86, 107, 119]⟩ : ByteArray)] from rfl) (Reps.one (show Kd.M Kd.string _ _ _ (⟨#[118, 118, 118]⟩ : ByteArray) [.string (⟨#[118, 118, 118]⟩ : ByteArray)] from rfl) (Reps.one (show Kd.M Kd.string _ _ _ (⟨#[118, 118, 118]⟩ : ByteArray) [.string (⟨#[118, 118, 118]⟩ : ByteArray)] from rfl) (Reps.one (show Kd.M Kd.string _ _ _ (⟨#[118, 118, 118]⟩ : ByteArray) [.string (⟨#[118, 118, 118]⟩ : ByteArray)] from rfl) (Reps.one (show Kd.M Kd.string _ _ _ (⟨#[118, 118]⟩ : ByteArray) [.string (⟨#[118, 118]⟩ : ByteArray)] from rfl) (Reps.one (show Kd.M Kd.string _ _ _ (⟨#[118, 118, 118]⟩ : ByteArray) [.string (⟨#[118, 118, 118]⟩ : ByteArray)] from rfl) (Reps.one (show Kd.M Kd.string _ _ _ (⟨#[118, 118, 118]⟩ : ByteArray) [.string (⟨#[118, 118, 118]⟩ : ByteArray)] from rfl) (Reps.one (show Kd.M Kd.string _ _ _ (⟨#[118, 99, 118]⟩ : ByteArray) [.string (⟨#[118, 99, 118]⟩ : ByteArray)] from rfl) (Reps.one (show Kd.M Kd.string _ _ _ (⟨#[86, 87]⟩ : ByteArray) [.string (⟨#[86, 87]⟩ : ByteArray)] from rfl) (Reps.one (show Kd.M Kd.string _ _ _ (⟨#[118, 107, 119]⟩ : ByteArray) [.string (⟨#[118, 107, 119]⟩ : ByteArray)] from rfl) (Reps.one (show Kd.M Kd.string _ _ _ (⟨#[118, 107, 119]⟩ : ByteArray) [.string (⟨#[118, 107, 119]⟩ : ByteArray)] from rfl) (Reps.one (show Kd.M Kd.string _ _ _ (⟨#[118, 107, 119]⟩ : ByteArray) [.string (⟨#[118, 107, 119]⟩ : ByteArray)] from rfl) (Reps.one (show Kd.M Kd.string _ _ _ (⟨#[118, 107, 119]⟩ : ByteArray) [.string (⟨#[118, 107, 119]⟩ : ByteArray)] from rfl) (Reps.one (show Kd.M Kd.string _ _ _ (⟨#[86]⟩ : ByteArray) [.string (⟨#[86]⟩ : ByteArray)] from rfl) (Reps.one (show Kd.M Kd.string _ _ _ (⟨#[86, 114]⟩ : ByteArray) [.string (⟨#[86, 114]⟩ : ByteArray)] from rfl) (Reps.one (show Kd.M Kd.string _ _ _ (⟨#[86, 99, 100, 107]⟩ : ByteArray) [.string (⟨#[86, 99, 100, 107]⟩ : ByteArray)] from rfl) (Reps.one (show Kd.M Kd.string _ _ _ (⟨#[86]⟩ : ByteArray) [.string (⟨#[86]⟩ : ByteArray)] from rfl) (Reps.one (show Kd.M Kd.string _ _ _ (⟨#[86, 99, 100, 101]⟩ : ByteArray) [.string (⟨#[86, 99, 100, 101]⟩ : ByteArray)] from rfl) (Reps.one (show Kd.M Kd.string _ _ _ (⟨#[86, 87]⟩ : ByteArray) [.string (⟨#[86, 87]⟩ : ByteArray)] from rfl) (Reps.one (show Kd.M Kd.string _ _ _ (⟨#[86, 87]⟩ : ByteArray) [.string (⟨#[86, 87]⟩ : ByteArray)] from rfl) (Reps.none _ _)))))))))))))))))))))))))); intro v102 w1 ho2 hb hg_ hnew_; clear hg_ hnew_; (first | rw [← Ny101.out] at ho2 | (simp only [Int.reduceToNat] at ho2; rw [← Ny101.out] at ho2)); have HO103 := Aside0.mk (Kd.R_lower ho2 (below_size bel_)); replace HB := Aside0.mk (below_step bel_ hb); clear hb ho2))
 go_ret
 exact ⟨_, by first | rfl | (simp [errW_none, errW_some] <;> rfl) | (simp [*, errW_none, errW_some] <;> rfl), by refine vR_ ?_; exact HO103.out, bel_⟩

/-! ### jigsawref06_has: function 37 -/
def jigsawref06_has.l0 : Nat → ByteArray → Int → Int → Int → Option (Int)
 | 0, _, _, _, _ => none
 | k + 1, x0, x1, x5, x6 => if x6 < (x0.size : Int) then (if 0 ≤ x6 then (if (bt x0 x6) = x1 then (jigsawref06_has.l0 k x0 x1 (wrap64 (x5 + 1)) (wrap64 (x6 + 1))) else (jigsawref06_has.l0 k x0 x1 x5 (wrap64 (x6 + 1)))) else (none)) else (some x5)
def jigsawref06_has.f (k : Nat) (a0 : ByteArray) (a1 : Int) : Option (Int) := jigsawref06_has.l0 k a0 a1 0 0
theorem jigsawref06_has.mono_l : ∀ k, (∀ y0 y1 y2 y3, LeO (jigsawref06_has.l0 k y0 y1 y2 y3) (jigsawref06_has.l0 (k + 1) y0 y1 y2 y3))
 | 0 => fun _ _ _ _ r h => by simp [jigsawref06_has.l0] at h
 | k + 1 => by
  have ih0 := jigsawref06_has.mono_l k
  ·
   intro y0 y1 y2 y3
   unfold jigsawref06_has.l0
   exact leo_
theorem jigsawref06_has.mono : ∀ a0 a1 k, LeO (jigsawref06_has.f k a0 a1) (jigsawref06_has.f (k + 1) a0 a1) := by
 intro a0 a1 k
 have ih0 := jigsawref06_has.mono_l k
 unfold jigsawref06_has.f
 exact leo_
set_option maxHeartbeats 8000000 in
set_option maxRecDepth 100000 in
theorem jigsawref06_has.calls (k : Nat) (a0 : ByteArray) (a1 : Int) (r : Int) (w : World) (h : jigsawref06_has.f k a0 a1 = some r) :
  Calls Tryz.prog 37 #[.string a0, .int .u8 a1] w fun e w' => e = .returned (.int .i64 r) ∧ Drawn0 w w' := by
 unfold jigsawref06_has.f at h
 have H := h
 clear h
 have H' := Aside0.mk H
 clear H
 go_enter Tryz.func37, Tryz.ntmps37
 go_wp2
 go_loopg [5, 6] k (fun kq v5 v6 w' => ∃ (x5_1 : Int) (x6_1 : Int), v5 = .int .i64 x5_1 ∧ v6 = .int .i64 x6_1 ∧ Aside0 (jigsawref06_has.l0 kq a0 a1 x5_1 x6_1 = some r) ∧ Aside0 (kq ≤ k) ∧ Drawn0 w w')
 case atStart => exact ⟨(0), (0), eq_, eq_, H', ⟨Nat.le_refl _⟩, by repeat (first | exact Drawn0.refl _ | apply Drawn0.step)⟩
 case round =>
  clear H'
  try clear p2
  obtain ⟨x5_1, x6_1, rfl, rfl, HA, HK1, ⟨m1, rfl⟩⟩ := hrel
  cases gk with
  | zero => exact absurd HA.out (by simp [jigsawref06_has.l0])
  | succ k1 =>
   have H := HA.out
   clear HA
   simp only [jigsawref06_has.l0] at H
   by_cases c3 : x6_1 < (a0.size : Int)
   ·
    rw [if_pos c3] at H
    have c3b0 : decide (x6_1 < (a0.size : Int)) = true := decide_eq_true c3
    clear c3
    by_cases c4 : 0 ≤ x6_1
    ·
     rw [if_pos c4] at H
     have c4b0 : decide (0 ≤ x6_1) = true := decide_eq_true c4
     clear c4
     by_cases c6 : (bt a0 x6_1) = a1
     ·
      rw [if_pos c6] at H
      have c6b0 : ((bt a0 x6_1) == a1) = true := beq_iff_eq.mpr c6
      have c6b1 : ((bt a0 x6_1) != a1) = false := bne_eq_false_iff_eq.mpr c6
      clear c6
      have H' := Aside0.mk H
      clear H
      have p5 : 0 ≤ (x6_1 : Int) := dq_
      have q5 : x6_1 < (a0.size : Int) := dq_
      have hx5 := bt_at a0 x6_1
      replace p5 := eq_true p5
      replace q5 := eq_true q5
      go_wp2
      go_roundg k1
      case measure => have := HK1.out; omega
      case rel => exact ⟨(wrap64 (x5_1 + 1)), (wrap64 (x6_1 + 1)), eq_, eq_, H', ⟨by have := HK1.out; omega⟩, by repeat (first | exact Drawn0.refl _ | apply Drawn0.step)⟩
     ·
      rw [if_neg c6] at H
      have c6b0 : ((bt a0 x6_1) == a1) = false := beq_eq_false_iff_ne.mpr c6
      have c6b1 : ((bt a0 x6_1) != a1) = true := bne_iff_ne.mpr c6
      have H' := Aside0.mk H
      clear H
      have p5 : 0 ≤ (x6_1 : Int) := dq_
      have q5 : x6_1 < (a0.size : Int) := dq_
      have hx5 := bt_at a0 x6_1
      replace p5 := eq_true p5
      replace q5 := eq_true q5
      go_wp2
      go_roundg k1
      case measure => have := HK1.out; omega
      case rel => exact ⟨(x5_1), (wrap64 (x6_1 + 1)), eq_, eq_, H', ⟨by have := HK1.out; omega⟩, by repeat (first | exact Drawn0.refl _ | apply Drawn0.step)⟩
    ·
     rw [if_neg c4] at H
     exact absurd H (by simp)
   ·
    rw [if_neg c3] at H
    have c3b0 : decide (x6_1 < (a0.size : Int)) = false := decide_eq_false c3
    clear c3
    obtain rfl := Option.some.inj H
    go_wp2
    go_ret
    exact ⟨by first | rfl | (simp; done) | (simp [*]; done), by repeat (first | exact Drawn0.refl _ | apply Drawn0.step)⟩

/-! ### jigsawref06_places: function 38 -/
def jigsawref06_places.l0 : Nat → List Int → Int → Int → List Int → Int → Option (List Int)
 | 0, _, _, _, _, _ => none
 | k + 1, x0, x1, x2, x7, x8 => if x8 < x1 then (if x8 < (x0.length : Int) then (if 0 ≤ x8 then (if x2 = 0 then (none) else (if x7.length < 17592186044416 then (jigsawref06_places.l0 k x0 x1 x2 (x7 ++ [Int.tmod (wrap64 (rd x0 x8)) x2]) (wrap64 (x8 + 1))) else (none))) else (none)) else (if x2 = 0 then (none) else (if x7.length < 17592186044416 then (jigsawref06_places.l0 k x0 x1 x2 (x7 ++ [Int.tmod x8 x2]) (wrap64 (x8 + 1))) else (none)))) else (some x7)
def jigsawref06_places.f (k : Nat) (l0 : List Int) (a1 : Int) (a2 : Int) : Option (List Int) := jigsawref06_places.l0 k l0 a1 a2 ([] : List Int) 0
theorem jigsawref06_places.mono_l : ∀ k, (∀ y0 y1 y2 y3 y4, LeO (jigsawref06_places.l0 k y0 y1 y2 y3 y4) (jigsawref06_places.l0 (k + 1) y0 y1 y2 y3 y4))
 | 0 => fun _ _ _ _ _ r h => by simp [jigsawref06_places.l0] at h
 | k + 1 => by
  have ih0 := jigsawref06_places.mono_l k
  ·
   intro y0 y1 y2 y3 y4
   unfold jigsawref06_places.l0
   exact leo_
theorem jigsawref06_places.mono : ∀ a0 a1 a2 k, LeO (jigsawref06_places.f k a0 a1 a2) (jigsawref06_places.f (k + 1) a0 a1 a2) := by
 intro a0 a1 a2 k
 have ih0 := jigsawref06_places.mono_l k
 unfold jigsawref06_places.f
 exact leo_
set_option maxHeartbeats 8000000 in
set_option maxRecDepth 100000 in
theorem jigsawref06_places.calls (k : Nat) (A0 : Option Addr) (c0 : Nat) (l0 : List Int) (a1 : Int) (a2 : Int) (r : List Int) (w : World) (hr0 : Kd.C (Kd.int .u8) w A0 l0.length l0) (hc0 : l0.length ≤ c0) (h : jigsawref06_places.f k l0 a1 a2 = some r) :
  Calls Tryz.prog 38 #[.slice A0 l0.length c0, .int .i64 a1, .int .i64 a2] w fun e w' => ∃ v0_ : Value, e = .returned (v0_) ∧ Kd.R (Kd.int .i64) 3 w' w.heap.size (fun _ => True) v0_ r ∧ Below w.heap.size w w' := by
 have HR0 := Aside0.mk hr0
 have HC0 := Aside0.mk hc0
 clear hr0 hc0
 have HB := Aside0.mk (Below.refl w.heap.size w)
 unfold jigsawref06_places.f at h
 have H := h
 clear h
 have H' := Aside0.mk H
 clear H
 go_enter Tryz.func38, Tryz.ntmps38
 go_wp2
 go_loopg [7, 8] k (fun kq v7 v8 w' => ∃ (x7_1 : List Int) (x8_1 : Int), v8 = .int .i64 x8_1 ∧ Aside0 (jigsawref06_places.l0 kq l0 a1 a2 x7_1 x8_1 = some r) ∧ Aside0 (kq ≤ k) ∧ Aside0 (Kd.R (Kd.int .i64) 3 w' w.heap.size (fun _ => True) v7 x7_1) ∧ Aside0 (Below w.heap.size w w'))
 case atStart => exact ⟨(([] : List Int)), (0), eq_, H', ⟨Nat.le_refl _⟩, ⟨nil_⟩, ⟨bel_⟩⟩
 case round =>
  clear H'
  try clear p2
  try clear c3
  obtain ⟨x7_1, x8_1, rfl, HA, HK1, HO_7, HB⟩ := hrel
  cases gk with
  | zero => exact absurd HA.out (by simp [jigsawref06_places.l0])
  | succ k1 =>
   have H := HA.out
   clear HA
   simp only [jigsawref06_places.l0] at H
   by_cases c4 : x8_1 < a1
   ·
    rw [if_pos c4] at H
    have c4b0 : decide (x8_1 < a1) = true := decide_eq_true c4
    clear c4
    by_cases c5 : x8_1 < (l0.length : Int)
    ·
     rw [if_pos c5] at H
     have c5b0 : decide (x8_1 < (l0.length : Int)) = true := decide_eq_true c5
     clear c5
     by_cases c6 : 0 ≤ x8_1
     ·
      rw [if_pos c6] at H
      have c6b0 : decide (0 ≤ x8_1) = true := decide_eq_true c6
      clear c6
      by_cases c7 : a2 = 0
      ·
       rw [if_pos c7] at H
       exact absurd H (by simp)
      ·
       rw [if_neg c7] at H
       have c7b0 : (a2 == 0) = false := beq_eq_false_iff_ne.mpr c7
       have c7b1 : (a2 != 0) = true := bne_iff_ne.mpr c7
       by_cases c8 : x7_1.length < 17592186044416
       ·
        rw [if_pos c8] at H
        have LMc8 := Aside0.mk c8
        clear c8
        obtain ⟨y105, hy105⟩ : ∃ y_ : List Int, y_ = (x7_1 ++ [Int.tmod (wrap64 (rd l0 x8_1)) a2]) := ⟨_, rfl⟩
        replace H : (jigsawref06_places.l0 k1 l0 a1 a2 y105 (wrap64 (x8_1 + 1))) = some r := by first | (rw [hy105]; with_reducible exact H) | (have H2_ := (Option.bind_some _ _).symm.trans H; rw [hy105]; with_reducible exact H2_) | (have H2_ := (Option.bind_some _ _).symm.trans H; with_reducible exact H2_) | with_reducible exact H | (rw [hy105]; exact H) | exact H
        have Ny105 := Aside0.mk hy105
        clear hy105
        have H' := Aside0.mk H
        clear H
        have p104 : 0 ≤ (x8_1 : Int) := dq_
        have q104 : x8_1 < (l0.length : Int) := dq_
        obtain ⟨ad104, e104, hx104_0⟩ := Kd.at_int HR0.out x8_1 p104 q104
        cases e104
        replace hx104_0 := (HB.out.cell (World.block_lt_of_cell? w _ hx104_0)).trans hx104_0
        replace p104 := eq_true p104
        replace q104 := eq_true q104
        go_wp2_with (first | ((with_reducible refine gate_builtin (b := .append) (xs := #[.tmp 25, .tmp 29]) rfl ?_); at_builtin; refine Kd.R_append (Kd.int .i64) (w0 := w) w.heap.size rfl (.tmp 25) (.tmp 29) 30 3 (.int .i64 0) 8 rfl Tryz.underlying30 info3 rfl (by decide) (by omega) u7 x7_1 (Int.tmod (wrap64 (rd l0 x8_1)) a2) [.int .i64 (Int.tmod (wrap64 (rd l0 x8_1)) a2)] (fun _ => True) (fun _ => False) rfl rfl ?aP (fun _ hk => hk.elim) ?aF ?aO ?aB ?aS ?aL ?_; (case aP => exact rfl); (case aB => exact bel_); (case aF => exact (fun _ _ => trivial)); (case aO => exact (vR_ HO_7.out)); (case aS => exact (below_size bel_)); (case aL => have := LMc8.out; omega); intro v106 w9 ho hb hg hat; rw [← Ny105.out] at ho; replace HB := Aside0.mk (hb); have HO107 := Aside0.mk (ho); clear HO_7; clear ho hb hg hat))
        go_roundg k1
        case measure => have := HK1.out; omega
        case rel => exact ⟨(y105), (wrap64 (x8_1 + 1)), eq_, H', ⟨by have := HK1.out; omega⟩, ⟨by refine vR_ ?_; exact HO107.out⟩, ⟨bel_⟩⟩
       ·
        rw [if_neg c8] at H
        exact absurd H (by simp)
     ·
      rw [if_neg c6] at H
      exact absurd H (by simp)
    ·
     rw [if_neg c5] at H
     have c5b0 : decide (x8_1 < (l0.length : Int)) = false := decide_eq_false c5
     clear c5
     by_cases c10 : a2 = 0
     ·
      rw [if_pos c10] at H
      exact absurd H (by simp)
     ·
      rw [if_neg c10] at H
      have c10b0 : (a2 == 0) = false := beq_eq_false_iff_ne.mpr c10
      have c10b1 : (a2 != 0) = true := bne_iff_ne.mpr c10
      by_cases c11 : x7_1.length < 17592186044416
      ·
       rw [if_pos c11] at H
       have LMc11 := Aside0.mk c11
       clear c11
       obtain ⟨y108, hy108⟩ : ∃ y_ : List Int, y_ = (x7_1 ++ [Int.tmod x8_1 a2]) := ⟨_, rfl⟩
       replace H : (jigsawref06_places.l0 k1 l0 a1 a2 y108 (wrap64 (x8_1 + 1))) = some r := by first | (rw [hy108]; with_reducible exact H) | (have H2_ := (Option.bind_some _ _).symm.trans H; rw [hy108]; with_reducible exact H2_) | (have H2_ := (Option.bind_some _ _).symm.trans H; with_reducible exact H2_) | with_reducible exact H | (rw [hy108]; exact H) | exact H
       have Ny108 := Aside0.mk hy108
       clear hy108
       have H' := Aside0.mk H
       clear H
       go_wp2_with (first | ((with_reducible refine gate_builtin (b := .append) (xs := #[.tmp 25, .tmp 29]) rfl ?_); at_builtin; refine Kd.R_append (Kd.int .i64) (w0 := w) w.heap.size rfl (.tmp 25) (.tmp 29) 30 3 (.int .i64 0) 8 rfl Tryz.underlying30 info3 rfl (by decide) (by omega) u7 x7_1 (Int.tmod x8_1 a2) [.int .i64 (Int.tmod x8_1 a2)] (fun _ => True) (fun _ => False) rfl rfl ?aP (fun _ hk => hk.elim) ?aF ?aO ?aB ?aS ?aL ?_; (case aP => exact rfl); (case aB => exact bel_); (case aF => exact (fun _ _ => trivial)); (case aO => exact (vR_ HO_7.out)); (case aS => exact (below_size bel_)); (case aL => have := LMc11.out; omega); intro v109 w12 ho hb hg hat; rw [← Ny108.out] at ho; replace HB := Aside0.mk (hb); have HO110 := Aside0.mk (ho); clear HO_7; clear ho hb hg hat))
       go_roundg k1
       case measure => have := HK1.out; omega
       case rel => exact ⟨(y108), (wrap64 (x8_1 + 1)), eq_, H', ⟨by have := HK1.out; omega⟩, ⟨by refine vR_ ?_; exact HO110.out⟩, ⟨bel_⟩⟩
      ·
       rw [if_neg c11] at H
       exact absurd H (by simp)
   ·
    rw [if_neg c4] at H
    have c4b0 : decide (x8_1 < a1) = false := decide_eq_false c4
    clear c4
    obtain rfl := Option.some.inj H
    go_wp2
    go_ret
    exact ⟨_, by first | rfl | (simp [errW_none, errW_some] <;> rfl) | (simp [*, errW_none, errW_some] <;> rfl), by refine vR_ ?_; exact HO_7.out, bel_⟩


/-! ### jigsawref06_Make: function 19 -/
mutual
def jigsawref06_Make.j0 : Nat → Int → ByteArray → Int → Int → List Int → List Int → List Int → Int → Int → Int → Int → Option (Int × List Int × List Int × List Int × List Int × List Int × Int × (List (List Int)))
 | 0, _, _, _, _, _, _, _, _, _, _, _ => none
 | k + 1, x1, x6, x7, x112000, x112001, x112002, x112003, x112004, x112005, x114000, x114006 => if x7 > 4 then (jigsawref06_Make.j1 k x1 x6 4 x112000 x112001 x112002 x112003 x112004 x112005 x114000 x114006) else (jigsawref06_Make.j1 k x1 x6 x7 x112000 x112001 x112002 x112003 x112004 x112005 x114000 x114006)
def jigsawref06_Make.j1 : Nat → Int → ByteArray → Int → Int → List Int → List Int → List Int → Int → Int → Int → Int → Option (Int × List Int × List Int × List Int × List Int × List Int × Int × (List (List Int)))
 | 0, _, _, _, _, _, _, _, _, _, _, _ => none
 | k + 1, x1, x6, x7, x112000, x112001, x112002, x112003, x112004, x112005, x114000, x114006 => (jigsawref06_has.f k x6 118).bind fun t118 => (if t118 > 0 then (none) else ((jigsawref06_places.f k x112001 x7 x1).bind fun t119 => ((jigsawref06_has.f k x6 119).bind fun t122 => (if t122 > 0 then (none) else ((jigsawref06_has.f k x6 87).bind fun t123 => (if t123 > 0 then ((jigsawref06_places.f k x112002 x7 x1).bind fun t124 => ((jigsawref06_has.f k x6 99).bind fun t127 => (if t127 > 0 then (none) else (if x114000 = 11 then (none) else ((jigsawref06_has.f k x6 107).bind fun t128 => (if t128 > 0 then (none) else (if x114000 = 19 then (none) else (if x114000 = 21 then (none) else (if x114000 = 18 then (none) else (some (x114000, t119, t124, ([] : List Int), ([] : List Int), ([] : List Int), x114006, ([] : List (List Int))))))))))))) else (none)))))))
end
def jigsawref06_Make.f (k : Nat) (a0_0 : Int) (l0_1 : List Int) (l0_2 : List Int) (l0_3 : List Int) (a0_4 : Int) (a0_5 : Int) (a1 : Int) : Option (Int × List Int × List Int × List Int × List Int × List Int × Int × (List (List Int))) := (jigsawref06_Shapes.f).bind fun t114 => (if 0 ≤ (wrap64 (1 + (Int.tmod (wrap64 (a0_0)) 23))) then (if (wrap64 (1 + (Int.tmod (wrap64 (a0_0)) 23))) < (t114.length : Int) then (if (l0_1.length : Int) < 1 then (jigsawref06_Make.j0 k a1 (rdOf ByteArray.empty t114 (wrap64 (1 + (Int.tmod (wrap64 (a0_0)) 23)))) 1 a0_0 l0_1 l0_2 l0_3 a0_4 a0_5 (wrap64 (1 + (Int.tmod (wrap64 (a0_0)) 23))) 0) else (jigsawref06_Make.j0 k a1 (rdOf ByteArray.empty t114 (wrap64 (1 + (Int.tmod (wrap64 (a0_0)) 23)))) (l0_1.length : Int) a0_0 l0_1 l0_2 l0_3 a0_4 a0_5 (wrap64 (1 + (Int.tmod (wrap64 (a0_0)) 23))) 0)) else (none)) else (none))
theorem jigsawref06_Make.mono_l : ∀ k, (∀ y0 y1 y2 y3 y4 y5 y6 y7 y8 y9 y10, LeO (jigsawref06_Make.j0 k y0 y1 y2 y3 y4 y5 y6 y7 y8 y9 y10) (jigsawref06_Make.j0 (k + 1) y0 y1 y2 y3 y4 y5 y6 y7 y8 y9 y10)) ∧ (∀ y0 y1 y2 y3 y4 y5 y6 y7 y8 y9 y10, LeO (jigsawref06_Make.j1 k y0 y1 y2 y3 y4 y5 y6 y7 y8 y9 y10) (jigsawref06_Make.j1 (k + 1) y0 y1 y2 y3 y4 y5 y6 y7 y8 y9 y10))
 | 0 => ⟨fun _ _ _ _ _ _ _ _ _ _ _ r h => by simp [jigsawref06_Make.j0] at h, fun _ _ _ _ _ _ _ _ _ _ _ r h => by simp [jigsawref06_Make.j1] at h⟩
 | k + 1 => by
  obtain ⟨ih0, ih1⟩ := jigsawref06_Make.mono_l k
  refine ⟨?_, ?_⟩
  ·
   intro y0 y1 y2 y3 y4 y5 y6 y7 y8 y9 y10
   unfold jigsawref06_Make.j0
   have m0 := @jigsawref06_has.mono
   have m1 := @jigsawref06_places.mono
   exact leo_
  ·
   intro y0 y1 y2 y3 y4 y5 y6 y7 y8 y9 y10
   unfold jigsawref06_Make.j1
   have m0 := @jigsawref06_has.mono
   have m1 := @jigsawref06_places.mono
   exact leo_
theorem jigsawref06_Make.mono : ∀ a0 a1 a2 a3 a4 a5 a6 k, LeO (jigsawref06_Make.f k a0 a1 a2 a3 a4 a5 a6) (jigsawref06_Make.f (k + 1) a0 a1 a2 a3 a4 a5 a6) := by
 intro a0 a1 a2 a3 a4 a5 a6 k
 obtain ⟨ih0, ih1⟩ := jigsawref06_Make.mono_l k
 unfold jigsawref06_Make.f
 have m0 := @jigsawref06_has.mono
 have m1 := @jigsawref06_places.mono
 exact leo_
set_option maxHeartbeats 8000000 in
set_option maxRecDepth 100000 in
theorem jigsawref06_Make.calls (k : Nat) (a0_0 : Int) (A0_1 : Option Addr) (c0_1 : Nat) (l0_1 : List Int) (A0_2 : Option Addr) (c0_2 : Nat) (l0_2 : List Int) (A0_3 : Option Addr) (c0_3 : Nat) (l0_3 : List Int) (a0_4 : Int) (a0_5 : Int) (a1 : Int) (r1 : Int) (r2 : List Int) (r3 : List Int) (r4 : List Int) (r5 : List Int) (r6 : List Int) (r7 : Int) (r8 : List (List Int)) (w : World) (hr0_1 : Kd.C (Kd.int .u8) w A0_1 l0_1.length l0_1) (hc0_1 : l0_1.length ≤ c0_1) (hr0_2 : Kd.C (Kd.int .u8) w A0_2 l0_2.length l0_2) (hc0_2 : l0_2.length ≤ c0_2) (hr0_3 : Kd.C (Kd.int .i8) w A0_3 l0_3.length l0_3) (hc0_3 : l0_3.length ≤ c0_3) (h : jigsawref06_Make.f k a0_0 l0_1 l0_2 l0_3 a0_4 a0_5 a1 = some (r1, r2, r3, r4, r5, r6, r7, r8)) :
  Calls Tryz.prog 19 #[.agg #[.int .u8 a0_0, .slice A0_1 l0_1.length c0_1, .slice A0_2 l0_2.length c0_2, .slice A0_3 l0_3.length c0_3, .int .i16 a0_4, .int .u8 a0_5], .int .i64 a1] w fun e w' => ∃ v1_ v2_ v3_ v4_ v5_ v7_ : Value, e = .returned (.agg #[.int .i64 r1, v1_, v2_, v3_, v4_, v5_, .int .i64 r7, v7_]) ∧ Kd.R (Kd.int .i64) 3 w' w.heap.size (fun k_ => some k_ ≠ (v2_ : Value).ownBlock ∧ some k_ ≠ (v3_ : Value).ownBlock ∧ some k_ ≠ (v4_ : Value).ownBlock ∧ some k_ ≠ (v5_ : Value).ownBlock) v1_ r2 ∧ Kd.R (Kd.int .i64) 3 w' w.heap.size (fun k_ => some k_ ≠ (v1_ : Value).ownBlock ∧ some k_ ≠ (v3_ : Value).ownBlock ∧ some k_ ≠ (v4_ : Value).ownBlock ∧ some k_ ≠ (v5_ : Value).ownBlock) v2_ r3 ∧ Kd.R (Kd.int .i64) 3 w' w.heap.size (fun k_ => some k_ ≠ (v1_ : Value).ownBlock ∧ some k_ ≠ (v2_ : Value).ownBlock ∧ some k_ ≠ (v4_ : Value).ownBlock ∧ some k_ ≠ (v5_ : Value).ownBlock) v3_ r4 ∧ Kd.R (Kd.int .i64) 3 w' w.heap.size (fun k_ => some k_ ≠ (v1_ : Value).ownBlock ∧ some k_ ≠ (v2_ : Value).ownBlock ∧ some k_ ≠ (v3_ : Value).ownBlock ∧ some k_ ≠ (v5_ : Value).ownBlock) v4_ r5 ∧ Kd.R (Kd.int .i64) 3 w' w.heap.size (fun k_ => some k_ ≠ (v1_ : Value).ownBlock ∧ some k_ ≠ (v2_ : Value).ownBlock ∧ some k_ ≠ (v3_ : Value).ownBlock ∧ some k_ ≠ (v4_ : Value).ownBlock) v5_ r6 ∧ Kd.S (Kd.slice 3 (Kd.int .i64)) 30 w' w.heap.size (fun k_ => some k_ ≠ (v1_ : Value).ownBlock ∧ some k_ ≠ (v2_ : Value).ownBlock ∧ some k_ ≠ (v3_ : Value).ownBlock ∧ some k_ ≠ (v4_ : Value).ownBlock ∧ some k_ ≠ (v5_ : Value).ownBlock) v7_ r8 ∧ Below w.heap.size w w' := by
 have hu26 := Tryz.underlying26
 have hu32 := Tryz.underlying32
 have HR0_1 := Aside0.mk hr0_1
 have HC0_1 := Aside0.mk hc0_1
 clear hr0_1 hc0_1
 have HR0_2 := Aside0.mk hr0_2
 have HC0_2 := Aside0.mk hc0_2
 clear hr0_2 hc0_2
 have HC0_3 := Aside0.mk hc0_3
 clear hr0_3 hc0_3
 have HB := Aside0.mk (Below.refl w.heap.size w)
 unfold jigsawref06_Make.f at h
 have H := h
 clear h
 replace H := Option.bind_eq_some_iff.mp H
 obtain ⟨t114, A30, H⟩ := H
 try dsimp only at H
 have A3 := Aside0.mk A30
 clear A30
 obtain ⟨ji4, hji4⟩ : ∃ j_ : Int, (wrap64 (1 + (Int.tmod (wrap64 (a0_0)) 23))) = j_ := ⟨_, rfl⟩
 replace H : (if 0 ≤ (ji4) then (if (ji4) < (t114.length : Int) then (if (l0_1.length : Int) < 1 then (jigsawref06_Make.j0 k a1 (rdOf ByteArray.empty t114 (ji4)) 1 a0_0 l0_1 l0_2 l0_3 a0_4 a0_5 ji4 0) else (jigsawref06_Make.j0 k a1 (rdOf ByteArray.empty t114 (ji4)) (l0_1.length : Int) a0_0 l0_1 l0_2 l0_3 a0_4 a0_5 ji4 0)) else (none)) else (none)) = some (r1, r2, r3, r4, r5, r6, r7, r8) := by first | (rw [hji4] at H; exact H) | (simp only [hji4] at H ⊢; exact H)
 (try rw [hji4] at A3)
 have hji4w : (IntKind.i64.wrap (1 + (Int.tmod (wrap64 (a0_0)) 23))) = ji4 := (i64_w _).trans hji4
 by_cases c5 : 0 ≤ (ji4)
 ·
  rw [if_pos c5] at H
  have c5b0 : decide (0 ≤ (ji4)) = true := decide_eq_true c5
  clear c5
  by_cases c6 : (ji4) < (t114.length : Int)
  ·
   rw [if_pos c6] at H
   have c6b0 : decide ((ji4) < (t114.length : Int)) = true := decide_eq_true c6
   clear c6
   have HC7 := Aside0.mk H
   clear H
   go_enter Tryz.func19, Tryz.ntmps19
   try go_wp2_with (first | ((with_reducible refine gate_dst (N := 2) rfl ?_); refine bxe_ (N := 2) (cs := #[.int .u8 a0_0, .slice A0_1 l0_1.length c0_1, .slice A0_2 l0_2.length c0_2, .slice A0_3 l0_3.length c0_3, .int .i16 a0_4, .int .u8 a0_5]) (t := 26) ?_; intro gb111 hg w8 hbox hb; have BK111 := Aside0.mk (hbox); have GW111 := Aside0.mk (by rw [hg]; exact (below_size bel_) : w.heap.size ≤ gb111); have GE111 := GW111; replace HB := Aside0.mk (below_step bel_ hb); clear hb hbox hg) | ((with_reducible refine gate_dst (N := 4) rfl ?_); refine bxe_ (N := 4) (cs := #[.int .i64 0, .slice none 0 0, .slice none 0 0, .slice none 0 0, .slice none 0 0, .slice none 0 0, .int .i64 0, .slice none 0 0]) (t := 32) ?_; intro gb112 hg w9 hbox hb; have BK112 := Aside0.mk (hbox); have GW112 := Aside0.mk (by rw [hg]; exact (below_size bel_) : w.heap.size ≤ gb112); have GE112 := GW112; replace HB := Aside0.mk (below_step bel_ hb); have NB111_112 := Aside0.mk ((by rw [hg]; exact Nat.ne_of_lt (blk_lt (bk_ BK111.out)) : gb111 ≠ gb112)); have NB112_111 := Aside0.mk ((by rw [hg]; exact Nat.ne_of_gt (blk_lt (bk_ BK111.out)) : gb112 ≠ gb111)); replace BK111 := Aside0.mk (blk_below (bk_ BK111.out) hb); clear hb hbox hg; have hnb10 := NB111_112.out; have hnc10 := NB112_111.out; obtain ⟨_, _, _, _, _, _, _, _, _, _, _, _⟩ := cel6_ BK111.out) | ((with_reducible refine gate_dst (N := 5) rfl ?_); refine bxe_ (N := 5) (cs := #[.int .i64 0, .slice none 0 0, .slice none 0 0, .slice none 0 0, .slice none 0 0, .slice none 0 0, .int .i64 0, .slice none 0 0]) (t := 32) ?_; intro gb113 hg w12 hbox hb; have BK113 := Aside0.mk (hbox); have GW113 := Aside0.mk (by rw [hg]; exact (below_size bel_) : w.heap.size ≤ gb113); have GE113 := GW113; replace HB := Aside0.mk (below_step bel_ hb); have NB111_113 := Aside0.mk ((by rw [hg]; exact Nat.ne_of_lt (blk_lt (bk_ BK111.out)) : gb111 ≠ gb113)); have NB113_111 := Aside0.mk ((by rw [hg]; exact Nat.ne_of_gt (blk_lt (bk_ BK111.out)) : gb113 ≠ gb111)); replace BK111 := Aside0.mk (blk_below (bk_ BK111.out) hb); have NB112_113 := Aside0.mk ((by rw [hg]; exact Nat.ne_of_lt (blk_lt (bk_ BK112.out)) : gb112 ≠ gb113)); have NB113_112 := Aside0.mk ((by rw [hg]; exact Nat.ne_of_gt (blk_lt (bk_ BK112.out)) : gb113 ≠ gb112)); replace BK112 := Aside0.mk (blk_below (bk_ BK112.out) hb); clear hb hbox hg; have hnb13 := NB113_111.out; have hnc13 := NB111_113.out; have hnb14 := NB113_112.out; have hnc14 := NB112_113.out; obtain ⟨_, _, _, _, _, _, _, _, _, _, _, _, _, _, _, _⟩ := cel8_ BK113.out))
   obtain ⟨w16, hq_⟩ : ∃ x, x = ((((((((w12.setCell ⟨gb113, 0, none⟩ (.int .i64 ji4)).setCell ⟨gb113, 1, none⟩ (.slice none 0 0)).setCell ⟨gb113, 2, none⟩ (.slice none 0 0)).setCell ⟨gb113, 3, none⟩ (.slice none 0 0)).setCell ⟨gb113, 4, none⟩ (.slice none 0 0)).setCell ⟨gb113, 5, none⟩ (.slice none 0 0)).setCell ⟨gb113, 6, none⟩ (.int .i64 0)).setCell ⟨gb113, 7, none⟩ (.slice none 0 0)) := ⟨_, rfl⟩
   replace BK111 : Aside0 (w16.heap[gb111]? = some (.cells #[.int .u8 a0_0, .slice A0_1 l0_1.length c0_1, .slice A0_2 l0_2.length c0_2, .slice A0_3 l0_3.length c0_3, .int .i16 a0_4, .int .u8 a0_5] 26 (0, 0))) := ⟨by subst hq_; refine bk_ ?_; refine blk_far ?_ NB111_113.out _; refine bk_ ?_; refine blk_far ?_ NB111_113.out _; refine bk_ ?_; refine blk_far ?_ NB111_113.out _; refine bk_ ?_; refine blk_far ?_ NB111_113.out _; refine bk_ ?_; refine blk_far ?_ NB111_113.out _; refine bk_ ?_; refine blk_far ?_ NB111_113.out _; refine bk_ ?_; refine blk_far ?_ NB111_113.out _; refine bk_ ?_; refine blk_far ?_ NB111_113.out _; refine bk_ ?_; exact BK111.out⟩
   replace BK112 : Aside0 (w16.heap[gb112]? = some (.cells #[.int .i64 0, .slice none 0 0, .slice none 0 0, .slice none 0 0, .slice none 0 0, .slice none 0 0, .int .i64 0, .slice none 0 0] 32 (0, 0))) := ⟨by subst hq_; refine bk_ ?_; refine blk_far ?_ NB112_113.out _; refine bk_ ?_; refine blk_far ?_ NB112_113.out _; refine bk_ ?_; refine blk_far ?_ NB112_113.out _; refine bk_ ?_; refine blk_far ?_ NB112_113.out _; refine bk_ ?_; refine blk_far ?_ NB112_113.out _; refine bk_ ?_; refine blk_far ?_ NB112_113.out _; refine bk_ ?_; refine blk_far ?_ NB112_113.out _; refine bk_ ?_; refine blk_far ?_ NB112_113.out _; refine bk_ ?_; exact BK112.out⟩
   replace BK113 : Aside0 (w16.heap[gb113]? = some (.cells #[.int .i64 ji4, .slice none 0 0, .slice none 0 0, .slice none 0 0, .slice none 0 0, .slice none 0 0, .int .i64 0, .slice none 0 0] 32 (0, 0))) := ⟨by subst hq_; refine bk_ ?_; refine blk_put (cs := #[.int .i64 ji4, .slice none 0 0, .slice none 0 0, .slice none 0 0, .slice none 0 0, .slice none 0 0, .int .i64 0, .slice none 0 0]) ?_ 7 _ rfl; refine bk_ ?_; refine blk_put (cs := #[.int .i64 ji4, .slice none 0 0, .slice none 0 0, .slice none 0 0, .slice none 0 0, .slice none 0 0, .int .i64 0, .slice none 0 0]) ?_ 6 _ rfl; refine bk_ ?_; refine blk_put (cs := #[.int .i64 ji4, .slice none 0 0, .slice none 0 0, .slice none 0 0, .slice none 0 0, .slice none 0 0, .int .i64 0, .slice none 0 0]) ?_ 5 _ rfl; refine bk_ ?_; refine blk_put (cs := #[.int .i64 ji4, .slice none 0 0, .slice none 0 0, .slice none 0 0, .slice none 0 0, .slice none 0 0, .int .i64 0, .slice none 0 0]) ?_ 4 _ rfl; refine bk_ ?_; refine blk_put (cs := #[.int .i64 ji4, .slice none 0 0, .slice none 0 0, .slice none 0 0, .slice none 0 0, .slice none 0 0, .int .i64 0, .slice none 0 0]) ?_ 3 _ rfl; refine bk_ ?_; refine blk_put (cs := #[.int .i64 ji4, .slice none 0 0, .slice none 0 0, .slice none 0 0, .slice none 0 0, .slice none 0 0, .int .i64 0, .slice none 0 0]) ?_ 2 _ rfl; refine bk_ ?_; refine blk_put (cs := #[.int .i64 ji4, .slice none 0 0, .slice none 0 0, .slice none 0 0, .slice none 0 0, .slice none 0 0, .int .i64 0, .slice none 0 0]) ?_ 1 _ rfl; refine bk_ ?_; refine blk_put (cs := #[.int .i64 0, .slice none 0 0, .slice none 0 0, .slice none 0 0, .slice none 0 0, .slice none 0 0, .int .i64 0, .slice none 0 0]) ?_ 0 _ rfl; refine bk_ ?_; exact BK113.out⟩
   replace HB : Aside0 (Below w.heap.size w w16) := ⟨by subst hq_; exact bel_⟩
   rw [← hq_]
   clear hq_
   replace BK111 := Aside0.mk (blk_drew BK111.out)
   replace BK112 := Aside0.mk (blk_drew BK112.out)
   replace BK113 := Aside0.mk (blk_drew BK113.out)
   replace HB := Aside0.mk (below_drew1 HB.out)
   refine start_ (n := 6) (S := fun w' => w'.cell? ⟨gb113, 0, none⟩ = some (.int .i64 ji4) ∧ w'.cell? ⟨gb113, 1, none⟩ = some (.slice none 0 0) ∧ w'.cell? ⟨gb113, 2, none⟩ = some (.slice none 0 0) ∧ w'.cell? ⟨gb113, 3, none⟩ = some (.slice none 0 0) ∧ w'.cell? ⟨gb113, 4, none⟩ = some (.slice none 0 0) ∧ w'.cell? ⟨gb113, 5, none⟩ = some (.slice none 0 0) ∧ w'.cell? ⟨gb113, 6, none⟩ = some (.int .i64 0) ∧ w'.cell? ⟨gb113, 7, none⟩ = some (.slice none 0 0)) (ds := []) #[false, false, false, false, false, false] (by kernel_rfl) rfl rfl (ca8_ BK113.out) (fun hHeld => ?_)
   generalize w16.drew = w17 at BK111 BK112 BK113 HB hHeld ⊢
   refine pu_ (i := 1) (N := some 20) (by kernel_rfl) ?_
   refine tak_ (i := 2) (N := some 21) (by kernel_rfl) hHeld ?_
   refine one_ (i := 0) (N := some 19) #[true, true, true, false, false, false] rfl rfl (by kernel_rfl) (by decide) (fun K hK => ?_)
   refine goes_ Tryz.func36 (by kernel_rfl) rfl #[] (by rfl) rfl rfl ar_ ?_
   with_reducible refine (jigsawref06_Shapes.calls t114 _ A3.out).mono ?_
   rintro e w18 ⟨v115, rfl, ho0, hb⟩
   refine ⟨_, rfl, ?_⟩
   have HO116 := Aside0.mk (Kd.R_lower ho0 (below_size bel_))
   replace BK111 := Aside0.mk (blk_below (bk_ BK111.out) hb)
   replace BK112 := Aside0.mk (blk_below (bk_ BK112.out) hb)
   replace BK113 := Aside0.mk (blk_below (bk_ BK113.out) hb)
   replace HB := Aside0.mk (below_step bel_ hb)
   clear hb ho0
   obtain ⟨Ao19, co19, eo19⟩ := Kd.R_slice HO116.out
   (first | subst eo19 | (injection eo19 with f1_ f2_ f3_; have f4_ := f1_.symm; have f5_ := f3_.symm; clear f1_ f2_ f3_; subst f4_; subst f5_))
   have p117 : 0 ≤ ((ji4) : Int) := dq_
   have q117 : (ji4) < (t114.length : Int) := dq_
   obtain ⟨ad117, e117, hx117_0⟩ := Kd.at_string (Kd.R_reads' HO116.out).2.2 (ji4) p117 q117
   cases e117
   replace p117 := eq_true p117
   replace q117 := eq_true q117
   refine hK.out _ _ (ca8_ BK113.out) (fun hHeld => ?_)
   clear hK K
   refine nor_ (N := some 19) ?_
   refine pu_ (i := 3) (N := some 22) (by kernel_rfl) ?_
   refine one_ (i := 4) (N := some 23) #[true, true, true, true, true, false] rfl rfl (by kernel_rfl) (by decide) (fun K hK => ?_)
   skip
   refine value_ (w1 := ?_) (v := ?_) (by rfl) rfl ?_ ?_
   rotate_left 2
   ·
    go_simp
    constructor
    ·
     rfl
    ·
     rfl
   skip
   refine hK.out _ _ (ca8_ BK113.out) (fun hHeld => ?_)
   clear hK K
   refine nor_ (N := some 23) ?_
   refine pu_ (i := 5) (N := some 6) (by kernel_rfl) ?_
   refine done_ (by kernel_rfl) ?_
   obtain ⟨_, _, _, _, _, _, _, _, _, _, _, _⟩ := cel6_ BK111.out
   go_upto_if 28 with (fail)
   go_cut [7] (fun v7 wc => ∃ (kq : Nat) (x7_6 : Int), v7 = .int .i64 x7_6 ∧ Aside0 (jigsawref06_Make.j0 kq a1 (rdOf ByteArray.empty t114 (ji4)) x7_6 a0_0 l0_1 l0_2 l0_3 a0_4 a0_5 ji4 0 = some (r1, r2, r3, r4, r5, r6, r7, r8)) ∧ Aside0 (kq ≤ k) ∧ Aside0 (wc.heap[gb111]? = some (.cells #[.int .u8 a0_0, (.slice A0_1 l0_1.length c0_1), (.slice A0_2 l0_2.length c0_2), (.slice A0_3 l0_3.length c0_3), .int .i16 a0_4, .int .u8 a0_5] 26 (0, 0))) ∧ Aside0 (wc.heap[gb112]? = some (.cells #[.int .i64 0, (.slice none 0 0), (.slice none 0 0), (.slice none 0 0), (.slice none 0 0), (.slice none 0 0), .int .i64 0, (.slice none 0 0)] 32 (0, 0))) ∧ Aside0 (wc.heap[gb113]? = some (.cells #[.int .i64 ji4, (.slice none 0 0), (.slice none 0 0), (.slice none 0 0), (.slice none 0 0), (.slice none 0 0), .int .i64 0, (.slice none 0 0)] 32 (0, 0))) ∧ Aside0 (Below w.heap.size w wc))
   case first =>
    have H := HC7.out
    clear HC7
    by_cases c21 : (l0_1.length : Int) < 1
    ·
     rw [if_pos c21] at H
     have c21b0 : decide ((l0_1.length : Int) < 1) = true := decide_eq_true c21
     have c21b1 : decide (l0_1.length < 1) = true := decide_eq_true (by omega)
     clear c21
     (first | rw [c21b0] | (simp only [i64_w, i32_w]; rw [c21b0]) | skip)
     have H' := Aside0.mk H
     clear H
     go_wp2
     go_meet
     case rel => exact ⟨_, (1), eq_, H', ⟨by first | omega | exact Nat.le_refl _⟩, ⟨by refine bk_ ?_; exact BK111.out⟩, ⟨by refine bk_ ?_; exact BK112.out⟩, ⟨by refine bk_ ?_; exact BK113.out⟩, ⟨bel_⟩⟩
    ·
     rw [if_neg c21] at H
     have c21b0 : decide ((l0_1.length : Int) < 1) = false := decide_eq_false c21
     have c21b1 : decide (l0_1.length < 1) = false := decide_eq_false (by omega)
     clear c21
     (first | rw [c21b0] | (simp only [i64_w, i32_w]; rw [c21b0]) | skip)
     have H' := Aside0.mk H
     clear H
     go_wp2
     go_meet
     case rel => exact ⟨_, ((l0_1.length : Int)), eq_, H', ⟨by first | omega | exact Nat.le_refl _⟩, ⟨by refine bk_ ?_; exact BK111.out⟩, ⟨by refine bk_ ?_; exact BK112.out⟩, ⟨by refine bk_ ?_; exact BK113.out⟩, ⟨bel_⟩⟩
   case rest =>
    clear HC7
    try clear c1
    try clear p1
    try clear q1
    try clear hx1
    try clear c2
    try clear p2
    try clear c3
    try clear c5
    try clear c5b0
    try clear c6
    try clear c6b0
    try clear p6
    try clear c10
    try clear p11
    try clear q11
    try clear hx11
    try clear c13
    try clear c14
    try clear c19
    try clear c21
    try clear c21b0
    try clear c21b1
    try clear hx117_0
    try clear p117
    try clear q117
    obtain ⟨kq, x7_6, rfl, HA, HJ6, BK111, BK112, BK113, HB⟩ := hcut
    cases kq with
    | zero => exact absurd HA.out (by simp [jigsawref06_Make.j0])
    | succ kj6 =>
     have H := HA.out
     clear HA
     simp only [jigsawref06_Make.j0] at H
     have HC22 := Aside0.mk H
     clear H
     go_upto_if 30 with (fail)
     go_cut [7] (fun v7 wc => ∃ (kq : Nat) (x7_21 : Int), v7 = .int .i64 x7_21 ∧ Aside0 (jigsawref06_Make.j1 kq a1 (rdOf ByteArray.empty t114 (ji4)) x7_21 a0_0 l0_1 l0_2 l0_3 a0_4 a0_5 ji4 0 = some (r1, r2, r3, r4, r5, r6, r7, r8)) ∧ Aside0 (kq ≤ kj6) ∧ Aside0 (wc.heap[gb111]? = some (.cells #[.int .u8 a0_0, (.slice A0_1 l0_1.length c0_1), (.slice A0_2 l0_2.length c0_2), (.slice A0_3 l0_3.length c0_3), .int .i16 a0_4, .int .u8 a0_5] 26 (0, 0))) ∧ Aside0 (wc.heap[gb112]? = some (.cells #[.int .i64 0, (.slice none 0 0), (.slice none 0 0), (.slice none 0 0), (.slice none 0 0), (.slice none 0 0), .int .i64 0, (.slice none 0 0)] 32 (0, 0))) ∧ Aside0 (wc.heap[gb113]? = some (.cells #[.int .i64 ji4, (.slice none 0 0), (.slice none 0 0), (.slice none 0 0), (.slice none 0 0), (.slice none 0 0), .int .i64 0, (.slice none 0 0)] 32 (0, 0))) ∧ Aside0 (Below w.heap.size w wc))
     case first =>
      have H := HC22.out
      clear HC22
      by_cases c23 : x7_6 > 4
      ·
       rw [if_pos c23] at H
       have c23b0 : decide (4 < x7_6) = true := decide_eq_true c23
       clear c23
       (first | rw [c23b0] | (simp only [i64_w, i32_w]; rw [c23b0]) | skip)
       have H' := Aside0.mk H
       clear H
       go_wp2
       go_meet
       case rel => exact ⟨_, (4), eq_, H', ⟨by have := HJ6.out; first | omega | exact Nat.le_refl _⟩, ⟨by refine bk_ ?_; exact BK111.out⟩, ⟨by refine bk_ ?_; exact BK112.out⟩, ⟨by refine bk_ ?_; exact BK113.out⟩, ⟨bel_⟩⟩
      ·
       rw [if_neg c23] at H
       have c23b0 : decide (4 < x7_6) = false := decide_eq_false c23
       clear c23
       (first | rw [c23b0] | (simp only [i64_w, i32_w]; rw [c23b0]) | skip)
       have H' := Aside0.mk H
       clear H
       go_wp2
       go_meet
       case rel => exact ⟨_, (x7_6), eq_, H', ⟨by have := HJ6.out; first | omega | exact Nat.le_refl _⟩, ⟨by refine bk_ ?_; exact BK111.out⟩, ⟨by refine bk_ ?_; exact BK112.out⟩, ⟨by refine bk_ ?_; exact BK113.out⟩, ⟨bel_⟩⟩
     case rest =>
      clear HC22
      try clear c1
      try clear p1
      try clear q1
      try clear hx1
      try clear c2
      try clear p2
      try clear c3
      try clear c5
      try clear c5b0
      try clear c6
      try clear c6b0
      try clear p6
      try clear c10
      try clear p11
      try clear q11
      try clear hx11
      try clear c13
      try clear c14
      try clear c19
      try clear c21
      try clear c21b0
      try clear c21b1
      try clear c23
      try clear c23b0
      try clear hx117_0
      try clear p1
      try clear p11
      try clear p117
      try clear p2
      try clear p6
      try clear q1
      try clear q11
      try clear q117
      obtain ⟨kq, x7_21, rfl, HA, HJ21, BK111, BK112, BK113, HB⟩ := hcut
      cases kq with
      | zero => exact absurd HA.out (by simp [jigsawref06_Make.j1])
      | succ kj21 =>
       have H := HA.out
       clear HA
       simp only [jigsawref06_Make.j1] at H
       replace H := Option.bind_eq_some_iff.mp H
       obtain ⟨t118, A240, H⟩ := H
       try dsimp only at H
       have A24 := Aside0.mk A240
       clear A240
       by_cases c25 : t118 > 0
       ·
        rw [if_pos c25] at H
        exact absurd H (by simp)
       ·
        rw [if_neg c25] at H
        have c25b0 : decide (0 < t118) = false := decide_eq_false c25
        clear c25
        replace H := Option.bind_eq_some_iff.mp H
        obtain ⟨t119, A260, H⟩ := H
        try dsimp only at H
        have A26 := Aside0.mk A260
        clear A260
        replace H := Option.bind_eq_some_iff.mp H
        obtain ⟨t122, A270, H⟩ := H
        try dsimp only at H
        have A27 := Aside0.mk A270
        clear A270
        by_cases c28 : t122 > 0
        ·
         rw [if_pos c28] at H
         exact absurd H (by simp)
        ·
         rw [if_neg c28] at H
         have c28b0 : decide (0 < t122) = false := decide_eq_false c28
         clear c28
         replace H := Option.bind_eq_some_iff.mp H
         obtain ⟨t123, A290, H⟩ := H
         try dsimp only at H
         have A29 := Aside0.mk A290
         clear A290
         by_cases c30 : t123 > 0
         ·
          rw [if_pos c30] at H
          have c30b0 : decide (0 < t123) = true := decide_eq_true c30
          clear c30
          replace H := Option.bind_eq_some_iff.mp H
          obtain ⟨t124, A310, H⟩ := H
          try dsimp only at H
          have A31 := Aside0.mk A310
          clear A310
          replace H := Option.bind_eq_some_iff.mp H
          obtain ⟨t127, A320, H⟩ := H
          try dsimp only at H
          have A32 := Aside0.mk A320
          clear A320
          by_cases c33 : t127 > 0
          ·
           rw [if_pos c33] at H
           exact absurd H (by simp)
          ·
           rw [if_neg c33] at H
           have c33b0 : decide (0 < t127) = false := decide_eq_false c33
           clear c33
           by_cases c34 : ji4 = 11
           ·
            rw [if_pos c34] at H
            exact absurd H (by simp)
           ·
            rw [if_neg c34] at H
            have c34b0 : (ji4 == 11) = false := beq_eq_false_iff_ne.mpr c34
            have c34b1 : (ji4 != 11) = true := bne_iff_ne.mpr c34
            replace H := Option.bind_eq_some_iff.mp H
            obtain ⟨t128, A350, H⟩ := H
            try dsimp only at H
            have A35 := Aside0.mk A350
            clear A350
            by_cases c36 : t128 > 0
            ·
             rw [if_pos c36] at H
             exact absurd H (by simp)
            ·
             rw [if_neg c36] at H
             have c36b0 : decide (0 < t128) = false := decide_eq_false c36
             clear c36
             by_cases c37 : ji4 = 19
             ·
              rw [if_pos c37] at H
              exact absurd H (by simp)
             ·
              rw [if_neg c37] at H
              have c37b0 : (ji4 == 19) = false := beq_eq_false_iff_ne.mpr c37
              have c37b1 : (ji4 != 19) = true := bne_iff_ne.mpr c37
              by_cases c38 : ji4 = 21
              ·
               rw [if_pos c38] at H
               exact absurd H (by simp)
              ·
               rw [if_neg c38] at H
               have c38b0 : (ji4 == 21) = false := beq_eq_false_iff_ne.mpr c38
               have c38b1 : (ji4 != 21) = true := bne_iff_ne.mpr c38
               by_cases c39 : ji4 = 18
               ·
                rw [if_pos c39] at H
                exact absurd H (by simp)
               ·
                rw [if_neg c39] at H
                have c39b0 : (ji4 == 18) = false := beq_eq_false_iff_ne.mpr c39
                have c39b1 : (ji4 != 18) = true := bne_iff_ne.mpr c39
                simp only [Option.some.injEq, Prod.mk.injEq] at H
                obtain ⟨rfl, rfl, rfl, rfl, rfl, rfl, rfl, rfl⟩ := H
                go_wp2_with (first | ((with_reducible refine gate_callee (f := 37) rfl ?_); refine goesL_ (some 32) rfl rfl Tryz.func37 (by kernel_rfl) rfl #[.string (rdOf ByteArray.empty t114 (ji4)), .int .u8 118] rfl (by (try simp only [List.map_toArray, List.map_cons, List.map_nil]); first | done | (simp only [hji4]; rfl) | rfl | (simp only [List.length_drop, List.length_take]; rfl)) ?_; (with_reducible refine (jigsawref06_has.calls kj21 (rdOf ByteArray.empty t114 (ji4)) 118 t118 _ A24.out).mono ?_); rintro e w' ⟨rfl, ⟨nd, rfl⟩⟩; refine ⟨_, rfl, ?_⟩; (try (rw [drewN_self wc]; generalize hq_ : World.drewN wc _ = wc; replace BK111 : Aside0 (wc.heap[gb111]? = some (.cells #[.int .u8 a0_0, .slice A0_1 l0_1.length c0_1, .slice A0_2 l0_2.length c0_2, .slice A0_3 l0_3.length c0_3, .int .i16 a0_4, .int .u8 a0_5] 26 (0, 0))) := ⟨by rw [← hq_]; exact (bk_ BK111.out)⟩; replace BK112 : Aside0 (wc.heap[gb112]? = some (.cells #[.int .i64 0, .slice none 0 0, .slice none 0 0, .slice none 0 0, .slice none 0 0, .slice none 0 0, .int .i64 0, .slice none 0 0] 32 (0, 0))) := ⟨by rw [← hq_]; exact (bk_ BK112.out)⟩; replace BK113 : Aside0 (wc.heap[gb113]? = some (.cells #[.int .i64 ji4, .slice none 0 0, .slice none 0 0, .slice none 0 0, .slice none 0 0, .slice none 0 0, .int .i64 0, .slice none 0 0] 32 (0, 0))) := ⟨by rw [← hq_]; exact (bk_ BK113.out)⟩; replace HB : Aside0 (Below w.heap.size w wc) := ⟨by rw [← hq_]; exact bel_⟩; clear hq_)); (try (obtain ⟨_, _, _, _, _, _, _, _, _, _, _, _⟩ := cel6_ BK111.out)); (try (obtain ⟨_, _, _, _, _, _, _, _, _, _, _, _, _, _, _, _⟩ := cel8_ BK112.out)); (try (obtain ⟨_, _, _, _, _, _, _, _, _, _, _, _, _, _, _, _⟩ := cel8_ BK113.out)); have hnb43 := NB111_112.out; have hnc43 := NB112_111.out; have hnb44 := NB111_113.out; have hnc44 := NB113_111.out; obtain ⟨_, _, _, _, _, _, _, _, _, _, _, _⟩ := cel6_ BK111.out) | ((with_reducible refine gate_callee (f := 38) rfl ?_); refine goesL_ (some 40) rfl rfl Tryz.func38 (by kernel_rfl) rfl #[.slice A0_1 l0_1.length c0_1, .int .i64 x7_21, .int .i64 a1] rfl ar_ ?_; (with_reducible refine (jigsawref06_places.calls kj21 _ _ l0_1 x7_21 a1 t119 _ ?_ ?_ A26.out).mono ?_); exact ca_ ((Kd.C_below HR0_1.out HB.out)); exact HC0_1.out; rintro e w46 ⟨v120, rfl, ho0, hb⟩; refine ⟨_, rfl, ?_⟩; have HO121 := Aside0.mk (Kd.R_lower ho0 (below_size bel_)); replace BK111 := Aside0.mk (blk_below (bk_ BK111.out) hb); replace BK112 := Aside0.mk (blk_below (bk_ BK112.out) hb); replace BK113 := Aside0.mk (blk_below (bk_ BK113.out) hb); replace HB := Aside0.mk (below_step bel_ hb); clear hb ho0; obtain ⟨Ao47, co47, eo47⟩ := Kd.R_slice HO121.out; subst eo47; have hnb48 := NB113_112.out; have hnc48 := NB112_113.out; obtain ⟨_, _, _, _, _, _, _, _, _, _, _, _, _, _, _, _⟩ := cel8_ BK113.out) | ((with_reducible refine gate_callee (f := 37) rfl ?_); refine goesL_ (some 43) rfl rfl Tryz.func37 (by kernel_rfl) rfl #[.string (rdOf ByteArray.empty t114 (ji4)), .int .u8 119] rfl (by (try simp only [List.map_toArray, List.map_cons, List.map_nil]); first | done | (simp only [hji4]; rfl) | rfl | (simp only [List.length_drop, List.length_take]; rfl)) ?_; (with_reducible refine (jigsawref06_has.calls kj21 (rdOf ByteArray.empty t114 (ji4)) 119 t122 _ A27.out).mono ?_); rintro e w' ⟨rfl, ⟨nd, rfl⟩⟩; refine ⟨_, rfl, ?_⟩) | ((with_reducible refine gate_callee (f := 37) rfl ?_); refine goesL_ (some 51) rfl rfl Tryz.func37 (by kernel_rfl) rfl #[.string (rdOf ByteArray.empty t114 (ji4)), .int .u8 87] rfl (by (try simp only [List.map_toArray, List.map_cons, List.map_nil]); first | done | (simp only [hji4]; rfl) | rfl | (simp only [List.length_drop, List.length_take]; rfl)) ?_; (with_reducible refine (jigsawref06_has.calls kj21 (rdOf ByteArray.empty t114 (ji4)) 87 t123 _ A29.out).mono ?_); rintro e w' ⟨rfl, ⟨nd, rfl⟩⟩; refine ⟨_, rfl, ?_⟩; obtain ⟨_, _, _, _, _, _, _, _, _, _, _, _⟩ := cel6_ BK111.out) | ((with_reducible refine gate_callee (f := 38) rfl ?_); refine goesL_ (some 57) rfl rfl Tryz.func38 (by kernel_rfl) rfl #[.slice A0_2 l0_2.length c0_2, .int .i64 x7_21, .int .i64 a1] rfl ar_ ?_; (with_reducible refine (jigsawref06_places.calls kj21 _ _ l0_2 x7_21 a1 t124 _ ?_ ?_ A31.out).mono ?_); exact Kd.C_below HR0_2.out bel_; exact HC0_2.out; rintro e w51 ⟨v125, rfl, ho0, hb⟩; refine ⟨_, rfl, ?_⟩; have HO126 := Aside0.mk (Kd.R_lower (Kd.R_new' ho0 (Kd.R_lt (by refine vR_ ?_; exact (Kd.R_mono (fR_ (Kd.R_types HO121.out BK113.out (by decide))) (fun _ h_ => h_.1))))) (below_size bel_)); replace HO121 := Aside0.mk (Kd.R_elder' (by refine vR_ ?_; exact (Kd.R_mono (fR_ (Kd.R_types HO121.out BK113.out (by decide))) (fun _ h_ => h_.1))) (Kd.R_base ho0) hb); replace BK112 := Aside0.mk (blk_below (g := gb112) (o := .cells #[.int .i64 0, .slice none 0 0, .slice none 0 0, .slice none 0 0, .slice none 0 0, .slice none 0 0, .int .i64 0, .slice none 0 0] 32 (0, 0)) (by refine bk_ ?_; refine blk_far ?_ NB112_113.out _; refine bk_ ?_; exact BK112.out) hb); replace BK113 := Aside0.mk (blk_below (g := gb113) (o := .cells #[.int .i64 ji4, .slice Ao47 t119.length co47, .slice none 0 0, .slice none 0 0, .slice none 0 0, .slice none 0 0, .int .i64 0, .slice none 0 0] 32 (0, 0)) (by refine bk_ ?_; refine blk_put (cs := #[.int .i64 ji4, .slice none 0 0, .slice none 0 0, .slice none 0 0, .slice none 0 0, .slice none 0 0, .int .i64 0, .slice none 0 0]) ?_ 1 _ rfl; refine bk_ ?_; exact BK113.out) hb); replace HB := Aside0.mk (below_step bel_ hb); clear hb ho0; obtain ⟨Ao52, co52, eo52⟩ := Kd.R_slice HO126.out; subst eo52; obtain ⟨_, _, _, _, _, _, _, _, _, _, _, _, _, _, _, _⟩ := cel8_ BK113.out) | ((with_reducible refine gate_callee (f := 37) rfl ?_); refine goesL_ (some 60) rfl rfl Tryz.func37 (by kernel_rfl) rfl #[.string (rdOf ByteArray.empty t114 (ji4)), .int .u8 99] rfl (by (try simp only [List.map_toArray, List.map_cons, List.map_nil]); first | done | (simp only [hji4]; rfl) | rfl | (simp only [List.length_drop, List.length_take]; rfl)) ?_; (with_reducible refine (jigsawref06_has.calls kj21 (rdOf ByteArray.empty t114 (ji4)) 99 t127 _ A32.out).mono ?_); rintro e w' ⟨rfl, ⟨nd, rfl⟩⟩; refine ⟨_, rfl, ?_⟩) | ((with_reducible refine gate_callee (f := 37) rfl ?_); refine goesL_ (some 80) rfl rfl Tryz.func37 (by kernel_rfl) rfl #[.string (rdOf ByteArray.empty t114 (ji4)), .int .u8 107] rfl (by (try simp only [List.map_toArray, List.map_cons, List.map_nil]); first | done | (simp only [hji4]; rfl) | rfl | (simp only [List.length_drop, List.length_take]; rfl)) ?_; (with_reducible refine (jigsawref06_has.calls kj21 (rdOf ByteArray.empty t114 (ji4)) 107 t128 _ A35.out).mono ?_); rintro e w' ⟨rfl, ⟨nd, rfl⟩⟩; refine ⟨_, rfl, ?_⟩; obtain ⟨_, _, _, _, _, _, _, _, _, _, _, _, _, _, _, _⟩ := cel8_ BK112.out))
                refine bodyPost_ret (results_cell_row rfl _ _ gb112 32 #[.int .i64 ji4, .slice Ao47 t119.length co47, .slice Ao52 t124.length co52, .slice none 0 0, .slice none 0 0, .slice none 0 0, .int .i64 0, .slice none 0 0] (0, 0) _ rfl (by refine bk_ ?_; refine blk_put (cs := #[.int .i64 ji4, .slice Ao47 t119.length co47, .slice Ao52 t124.length co52, .slice none 0 0, .slice none 0 0, .slice none 0 0, .int .i64 0, .slice none 0 0]) ?_ 7 _ rfl; refine bk_ ?_; refine blk_put (cs := #[.int .i64 ji4, .slice Ao47 t119.length co47, .slice Ao52 t124.length co52, .slice none 0 0, .slice none 0 0, .slice none 0 0, .int .i64 0, .slice none 0 0]) ?_ 6 _ rfl; refine bk_ ?_; refine blk_put (cs := #[.int .i64 ji4, .slice Ao47 t119.length co47, .slice Ao52 t124.length co52, .slice none 0 0, .slice none 0 0, .slice none 0 0, .int .i64 0, .slice none 0 0]) ?_ 5 _ rfl; refine bk_ ?_; refine blk_put (cs := #[.int .i64 ji4, .slice Ao47 t119.length co47, .slice Ao52 t124.length co52, .slice none 0 0, .slice none 0 0, .slice none 0 0, .int .i64 0, .slice none 0 0]) ?_ 4 _ rfl; refine bk_ ?_; refine blk_put (cs := #[.int .i64 ji4, .slice Ao47 t119.length co47, .slice Ao52 t124.length co52, .slice none 0 0, .slice none 0 0, .slice none 0 0, .int .i64 0, .slice none 0 0]) ?_ 3 _ rfl; refine bk_ ?_; refine blk_put (cs := #[.int .i64 ji4, .slice Ao47 t119.length co47, .slice none 0 0, .slice none 0 0, .slice none 0 0, .slice none 0 0, .int .i64 0, .slice none 0 0]) ?_ 2 _ rfl; refine bk_ ?_; refine blk_put (cs := #[.int .i64 ji4, .slice none 0 0, .slice none 0 0, .slice none 0 0, .slice none 0 0, .slice none 0 0, .int .i64 0, .slice none 0 0]) ?_ 1 _ rfl; refine bk_ ?_; refine blk_put (cs := #[.int .i64 0, .slice none 0 0, .slice none 0 0, .slice none 0 0, .slice none 0 0, .slice none 0 0, .int .i64 0, .slice none 0 0]) ?_ 0 _ rfl; refine bk_ ?_; refine blk_far ?_ NB112_113.out _; refine bk_ ?_; exact BK112.out) Tryz.underlying32 rfl (by kernel_rfl)) rfl ?_
                exact ⟨_, _, _, _, _, _, by first | rfl | (simp [errW_none, errW_some] <;> rfl) | (simp only [← hji4]; first | rfl | (simp [errW_none, errW_some] <;> rfl)) | (simp [*, errW_none, errW_some] <;> rfl), by refine vR_ ?_; exact Kd.R_mono (fR_ (fR_ (fR_ (fR_ (fR_ (fR_ (fR_ (fR_ (Kd.R_far (Kd.R_types (Kd.R_types HO121.out BK113.out (by decide)) BK112.out (by decide)) (fun _ hk => hk.1.2) (.slice Ao52 t124.length co52)))))))))) (fun _ hk => ⟨hk.1.1.2, ⟨(by simp [Value.ownBlock]), ⟨(by simp [Value.ownBlock]), (by simp [Value.ownBlock])⟩⟩⟩), by refine vR_ ?_; exact Kd.R_mono (fR_ (fR_ (fR_ (fR_ (fR_ (fR_ (fR_ (fR_ (Kd.R_far (Kd.R_types (Kd.R_types HO126.out BK113.out (by decide)) BK112.out (by decide)) (fun _ hk => hk.1.2) (.slice Ao52 t124.length co52)))))))))) (fun _ hk => ⟨hk.1.1.2, ⟨(by simp [Value.ownBlock]), ⟨(by simp [Value.ownBlock]), (by simp [Value.ownBlock])⟩⟩⟩), by first | exact Kd.R_nil _ _ _ _ _ | exact Kd.N_nil _ _ _ _ _ | exact Kd.V_nil _ _ _ _ _ | exact Kd.Q_nil _ _ _ _ _ | exact Kd.S_nil _ _ _ _ _, by first | exact Kd.R_nil _ _ _ _ _ | exact Kd.N_nil _ _ _ _ _ | exact Kd.V_nil _ _ _ _ _ | exact Kd.Q_nil _ _ _ _ _ | exact Kd.S_nil _ _ _ _ _, by first | exact Kd.R_nil _ _ _ _ _ | exact Kd.N_nil _ _ _ _ _ | exact Kd.V_nil _ _ _ _ _ | exact Kd.Q_nil _ _ _ _ _ | exact Kd.S_nil _ _ _ _ _, by first | exact Kd.S_nil _ _ _ _ _ | exact Kd.N_nil _ _ _ _ _ | exact Kd.V_nil _ _ _ _ _ | exact Kd.Q_nil _ _ _ _ _ | exact Kd.R_nil _ _ _ _ _, bel_⟩
         ·
          rw [if_neg c30] at H
          exact absurd H (by simp)
  ·
   rw [if_neg c6] at H
   exact absurd H (by simp)
 ·
  rw [if_neg c5] at H
  exact absurd H (by simp)


/-! ### jigsawref02_Has: function 66 -/
def jigsawref02_Has.l0 : Nat → List Int → Int → Int → Option (Bool)
 | 0, _, _, _ => none
 | k + 1, x0, x1, x5 => if x5 < (x0.length : Int) then (if 0 ≤ x5 then (if (rd x0 x5) = x1 then (some true) else (jigsawref02_Has.l0 k x0 x1 (wrap64 (x5 + 1)))) else (none)) else (some false)
def jigsawref02_Has.f (k : Nat) (l0 : List Int) (a1 : Int) : Option (Bool) := jigsawref02_Has.l0 k l0 a1 0
theorem jigsawref02_Has.mono_l : ∀ k, (∀ y0 y1 y2, LeO (jigsawref02_Has.l0 k y0 y1 y2) (jigsawref02_Has.l0 (k + 1) y0 y1 y2))
 | 0 => fun _ _ _ r h => by simp [jigsawref02_Has.l0] at h
 | k + 1 => by
  have ih0 := jigsawref02_Has.mono_l k
  ·
   intro y0 y1 y2
   unfold jigsawref02_Has.l0
   exact leo_
theorem jigsawref02_Has.mono : ∀ a0 a1 k, LeO (jigsawref02_Has.f k a0 a1) (jigsawref02_Has.f (k + 1) a0 a1) := by
 intro a0 a1 k
 have ih0 := jigsawref02_Has.mono_l k
 unfold jigsawref02_Has.f
 exact leo_
set_option maxHeartbeats 8000000 in
set_option maxRecDepth 100000 in
theorem jigsawref02_Has.calls (k : Nat) (A0 : Option Addr) (c0 : Nat) (l0 : List Int) (a1 : Int) (r : Bool) (w : World) (hr0 : Kd.C (Kd.int .i64) w A0 l0.length l0) (hc0 : l0.length ≤ c0) (h : jigsawref02_Has.f k l0 a1 = some r) :
  Calls Tryz.prog 66 #[.slice A0 l0.length c0, .int .i64 a1] w fun e w' => e = .returned (.bool r) ∧ Drawn0 w w' := by
 have HR0 := Aside0.mk hr0
 have HC0 := Aside0.mk hc0
 clear hr0 hc0
 unfold jigsawref02_Has.f at h
 have H := h
 clear h
 have H' := Aside0.mk H
 clear H
 go_enter Tryz.func66, Tryz.ntmps66
 go_wp2
 go_loopg [5] k (fun kq v5 w' => ∃ (x5_1 : Int), v5 = .int .i64 x5_1 ∧ Aside0 (jigsawref02_Has.l0 kq l0 a1 x5_1 = some r) ∧ Aside0 (kq ≤ k) ∧ Drawn0 w w')
 case atStart => exact ⟨(0), eq_, H', ⟨Nat.le_refl _⟩, by repeat (first | exact Drawn0.refl _ | apply Drawn0.step)⟩
 case round =>
  clear H'
  try clear p2
  obtain ⟨x5_1, rfl, HA, HK1, ⟨m1, rfl⟩⟩ := hrel
  cases gk with
  | zero => exact absurd HA.out (by simp [jigsawref02_Has.l0])
  | succ k1 =>
   have H := HA.out
   clear HA
   simp only [jigsawref02_Has.l0] at H
   by_cases c3 : x5_1 < (l0.length : Int)
   ·
    rw [if_pos c3] at H
    have c3b0 : decide (x5_1 < (l0.length : Int)) = true := decide_eq_true c3
    clear c3
    by_cases c4 : 0 ≤ x5_1
    ·
     rw [if_pos c4] at H
     have c4b0 : decide (0 ≤ x5_1) = true := decide_eq_true c4
     clear c4
     by_cases c5 : (rd l0 x5_1) = a1
     ·
      rw [if_pos c5] at H
      have c5b0 : ((rd l0 x5_1) == a1) = true := beq_iff_eq.mpr c5
      have c5b1 : ((rd l0 x5_1) != a1) = false := bne_eq_false_iff_eq.mpr c5
      clear c5
      obtain rfl := Option.some.inj H
      have p129 : 0 ≤ (x5_1 : Int) := dq_
      have q129 : x5_1 < (l0.length : Int) := dq_
      obtain ⟨ad129, e129, hx129_0⟩ := Kd.at_int HR0.out x5_1 p129 q129
      cases e129
      replace p129 := eq_true p129
      replace q129 := eq_true q129
      go_wp2
      go_ret
      exact ⟨by first | rfl | (simp; done) | (simp [*]; done), by repeat (first | exact Drawn0.refl _ | apply Drawn0.step)⟩
     ·
      rw [if_neg c5] at H
      have c5b0 : ((rd l0 x5_1) == a1) = false := beq_eq_false_iff_ne.mpr c5
      have c5b1 : ((rd l0 x5_1) != a1) = true := bne_iff_ne.mpr c5
      have H' := Aside0.mk H
      clear H
      have p129 : 0 ≤ (x5_1 : Int) := dq_
      have q129 : x5_1 < (l0.length : Int) := dq_
      obtain ⟨ad129, e129, hx129_0⟩ := Kd.at_int HR0.out x5_1 p129 q129
      cases e129
      replace p129 := eq_true p129
      replace q129 := eq_true q129
      go_wp2
      go_roundg k1
      case measure => have := HK1.out; omega
      case rel => exact ⟨(wrap64 (x5_1 + 1)), eq_, H', ⟨by have := HK1.out; omega⟩, by repeat (first | exact Drawn0.refl _ | apply Drawn0.step)⟩
    ·
     rw [if_neg c4] at H
     exact absurd H (by simp)
   ·
    rw [if_neg c3] at H
    have c3b0 : decide (x5_1 < (l0.length : Int)) = false := decide_eq_false c3
    clear c3
    obtain rfl := Option.some.inj H
    go_wp2
    go_ret
    exact ⟨by first | rfl | (simp; done) | (simp [*]; done), by repeat (first | exact Drawn0.refl _ | apply Drawn0.step)⟩


/-! ### jigsawref02_Of: function 53 -/
mutual
def jigsawref02_Of.l0 : Nat → List Int → Int → Int → Int → Option (List Int × Int)
 | 0, _, _, _, _ => none
 | k + 1, x0, x4, x5, x6 => if x6 < (x0.length : Int) then (if 0 ≤ x6 then (if (rd x0 x6) < (-1000000) then (none) else (if (rd x0 x6) > 1000000 then (none) else (if (rd x0 x6) < x4 then (if (rd x0 x6) > x5 then (jigsawref02_Of.l0 k x0 (rd x0 x6) (rd x0 x6) (wrap64 (x6 + 1))) else (jigsawref02_Of.l0 k x0 (rd x0 x6) x5 (wrap64 (x6 + 1)))) else (if (rd x0 x6) > x5 then (jigsawref02_Of.l0 k x0 x4 (rd x0 x6) (wrap64 (x6 + 1))) else (jigsawref02_Of.l0 k x0 x4 x5 (wrap64 (x6 + 1))))))) else (none)) else (if (wrap64 (x5 - x4)) ≥ 65536 then (none) else (jigsawref02_Of.l1 k x0 ([] : List Int) 0))
def jigsawref02_Of.l1 : Nat → List Int → List Int → Int → Option (List Int × Int)
 | 0, _, _, _ => none
 | k + 1, x0, x7, x8 => if x8 < (x0.length : Int) then (if 0 ≤ x8 then ((jigsawref02_Has.f k x7 (rd x0 x8)).bind fun t141 => (if t141 = true then (jigsawref02_Of.l1 k x0 x7 (wrap64 (x8 + 1))) else (jigsawref02_Of.l2 k x0 x7 x8 ([] : List Int) false 0))) else (none)) else (some (x7, 0))
def jigsawref02_Of.l2 : Nat → List Int → List Int → Int → List Int → Bool → Int → Option (List Int × Int)
 | 0, _, _, _, _, _, _ => none
 | k + 1, x0, x7, x8, x10, x11, x12 => if x12 < (x7.length : Int) then (if 0 ≤ x12 then (if 0 ≤ x8 then (if x8 < (x0.length : Int) then (if (rd x7 x12) > (rd x0 x8) then (if x11 = true then (if x10.length < 17592186044416 then (jigsawref02_Of.l2 k x0 x7 x8 (x10 ++ [rd x7 x12]) x11 (wrap64 (x12 + 1))) else (none)) else (if x10.length < 17592186044416 then ((some (x10 ++ [rd x0 x8] : List Int)).bind fun y149 => (if y149.length < 17592186044416 then (jigsawref02_Of.l2 k x0 x7 x8 (y149 ++ [rd x7 x12]) true (wrap64 (x12 + 1))) else (none))) else (none))) else (if x10.length < 17592186044416 then (jigsawref02_Of.l2 k x0 x7 x8 (x10 ++ [rd x7 x12]) x11 (wrap64 (x12 + 1))) else (none))) else (none)) else (none)) else (none)) else (if x11 = true then (jigsawref02_Of.l1 k x0 x10 (wrap64 (x8 + 1))) else (if 0 ≤ x8 then (if x8 < (x0.length : Int) then (if x10.length < 17592186044416 then (jigsawref02_Of.l1 k x0 (x10 ++ [rd x0 x8]) (wrap64 (x8 + 1))) else (none)) else (none)) else (none)))
end
def jigsawref02_Of.f (k : Nat) (l0 : List Int) : Option (List Int × Int) := if (l0.length : Int) = 0 then (none) else (if 0 < (l0.length : Int) then (jigsawref02_Of.l0 k l0 (rd l0 0) (rd l0 0) 0) else (none))
theorem jigsawref02_Of.mono_l : ∀ k, (∀ y0 y1 y2 y3, LeO (jigsawref02_Of.l0 k y0 y1 y2 y3) (jigsawref02_Of.l0 (k + 1) y0 y1 y2 y3)) ∧ (∀ y0 y1 y2, LeO (jigsawref02_Of.l1 k y0 y1 y2) (jigsawref02_Of.l1 (k + 1) y0 y1 y2)) ∧ (∀ y0 y1 y2 y3 y4 y5, LeO (jigsawref02_Of.l2 k y0 y1 y2 y3 y4 y5) (jigsawref02_Of.l2 (k + 1) y0 y1 y2 y3 y4 y5))
 | 0 => ⟨fun _ _ _ _ r h => by simp [jigsawref02_Of.l0] at h, fun _ _ _ r h => by simp [jigsawref02_Of.l1] at h, fun _ _ _ _ _ _ r h => by simp [jigsawref02_Of.l2] at h⟩
 | k + 1 => by
  obtain ⟨ih0, ih1, ih2⟩ := jigsawref02_Of.mono_l k
  refine ⟨?_, ?_, ?_⟩
  ·
   intro y0 y1 y2 y3
   unfold jigsawref02_Of.l0
   have m0 := @jigsawref02_Has.mono
   exact leo_
  ·
   intro y0 y1 y2
   unfold jigsawref02_Of.l1
   have m0 := @jigsawref02_Has.mono
   exact leo_
  ·
   intro y0 y1 y2 y3 y4 y5
   unfold jigsawref02_Of.l2
   have m0 := @jigsawref02_Has.mono
   exact leo_
theorem jigsawref02_Of.mono : ∀ a0 k, LeO (jigsawref02_Of.f k a0) (jigsawref02_Of.f (k + 1) a0) := by
 intro a0 k
 obtain ⟨ih0, ih1, ih2⟩ := jigsawref02_Of.mono_l k
 unfold jigsawref02_Of.f
 have m0 := @jigsawref02_Has.mono
 exact leo_
set_option maxHeartbeats 8000000 in
set_option maxRecDepth 100000 in
theorem jigsawref02_Of.calls (k : Nat) (A0 : Option Addr) (c0 : Nat) (l0 : List Int) (r1 : List Int) (r2 : Int) (w : World) (hr0 : Kd.C (Kd.int .i64) w A0 l0.length l0) (hc0 : l0.length ≤ c0) (h : jigsawref02_Of.f k l0 = some (r1, r2)) :
  Calls Tryz.prog 53 #[.slice A0 l0.length c0] w fun e w' => ∃ v0_ : Value, e = .returned (.tuple #[v0_, .int .i64 r2]) ∧ Kd.R (Kd.int .i64) 3 w' w.heap.size (fun _ => True) v0_ r1 ∧ Below w.heap.size w w' := by
 have HR0 := Aside0.mk hr0
 have HC0 := Aside0.mk hc0
 clear hr0 hc0
 have HB := Aside0.mk (Below.refl w.heap.size w)
 unfold jigsawref02_Of.f at h
 have H := h
 clear h
 by_cases c2 : (l0.length : Int) = 0
 ·
  rw [if_pos c2] at H
  exact absurd H (by simp)
 ·
  rw [if_neg c2] at H
  have c2b0 : ((l0.length : Int) == 0) = false := beq_eq_false_iff_ne.mpr c2
  have c2b1 : ((l0.length : Int) != 0) = true := bne_iff_ne.mpr c2
  have c2b2 : ¬ (l0 = []) := fun h_ => c2 (by rw [h_]; rfl)
  by_cases c3 : 0 < (l0.length : Int)
  ·
   rw [if_pos c3] at H
   have c3b0 : decide (0 < (l0.length : Int)) = true := decide_eq_true c3
   have c3b1 : decide (0 < l0.length) = true := decide_eq_true (by omega)
   clear c3
   have H' := Aside0.mk H
   clear H
   have p130 : 0 ≤ (0 : Int) := (by omega)
   have q130 : 0 < (l0.length : Int) := dq_
   obtain ⟨ad130, e130, hx130_0⟩ := Kd.at_int HR0.out 0 p130 q130
   cases e130
   have qi130 : (0 < l0.length) = True := eq_true (by omega)
   (try rw [show ((0 : Int)).toNat = 0 from rfl] at hx130_0)
   (try rw [Addr.add_zero'] at hx130_0)
   replace p130 := eq_true p130
   replace q130 := eq_true q130
   have p131 : 0 ≤ (0 : Int) := (by omega)
   have q131 : 0 < (l0.length : Int) := dq_
   obtain ⟨ad131, e131, hx131_0⟩ := Kd.at_int HR0.out 0 p131 q131
   obtain rfl : ad130 = ad131 := (by injection e131)
   have qi131 : (0 < l0.length) = True := eq_true (by omega)
   (try rw [show ((0 : Int)).toNat = 0 from rfl] at hx131_0)
   (try rw [Addr.add_zero'] at hx131_0)
   replace p131 := eq_true p131
   replace q131 := eq_true q131
   go_enter Tryz.func53, Tryz.ntmps53
   go_wp2
   repeat (go_quiet (fail); try go_wp2)
   go_loopg [4, 5, 6] k (fun kq v4 v5 v6 w' => ∃ (x4_1 : Int) (x5_1 : Int) (x6_1 : Int), v4 = .int .i64 x4_1 ∧ v5 = .int .i64 x5_1 ∧ v6 = .int .i64 x6_1 ∧ Aside0 (jigsawref02_Of.l0 kq l0 x4_1 x5_1 x6_1 = some (r1, r2)) ∧ Aside0 (kq ≤ k) ∧ Aside0 (Below w.heap.size w w'))
   case atStart => exact ⟨(rd l0 0), (rd l0 0), (0), eq_, eq_, eq_, H', ⟨Nat.le_refl _⟩, ⟨bel_⟩⟩
   case round =>
    clear H'
    try clear p1
    try clear q1
    try clear hx1
    try clear qi1
    try clear c2
    try clear c2b0
    try clear c2b1
    try clear c2b2
    try clear p2
    try clear c3
    try clear c3b0
    try clear c3b1
    try clear hx130_0
    try clear hx131_0
    try clear p130
    try clear p131
    try clear q130
    try clear q131
    obtain ⟨x4_1, x5_1, x6_1, rfl, rfl, rfl, HA, HK1, HB⟩ := hrel
    cases gk with
    | zero => exact absurd HA.out (by simp [jigsawref02_Of.l0])
    | succ k1 =>
     have H := HA.out
     clear HA
     simp only [jigsawref02_Of.l0] at H
     by_cases c4 : x6_1 < (l0.length : Int)
     ·
      rw [if_pos c4] at H
      have c4b0 : decide (x6_1 < (l0.length : Int)) = true := decide_eq_true c4
      clear c4
      by_cases c5 : 0 ≤ x6_1
      ·
       rw [if_pos c5] at H
       have c5b0 : decide (0 ≤ x6_1) = true := decide_eq_true c5
       clear c5
       by_cases c6 : (rd l0 x6_1) < (-1000000)
       ·
        rw [if_pos c6] at H
        exact absurd H (by simp)
       ·
        rw [if_neg c6] at H
        have c6b0 : decide ((rd l0 x6_1) < (-1000000)) = false := decide_eq_false c6
        clear c6
        by_cases c7 : (rd l0 x6_1) > 1000000
        ·
         rw [if_pos c7] at H
         exact absurd H (by simp)
        ·
         rw [if_neg c7] at H
         have c7b0 : decide (1000000 < (rd l0 x6_1)) = false := decide_eq_false c7
         clear c7
         by_cases c8 : (rd l0 x6_1) < x4_1
         ·
          rw [if_pos c8] at H
          have c8b0 : decide ((rd l0 x6_1) < x4_1) = true := decide_eq_true c8
          clear c8
          by_cases c9 : (rd l0 x6_1) > x5_1
          ·
           rw [if_pos c9] at H
           have c9b0 : decide (x5_1 < (rd l0 x6_1)) = true := decide_eq_true c9
           clear c9
           have H' := Aside0.mk H
           clear H
           have p132 : 0 ≤ (x6_1 : Int) := dq_
           have q132 : x6_1 < (l0.length : Int) := dq_
           obtain ⟨ad132, e132, hx132_0⟩ := Kd.at_int HR0.out x6_1 p132 q132
           obtain rfl : ad130 = ad132 := (by injection e132)
           replace hx132_0 := (HB.out.cell (World.block_lt_of_cell? w _ hx132_0)).trans hx132_0
           replace p132 := eq_true p132
           replace q132 := eq_true q132
           have p133 : 0 ≤ (x6_1 : Int) := dq_
           have q133 : x6_1 < (l0.length : Int) := dq_
           obtain ⟨ad133, e133, hx133_0⟩ := Kd.at_int HR0.out x6_1 p133 q133
           obtain rfl : ad130 = ad133 := (by injection e133)
           replace hx133_0 := (HB.out.cell (World.block_lt_of_cell? w _ hx133_0)).trans hx133_0
           replace p133 := eq_true p133
           replace q133 := eq_true q133
           have p134 : 0 ≤ (x6_1 : Int) := dq_
           have q134 : x6_1 < (l0.length : Int) := dq_
           obtain ⟨ad134, e134, hx134_0⟩ := Kd.at_int HR0.out x6_1 p134 q134
           obtain rfl : ad130 = ad134 := (by injection e134)
           replace hx134_0 := (HB.out.cell (World.block_lt_of_cell? w _ hx134_0)).trans hx134_0
           replace p134 := eq_true p134
           replace q134 := eq_true q134
           have p135 : 0 ≤ (x6_1 : Int) := dq_
           have q135 : x6_1 < (l0.length : Int) := dq_
           obtain ⟨ad135, e135, hx135_0⟩ := Kd.at_int HR0.out x6_1 p135 q135
           obtain rfl : ad130 = ad135 := (by injection e135)
           replace hx135_0 := (HB.out.cell (World.block_lt_of_cell? w _ hx135_0)).trans hx135_0
           replace p135 := eq_true p135
           replace q135 := eq_true q135
           have p136 : 0 ≤ (x6_1 : Int) := dq_
           have q136 : x6_1 < (l0.length : Int) := dq_
           obtain ⟨ad136, e136, hx136_0⟩ := Kd.at_int HR0.out x6_1 p136 q136
           obtain rfl : ad130 = ad136 := (by injection e136)
           replace hx136_0 := (HB.out.cell (World.block_lt_of_cell? w _ hx136_0)).trans hx136_0
           replace p136 := eq_true p136
           replace q136 := eq_true q136
           have p137 : 0 ≤ (x6_1 : Int) := dq_
           have q137 : x6_1 < (l0.length : Int) := dq_
           obtain ⟨ad137, e137, hx137_0⟩ := Kd.at_int HR0.out x6_1 p137 q137
           obtain rfl : ad130 = ad137 := (by injection e137)
           replace hx137_0 := (HB.out.cell (World.block_lt_of_cell? w _ hx137_0)).trans hx137_0
           replace p137 := eq_true p137
           replace q137 := eq_true q137
           go_wp2
           repeat (go_quiet (fail); try go_wp2)
           go_roundg k1
           case measure => have := HK1.out; omega
           case rel => exact ⟨(rd l0 x6_1), (rd l0 x6_1), (wrap64 (x6_1 + 1)), eq_, eq_, eq_, H', ⟨by have := HK1.out; omega⟩, ⟨bel_⟩⟩
          ·
           rw [if_neg c9] at H
           have c9b0 : decide (x5_1 < (rd l0 x6_1)) = false := decide_eq_false c9
           clear c9
           have H' := Aside0.mk H
           clear H
           have p132 : 0 ≤ (x6_1 : Int) := dq_
           have q132 : x6_1 < (l0.length : Int) := dq_
           obtain ⟨ad132, e132, hx132_0⟩ := Kd.at_int HR0.out x6_1 p132 q132
           obtain rfl : ad130 = ad132 := (by injection e132)
           replace hx132_0 := (HB.out.cell (World.block_lt_of_cell? w _ hx132_0)).trans hx132_0
           replace p132 := eq_true p132
           replace q132 := eq_true q132
           have p133 : 0 ≤ (x6_1 : Int) := dq_
           have q133 : x6_1 < (l0.length : Int) := dq_
           obtain ⟨ad133, e133, hx133_0⟩ := Kd.at_int HR0.out x6_1 p133 q133
           obtain rfl : ad130 = ad133 := (by injection e133)
           replace hx133_0 := (HB.out.cell (World.block_lt_of_cell? w _ hx133_0)).trans hx133_0
           replace p133 := eq_true p133
           replace q133 := eq_true q133
           have p134 : 0 ≤ (x6_1 : Int) := dq_
           have q134 : x6_1 < (l0.length : Int) := dq_
           obtain ⟨ad134, e134, hx134_0⟩ := Kd.at_int HR0.out x6_1 p134 q134
           obtain rfl : ad130 = ad134 := (by injection e134)
           replace hx134_0 := (HB.out.cell (World.block_lt_of_cell? w _ hx134_0)).trans hx134_0
           replace p134 := eq_true p134
           replace q134 := eq_true q134
           have p135 : 0 ≤ (x6_1 : Int) := dq_
           have q135 : x6_1 < (l0.length : Int) := dq_
           obtain ⟨ad135, e135, hx135_0⟩ := Kd.at_int HR0.out x6_1 p135 q135
           obtain rfl : ad130 = ad135 := (by injection e135)
           replace hx135_0 := (HB.out.cell (World.block_lt_of_cell? w _ hx135_0)).trans hx135_0
           replace p135 := eq_true p135
           replace q135 := eq_true q135
           have p136 : 0 ≤ (x6_1 : Int) := dq_
           have q136 : x6_1 < (l0.length : Int) := dq_
           obtain ⟨ad136, e136, hx136_0⟩ := Kd.at_int HR0.out x6_1 p136 q136
           obtain rfl : ad130 = ad136 := (by injection e136)
           replace hx136_0 := (HB.out.cell (World.block_lt_of_cell? w _ hx136_0)).trans hx136_0
           replace p136 := eq_true p136
           replace q136 := eq_true q136
           go_wp2
           repeat (go_quiet (fail); try go_wp2)
           go_roundg k1
           case measure => have := HK1.out; omega
           case rel => exact ⟨(rd l0 x6_1), (x5_1), (wrap64 (x6_1 + 1)), eq_, eq_, eq_, H', ⟨by have := HK1.out; omega⟩, ⟨bel_⟩⟩
         ·
          rw [if_neg c8] at H
          have c8b0 : decide ((rd l0 x6_1) < x4_1) = false := decide_eq_false c8
          clear c8
          by_cases c10 : (rd l0 x6_1) > x5_1
          ·
           rw [if_pos c10] at H
           have c10b0 : decide (x5_1 < (rd l0 x6_1)) = true := decide_eq_true c10
           clear c10
           have H' := Aside0.mk H
           clear H
           have p132 : 0 ≤ (x6_1 : Int) := dq_
           have q132 : x6_1 < (l0.length : Int) := dq_
           obtain ⟨ad132, e132, hx132_0⟩ := Kd.at_int HR0.out x6_1 p132 q132
           obtain rfl : ad130 = ad132 := (by injection e132)
           replace hx132_0 := (HB.out.cell (World.block_lt_of_cell? w _ hx132_0)).trans hx132_0
           replace p132 := eq_true p132
           replace q132 := eq_true q132
           have p133 : 0 ≤ (x6_1 : Int) := dq_
           have q133 : x6_1 < (l0.length : Int) := dq_
           obtain ⟨ad133, e133, hx133_0⟩ := Kd.at_int HR0.out x6_1 p133 q133
           obtain rfl : ad130 = ad133 := (by injection e133)
           replace hx133_0 := (HB.out.cell (World.block_lt_of_cell? w _ hx133_0)).trans hx133_0
           replace p133 := eq_true p133
           replace q133 := eq_true q133
           have p134 : 0 ≤ (x6_1 : Int) := dq_
           have q134 : x6_1 < (l0.length : Int) := dq_
           obtain ⟨ad134, e134, hx134_0⟩ := Kd.at_int HR0.out x6_1 p134 q134
           obtain rfl : ad130 = ad134 := (by injection e134)
           replace hx134_0 := (HB.out.cell (World.block_lt_of_cell? w _ hx134_0)).trans hx134_0
           replace p134 := eq_true p134
           replace q134 := eq_true q134
           have p138 : 0 ≤ (x6_1 : Int) := dq_
           have q138 : x6_1 < (l0.length : Int) := dq_
           obtain ⟨ad138, e138, hx138_0⟩ := Kd.at_int HR0.out x6_1 p138 q138
           obtain rfl : ad130 = ad138 := (by injection e138)
           replace hx138_0 := (HB.out.cell (World.block_lt_of_cell? w _ hx138_0)).trans hx138_0
           replace p138 := eq_true p138
           replace q138 := eq_true q138
           have p139 : 0 ≤ (x6_1 : Int) := dq_
           have q139 : x6_1 < (l0.length : Int) := dq_
           obtain ⟨ad139, e139, hx139_0⟩ := Kd.at_int HR0.out x6_1 p139 q139
           obtain rfl : ad130 = ad139 := (by injection e139)
           replace hx139_0 := (HB.out.cell (World.block_lt_of_cell? w _ hx139_0)).trans hx139_0
           replace p139 := eq_true p139
           replace q139 := eq_true q139
           go_wp2
           repeat (go_quiet (fail); try go_wp2)
           go_roundg k1
           case measure => have := HK1.out; omega
           case rel => exact ⟨(x4_1), (rd l0 x6_1), (wrap64 (x6_1 + 1)), eq_, eq_, eq_, H', ⟨by have := HK1.out; omega⟩, ⟨bel_⟩⟩
          ·
           rw [if_neg c10] at H
           have c10b0 : decide (x5_1 < (rd l0 x6_1)) = false := decide_eq_false c10
           clear c10
           have H' := Aside0.mk H
           clear H
           have p132 : 0 ≤ (x6_1 : Int) := dq_
           have q132 : x6_1 < (l0.length : Int) := dq_
           obtain ⟨ad132, e132, hx132_0⟩ := Kd.at_int HR0.out x6_1 p132 q132
           obtain rfl : ad130 = ad132 := (by injection e132)
           replace hx132_0 := (HB.out.cell (World.block_lt_of_cell? w _ hx132_0)).trans hx132_0
           replace p132 := eq_true p132
           replace q132 := eq_true q132
           have p133 : 0 ≤ (x6_1 : Int) := dq_
           have q133 : x6_1 < (l0.length : Int) := dq_
           obtain ⟨ad133, e133, hx133_0⟩ := Kd.at_int HR0.out x6_1 p133 q133
           obtain rfl : ad130 = ad133 := (by injection e133)
           replace hx133_0 := (HB.out.cell (World.block_lt_of_cell? w _ hx133_0)).trans hx133_0
           replace p133 := eq_true p133
           replace q133 := eq_true q133
           have p134 : 0 ≤ (x6_1 : Int) := dq_
           have q134 : x6_1 < (l0.length : Int) := dq_
           obtain ⟨ad134, e134, hx134_0⟩ := Kd.at_int HR0.out x6_1 p134 q134
           obtain rfl : ad130 = ad134 := (by injection e134)
           replace hx134_0 := (HB.out.cell (World.block_lt_of_cell? w _ hx134_0)).trans hx134_0
           replace p134 := eq_true p134
           replace q134 := eq_true q134
           have p138 : 0 ≤ (x6_1 : Int) := dq_
           have q138 : x6_1 < (l0.length : Int) := dq_
           obtain ⟨ad138, e138, hx138_0⟩ := Kd.at_int HR0.out x6_1 p138 q138
           obtain rfl : ad130 = ad138 := (by injection e138)
           replace hx138_0 := (HB.out.cell (World.block_lt_of_cell? w _ hx138_0)).trans hx138_0
           replace p138 := eq_true p138
           replace q138 := eq_true q138
           go_wp2
           repeat (go_quiet (fail); try go_wp2)
           go_roundg k1
           case measure => have := HK1.out; omega
           case rel => exact ⟨(x4_1), (x5_1), (wrap64 (x6_1 + 1)), eq_, eq_, eq_, H', ⟨by have := HK1.out; omega⟩, ⟨bel_⟩⟩
      ·
       rw [if_neg c5] at H
       exact absurd H (by simp)
     ·
      rw [if_neg c4] at H
      have c4b0 : decide (x6_1 < (l0.length : Int)) = false := decide_eq_false c4
      clear c4
      by_cases c11 : (wrap64 (x5_1 - x4_1)) ≥ 65536
      ·
       rw [if_pos c11] at H
       exact absurd H (by simp)
      ·
       rw [if_neg c11] at H
       have c11b0 : decide (65536 ≤ (wrap64 (x5_1 - x4_1))) = false := decide_eq_false c11
       clear c11
       have H' := Aside0.mk H
       clear H
       go_wp2
       repeat (go_quiet (fail); try go_wp2)
       go_loopg [7, 8] k1 (fun kq v7 v8 w' => ∃ (x7_2 : List Int) (x8_2 : Int), v8 = .int .i64 x8_2 ∧ Aside0 (jigsawref02_Of.l1 kq l0 x7_2 x8_2 = some (r1, r2)) ∧ Aside0 (kq ≤ k1) ∧ Aside0 (Kd.R (Kd.int .i64) 3 w' w.heap.size (fun _ => True) v7 x7_2) ∧ Aside0 (Below w.heap.size w w'))
       case atStart => exact ⟨(([] : List Int)), (0), eq_, H', ⟨Nat.le_refl _⟩, ⟨nil_⟩, ⟨bel_⟩⟩
       case round =>
        clear H'
        try clear c1
        try clear p1
        try clear q1
        try clear hx1
        try clear qi1
        try clear c2
        try clear c2b0
        try clear c2b1
        try clear c2b2
        try clear p2
        try clear c3
        try clear c3b0
        try clear c3b1
        try clear c4
        try clear c4b0
        try clear c5
        try clear c5b0
        try clear c6
        try clear c6b0
        try clear p6
        try clear c7
        try clear c7b0
        try clear c8
        try clear c8b0
        try clear c9
        try clear c9b0
        try clear c10
        try clear c10b0
        try clear c11
        try clear c11b0
        try clear hx130_0
        try clear hx131_0
        try clear hx132_0
        try clear hx133_0
        try clear hx134_0
        try clear hx135_0
        try clear hx136_0
        try clear hx137_0
        try clear hx138_0
        try clear hx139_0
        try clear p1
        try clear p130
        try clear p131
        try clear p132
        try clear p133
        try clear p134
        try clear p135
        try clear p136
        try clear p137
        try clear p138
        try clear p139
        try clear p2
        try clear q1
        try clear q130
        try clear q131
        try clear q132
        try clear q133
        try clear q134
        try clear q135
        try clear q136
        try clear q137
        try clear q138
        try clear q139
        obtain ⟨x7_2, x8_2, rfl, HA, HK2, HO_7, HB⟩ := hrel
        cases gk with
        | zero => exact absurd HA.out (by simp [jigsawref02_Of.l1])
        | succ k2 =>
         have H := HA.out
         clear HA
         simp only [jigsawref02_Of.l1] at H
         by_cases c12 : x8_2 < (l0.length : Int)
         ·
          rw [if_pos c12] at H
          have c12b0 : decide (x8_2 < (l0.length : Int)) = true := decide_eq_true c12
          clear c12
          by_cases c13 : 0 ≤ x8_2
          ·
           rw [if_pos c13] at H
           have c13b0 : decide (0 ≤ x8_2) = true := decide_eq_true c13
           clear c13
           replace H := Option.bind_eq_some_iff.mp H
           obtain ⟨t141, A140, H⟩ := H
           try dsimp only at H
           have A14 := Aside0.mk A140
           clear A140
           by_cases c15 : t141 = true
           ·
            subst c15
            rw [if_pos rfl] at H
            have H' := Aside0.mk H
            clear H
            have p140 : 0 ≤ (x8_2 : Int) := dq_
            have q140 : x8_2 < (l0.length : Int) := dq_
            obtain ⟨ad140, e140, hx140_0⟩ := Kd.at_int HR0.out x8_2 p140 q140
            obtain rfl : ad130 = ad140 := (by injection e140)
            replace hx140_0 := (HB.out.cell (World.block_lt_of_cell? w _ hx140_0)).trans hx140_0
            replace p140 := eq_true p140
            replace q140 := eq_true q140
            obtain ⟨Ao16, co16, eo16⟩ := Kd.R_slice HO_7.out
            subst eo16
            go_wp2_with (first | (go_at_call 66; (with_reducible refine (jigsawref02_Has.calls k2 _ _ x7_2 (rd l0 x8_2) true _ ?_ ?_ A14.out).mono ?_); exact ca_ ((Kd.R_reads' HO_7.out).2.2); exact (Kd.R_reads' HO_7.out).2.1; rintro e w' ⟨rfl, ⟨nd, rfl⟩⟩; (try first | exact ⟨rfl, _, World.drewN_drewN _ _ _⟩ | exact ⟨rfl, _, Eq.trans (World.drewN_drewN _ _ _) (congrArg (World.drewN _) (Nat.add_assoc _ _ _))⟩)))
            repeat (go_quiet (first | (go_at_call 66; (with_reducible refine (jigsawref02_Has.calls k2 _ _ x7_2 (rd l0 x8_2) true _ ?_ ?_ A14.out).mono ?_); exact ca_ ((Kd.R_reads' HO_7.out).2.2); exact (Kd.R_reads' HO_7.out).2.1; rintro e w' ⟨rfl, ⟨nd, rfl⟩⟩; (try first | exact ⟨rfl, _, World.drewN_drewN _ _ _⟩ | exact ⟨rfl, _, Eq.trans (World.drewN_drewN _ _ _) (congrArg (World.drewN _) (Nat.add_assoc _ _ _))⟩))); try go_wp2_with (first | (go_at_call 66; (with_reducible refine (jigsawref02_Has.calls k2 _ _ x7_2 (rd l0 x8_2) true _ ?_ ?_ A14.out).mono ?_); exact ca_ ((Kd.R_reads' HO_7.out).2.2); exact (Kd.R_reads' HO_7.out).2.1; rintro e w' ⟨rfl, ⟨nd, rfl⟩⟩; (try first | exact ⟨rfl, _, World.drewN_drewN _ _ _⟩ | exact ⟨rfl, _, Eq.trans (World.drewN_drewN _ _ _) (congrArg (World.drewN _) (Nat.add_assoc _ _ _))⟩))))
            go_roundg k2
            case measure => have := HK1.out; have := HK2.out; omega
            case rel => exact ⟨(x7_2), (wrap64 (x8_2 + 1)), eq_, H', ⟨by have := HK1.out; have := HK2.out; omega⟩, ⟨by refine vR_ ?_; exact HO_7.out⟩, ⟨bel_⟩⟩
           ·
            replace c15 := Bool.eq_false_iff.mpr c15
            subst c15
            have H1 : (jigsawref02_Of.l2 k2 l0 x7_2 x8_2 ([] : List Int) false 0) = some (r1, r2) := by rw [if_neg (show ¬ (false = true) by decide)] at H; exact H
            clear H
            have H := H1
            clear H1
            have H' := Aside0.mk H
            clear H
            have p140 : 0 ≤ (x8_2 : Int) := dq_
            have q140 : x8_2 < (l0.length : Int) := dq_
            obtain ⟨ad140, e140, hx140_0⟩ := Kd.at_int HR0.out x8_2 p140 q140
            obtain rfl : ad130 = ad140 := (by injection e140)
            replace hx140_0 := (HB.out.cell (World.block_lt_of_cell? w _ hx140_0)).trans hx140_0
            replace p140 := eq_true p140
            replace q140 := eq_true q140
            obtain ⟨Ao17, co17, eo17⟩ := Kd.R_slice HO_7.out
            subst eo17
            go_wp2_with (first | (go_at_call 66; (with_reducible refine (jigsawref02_Has.calls k2 _ _ x7_2 (rd l0 x8_2) false _ ?_ ?_ A14.out).mono ?_); exact ca_ ((Kd.R_reads' HO_7.out).2.2); exact (Kd.R_reads' HO_7.out).2.1; rintro e w' ⟨rfl, ⟨nd, rfl⟩⟩; (try first | exact ⟨rfl, _, World.drewN_drewN _ _ _⟩ | exact ⟨rfl, _, Eq.trans (World.drewN_drewN _ _ _) (congrArg (World.drewN _) (Nat.add_assoc _ _ _))⟩)))
            repeat (go_quiet (first | (go_at_call 66; (with_reducible refine (jigsawref02_Has.calls k2 _ _ x7_2 (rd l0 x8_2) false _ ?_ ?_ A14.out).mono ?_); exact ca_ ((Kd.R_reads' HO_7.out).2.2); exact (Kd.R_reads' HO_7.out).2.1; rintro e w' ⟨rfl, ⟨nd, rfl⟩⟩; (try first | exact ⟨rfl, _, World.drewN_drewN _ _ _⟩ | exact ⟨rfl, _, Eq.trans (World.drewN_drewN _ _ _) (congrArg (World.drewN _) (Nat.add_assoc _ _ _))⟩))); try go_wp2_with (first | (go_at_call 66; (with_reducible refine (jigsawref02_Has.calls k2 _ _ x7_2 (rd l0 x8_2) false _ ?_ ?_ A14.out).mono ?_); exact ca_ ((Kd.R_reads' HO_7.out).2.2); exact (Kd.R_reads' HO_7.out).2.1; rintro e w' ⟨rfl, ⟨nd, rfl⟩⟩; (try first | exact ⟨rfl, _, World.drewN_drewN _ _ _⟩ | exact ⟨rfl, _, Eq.trans (World.drewN_drewN _ _ _) (congrArg (World.drewN _) (Nat.add_assoc _ _ _))⟩))))
            go_loopg [10, 11, 12] k2 (fun kq v10 v11 v12 w' => ∃ (x10_3 : List Int) (x11_3 : Bool) (x12_3 : Int), v11 = .bool x11_3 ∧ v12 = .int .i64 x12_3 ∧ Aside0 (jigsawref02_Of.l2 kq l0 x7_2 x8_2 x10_3 x11_3 x12_3 = some (r1, r2)) ∧ Aside0 (kq ≤ k2) ∧ Aside0 (Kd.R (Kd.int .i64) 3 w' w.heap.size (fun k_ => some k_ ≠ (v10 : Value).ownBlock) (.slice Ao17 x7_2.length co17) x7_2) ∧ Aside0 (Kd.R (Kd.int .i64) 3 w' w.heap.size (fun k_ => some k_ ≠ ((.slice Ao17 x7_2.length co17) : Value).ownBlock) v10 x10_3) ∧ Aside0 (Below w.heap.size w w'))
            case atStart => exact ⟨(([] : List Int)), (false), (0), eq_, eq_, H', ⟨Nat.le_refl _⟩, ⟨by refine vR_ ?_; exact Kd.R_mono HO_7.out (fun _ hk => (by simp [Value.ownBlock]))⟩, ⟨nil_⟩, ⟨bel_⟩⟩
            case round =>
             clear H'
             try clear c1
             try clear p1
             try clear q1
             try clear hx1
             try clear qi1
             try clear c2
             try clear c2b0
             try clear c2b1
             try clear c2b2
             try clear p2
             try clear c3
             try clear c3b0
             try clear c3b1
             try clear c4
             try clear c4b0
             try clear c5
             try clear c5b0
             try clear c6
             try clear c6b0
             try clear p6
             try clear c7
             try clear c7b0
             try clear c8
             try clear c8b0
             try clear c9
             try clear c9b0
             try clear c10
             try clear c10b0
             try clear c11
             try clear c11b0
             try clear c12
             try clear c12b0
             try clear c13
             try clear c13b0
             try clear p13
             try clear q13
             try clear hx13
             try clear qi13
             try clear p14
             try clear q14
             try clear hx14
             try clear c15
             try clear hx130_0
             try clear hx131_0
             try clear hx132_0
             try clear hx133_0
             try clear hx134_0
             try clear hx135_0
             try clear hx136_0
             try clear hx137_0
             try clear hx138_0
             try clear hx139_0
             try clear hx140_0
             try clear p1
             try clear p130
             try clear p131
             try clear p132
             try clear p133
             try clear p134
             try clear p135
             try clear p136
             try clear p137
             try clear p138
             try clear p139
             try clear p140
             try clear p2
             try clear p6
             try clear q1
             try clear q130
             try clear q131
             try clear q132
             try clear q133
             try clear q134
             try clear q135
             try clear q136
             try clear q137
             try clear q138
             try clear q139
             try clear q140
             obtain ⟨x10_3, x11_3, x12_3, rfl, rfl, HA, HK3, HO_7, HO_10, HB⟩ := hrel
             cases gk with
             | zero => exact absurd HA.out (by simp [jigsawref02_Of.l2])
             | succ k3 =>
              have H := HA.out
              clear HA
              simp only [jigsawref02_Of.l2] at H
              by_cases c18 : x12_3 < (x7_2.length : Int)
              ·
               rw [if_pos c18] at H
               have c18b0 : decide (x12_3 < (x7_2.length : Int)) = true := decide_eq_true c18
               clear c18
               by_cases c19 : 0 ≤ x12_3
               ·
                rw [if_pos c19] at H
                have c19b0 : decide (0 ≤ x12_3) = true := decide_eq_true c19
                clear c19
                by_cases c20 : 0 ≤ x8_2
                ·
                 rw [if_pos c20] at H
                 have c20b0 : decide (0 ≤ x8_2) = true := decide_eq_true c20
                 clear c20
                 by_cases c21 : x8_2 < (l0.length : Int)
                 ·
                  rw [if_pos c21] at H
                  have c21b0 : decide (x8_2 < (l0.length : Int)) = true := decide_eq_true c21
                  clear c21
                  by_cases c22 : (rd x7_2 x12_3) > (rd l0 x8_2)
                  ·
                   rw [if_pos c22] at H
                   have c22b0 : decide ((rd l0 x8_2) < (rd x7_2 x12_3)) = true := decide_eq_true c22
                   clear c22
                   by_cases c23 : x11_3 = true
                   ·
                    subst c23
                    rw [if_pos rfl] at H
                    by_cases c24 : x10_3.length < 17592186044416
                    ·
                     rw [if_pos c24] at H
                     have LMc24 := Aside0.mk c24
                     clear c24
                     obtain ⟨y145, hy145⟩ : ∃ y_ : List Int, y_ = (x10_3 ++ [rd x7_2 x12_3]) := ⟨_, rfl⟩
                     replace H : (jigsawref02_Of.l2 k3 l0 x7_2 x8_2 y145 true (wrap64 (x12_3 + 1))) = some (r1, r2) := by first | (rw [hy145]; with_reducible exact H) | (have H2_ := (Option.bind_some _ _).symm.trans H; rw [hy145]; with_reducible exact H2_) | (have H2_ := (Option.bind_some _ _).symm.trans H; with_reducible exact H2_) | with_reducible exact H | (rw [hy145]; exact H) | exact H
                     have Ny145 := Aside0.mk hy145
                     clear hy145
                     have H' := Aside0.mk H
                     clear H
                     have p142 : 0 ≤ (x12_3 : Int) := dq_
                     have q142 : x12_3 < (x7_2.length : Int) := dq_
                     obtain ⟨ad142, e142, hx142_0⟩ := Kd.at_int (Kd.R_reads' HO_7.out).2.2 x12_3 p142 q142
                     cases e142
                     replace p142 := eq_true p142
                     replace q142 := eq_true q142
                     have p143 : 0 ≤ (x8_2 : Int) := dq_
                     have q143 : x8_2 < (l0.length : Int) := dq_
                     obtain ⟨ad143, e143, hx143_0⟩ := Kd.at_int HR0.out x8_2 p143 q143
                     obtain rfl : ad130 = ad143 := (by injection e143)
                     replace hx143_0 := (HB.out.cell (World.block_lt_of_cell? w _ hx143_0)).trans hx143_0
                     replace p143 := eq_true p143
                     replace q143 := eq_true q143
                     have p144 : 0 ≤ (x12_3 : Int) := dq_
                     have q144 : x12_3 < (x7_2.length : Int) := dq_
                     obtain ⟨ad144, e144, hx144_0⟩ := Kd.at_int (Kd.R_reads' HO_7.out).2.2 x12_3 p144 q144
                     obtain rfl : ad142 = ad144 := (by injection e144)
                     replace p144 := eq_true p144
                     replace q144 := eq_true q144
                     go_wp2_with (first | ((with_reducible refine gate_builtin (b := .append) (xs := #[.tmp 103, .tmp 108]) rfl ?_); at_builtin; refine Kd.R_append (Kd.int .i64) (w0 := w) w.heap.size rfl (.tmp 103) (.tmp 108) 30 3 (.int .i64 0) 8 rfl Tryz.underlying30 info3 rfl (by decide) (by omega) u10 x10_3 (rd x7_2 x12_3) [.int .i64 (rd x7_2 x12_3)] (fun k_ => some k_ ≠ (.slice (some ad142) x7_2.length co17 : Value).ownBlock) (fun _ => False) rfl rfl ?aP (fun _ hk => hk.elim) ?aF ?aO ?aB ?aS ?aL ?_; (case aP => exact rfl); (case aB => exact bel_); (case aF => exact (fun k_ hk => Kd.fresh' (Kd.R_lt (vR_ HO_7.out)) k_ hk)); (case aO => exact (vR_ HO_10.out)); (case aS => exact (below_size bel_)); (case aL => have := LMc24.out; omega); intro v146 w25 ho hb hg hat; rw [← Ny145.out] at ho; replace HO_7 := Aside0.mk (Kd.R_after (ok := (fun _ => True)) (by refine vR_ ?_; exact Kd.R_mono HO_7.out (fun _ hk => ⟨trivial, hk⟩)) hg hat); replace HB := Aside0.mk (hb); have HO147 := Aside0.mk (ho); clear HO_10; clear ho hb hg hat))
                     repeat (go_quiet (first | ((with_reducible refine gate_builtin (b := .append) (xs := #[.tmp 103, .tmp 108]) rfl ?_); at_builtin; refine Kd.R_append (Kd.int .i64) (w0 := w) w.heap.size rfl (.tmp 103) (.tmp 108) 30 3 (.int .i64 0) 8 rfl Tryz.underlying30 info3 rfl (by decide) (by omega) u10 x10_3 (rd x7_2 x12_3) [.int .i64 (rd x7_2 x12_3)] (fun k_ => some k_ ≠ (.slice (some ad142) x7_2.length co17 : Value).ownBlock) (fun _ => False) rfl rfl ?aP (fun _ hk => hk.elim) ?aF ?aO ?aB ?aS ?aL ?_; (case aP => exact rfl); (case aB => exact bel_); (case aF => exact (fun k_ hk => Kd.fresh' (Kd.R_lt (vR_ HO_7.out)) k_ hk)); (case aO => exact (vR_ HO_10.out)); (case aS => exact (below_size bel_)); (case aL => have := LMc24.out; omega); intro v146 w25 ho hb hg hat; rw [← Ny145.out] at ho; replace HO_7 := Aside0.mk (Kd.R_after (ok := (fun _ => True)) (by refine vR_ ?_; exact Kd.R_mono HO_7.out (fun _ hk => ⟨trivial, hk⟩)) hg hat); replace HB := Aside0.mk (hb); have HO147 := Aside0.mk (ho); clear HO_10; clear ho hb hg hat)); try go_wp2_with (first | ((with_reducible refine gate_builtin (b := .append) (xs := #[.tmp 103, .tmp 108]) rfl ?_); at_builtin; refine Kd.R_append (Kd.int .i64) (w0 := w) w.heap.size rfl (.tmp 103) (.tmp 108) 30 3 (.int .i64 0) 8 rfl Tryz.underlying30 info3 rfl (by decide) (by omega) u10 x10_3 (rd x7_2 x12_3) [.int .i64 (rd x7_2 x12_3)] (fun k_ => some k_ ≠ (.slice (some ad142) x7_2.length co17 : Value).ownBlock) (fun _ => False) rfl rfl ?aP (fun _ hk => hk.elim) ?aF ?aO ?aB ?aS ?aL ?_; (case aP => exact rfl); (case aB => exact bel_); (case aF => exact (fun k_ hk => Kd.fresh' (Kd.R_lt (vR_ HO_7.out)) k_ hk)); (case aO => exact (vR_ HO_10.out)); (case aS => exact (below_size bel_)); (case aL => have := LMc24.out; omega); intro v146 w25 ho hb hg hat; rw [← Ny145.out] at ho; replace HO_7 := Aside0.mk (Kd.R_after (ok := (fun _ => True)) (by refine vR_ ?_; exact Kd.R_mono HO_7.out (fun _ hk => ⟨trivial, hk⟩)) hg hat); replace HB := Aside0.mk (hb); have HO147 := Aside0.mk (ho); clear HO_10; clear ho hb hg hat)))
                     go_roundg k3
                     case measure => have := HK1.out; have := HK2.out; have := HK3.out; omega
                     case rel => exact ⟨(y145), (true), (wrap64 (x12_3 + 1)), eq_, eq_, H', ⟨by have := HK1.out; have := HK2.out; have := HK3.out; omega⟩, ⟨by refine vR_ ?_; exact Kd.R_mono HO_7.out (fun _ hk => hk.2)⟩, ⟨by refine vR_ ?_; exact HO147.out⟩, ⟨bel_⟩⟩
                    ·
                     rw [if_neg c24] at H
                     exact absurd H (by simp)
                   ·
                    replace c23 := Bool.eq_false_iff.mpr c23
                    subst c23
                    have H1 : (if x10_3.length < 17592186044416 then ((some (x10_3 ++ [rd l0 x8_2] : List Int)).bind fun y149 => (if y149.length < 17592186044416 then (jigsawref02_Of.l2 k3 l0 x7_2 x8_2 (y149 ++ [rd x7_2 x12_3]) true (wrap64 (x12_3 + 1))) else (none))) else (none)) = some (r1, r2) := by rw [if_neg (show ¬ (false = true) by decide)] at H; exact H
                    clear H
                    have H := H1
                    clear H1
                    by_cases c26 : x10_3.length < 17592186044416
                    ·
                     rw [if_pos c26] at H
                     have LMc26 := Aside0.mk c26
                     clear c26
                     obtain ⟨y149, hy149⟩ : ∃ y_ : List Int, y_ = (x10_3 ++ [rd l0 x8_2]) := ⟨_, rfl⟩
                     replace H : (if y149.length < 17592186044416 then (jigsawref02_Of.l2 k3 l0 x7_2 x8_2 (y149 ++ [rd x7_2 x12_3]) true (wrap64 (x12_3 + 1))) else (none)) = some (r1, r2) := by first | (rw [hy149]; with_reducible exact H) | (have H2_ := (Option.bind_some _ _).symm.trans H; rw [hy149]; with_reducible exact H2_) | (have H2_ := (Option.bind_some _ _).symm.trans H; with_reducible exact H2_) | with_reducible exact H | (rw [hy149]; exact H) | exact H
                     have Ny149 := Aside0.mk hy149
                     clear hy149
                     by_cases c27 : y149.length < 17592186044416
                     ·
                      rw [if_pos c27] at H
                      have LMc27 := Aside0.mk c27
                      clear c27
                      obtain ⟨y153, hy153⟩ : ∃ y_ : List Int, y_ = (y149 ++ [rd x7_2 x12_3]) := ⟨_, rfl⟩
                      replace H : (jigsawref02_Of.l2 k3 l0 x7_2 x8_2 y153 true (wrap64 (x12_3 + 1))) = some (r1, r2) := by first | (rw [hy153]; with_reducible exact H) | (have H2_ := (Option.bind_some _ _).symm.trans H; rw [hy153]; with_reducible exact H2_) | (have H2_ := (Option.bind_some _ _).symm.trans H; with_reducible exact H2_) | with_reducible exact H | (rw [hy153]; exact H) | exact H
                      have Ny153 := Aside0.mk hy153
                      clear hy153
                      have H' := Aside0.mk H
                      clear H
                      have p142 : 0 ≤ (x12_3 : Int) := dq_
                      have q142 : x12_3 < (x7_2.length : Int) := dq_
                      obtain ⟨ad142, e142, hx142_0⟩ := Kd.at_int (Kd.R_reads' HO_7.out).2.2 x12_3 p142 q142
                      cases e142
                      replace p142 := eq_true p142
                      replace q142 := eq_true q142
                      have p143 : 0 ≤ (x8_2 : Int) := dq_
                      have q143 : x8_2 < (l0.length : Int) := dq_
                      obtain ⟨ad143, e143, hx143_0⟩ := Kd.at_int HR0.out x8_2 p143 q143
                      obtain rfl : ad130 = ad143 := (by injection e143)
                      replace hx143_0 := (HB.out.cell (World.block_lt_of_cell? w _ hx143_0)).trans hx143_0
                      replace p143 := eq_true p143
                      replace q143 := eq_true q143
                      have p148 : 0 ≤ (x8_2 : Int) := dq_
                      have q148 : x8_2 < (l0.length : Int) := dq_
                      obtain ⟨ad148, e148, hx148_0⟩ := Kd.at_int HR0.out x8_2 p148 q148
                      obtain rfl : ad130 = ad148 := (by injection e148)
                      replace hx148_0 := (HB.out.cell (World.block_lt_of_cell? w _ hx148_0)).trans hx148_0
                      replace p148 := eq_true p148
                      replace q148 := eq_true q148
                      go_wp2_with (first | ((with_reducible refine gate_builtin (b := .append) (xs := #[.tmp 96, .tmp 101]) rfl ?_); at_builtin; refine Kd.R_append (Kd.int .i64) (w0 := w) w.heap.size rfl (.tmp 96) (.tmp 101) 30 3 (.int .i64 0) 8 rfl Tryz.underlying30 info3 rfl (by decide) (by omega) u10 x10_3 (rd l0 x8_2) [.int .i64 (rd l0 x8_2)] (fun k_ => some k_ ≠ (.slice (some ad142) x7_2.length co17 : Value).ownBlock) (fun _ => False) rfl rfl ?aP (fun _ hk => hk.elim) ?aF ?aO ?aB ?aS ?aL ?_; (case aP => exact rfl); (case aB => exact bel_); (case aF => exact (fun k_ hk => Kd.fresh' (Kd.R_lt (vR_ HO_7.out)) k_ hk)); (case aO => exact (vR_ HO_10.out)); (case aS => exact (below_size bel_)); (case aL => have := LMc26.out; omega); intro v150 w28 ho hb hg hat; rw [← Ny149.out] at ho; replace HO_7 := Aside0.mk (Kd.R_after (ok := (fun _ => True)) (by refine vR_ ?_; exact Kd.R_mono HO_7.out (fun _ hk => ⟨trivial, hk⟩)) hg hat); replace HB := Aside0.mk (hb); have HO151 := Aside0.mk (ho); clear HO_10; clear ho hb hg hat; have p152 : 0 ≤ (x12_3 : Int) := dq_; have q152 : x12_3 < (x7_2.length : Int) := dq_; obtain ⟨ad152, e152, hx152_0⟩ := Kd.at_int (Kd.R_reads' HO_7.out).2.2 x12_3 p152 q152; obtain rfl : ad142 = ad152 := (by injection e152); replace p152 := eq_true p152; replace q152 := eq_true q152) | ((with_reducible refine gate_builtin (b := .append) (xs := #[.tmp 103, .tmp 108]) rfl ?_); at_builtin; refine Kd.R_append (Kd.int .i64) (w0 := w) w.heap.size rfl (.tmp 103) (.tmp 108) 30 3 (.int .i64 0) 8 rfl Tryz.underlying30 info3 rfl (by decide) (by omega) v150 y149 (rd x7_2 x12_3) [.int .i64 (rd x7_2 x12_3)] (fun k_ => some k_ ≠ (.slice (some ad142) x7_2.length co17 : Value).ownBlock) (fun _ => False) rfl rfl ?aP (fun _ hk => hk.elim) ?aF ?aO ?aB ?aS ?aL ?_; (case aP => exact rfl); (case aB => exact bel_); (case aF => exact (fun k_ hk => Kd.fresh' (Kd.R_lt (vR_ HO_7.out)) k_ hk)); (case aO => exact (vR_ HO151.out)); (case aS => exact (below_size bel_)); (case aL => have := LMc27.out; omega); intro v154 w29 ho hb hg hat; rw [← Ny153.out] at ho; replace HO_7 := Aside0.mk (Kd.R_after (ok := (fun _ => True)) (vR_ HO_7.out) hg hat); replace HB := Aside0.mk (hb); have HO155 := Aside0.mk (ho); clear HO151; clear ho hb hg hat))
                      repeat (go_quiet (first | ((with_reducible refine gate_builtin (b := .append) (xs := #[.tmp 96, .tmp 101]) rfl ?_); at_builtin; refine Kd.R_append (Kd.int .i64) (w0 := w) w.heap.size rfl (.tmp 96) (.tmp 101) 30 3 (.int .i64 0) 8 rfl Tryz.underlying30 info3 rfl (by decide) (by omega) u10 x10_3 (rd l0 x8_2) [.int .i64 (rd l0 x8_2)] (fun k_ => some k_ ≠ (.slice (some ad142) x7_2.length co17 : Value).ownBlock) (fun _ => False) rfl rfl ?aP (fun _ hk => hk.elim) ?aF ?aO ?aB ?aS ?aL ?_; (case aP => exact rfl); (case aB => exact bel_); (case aF => exact (fun k_ hk => Kd.fresh' (Kd.R_lt (vR_ HO_7.out)) k_ hk)); (case aO => exact (vR_ HO_10.out)); (case aS => exact (below_size bel_)); (case aL => have := LMc26.out; omega); intro v150 w28 ho hb hg hat; rw [← Ny149.out] at ho; replace HO_7 := Aside0.mk (Kd.R_after (ok := (fun _ => True)) (by refine vR_ ?_; exact Kd.R_mono HO_7.out (fun _ hk => ⟨trivial, hk⟩)) hg hat); replace HB := Aside0.mk (hb); have HO151 := Aside0.mk (ho); clear HO_10; clear ho hb hg hat; have p152 : 0 ≤ (x12_3 : Int) := dq_; have q152 : x12_3 < (x7_2.length : Int) := dq_; obtain ⟨ad152, e152, hx152_0⟩ := Kd.at_int (Kd.R_reads' HO_7.out).2.2 x12_3 p152 q152; obtain rfl : ad142 = ad152 := (by injection e152); replace p152 := eq_true p152; replace q152 := eq_true q152) | ((with_reducible refine gate_builtin (b := .append) (xs := #[.tmp 103, .tmp 108]) rfl ?_); at_builtin; refine Kd.R_append (Kd.int .i64) (w0 := w) w.heap.size rfl (.tmp 103) (.tmp 108) 30 3 (.int .i64 0) 8 rfl Tryz.underlying30 info3 rfl (by decide) (by omega) v150 y149 (rd x7_2 x12_3) [.int .i64 (rd x7_2 x12_3)] (fun k_ => some k_ ≠ (.slice (some ad142) x7_2.length co17 : Value).ownBlock) (fun _ => False) rfl rfl ?aP (fun _ hk => hk.elim) ?aF ?aO ?aB ?aS ?aL ?_; (case aP => exact rfl); (case aB => exact bel_); (case aF => exact (fun k_ hk => Kd.fresh' (Kd.R_lt (vR_ HO_7.out)) k_ hk)); (case aO => exact (vR_ HO151.out)); (case aS => exact (below_size bel_)); (case aL => have := LMc27.out; omega); intro v154 w29 ho hb hg hat; rw [← Ny153.out] at ho; replace HO_7 := Aside0.mk (Kd.R_after (ok := (fun _ => True)) (vR_ HO_7.out) hg hat); replace HB := Aside0.mk (hb); have HO155 := Aside0.mk (ho); clear HO151; clear ho hb hg hat)); try go_wp2_with (first | ((with_reducible refine gate_builtin (b := .append) (xs := #[.tmp 96, .tmp 101]) rfl ?_); at_builtin; refine Kd.R_append (Kd.int .i64) (w0 := w) w.heap.size rfl (.tmp 96) (.tmp 101) 30 3 (.int .i64 0) 8 rfl Tryz.underlying30 info3 rfl (by decide) (by omega) u10 x10_3 (rd l0 x8_2) [.int .i64 (rd l0 x8_2)] (fun k_ => some k_ ≠ (.slice (some ad142) x7_2.length co17 : Value).ownBlock) (fun _ => False) rfl rfl ?aP (fun _ hk => hk.elim) ?aF ?aO ?aB ?aS ?aL ?_; (case aP => exact rfl); (case aB => exact bel_); (case aF => exact (fun k_ hk => Kd.fresh' (Kd.R_lt (vR_ HO_7.out)) k_ hk)); (case aO => exact (vR_ HO_10.out)); (case aS => exact (below_size bel_)); (case aL => have := LMc26.out; omega); intro v150 w28 ho hb hg hat; rw [← Ny149.out] at ho; replace HO_7 := Aside0.mk (Kd.R_after (ok := (fun _ => True)) (by refine vR_ ?_; exact Kd.R_mono HO_7.out (fun _ hk => ⟨trivial, hk⟩)) hg hat); replace HB := Aside0.mk (hb); have HO151 := Aside0.mk (ho); clear HO_10; clear ho hb hg hat; have p152 : 0 ≤ (x12_3 : Int) := dq_; have q152 : x12_3 < (x7_2.length : Int) := dq_; obtain ⟨ad152, e152, hx152_0⟩ := Kd.at_int (Kd.R_reads' HO_7.out).2.2 x12_3 p152 q152; obtain rfl : ad142 = ad152 := (by injection e152); replace p152 := eq_true p152; replace q152 := eq_true q152) | ((with_reducible refine gate_builtin (b := .append) (xs := #[.tmp 103, .tmp 108]) rfl ?_); at_builtin; refine Kd.R_append (Kd.int .i64) (w0 := w) w.heap.size rfl (.tmp 103) (.tmp 108) 30 3 (.int .i64 0) 8 rfl Tryz.underlying30 info3 rfl (by decide) (by omega) v150 y149 (rd x7_2 x12_3) [.int .i64 (rd x7_2 x12_3)] (fun k_ => some k_ ≠ (.slice (some ad142) x7_2.length co17 : Value).ownBlock) (fun _ => False) rfl rfl ?aP (fun _ hk => hk.elim) ?aF ?aO ?aB ?aS ?aL ?_; (case aP => exact rfl); (case aB => exact bel_); (case aF => exact (fun k_ hk => Kd.fresh' (Kd.R_lt (vR_ HO_7.out)) k_ hk)); (case aO => exact (vR_ HO151.out)); (case aS => exact (below_size bel_)); (case aL => have := LMc27.out; omega); intro v154 w29 ho hb hg hat; rw [← Ny153.out] at ho; replace HO_7 := Aside0.mk (Kd.R_after (ok := (fun _ => True)) (vR_ HO_7.out) hg hat); replace HB := Aside0.mk (hb); have HO155 := Aside0.mk (ho); clear HO151; clear ho hb hg hat)))
                      go_roundg k3
                      case measure => have := HK1.out; have := HK2.out; have := HK3.out; omega
                      case rel => exact ⟨(y153), (true), (wrap64 (x12_3 + 1)), eq_, eq_, H', ⟨by have := HK1.out; have := HK2.out; have := HK3.out; omega⟩, ⟨by refine vR_ ?_; exact Kd.R_mono HO_7.out (fun _ hk => hk.2)⟩, ⟨by refine vR_ ?_; exact HO155.out⟩, ⟨bel_⟩⟩
                     ·
                      rw [if_neg c27] at H
                      exact absurd H (by simp)
                    ·
                     rw [if_neg c26] at H
                     exact absurd H (by simp)
                  ·
                   rw [if_neg c22] at H
                   have c22b0 : decide ((rd l0 x8_2) < (rd x7_2 x12_3)) = false := decide_eq_false c22
                   clear c22
                   by_cases c30 : x10_3.length < 17592186044416
                   ·
                    rw [if_pos c30] at H
                    have LMc30 := Aside0.mk c30
                    clear c30
                    obtain ⟨y157, hy157⟩ : ∃ y_ : List Int, y_ = (x10_3 ++ [rd x7_2 x12_3]) := ⟨_, rfl⟩
                    replace H : (jigsawref02_Of.l2 k3 l0 x7_2 x8_2 y157 x11_3 (wrap64 (x12_3 + 1))) = some (r1, r2) := by first | (rw [hy157]; with_reducible exact H) | (have H2_ := (Option.bind_some _ _).symm.trans H; rw [hy157]; with_reducible exact H2_) | (have H2_ := (Option.bind_some _ _).symm.trans H; with_reducible exact H2_) | with_reducible exact H | (rw [hy157]; exact H) | exact H
                    have Ny157 := Aside0.mk hy157
                    clear hy157
                    have H' := Aside0.mk H
                    clear H
                    have p142 : 0 ≤ (x12_3 : Int) := dq_
                    have q142 : x12_3 < (x7_2.length : Int) := dq_
                    obtain ⟨ad142, e142, hx142_0⟩ := Kd.at_int (Kd.R_reads' HO_7.out).2.2 x12_3 p142 q142
                    cases e142
                    replace p142 := eq_true p142
                    replace q142 := eq_true q142
                    have p143 : 0 ≤ (x8_2 : Int) := dq_
                    have q143 : x8_2 < (l0.length : Int) := dq_
                    obtain ⟨ad143, e143, hx143_0⟩ := Kd.at_int HR0.out x8_2 p143 q143
                    obtain rfl : ad130 = ad143 := (by injection e143)
                    replace hx143_0 := (HB.out.cell (World.block_lt_of_cell? w _ hx143_0)).trans hx143_0
                    replace p143 := eq_true p143
                    replace q143 := eq_true q143
                    have p156 : 0 ≤ (x12_3 : Int) := dq_
                    have q156 : x12_3 < (x7_2.length : Int) := dq_
                    obtain ⟨ad156, e156, hx156_0⟩ := Kd.at_int (Kd.R_reads' HO_7.out).2.2 x12_3 p156 q156
                    obtain rfl : ad142 = ad156 := (by injection e156)
                    replace p156 := eq_true p156
                    replace q156 := eq_true q156
                    go_wp2_with (first | ((with_reducible refine gate_builtin (b := .append) (xs := #[.tmp 103, .tmp 108]) rfl ?_); at_builtin; refine Kd.R_append (Kd.int .i64) (w0 := w) w.heap.size rfl (.tmp 103) (.tmp 108) 30 3 (.int .i64 0) 8 rfl Tryz.underlying30 info3 rfl (by decide) (by omega) u10 x10_3 (rd x7_2 x12_3) [.int .i64 (rd x7_2 x12_3)] (fun k_ => some k_ ≠ (.slice (some ad142) x7_2.length co17 : Value).ownBlock) (fun _ => False) rfl rfl ?aP (fun _ hk => hk.elim) ?aF ?aO ?aB ?aS ?aL ?_; (case aP => exact rfl); (case aB => exact bel_); (case aF => exact (fun k_ hk => Kd.fresh' (Kd.R_lt (vR_ HO_7.out)) k_ hk)); (case aO => exact (vR_ HO_10.out)); (case aS => exact (below_size bel_)); (case aL => have := LMc30.out; omega); intro v158 w31 ho hb hg hat; rw [← Ny157.out] at ho; replace HO_7 := Aside0.mk (Kd.R_after (ok := (fun _ => True)) (by refine vR_ ?_; exact Kd.R_mono HO_7.out (fun _ hk => ⟨trivial, hk⟩)) hg hat); replace HB := Aside0.mk (hb); have HO159 := Aside0.mk (ho); clear HO_10; clear ho hb hg hat))
                    repeat (go_quiet (first | ((with_reducible refine gate_builtin (b := .append) (xs := #[.tmp 103, .tmp 108]) rfl ?_); at_builtin; refine Kd.R_append (Kd.int .i64) (w0 := w) w.heap.size rfl (.tmp 103) (.tmp 108) 30 3 (.int .i64 0) 8 rfl Tryz.underlying30 info3 rfl (by decide) (by omega) u10 x10_3 (rd x7_2 x12_3) [.int .i64 (rd x7_2 x12_3)] (fun k_ => some k_ ≠ (.slice (some ad142) x7_2.length co17 : Value).ownBlock) (fun _ => False) rfl rfl ?aP (fun _ hk => hk.elim) ?aF ?aO ?aB ?aS ?aL ?_; (case aP => exact rfl); (case aB => exact bel_); (case aF => exact (fun k_ hk => Kd.fresh' (Kd.R_lt (vR_ HO_7.out)) k_ hk)); (case aO => exact (vR_ HO_10.out)); (case aS => exact (below_size bel_)); (case aL => have := LMc30.out; omega); intro v158 w31 ho hb hg hat; rw [← Ny157.out] at ho; replace HO_7 := Aside0.mk (Kd.R_after (ok := (fun _ => True)) (by refine vR_ ?_; exact Kd.R_mono HO_7.out (fun _ hk => ⟨trivial, hk⟩)) hg hat); replace HB := Aside0.mk (hb); have HO159 := Aside0.mk (ho); clear HO_10; clear ho hb hg hat)); try go_wp2_with (first | ((with_reducible refine gate_builtin (b := .append) (xs := #[.tmp 103, .tmp 108]) rfl ?_); at_builtin; refine Kd.R_append (Kd.int .i64) (w0 := w) w.heap.size rfl (.tmp 103) (.tmp 108) 30 3 (.int .i64 0) 8 rfl Tryz.underlying30 info3 rfl (by decide) (by omega) u10 x10_3 (rd x7_2 x12_3) [.int .i64 (rd x7_2 x12_3)] (fun k_ => some k_ ≠ (.slice (some ad142) x7_2.length co17 : Value).ownBlock) (fun _ => False) rfl rfl ?aP (fun _ hk => hk.elim) ?aF ?aO ?aB ?aS ?aL ?_; (case aP => exact rfl); (case aB => exact bel_); (case aF => exact (fun k_ hk => Kd.fresh' (Kd.R_lt (vR_ HO_7.out)) k_ hk)); (case aO => exact (vR_ HO_10.out)); (case aS => exact (below_size bel_)); (case aL => have := LMc30.out; omega); intro v158 w31 ho hb hg hat; rw [← Ny157.out] at ho; replace HO_7 := Aside0.mk (Kd.R_after (ok := (fun _ => True)) (by refine vR_ ?_; exact Kd.R_mono HO_7.out (fun _ hk => ⟨trivial, hk⟩)) hg hat); replace HB := Aside0.mk (hb); have HO159 := Aside0.mk (ho); clear HO_10; clear ho hb hg hat)))
                    go_roundg k3
                    case measure => have := HK1.out; have := HK2.out; have := HK3.out; omega
                    case rel => exact ⟨(y157), (x11_3), (wrap64 (x12_3 + 1)), eq_, eq_, H', ⟨by have := HK1.out; have := HK2.out; have := HK3.out; omega⟩, ⟨by refine vR_ ?_; exact Kd.R_mono HO_7.out (fun _ hk => hk.2)⟩, ⟨by refine vR_ ?_; exact HO159.out⟩, ⟨bel_⟩⟩
                   ·
                    rw [if_neg c30] at H
                    exact absurd H (by simp)
                 ·
                  rw [if_neg c21] at H
                  exact absurd H (by simp)
                ·
                 rw [if_neg c20] at H
                 exact absurd H (by simp)
               ·
                rw [if_neg c19] at H
                exact absurd H (by simp)
              ·
               rw [if_neg c18] at H
               have c18b0 : decide (x12_3 < (x7_2.length : Int)) = false := decide_eq_false c18
               clear c18
               by_cases c32 : x11_3 = true
               ·
                subst c32
                rw [if_pos rfl] at H
                have H' := Aside0.mk H
                clear H
                go_wp2
                repeat (go_quiet (fail); try go_wp2)
                go_roundg k3
                case measure => have := HK1.out; have := HK2.out; have := HK3.out; omega
                case rel => exact ⟨(x10_3), (wrap64 (x8_2 + 1)), eq_, H', ⟨by have := HK1.out; have := HK2.out; have := HK3.out; omega⟩, ⟨by refine vR_ ?_; exact Kd.R_mono HO_10.out (fun _ hk => trivial)⟩, ⟨bel_⟩⟩
               ·
                replace c32 := Bool.eq_false_iff.mpr c32
                subst c32
                have H1 : (if 0 ≤ x8_2 then (if x8_2 < (l0.length : Int) then (if x10_3.length < 17592186044416 then (jigsawref02_Of.l1 k3 l0 (x10_3 ++ [rd l0 x8_2]) (wrap64 (x8_2 + 1))) else (none)) else (none)) else (none)) = some (r1, r2) := by rw [if_neg (show ¬ (false = true) by decide)] at H; exact H
                clear H
                have H := H1
                clear H1
                by_cases c33 : 0 ≤ x8_2
                ·
                 rw [if_pos c33] at H
                 have c33b0 : decide (0 ≤ x8_2) = true := decide_eq_true c33
                 clear c33
                 by_cases c34 : x8_2 < (l0.length : Int)
                 ·
                  rw [if_pos c34] at H
                  have c34b0 : decide (x8_2 < (l0.length : Int)) = true := decide_eq_true c34
                  clear c34
                  by_cases c35 : x10_3.length < 17592186044416
                  ·
                   rw [if_pos c35] at H
                   have LMc35 := Aside0.mk c35
                   clear c35
                   obtain ⟨y161, hy161⟩ : ∃ y_ : List Int, y_ = (x10_3 ++ [rd l0 x8_2]) := ⟨_, rfl⟩
                   replace H : (jigsawref02_Of.l1 k3 l0 y161 (wrap64 (x8_2 + 1))) = some (r1, r2) := by first | (rw [hy161]; with_reducible exact H) | (have H2_ := (Option.bind_some _ _).symm.trans H; rw [hy161]; with_reducible exact H2_) | (have H2_ := (Option.bind_some _ _).symm.trans H; with_reducible exact H2_) | with_reducible exact H | (rw [hy161]; exact H) | exact H
                   have Ny161 := Aside0.mk hy161
                   clear hy161
                   have H' := Aside0.mk H
                   clear H
                   have p160 : 0 ≤ (x8_2 : Int) := dq_
                   have q160 : x8_2 < (l0.length : Int) := dq_
                   obtain ⟨ad160, e160, hx160_0⟩ := Kd.at_int HR0.out x8_2 p160 q160
                   obtain rfl : ad130 = ad160 := (by injection e160)
                   replace hx160_0 := (HB.out.cell (World.block_lt_of_cell? w _ hx160_0)).trans hx160_0
                   replace p160 := eq_true p160
                   replace q160 := eq_true q160
                   go_wp2_with (first | ((with_reducible refine gate_builtin (b := .append) (xs := #[.tmp 112, .tmp 117]) rfl ?_); at_builtin; refine Kd.R_append (Kd.int .i64) (w0 := w) w.heap.size rfl (.tmp 112) (.tmp 117) 30 3 (.int .i64 0) 8 rfl Tryz.underlying30 info3 rfl (by decide) (by omega) u10 x10_3 (rd l0 x8_2) [.int .i64 (rd l0 x8_2)] (fun k_ => some k_ ≠ (.slice Ao17 x7_2.length co17 : Value).ownBlock) (fun _ => False) rfl rfl ?aP (fun _ hk => hk.elim) ?aF ?aO ?aB ?aS ?aL ?_; (case aP => exact rfl); (case aB => exact bel_); (case aF => exact (fun k_ hk => Kd.fresh' (Kd.R_lt (vR_ HO_7.out)) k_ hk)); (case aO => exact (vR_ HO_10.out)); (case aS => exact (below_size bel_)); (case aL => have := LMc35.out; omega); intro v162 w36 ho hb hg hat; rw [← Ny161.out] at ho; replace HO_7 := Aside0.mk (Kd.R_after (ok := (fun _ => True)) (by refine vR_ ?_; exact Kd.R_mono HO_7.out (fun _ hk => ⟨trivial, hk⟩)) hg hat); replace HB := Aside0.mk (hb); have HO163 := Aside0.mk (ho); clear HO_10; clear ho hb hg hat))
                   repeat (go_quiet (first | ((with_reducible refine gate_builtin (b := .append) (xs := #[.tmp 112, .tmp 117]) rfl ?_); at_builtin; refine Kd.R_append (Kd.int .i64) (w0 := w) w.heap.size rfl (.tmp 112) (.tmp 117) 30 3 (.int .i64 0) 8 rfl Tryz.underlying30 info3 rfl (by decide) (by omega) u10 x10_3 (rd l0 x8_2) [.int .i64 (rd l0 x8_2)] (fun k_ => some k_ ≠ (.slice Ao17 x7_2.length co17 : Value).ownBlock) (fun _ => False) rfl rfl ?aP (fun _ hk => hk.elim) ?aF ?aO ?aB ?aS ?aL ?_; (case aP => exact rfl); (case aB => exact bel_); (case aF => exact (fun k_ hk => Kd.fresh' (Kd.R_lt (vR_ HO_7.out)) k_ hk)); (case aO => exact (vR_ HO_10.out)); (case aS => exact (below_size bel_)); (case aL => have := LMc35.out; omega); intro v162 w36 ho hb hg hat; rw [← Ny161.out] at ho; replace HO_7 := Aside0.mk (Kd.R_after (ok := (fun _ => True)) (by refine vR_ ?_; exact Kd.R_mono HO_7.out (fun _ hk => ⟨trivial, hk⟩)) hg hat); replace HB := Aside0.mk (hb); have HO163 := Aside0.mk (ho); clear HO_10; clear ho hb hg hat)); try go_wp2_with (first | ((with_reducible refine gate_builtin (b := .append) (xs := #[.tmp 112, .tmp 117]) rfl ?_); at_builtin; refine Kd.R_append (Kd.int .i64) (w0 := w) w.heap.size rfl (.tmp 112) (.tmp 117) 30 3 (.int .i64 0) 8 rfl Tryz.underlying30 info3 rfl (by decide) (by omega) u10 x10_3 (rd l0 x8_2) [.int .i64 (rd l0 x8_2)] (fun k_ => some k_ ≠ (.slice Ao17 x7_2.length co17 : Value).ownBlock) (fun _ => False) rfl rfl ?aP (fun _ hk => hk.elim) ?aF ?aO ?aB ?aS ?aL ?_; (case aP => exact rfl); (case aB => exact bel_); (case aF => exact (fun k_ hk => Kd.fresh' (Kd.R_lt (vR_ HO_7.out)) k_ hk)); (case aO => exact (vR_ HO_10.out)); (case aS => exact (below_size bel_)); (case aL => have := LMc35.out; omega); intro v162 w36 ho hb hg hat; rw [← Ny161.out] at ho; replace HB := Aside0.mk (hb); have HO163 := Aside0.mk (ho); clear HO_10; clear ho hb hg hat)))
                   go_roundg k3
                   case measure => have := HK1.out; have := HK2.out; have := HK3.out; omega
                   case rel => exact ⟨(y161), (wrap64 (x8_2 + 1)), eq_, H', ⟨by have := HK1.out; have := HK2.out; have := HK3.out; omega⟩, ⟨by refine vR_ ?_; exact Kd.R_mono HO163.out (fun _ hk => trivial)⟩, ⟨bel_⟩⟩
                  ·
                   rw [if_neg c35] at H
                   exact absurd H (by simp)
                 ·
                  rw [if_neg c34] at H
                  exact absurd H (by simp)
                ·
                 rw [if_neg c33] at H
                 exact absurd H (by simp)
          ·
           rw [if_neg c13] at H
           exact absurd H (by simp)
         ·
          rw [if_neg c12] at H
          have c12b0 : decide (x8_2 < (l0.length : Int)) = false := decide_eq_false c12
          clear c12
          simp only [Option.some.injEq, Prod.mk.injEq] at H
          obtain ⟨rfl, rfl⟩ := H
          go_wp2
          repeat (go_quiet (fail); try go_wp2)
          go_ret2
          exact ⟨_, by first | rfl | (simp [errW_none, errW_some] <;> rfl) | (simp [*, errW_none, errW_some] <;> rfl), by refine vR_ ?_; exact HO_7.out, bel_⟩
  ·
   rw [if_neg c3] at H
   exact absurd H (by simp)


/-! ### jigsawref02_Small: function 25 -/
def jigsawref02_Small.l0 : Nat → List Int → Int → Int → List Int → Int → Option (List Int)
 | 0, _, _, _, _, _ => none
 | k + 1, x0, x1, x2, x7, x8 => if x8 < (x0.length : Int) then (if x8 < x1 then (if 0 ≤ x8 then (if x2 = 0 then (none) else (if x7.length < 17592186044416 then (jigsawref02_Small.l0 k x0 x1 x2 (x7 ++ [Int.tmod (rd x0 x8) x2]) (wrap64 (x8 + 1))) else (none))) else (none)) else ((jigsawref02_Of.f k x7).bind fun bt168 => (some bt168.1))) else ((jigsawref02_Of.f k x7).bind fun bt172 => (some bt172.1))
def jigsawref02_Small.f (k : Nat) (l0 : List Int) (a1 : Int) (a2 : Int) : Option (List Int) := jigsawref02_Small.l0 k l0 a1 a2 ([] : List Int) 0
theorem jigsawref02_Small.mono_l : ∀ k, (∀ y0 y1 y2 y3 y4, LeO (jigsawref02_Small.l0 k y0 y1 y2 y3 y4) (jigsawref02_Small.l0 (k + 1) y0 y1 y2 y3 y4))
 | 0 => fun _ _ _ _ _ r h => by simp [jigsawref02_Small.l0] at h
 | k + 1 => by
  have ih0 := jigsawref02_Small.mono_l k
  ·
   intro y0 y1 y2 y3 y4
   unfold jigsawref02_Small.l0
   have m0 := @jigsawref02_Of.mono
   exact leo_
theorem jigsawref02_Small.mono : ∀ a0 a1 a2 k, LeO (jigsawref02_Small.f k a0 a1 a2) (jigsawref02_Small.f (k + 1) a0 a1 a2) := by
 intro a0 a1 a2 k
 have ih0 := jigsawref02_Small.mono_l k
 unfold jigsawref02_Small.f
 have m0 := @jigsawref02_Of.mono
 exact leo_
set_option maxHeartbeats 8000000 in
set_option maxRecDepth 100000 in
theorem jigsawref02_Small.calls (k : Nat) (A0 : Option Addr) (c0 : Nat) (l0 : List Int) (a1 : Int) (a2 : Int) (r : List Int) (w : World) (hr0 : Kd.C (Kd.int .i64) w A0 l0.length l0) (hc0 : l0.length ≤ c0) (h : jigsawref02_Small.f k l0 a1 a2 = some r) :
  Calls Tryz.prog 25 #[.slice A0 l0.length c0, .int .i64 a1, .int .i64 a2] w fun e w' => ∃ v0_ : Value, e = .returned (v0_) ∧ Kd.R (Kd.int .i64) 3 w' w.heap.size (fun _ => True) v0_ r ∧ Below w.heap.size w w' := by
 have HR0 := Aside0.mk hr0
 have HC0 := Aside0.mk hc0
 clear hr0 hc0
 have HB := Aside0.mk (Below.refl w.heap.size w)
 unfold jigsawref02_Small.f at h
 have H := h
 clear h
 have H' := Aside0.mk H
 clear H
 go_enter Tryz.func25, Tryz.ntmps25
 go_wp2
 go_loopg [7, 8] k (fun kq v7 v8 w' => ∃ (x7_1 : List Int) (x8_1 : Int), v8 = .int .i64 x8_1 ∧ Aside0 (jigsawref02_Small.l0 kq l0 a1 a2 x7_1 x8_1 = some r) ∧ Aside0 (kq ≤ k) ∧ Aside0 (Kd.R (Kd.int .i64) 3 w' w.heap.size (fun _ => True) v7 x7_1) ∧ Aside0 (Below w.heap.size w w'))
 case atStart => exact ⟨(([] : List Int)), (0), eq_, H', ⟨Nat.le_refl _⟩, ⟨nil_⟩, ⟨bel_⟩⟩
 case round =>
  clear H'
  try clear c2
  try clear p2
  obtain ⟨x7_1, x8_1, rfl, HA, HK1, HO_7, HB⟩ := hrel
  cases gk with
  | zero => exact absurd HA.out (by simp [jigsawref02_Small.l0])
  | succ k1 =>
   have H := HA.out
   clear HA
   simp only [jigsawref02_Small.l0] at H
   by_cases c4 : x8_1 < (l0.length : Int)
   ·
    rw [if_pos c4] at H
    have c4b0 : decide (x8_1 < (l0.length : Int)) = true := decide_eq_true c4
    clear c4
    by_cases c5 : x8_1 < a1
    ·
     rw [if_pos c5] at H
     have c5b0 : decide (x8_1 < a1) = true := decide_eq_true c5
     clear c5
     by_cases c6 : 0 ≤ x8_1
     ·
      rw [if_pos c6] at H
      have c6b0 : decide (0 ≤ x8_1) = true := decide_eq_true c6
      clear c6
      by_cases c7 : a2 = 0
      ·
       rw [if_pos c7] at H
       exact absurd H (by simp)
      ·
       rw [if_neg c7] at H
       have c7b0 : (a2 == 0) = false := beq_eq_false_iff_ne.mpr c7
       have c7b1 : (a2 != 0) = true := bne_iff_ne.mpr c7
       by_cases c8 : x7_1.length < 17592186044416
       ·
        rw [if_pos c8] at H
        have LMc8 := Aside0.mk c8
        clear c8
        obtain ⟨y165, hy165⟩ : ∃ y_ : List Int, y_ = (x7_1 ++ [Int.tmod (rd l0 x8_1) a2]) := ⟨_, rfl⟩
        replace H : (jigsawref02_Small.l0 k1 l0 a1 a2 y165 (wrap64 (x8_1 + 1))) = some r := by first | (rw [hy165]; with_reducible exact H) | (have H2_ := (Option.bind_some _ _).symm.trans H; rw [hy165]; with_reducible exact H2_) | (have H2_ := (Option.bind_some _ _).symm.trans H; with_reducible exact H2_) | with_reducible exact H | (rw [hy165]; exact H) | exact H
        have Ny165 := Aside0.mk hy165
        clear hy165
        have H' := Aside0.mk H
        clear H
        have p164 : 0 ≤ (x8_1 : Int) := dq_
        have q164 : x8_1 < (l0.length : Int) := dq_
        obtain ⟨ad164, e164, hx164_0⟩ := Kd.at_int HR0.out x8_1 p164 q164
        cases e164
        replace hx164_0 := (HB.out.cell (World.block_lt_of_cell? w _ hx164_0)).trans hx164_0
        replace p164 := eq_true p164
        replace q164 := eq_true q164
        go_wp2_with (first | ((with_reducible refine gate_builtin (b := .append) (xs := #[.tmp 29, .tmp 31]) rfl ?_); at_builtin; refine Kd.R_append (Kd.int .i64) (w0 := w) w.heap.size rfl (.tmp 29) (.tmp 31) 30 3 (.int .i64 0) 8 rfl Tryz.underlying30 info3 rfl (by decide) (by omega) u7 x7_1 (Int.tmod (rd l0 x8_1) a2) [.int .i64 (Int.tmod (rd l0 x8_1) a2)] (fun _ => True) (fun _ => False) rfl rfl ?aP (fun _ hk => hk.elim) ?aF ?aO ?aB ?aS ?aL ?_; (case aP => exact rfl); (case aB => exact bel_); (case aF => exact (fun _ _ => trivial)); (case aO => exact (vR_ HO_7.out)); (case aS => exact (below_size bel_)); (case aL => have := LMc8.out; omega); intro v166 w9 ho hb hg hat; rw [← Ny165.out] at ho; replace HB := Aside0.mk (hb); have HO167 := Aside0.mk (ho); clear HO_7; clear ho hb hg hat))
        go_roundg k1
        case measure => have := HK1.out; omega
        case rel => exact ⟨(y165), (wrap64 (x8_1 + 1)), eq_, H', ⟨by have := HK1.out; omega⟩, ⟨by refine vR_ ?_; exact HO167.out⟩, ⟨bel_⟩⟩
       ·
        rw [if_neg c8] at H
        exact absurd H (by simp)
     ·
      rw [if_neg c6] at H
      exact absurd H (by simp)
    ·
     rw [if_neg c5] at H
     have c5b0 : decide (x8_1 < a1) = false := decide_eq_false c5
     clear c5
     replace H := Option.bind_eq_some_iff.mp H
     obtain ⟨⟨t168, t169⟩, A100, H⟩ := H
     try dsimp only at H
     have A10 := Aside0.mk A100
     clear A100
     obtain rfl := Option.some.inj H
     obtain ⟨Ao11, co11, eo11⟩ := Kd.R_slice HO_7.out
     subst eo11
     go_wp2_with (first | ((with_reducible refine gate_callee (f := 53) rfl ?_); refine goesL_ (some 35) rfl rfl Tryz.func53 (by kernel_rfl) rfl #[.slice Ao11 x7_1.length co11] rfl ar_ ?_; (with_reducible refine (jigsawref02_Of.calls k1 _ _ x7_1 t168 t169 _ ?_ ?_ A10.out).mono ?_); exact ca_ ((Kd.R_reads' HO_7.out).2.2); exact (Kd.R_reads' HO_7.out).2.1; rintro e w12 ⟨v170, rfl, ho0, hb⟩; refine ⟨_, rfl, ?_⟩; have HO171 := Aside0.mk (Kd.R_lower (Kd.R_new' ho0 (Kd.R_lt (vR_ HO_7.out))) (below_size bel_)); replace HB := Aside0.mk (below_step bel_ hb); clear hb ho0))
     go_ret
     exact ⟨_, by first | rfl | (simp [errW_none, errW_some] <;> rfl) | (simp [*, errW_none, errW_some] <;> rfl), by refine vR_ ?_; exact Kd.R_mono HO171.out (fun _ hk => trivial), bel_⟩
   ·
    rw [if_neg c4] at H
    have c4b0 : decide (x8_1 < (l0.length : Int)) = false := decide_eq_false c4
    clear c4
    replace H := Option.bind_eq_some_iff.mp H
    obtain ⟨⟨t172, t173⟩, A130, H⟩ := H
    try dsimp only at H
    have A13 := Aside0.mk A130
    clear A130
    obtain rfl := Option.some.inj H
    obtain ⟨Ao14, co14, eo14⟩ := Kd.R_slice HO_7.out
    subst eo14
    go_wp2_with (first | ((with_reducible refine gate_callee (f := 53) rfl ?_); refine goesL_ (some 35) rfl rfl Tryz.func53 (by kernel_rfl) rfl #[.slice Ao14 x7_1.length co14] rfl ar_ ?_; (with_reducible refine (jigsawref02_Of.calls k1 _ _ x7_1 t172 t173 _ ?_ ?_ A13.out).mono ?_); exact ca_ ((Kd.R_reads' HO_7.out).2.2); exact (Kd.R_reads' HO_7.out).2.1; rintro e w15 ⟨v174, rfl, ho0, hb⟩; refine ⟨_, rfl, ?_⟩; have HO175 := Aside0.mk (Kd.R_lower (Kd.R_new' ho0 (Kd.R_lt (vR_ HO_7.out))) (below_size bel_)); replace HB := Aside0.mk (below_step bel_ hb); clear hb ho0))
    go_ret
    exact ⟨_, by first | rfl | (simp [errW_none, errW_some] <;> rfl) | (simp [*, errW_none, errW_some] <;> rfl), by refine vR_ ?_; exact Kd.R_mono HO175.out (fun _ hk => trivial), bel_⟩


/-! ### jigsawref10_Make: function 7 -/
def jigsawref10_Make.l0 : Nat → Int → List (List Int) → Int → Int → List Int → List Int → List Int → Int → Int → List (List Int) → Int → List Int → List Int → List Int → List Int → List Int → Int → List (List Int) → Option (Int × List Int × List Int × List Int × List Int × List Int × Int × (List (List Int)) × (List (List Int)))
 | 0, _, _, _, _, _, _, _, _, _, _, _, _, _, _, _, _, _, _ => none
 | k + 1, x2, x9, x10, x177000, x177001, x177002, x177003, x177004, x177005, x177006, x199000, x199001, x199002, x199003, x199004, x199005, x199006, x199007 => if x10 < (wrap64 ((x199001.length : Int) + (x199002.length : Int))) then ((some (([Int.tmod x10 3, 1] : List Int) : List Int)).bind fun y199 => (if x10 < (x177006.length : Int) then (if 0 ≤ x10 then (if ((rd_L7 x177006 x10).length : Int) > 0 then ((jigsawref02_Small.f k (rd_L7 x177006 x10) 6 x2).bind fun t204 => (if x9.length < 5864062014805 then (jigsawref10_Make.l0 k x2 (x9 ++ [t204]) (wrap64 (x10 + 1)) x177000 x177001 x177002 x177003 x177004 x177005 x177006 x199000 x199001 x199002 x199003 x199004 x199005 x199006 x199007) else (none))) else ((jigsawref02_Small.f k y199 6 x2).bind fun t210 => (if x9.length < 5864062014805 then (jigsawref10_Make.l0 k x2 (x9 ++ [t210]) (wrap64 (x10 + 1)) x177000 x177001 x177002 x177003 x177004 x177005 x177006 x199000 x199001 x199002 x199003 x199004 x199005 x199006 x199007) else (none)))) else (none)) else ((jigsawref02_Small.f k y199 6 x2).bind fun t216 => (if x9.length < 5864062014805 then (jigsawref10_Make.l0 k x2 (x9 ++ [t216]) (wrap64 (x10 + 1)) x177000 x177001 x177002 x177003 x177004 x177005 x177006 x199000 x199001 x199002 x199003 x199004 x199005 x199006 x199007) else (none))))) else (some (x199000, x199001, x199002, x199003, x199004, x199005, x199006, x199007, x9))
def jigsawref10_Make.f (k : Nat) (a0_0 : Int) (l0_1 : List Int) (l0_2 : List Int) (l0_3 : List Int) (a0_4 : Int) (a0_5 : Int) (l0_6 : List (List Int)) (a1 : Int) (a2 : Int) : Option (Int × List Int × List Int × List Int × List Int × List Int × Int × (List (List Int)) × (List (List Int))) := (jigsawref06_Make.f k ((wrap64 (a1 - 1)) % 256) l0_1 l0_2 l0_3 a0_4 a0_5 5).bind fun bt178 => (jigsawref10_Make.l0 k a2 ([] : List (List Int)) 0 ((wrap64 (a1 - 1)) % 256) l0_1 l0_2 l0_3 a0_4 a0_5 l0_6 bt178.1 bt178.2.1 bt178.2.2.1 bt178.2.2.2.1 bt178.2.2.2.2.1 bt178.2.2.2.2.2.1 bt178.2.2.2.2.2.2.1 bt178.2.2.2.2.2.2.2)
theorem jigsawref10_Make.mono_l : ∀ k, (∀ y0 y1 y2 y3 y4 y5 y6 y7 y8 y9 y10 y11 y12 y13 y14 y15 y16 y17, LeO (jigsawref10_Make.l0 k y0 y1 y2 y3 y4 y5 y6 y7 y8 y9 y10 y11 y12 y13 y14 y15 y16 y17) (jigsawref10_Make.l0 (k + 1) y0 y1 y2 y3 y4 y5 y6 y7 y8 y9 y10 y11 y12 y13 y14 y15 y16 y17))
 | 0 => fun _ _ _ _ _ _ _ _ _ _ _ _ _ _ _ _ _ _ r h => by simp [jigsawref10_Make.l0] at h
 | k + 1 => by
  have ih0 := jigsawref10_Make.mono_l k
  ·
   intro y0 y1 y2 y3 y4 y5 y6 y7 y8 y9 y10 y11 y12 y13 y14 y15 y16 y17
   unfold jigsawref10_Make.l0
   have m0 := @jigsawref02_Small.mono
   have m1 := @jigsawref06_Make.mono
   exact leo_
theorem jigsawref10_Make.mono : ∀ a0 a1 a2 a3 a4 a5 a6 a7 a8 k, LeO (jigsawref10_Make.f k a0 a1 a2 a3 a4 a5 a6 a7 a8) (jigsawref10_Make.f (k + 1) a0 a1 a2 a3 a4 a5 a6 a7 a8) := by
 intro a0 a1 a2 a3 a4 a5 a6 a7 a8 k
 have ih0 := jigsawref10_Make.mono_l k
 unfold jigsawref10_Make.f
 have m0 := @jigsawref02_Small.mono
 have m1 := @jigsawref06_Make.mono
 exact leo_
set_option maxHeartbeats 8000000 in
set_option maxRecDepth 100000 in
theorem jigsawref10_Make.calls (k : Nat) (a0_0 : Int) (A0_1 : Option Addr) (c0_1 : Nat) (l0_1 : List Int) (A0_2 : Option Addr) (c0_2 : Nat) (l0_2 : List Int) (A0_3 : Option Addr) (c0_3 : Nat) (l0_3 : List Int) (a0_4 : Int) (a0_5 : Int) (A0_6 : Option Addr) (c0_6 : Nat) (l0_6 : List (List Int)) (a1 : Int) (a2 : Int) (r1 : Int) (r2 : List Int) (r3 : List Int) (r4 : List Int) (r5 : List Int) (r6 : List Int) (r7 : Int) (r8 : List (List Int)) (r9 : List (List Int)) (w : World) (hr0_1 : Kd.C (Kd.int .u8) w A0_1 l0_1.length l0_1) (hc0_1 : l0_1.length ≤ c0_1) (hr0_2 : Kd.C (Kd.int .u8) w A0_2 l0_2.length l0_2) (hc0_2 : l0_2.length ≤ c0_2) (hr0_3 : Kd.C (Kd.int .i8) w A0_3 l0_3.length l0_3) (hc0_3 : l0_3.length ≤ c0_3) (hr0_6 : Kd.C (Kd.slice 3 (Kd.int .i64)) w A0_6 l0_6.length l0_6) (hc0_6 : l0_6.length ≤ c0_6) (h : jigsawref10_Make.f k a0_0 l0_1 l0_2 l0_3 a0_4 a0_5 l0_6 a1 a2 = some (r1, r2, r3, r4, r5, r6, r7, r8, r9)) :
  Calls Tryz.prog 7 #[.agg #[.int .u8 a0_0, .slice A0_1 l0_1.length c0_1, .slice A0_2 l0_2.length c0_2, .slice A0_3 l0_3.length c0_3, .int .i16 a0_4, .int .u8 a0_5, .slice A0_6 l0_6.length c0_6], .int .i64 a1, .int .i64 a2] w fun e w' => ∃ v1_ v2_ v3_ v4_ v5_ v7_ v8_ : Value, e = .returned (.tuple #[.agg #[.int .i64 r1, v1_, v2_, v3_, v4_, v5_, .int .i64 r7, v7_], v8_]) ∧ Kd.R (Kd.int .i64) 3 w' w.heap.size (fun k_ => some k_ ≠ (v2_ : Value).ownBlock ∧ some k_ ≠ (v3_ : Value).ownBlock ∧ some k_ ≠ (v4_ : Value).ownBlock ∧ some k_ ≠ (v5_ : Value).ownBlock) v1_ r2 ∧ Kd.R (Kd.int .i64) 3 w' w.heap.size (fun k_ => some k_ ≠ (v1_ : Value).ownBlock ∧ some k_ ≠ (v3_ : Value).ownBlock ∧ some k_ ≠ (v4_ : Value).ownBlock ∧ some k_ ≠ (v5_ : Value).ownBlock) v2_ r3 ∧ Kd.R (Kd.int .i64) 3 w' w.heap.size (fun k_ => some k_ ≠ (v1_ : Value).ownBlock ∧ some k_ ≠ (v2_ : Value).ownBlock ∧ some k_ ≠ (v4_ : Value).ownBlock ∧ some k_ ≠ (v5_ : Value).ownBlock) v3_ r4 ∧ Kd.R (Kd.int .i64) 3 w' w.heap.size (fun k_ => some k_ ≠ (v1_ : Value).ownBlock ∧ some k_ ≠ (v2_ : Value).ownBlock ∧ some k_ ≠ (v3_ : Value).ownBlock ∧ some k_ ≠ (v5_ : Value).ownBlock) v4_ r5 ∧ Kd.R (Kd.int .i64) 3 w' w.heap.size (fun k_ => some k_ ≠ (v1_ : Value).ownBlock ∧ some k_ ≠ (v2_ : Value).ownBlock ∧ some k_ ≠ (v3_ : Value).ownBlock ∧ some k_ ≠ (v4_ : Value).ownBlock) v5_ r6 ∧ Kd.S (Kd.slice 3 (Kd.int .i64)) 30 w' w.heap.size (fun k_ => some k_ ≠ (v1_ : Value).ownBlock ∧ some k_ ≠ (v2_ : Value).ownBlock ∧ some k_ ≠ (v3_ : Value).ownBlock ∧ some k_ ≠ (v4_ : Value).ownBlock ∧ some k_ ≠ (v5_ : Value).ownBlock ∧ some k_ ≠ (v8_ : Value).ownBlock) v7_ r8 ∧ Kd.S (Kd.slice 3 (Kd.int .i64)) 30 w' w.heap.size (fun k_ => some k_ ≠ (v1_ : Value).ownBlock ∧ some k_ ≠ (v2_ : Value).ownBlock ∧ some k_ ≠ (v3_ : Value).ownBlock ∧ some k_ ≠ (v4_ : Value).ownBlock ∧ some k_ ≠ (v5_ : Value).ownBlock ∧ some k_ ≠ (v7_ : Value).ownBlock) v8_ r9 ∧ Below w.heap.size w w' := by
 have hu29 := Tryz.underlying29
 have hu32 := Tryz.underlying32
 have hu26 := Tryz.underlying26
 have HR0_1 := Aside0.mk hr0_1
 have HC0_1 := Aside0.mk hc0_1
 clear hr0_1 hc0_1
 have HR0_2 := Aside0.mk hr0_2
 have HC0_2 := Aside0.mk hc0_2
 clear hr0_2 hc0_2
 have HR0_3 := Aside0.mk hr0_3
 have HC0_3 := Aside0.mk hc0_3
 clear hr0_3 hc0_3
 have HR0_6 := Aside0.mk hr0_6
 have HC0_6 := Aside0.mk hc0_6
 clear hr0_6 hc0_6
 have HB := Aside0.mk (Below.refl w.heap.size w)
 unfold jigsawref10_Make.f at h
 have H := h
 clear h
 replace H := Option.bind_eq_some_iff.mp H
 obtain ⟨⟨t178, t179, t182, t185, t188, t191, t194, t195⟩, A40, H⟩ := H
 try dsimp only at H
 have A4 := Aside0.mk A40
 clear A40
 have H' := Aside0.mk H
 clear H
 go_enter Tryz.func7, Tryz.ntmps7
 go_wp2_with (first | ((with_reducible refine gate_dst (N := 3) rfl ?_); (try (refine gate_guard (by rfl) ?_; dsimp only)); refine bxe_ (N := 3) (cs := #[.int .u8 a0_0, .slice A0_1 l0_1.length c0_1, .slice A0_2 l0_2.length c0_2, .slice A0_3 l0_3.length c0_3, .int .i16 a0_4, .int .u8 a0_5, .slice A0_6 l0_6.length c0_6]) (t := 29) ?_; intro gb176 hg w5 hbox hb; have BK176 := Aside0.mk (hbox); have GW176 := Aside0.mk (by rw [hg]; exact (below_size bel_) : w.heap.size ≤ gb176); have GE176 := GW176; replace HB := Aside0.mk (below_step bel_ hb); clear hb hbox hg) | ((with_reducible refine gate_dst (N := 6) rfl ?_); (try (refine gate_guard (by rfl) ?_; dsimp only)); refine bxe_ (N := 6) (cs := #[.int .i64 0, .slice none 0 0, .slice none 0 0, .slice none 0 0, .slice none 0 0, .slice none 0 0, .int .i64 0, .slice none 0 0]) (t := 32) ?_; intro gb177 hg w6 hbox hb; have BK177 := Aside0.mk (hbox); have GW177 := Aside0.mk (by rw [hg]; exact (below_size bel_) : w.heap.size ≤ gb177); have GE177 := GW177; replace HB := Aside0.mk (below_step bel_ hb); have NB176_177 := Aside0.mk ((by rw [hg]; exact Nat.ne_of_lt (blk_lt (bk_ BK176.out)) : gb176 ≠ gb177)); have NB177_176 := Aside0.mk ((by rw [hg]; exact Nat.ne_of_gt (blk_lt (bk_ BK176.out)) : gb177 ≠ gb176)); replace BK176 := Aside0.mk (blk_below (bk_ BK176.out) hb); clear hb hbox hg; have hnb7 := NB176_177.out; have hnc7 := NB177_176.out; have hcz8_0 : w6.cell? ⟨gb176, 0, none⟩ = some (.int .u8 a0_0) := (blk_cell BK176.out 0).trans rfl; have hcz8_1 : w6.cell? ⟨gb176, 1, none⟩ = some (.slice A0_1 l0_1.length c0_1) := (blk_cell BK176.out 1).trans rfl; have hcz8_2 : w6.cell? ⟨gb176, 2, none⟩ = some (.slice A0_2 l0_2.length c0_2) := (blk_cell BK176.out 2).trans rfl; have hcz8_3 : w6.cell? ⟨gb176, 3, none⟩ = some (.slice A0_3 l0_3.length c0_3) := (blk_cell BK176.out 3).trans rfl; have hcz8_4 : w6.cell? ⟨gb176, 4, none⟩ = some (.int .i16 a0_4) := (blk_cell BK176.out 4).trans rfl; have hcz8_5 : w6.cell? ⟨gb176, 5, none⟩ = some (.int .u8 a0_5) := (blk_cell BK176.out 5).trans rfl; have hcz8_6 : w6.cell? ⟨gb176, 6, none⟩ = some (.slice A0_6 l0_6.length c0_6) := (blk_cell BK176.out 6).trans rfl; have hfz8_0 := blk_frozen BK176.out 0; have hfz8_1 := blk_frozen BK176.out 1; have hfz8_2 := blk_frozen BK176.out 2; have hfz8_3 := blk_frozen BK176.out 3; have hfz8_4 := blk_frozen BK176.out 4; have hfz8_5 := blk_frozen BK176.out 5; have hfz8_6 := blk_frozen BK176.out 6) | ((with_reducible refine gate_callee (f := 19) rfl ?_); refine goesL_ (some 20) rfl rfl Tryz.func19 (by kernel_rfl) rfl #[.agg #[.int .u8 ((wrap64 (a1 - 1)) % 256), .slice A0_1 l0_1.length c0_1, .slice A0_2 l0_2.length c0_2, .slice A0_3 l0_3.length c0_3, .int .i16 a0_4, .int .u8 a0_5], .int .i64 5] rfl ar_ ?_; (with_reducible refine (jigsawref06_Make.calls k ((wrap64 (a1 - 1)) % 256) _ _ l0_1 _ _ l0_2 _ _ l0_3 a0_4 a0_5 5 t178 t179 t182 t185 t188 t191 t194 t195 _ ?_ ?_ ?_ ?_ ?_ ?_ A4.out).mono ?_); exact Kd.C_below HR0_1.out bel_; exact HC0_1.out; exact Kd.C_below HR0_2.out bel_; exact HC0_2.out; exact Kd.C_below HR0_3.out bel_; exact HC0_3.out; rintro e w9 ⟨v180, v183, v186, v189, v192, v196, rfl, ho0, ho1, ho2, ho3, ho4, ho5, hb⟩; refine ⟨_, rfl, ?_⟩; have HO181 := Aside0.mk (Kd.R_lower ho0 (below_size bel_)); have HO184 := Aside0.mk (Kd.R_lower ho1 (below_size bel_)); have HO187 := Aside0.mk (Kd.R_lower ho2 (below_size bel_)); have HO190 := Aside0.mk (Kd.R_lower ho3 (below_size bel_)); have HO193 := Aside0.mk (Kd.R_lower ho4 (below_size bel_)); have HO197 := Aside0.mk (Kd.S_lower ho5 (below_size bel_)); replace BK176 := Aside0.mk (blk_below (g := gb176) (o := .cells #[.int .u8 ((wrap64 (a1 - 1)) % 256), .slice A0_1 l0_1.length c0_1, .slice A0_2 l0_2.length c0_2, .slice A0_3 l0_3.length c0_3, .int .i16 a0_4, .int .u8 a0_5, .slice A0_6 l0_6.length c0_6] 29 (0, 0)) (by refine bk_ ?_; refine blk_put (cs := #[.int .u8 a0_0, .slice A0_1 l0_1.length c0_1, .slice A0_2 l0_2.length c0_2, .slice A0_3 l0_3.length c0_3, .int .i16 a0_4, .int .u8 a0_5, .slice A0_6 l0_6.length c0_6]) ?_ 0 _ rfl; refine bk_ ?_; exact BK176.out) hb); replace BK177 := Aside0.mk (blk_below (g := gb177) (o := .cells #[.int .i64 0, .slice none 0 0, .slice none 0 0, .slice none 0 0, .slice none 0 0, .slice none 0 0, .int .i64 0, .slice none 0 0] 32 (0, 0)) (by refine bk_ ?_; refine blk_far ?_ NB177_176.out _; refine bk_ ?_; exact BK177.out) hb); replace HB := Aside0.mk (below_step bel_ hb); clear hb ho0 ho1 ho2 ho3 ho4 ho5) | ((with_reducible refine gate_dst (N := 8) rfl ?_); (try (refine gate_guard (by rfl) ?_; dsimp only)); refine bxe_ (N := 8) (cs := #[.int .i64 0, .slice none 0 0, .slice none 0 0, .slice none 0 0, .slice none 0 0, .slice none 0 0, .int .i64 0, .slice none 0 0]) (t := 32) ?_; intro gb198 hg w10 hbox hb; replace HO181 := Aside0.mk (Kd.R_below (vR_ HO181.out) hb); replace HO184 := Aside0.mk (Kd.R_below (vR_ HO184.out) hb); replace HO187 := Aside0.mk (Kd.R_below (vR_ HO187.out) hb); replace HO190 := Aside0.mk (Kd.R_below (vR_ HO190.out) hb); replace HO193 := Aside0.mk (Kd.R_below (vR_ HO193.out) hb); replace HO197 := Aside0.mk (Kd.S_below (vS_ HO197.out) hb); have BK198 := Aside0.mk (hbox); have GW198 := Aside0.mk (by rw [hg]; exact (below_size bel_) : w.heap.size ≤ gb198); have GE198 := GW198; replace HB := Aside0.mk (below_step bel_ hb); have NB176_198 := Aside0.mk ((by rw [hg]; exact Nat.ne_of_lt (blk_lt (bk_ BK176.out)) : gb176 ≠ gb198)); have NB198_176 := Aside0.mk ((by rw [hg]; exact Nat.ne_of_gt (blk_lt (bk_ BK176.out)) : gb198 ≠ gb176)); replace BK176 := Aside0.mk (blk_below (bk_ BK176.out) hb); have NB177_198 := Aside0.mk ((by rw [hg]; exact Nat.ne_of_lt (blk_lt (bk_ BK177.out)) : gb177 ≠ gb198)); have NB198_177 := Aside0.mk ((by rw [hg]; exact Nat.ne_of_gt (blk_lt (bk_ BK177.out)) : gb198 ≠ gb177)); replace BK177 := Aside0.mk (blk_below (bk_ BK177.out) hb); clear hb hbox hg; have hnb11 := NB198_176.out; have hnc11 := NB176_198.out; have hnb12 := NB198_177.out; have hnc12 := NB177_198.out; obtain ⟨_, _, _, _, _, _, _, _, _, _, _, _, _, _, _, _⟩ := cel8_ BK198.out; obtain ⟨Ao14, co14, eo14⟩ := Kd.R_slice HO181.out; subst eo14; obtain ⟨Ao15, co15, eo15⟩ := Kd.R_slice HO184.out; subst eo15; obtain ⟨Ao16, co16, eo16⟩ := Kd.R_slice HO187.out; subst eo16; obtain ⟨Ao17, co17, eo17⟩ := Kd.R_slice HO190.out; subst eo17; obtain ⟨Ao18, co18, eo18⟩ := Kd.R_slice HO193.out; subst eo18; obtain ⟨Ao19, co19, eo19⟩ := Kd.S_slice HO197.out; subst eo19))
 go_loopg [9, 10] k (fun kq v9 v10 w' => ∃ (x9_1 : List (List Int)) (x10_1 : Int), v10 = .int .i64 x10_1 ∧ Aside0 (jigsawref10_Make.l0 kq a2 x9_1 x10_1 ((wrap64 (a1 - 1)) % 256) l0_1 l0_2 l0_3 a0_4 a0_5 l0_6 t178 t179 t182 t185 t188 t191 t194 t195 = some (r1, r2, r3, r4, r5, r6, r7, r8, r9)) ∧ Aside0 (kq ≤ k) ∧ Aside0 (Kd.S (Kd.slice 3 (Kd.int .i64)) 30 w' w.heap.size (fun k_ => some k_ ≠ ((.slice Ao14 t179.length co14) : Value).ownBlock ∧ some k_ ≠ ((.slice Ao15 t182.length co15) : Value).ownBlock ∧ some k_ ≠ ((.slice Ao16 t185.length co16) : Value).ownBlock ∧ some k_ ≠ ((.slice Ao17 t188.length co17) : Value).ownBlock ∧ some k_ ≠ ((.slice Ao18 t191.length co18) : Value).ownBlock ∧ some k_ ≠ ((.slice Ao19 t195.length co19) : Value).ownBlock) v9 x9_1) ∧ Aside0 (Kd.R (Kd.int .i64) 3 w' w.heap.size (fun k_ => some k_ ≠ ((.slice Ao15 t182.length co15) : Value).ownBlock ∧ some k_ ≠ ((.slice Ao16 t185.length co16) : Value).ownBlock ∧ some k_ ≠ ((.slice Ao17 t188.length co17) : Value).ownBlock ∧ some k_ ≠ ((.slice Ao18 t191.length co18) : Value).ownBlock) (.slice Ao14 t179.length co14) t179) ∧ Aside0 (Kd.R (Kd.int .i64) 3 w' w.heap.size (fun k_ => some k_ ≠ ((.slice Ao14 t179.length co14) : Value).ownBlock ∧ some k_ ≠ ((.slice Ao16 t185.length co16) : Value).ownBlock ∧ some k_ ≠ ((.slice Ao17 t188.length co17) : Value).ownBlock ∧ some k_ ≠ ((.slice Ao18 t191.length co18) : Value).ownBlock) (.slice Ao15 t182.length co15) t182) ∧ Aside0 (Kd.R (Kd.int .i64) 3 w' w.heap.size (fun k_ => some k_ ≠ ((.slice Ao14 t179.length co14) : Value).ownBlock ∧ some k_ ≠ ((.slice Ao15 t182.length co15) : Value).ownBlock ∧ some k_ ≠ ((.slice Ao17 t188.length co17) : Value).ownBlock ∧ some k_ ≠ ((.slice Ao18 t191.length co18) : Value).ownBlock) (.slice Ao16 t185.length co16) t185) ∧ Aside0 (Kd.R (Kd.int .i64) 3 w' w.heap.size (fun k_ => some k_ ≠ ((.slice Ao14 t179.length co14) : Value).ownBlock ∧ some k_ ≠ ((.slice Ao15 t182.length co15) : Value).ownBlock ∧ some k_ ≠ ((.slice Ao16 t185.length co16) : Value).ownBlock ∧ some k_ ≠ ((.slice Ao18 t191.length co18) : Value).ownBlock) (.slice Ao17 t188.length co17) t188) ∧ Aside0 (Kd.R (Kd.int .i64) 3 w' w.heap.size (fun k_ => some k_ ≠ ((.slice Ao14 t179.length co14) : Value).ownBlock ∧ some k_ ≠ ((.slice Ao15 t182.length co15) : Value).ownBlock ∧ some k_ ≠ ((.slice Ao16 t185.length co16) : Value).ownBlock ∧ some k_ ≠ ((.slice Ao17 t188.length co17) : Value).ownBlock) (.slice Ao18 t191.length co18) t191) ∧ Aside0 (Kd.S (Kd.slice 3 (Kd.int .i64)) 30 w' w.heap.size (fun k_ => some k_ ≠ (v9 : Value).ownBlock ∧ some k_ ≠ ((.slice Ao14 t179.length co14) : Value).ownBlock ∧ some k_ ≠ ((.slice Ao15 t182.length co15) : Value).ownBlock ∧ some k_ ≠ ((.slice Ao16 t185.length co16) : Value).ownBlock ∧ some k_ ≠ ((.slice Ao17 t188.length co17) : Value).ownBlock ∧ some k_ ≠ ((.slice Ao18 t191.length co18) : Value).ownBlock) (.slice Ao19 t195.length co19) t195) ∧ Aside0 (w'.heap[gb176]? = some (.cells #[.int .u8 ((wrap64 (a1 - 1)) % 256), (.slice A0_1 l0_1.length c0_1), (.slice A0_2 l0_2.length c0_2), (.slice A0_3 l0_3.length c0_3), .int .i16 a0_4, .int .u8 a0_5, (.slice A0_6 l0_6.length c0_6)] 29 (0, 0))) ∧ Aside0 (w'.heap[gb177]? = some (.cells #[.int .i64 0, (.slice none 0 0), (.slice none 0 0), (.slice none 0 0), (.slice none 0 0), (.slice none 0 0), .int .i64 0, (.slice none 0 0)] 32 (0, 0))) ∧ Aside0 (w'.heap[gb198]? = some (.cells #[.int .i64 t178, (.slice Ao14 t179.length co14), (.slice Ao15 t182.length co15), (.slice Ao16 t185.length co16), (.slice Ao17 t188.length co17), (.slice Ao18 t191.length co18), .int .i64 t194, (.slice Ao19 t195.length co19)] 32 (0, 0))) ∧ Aside0 (Below w.heap.size w w'))
 case atStart => exact ⟨(([] : List (List Int))), (0), eq_, H', ⟨Nat.le_refl _⟩, ⟨nil_⟩, ⟨by refine vR_ ?_; exact Kd.R_mono (fR_ (fR_ (fR_ (fR_ (fR_ (fR_ (fR_ (fR_ (Kd.R_types HO181.out BK198.out (by decide)))))))))) (fun _ hk => ⟨hk.1.1, ⟨hk.1.2.1, ⟨hk.1.2.2.1, hk.1.2.2.2⟩⟩⟩)⟩, ⟨by refine vR_ ?_; exact Kd.R_mono (fR_ (fR_ (fR_ (fR_ (fR_ (fR_ (fR_ (fR_ (Kd.R_types HO184.out BK198.out (by decide)))))))))) (fun _ hk => ⟨hk.1.1, ⟨hk.1.2.1, ⟨hk.1.2.2.1, hk.1.2.2.2⟩⟩⟩)⟩, ⟨by refine vR_ ?_; exact Kd.R_mono (fR_ (fR_ (fR_ (fR_ (fR_ (fR_ (fR_ (fR_ (Kd.R_types HO187.out BK198.out (by decide)))))))))) (fun _ hk => ⟨hk.1.1, ⟨hk.1.2.1, ⟨hk.1.2.2.1, hk.1.2.2.2⟩⟩⟩)⟩, ⟨by refine vR_ ?_; exact Kd.R_mono (fR_ (fR_ (fR_ (fR_ (fR_ (fR_ (fR_ (fR_ (Kd.R_types HO190.out BK198.out (by decide)))))))))) (fun _ hk => ⟨hk.1.1, ⟨hk.1.2.1, ⟨hk.1.2.2.1, hk.1.2.2.2⟩⟩⟩)⟩, ⟨by refine vR_ ?_; exact Kd.R_mono (fR_ (fR_ (fR_ (fR_ (fR_ (fR_ (fR_ (fR_ (Kd.R_types HO193.out BK198.out (by decide)))))))))) (fun _ hk => ⟨hk.1.1, ⟨hk.1.2.1, ⟨hk.1.2.2.1, hk.1.2.2.2⟩⟩⟩)⟩, ⟨by refine vS_ ?_; exact Kd.S_mono (fS_ (fS_ (fS_ (fS_ (fS_ (fS_ (fS_ (fS_ (Kd.S_types HO197.out BK198.out (by decide)))))))))) (fun _ hk => ⟨(by simp [Value.ownBlock]), ⟨hk.1.1, ⟨hk.1.2.1, ⟨hk.1.2.2.1, ⟨hk.1.2.2.2.1, hk.1.2.2.2.2⟩⟩⟩⟩⟩)⟩, ⟨by refine bk_ ?_; refine blk_far ?_ NB176_198.out _; refine bk_ ?_; refine blk_far ?_ NB176_198.out _; refine bk_ ?_; refine blk_far ?_ NB176_198.out _; refine bk_ ?_; refine blk_far ?_ NB176_198.out _; refine bk_ ?_; refine blk_far ?_ NB176_198.out _; refine bk_ ?_; refine blk_far ?_ NB176_198.out _; refine bk_ ?_; refine blk_far ?_ NB176_198.out _; refine bk_ ?_; refine blk_far ?_ NB176_198.out _; refine bk_ ?_; exact BK176.out⟩, ⟨by refine bk_ ?_; refine blk_far ?_ NB177_198.out _; refine bk_ ?_; refine blk_far ?_ NB177_198.out _; refine bk_ ?_; refine blk_far ?_ NB177_198.out _; refine bk_ ?_; refine blk_far ?_ NB177_198.out _; refine bk_ ?_; refine blk_far ?_ NB177_198.out _; refine bk_ ?_; refine blk_far ?_ NB177_198.out _; refine bk_ ?_; refine blk_far ?_ NB177_198.out _; refine bk_ ?_; refine blk_far ?_ NB177_198.out _; refine bk_ ?_; exact BK177.out⟩, ⟨by refine bk_ ?_; refine blk_put (cs := #[.int .i64 t178, .slice Ao14 t179.length co14, .slice Ao15 t182.length co15, .slice Ao16 t185.length co16, .slice Ao17 t188.length co17, .slice Ao18 t191.length co18, .int .i64 t194, .slice none 0 0]) ?_ 7 _ rfl; refine bk_ ?_; refine blk_put (cs := #[.int .i64 t178, .slice Ao14 t179.length co14, .slice Ao15 t182.length co15, .slice Ao16 t185.length co16, .slice Ao17 t188.length co17, .slice Ao18 t191.length co18, .int .i64 0, .slice none 0 0]) ?_ 6 _ rfl; refine bk_ ?_; refine blk_put (cs := #[.int .i64 t178, .slice Ao14 t179.length co14, .slice Ao15 t182.length co15, .slice Ao16 t185.length co16, .slice Ao17 t188.length co17, .slice none 0 0, .int .i64 0, .slice none 0 0]) ?_ 5 _ rfl; refine bk_ ?_; refine blk_put (cs := #[.int .i64 t178, .slice Ao14 t179.length co14, .slice Ao15 t182.length co15, .slice Ao16 t185.length co16, .slice none 0 0, .slice none 0 0, .int .i64 0, .slice none 0 0]) ?_ 4 _ rfl; refine bk_ ?_; refine blk_put (cs := #[.int .i64 t178, .slice Ao14 t179.length co14, .slice Ao15 t182.length co15, .slice none 0 0, .slice none 0 0, .slice none 0 0, .int .i64 0, .slice none 0 0]) ?_ 3 _ rfl; refine bk_ ?_; refine blk_put (cs := #[.int .i64 t178, .slice Ao14 t179.length co14, .slice none 0 0, .slice none 0 0, .slice none 0 0, .slice none 0 0, .int .i64 0, .slice none 0 0]) ?_ 2 _ rfl; refine bk_ ?_; refine blk_put (cs := #[.int .i64 t178, .slice none 0 0, .slice none 0 0, .slice none 0 0, .slice none 0 0, .slice none 0 0, .int .i64 0, .slice none 0 0]) ?_ 1 _ rfl; refine bk_ ?_; refine blk_put (cs := #[.int .i64 0, .slice none 0 0, .slice none 0 0, .slice none 0 0, .slice none 0 0, .slice none 0 0, .int .i64 0, .slice none 0 0]) ?_ 0 _ rfl; refine bk_ ?_; exact BK198.out⟩, ⟨bel_⟩⟩
 case round =>
  clear H'
  try clear c1
  try clear p2
  try clear p6
  try clear c7
  try clear c11
  try clear c12
  try clear c19
  try clear hcz8_0
  try clear hcz8_1
  try clear hcz8_2
  try clear hcz8_3
  try clear hcz8_4
  try clear hcz8_5
  try clear hcz8_6
  try clear hfz8_0
  try clear hfz8_1
  try clear hfz8_2
  try clear hfz8_3
  try clear hfz8_4
  try clear hfz8_5
  try clear hfz8_6
  obtain ⟨x9_1, x10_1, rfl, HA, HK1, HO_9, HO_199001, HO_199002, HO_199003, HO_199004, HO_199005, HO_199007, BK176, BK177, BK198, HB⟩ := hrel
  cases gk with
  | zero => exact absurd HA.out (by simp [jigsawref10_Make.l0])
  | succ k1 =>
   have H := HA.out
   clear HA
   simp only [jigsawref10_Make.l0] at H
   by_cases c20 : x10_1 < (wrap64 ((t179.length : Int) + (t182.length : Int)))
   ·
    rw [if_pos c20] at H
    have c20b0 : decide (x10_1 < (wrap64 ((t179.length : Int) + (t182.length : Int)))) = true := decide_eq_true c20
    clear c20
    obtain ⟨y199, hy199⟩ : ∃ y_ : List Int, y_ = (([Int.tmod x10_1 3, 1] : List Int)) := ⟨_, rfl⟩
    replace H : (if x10_1 < (l0_6.length : Int) then (if 0 ≤ x10_1 then (if ((rd_L7 l0_6 x10_1).length : Int) > 0 then ((jigsawref02_Small.f k1 (rd_L7 l0_6 x10_1) 6 a2).bind fun t204 => (if x9_1.length < 5864062014805 then (jigsawref10_Make.l0 k1 a2 (x9_1 ++ [t204]) (wrap64 (x10_1 + 1)) ((wrap64 (a1 - 1)) % 256) l0_1 l0_2 l0_3 a0_4 a0_5 l0_6 t178 t179 t182 t185 t188 t191 t194 t195) else (none))) else ((jigsawref02_Small.f k1 y199 6 a2).bind fun t210 => (if x9_1.length < 5864062014805 then (jigsawref10_Make.l0 k1 a2 (x9_1 ++ [t210]) (wrap64 (x10_1 + 1)) ((wrap64 (a1 - 1)) % 256) l0_1 l0_2 l0_3 a0_4 a0_5 l0_6 t178 t179 t182 t185 t188 t191 t194 t195) else (none)))) else (none)) else ((jigsawref02_Small.f k1 y199 6 a2).bind fun t216 => (if x9_1.length < 5864062014805 then (jigsawref10_Make.l0 k1 a2 (x9_1 ++ [t216]) (wrap64 (x10_1 + 1)) ((wrap64 (a1 - 1)) % 256) l0_1 l0_2 l0_3 a0_4 a0_5 l0_6 t178 t179 t182 t185 t188 t191 t194 t195) else (none)))) = some (r1, r2, r3, r4, r5, r6, r7, r8, r9) := by first | (rw [hy199]; with_reducible exact H) | (have H2_ := (Option.bind_some _ _).symm.trans H; rw [hy199]; with_reducible exact H2_) | (have H2_ := (Option.bind_some _ _).symm.trans H; with_reducible exact H2_) | with_reducible exact H | (rw [hy199]; exact H) | exact H
    have Ny199 := Aside0.mk hy199
    clear hy199
    by_cases c21 : x10_1 < (l0_6.length : Int)
    ·
     rw [if_pos c21] at H
     have c21b0 : decide (x10_1 < (l0_6.length : Int)) = true := decide_eq_true c21
     clear c21
     by_cases c22 : 0 ≤ x10_1
     ·
      rw [if_pos c22] at H
      have c22b0 : decide (0 ≤ x10_1) = true := decide_eq_true c22
      clear c22
      by_cases c23 : ((rd_L7 l0_6 x10_1).length : Int) > 0
      ·
       rw [if_pos c23] at H
       have c23b0 : decide (0 < ((rd_L7 l0_6 x10_1).length : Int)) = true := decide_eq_true c23
       have c23b1 : decide (0 < (rd_L7 l0_6 x10_1).length) = true := decide_eq_true (by omega)
       clear c23
       replace H := Option.bind_eq_some_iff.mp H
       obtain ⟨t204, A240, H⟩ := H
       try dsimp only at H
       have A24 := Aside0.mk A240
       clear A240
       by_cases c25 : x9_1.length < 5864062014805
       ·
        rw [if_pos c25] at H
        have LMc25 := Aside0.mk c25
        clear c25
        obtain ⟨y207, hy207⟩ : ∃ y_ : List (List Int), y_ = (x9_1 ++ [t204]) := ⟨_, rfl⟩
        replace H : (jigsawref10_Make.l0 k1 a2 y207 (wrap64 (x10_1 + 1)) ((wrap64 (a1 - 1)) % 256) l0_1 l0_2 l0_3 a0_4 a0_5 l0_6 t178 t179 t182 t185 t188 t191 t194 t195) = some (r1, r2, r3, r4, r5, r6, r7, r8, r9) := by first | (rw [hy207]; with_reducible exact H) | (have H2_ := (Option.bind_some _ _).symm.trans H; rw [hy207]; with_reducible exact H2_) | (have H2_ := (Option.bind_some _ _).symm.trans H; with_reducible exact H2_) | with_reducible exact H | (rw [hy207]; exact H) | exact H
        have Ny207 := Aside0.mk hy207
        clear hy207
        have H' := Aside0.mk H
        clear H
        have hnb26 := NB198_176.out
        have hnc26 := NB176_198.out
        have hnb27 := NB198_177.out
        have hnc27 := NB177_198.out
        obtain ⟨_, _, _, _, _, _, _, _, _, _, _, _, _, _, _, _⟩ := cel8_ BK198.out
        go_wp2_with (first | ((with_reducible refine gate_dst (N := 34) rfl ?_); (try (refine gate_guard (by rfl) ?_; dsimp only)); refine Kd.R_lit (Kd.int .i64) _ 3 ?hg (N := 34) ?hd (xs := ([Int.tmod x10_1 3, 1] : List Int)) (inner := [.int .i64 (Int.tmod x10_1 3), .int .i64 1]) (ok := fun _ => True) (okp := fun _ => True) ?hr ?hp (fun _ hk => hk) trivial (Below.refl _ _) (Nat.le_refl _) (by simp) ?_; (case hd => rfl); (case hg => rfl); (case hr => first | (go_simp; done) | (go_simp; rfl)); (case hp => exact (Reps.one (show Kd.M (Kd.int .i64) _ _ _ (Int.tmod x10_1 3) [.int .i64 (Int.tmod x10_1 3)] from rfl) (Reps.one (show Kd.M (Kd.int .i64) _ _ _ 1 [.int .i64 1] from rfl) (Reps.none _ _)))); intro v200 w29 ho30 hb hg_ hnew_; clear hg_ hnew_; (first | rw [← Ny199.out] at ho30 | (simp only [Int.reduceToNat] at ho30; rw [← Ny199.out] at ho30)); replace HO_9 := Aside0.mk (Kd.S_elder' (vS_ HO_9.out) (Kd.R_base ho30) hb); replace HO_199007 := Aside0.mk (Kd.S_elder' (vS_ HO_199007.out) (Kd.R_base ho30) hb); have HO201 := Aside0.mk (Kd.R_lower (Kd.R_new' (Kd.R_new' (Kd.R_new' (Kd.R_new' (Kd.R_new' ho30 (Kd.R_lt (vR_ HO_199001.out))) (Kd.R_lt (vR_ HO_199002.out))) (Kd.R_lt (vR_ HO_199003.out))) (Kd.R_lt (vR_ HO_199004.out))) (Kd.R_lt (vR_ HO_199005.out))) (below_size bel_)); replace HO_199001 := Aside0.mk (Kd.R_elder' (vR_ HO_199001.out) (Kd.R_base ho30) hb); replace HO_199002 := Aside0.mk (Kd.R_elder' (vR_ HO_199002.out) (Kd.R_base ho30) hb); replace HO_199003 := Aside0.mk (Kd.R_elder' (vR_ HO_199003.out) (Kd.R_base ho30) hb); replace HO_199004 := Aside0.mk (Kd.R_elder' (vR_ HO_199004.out) (Kd.R_base ho30) hb); replace HO_199005 := Aside0.mk (Kd.R_elder' (vR_ HO_199005.out) (Kd.R_base ho30) hb); replace BK176 := Aside0.mk (blk_below (bk_ BK176.out) hb); replace BK177 := Aside0.mk (blk_below (bk_ BK177.out) hb); replace BK198 := Aside0.mk (blk_below (bk_ BK198.out) hb); replace HB := Aside0.mk (below_step bel_ hb); clear hb ho30; have hnb31 := NB176_177.out; have hnc31 := NB177_176.out; have hcz32_0 : w29.cell? ⟨gb176, 0, none⟩ = some (.int .u8 ((wrap64 (a1 - 1)) % 256)) := (blk_cell BK176.out 0).trans rfl; have hcz32_1 : w29.cell? ⟨gb176, 1, none⟩ = some (.slice A0_1 l0_1.length c0_1) := (blk_cell BK176.out 1).trans rfl; have hcz32_2 : w29.cell? ⟨gb176, 2, none⟩ = some (.slice A0_2 l0_2.length c0_2) := (blk_cell BK176.out 2).trans rfl; have hcz32_3 : w29.cell? ⟨gb176, 3, none⟩ = some (.slice A0_3 l0_3.length c0_3) := (blk_cell BK176.out 3).trans rfl; have hcz32_4 : w29.cell? ⟨gb176, 4, none⟩ = some (.int .i16 a0_4) := (blk_cell BK176.out 4).trans rfl; have hcz32_5 : w29.cell? ⟨gb176, 5, none⟩ = some (.int .u8 a0_5) := (blk_cell BK176.out 5).trans rfl; have hcz32_6 : w29.cell? ⟨gb176, 6, none⟩ = some (.slice A0_6 l0_6.length c0_6) := (blk_cell BK176.out 6).trans rfl; have hfz32_0 := blk_frozen BK176.out 0; have hfz32_1 := blk_frozen BK176.out 1; have hfz32_2 := blk_frozen BK176.out 2; have hfz32_3 := blk_frozen BK176.out 3; have hfz32_4 := blk_frozen BK176.out 4; have hfz32_5 := blk_frozen BK176.out 5; have hfz32_6 := blk_frozen BK176.out 6; have p202 : 0 ≤ (x10_1 : Int) := dq_; have q202 : x10_1 < (l0_6.length : Int) := dq_; obtain ⟨ad202, A202_0, c202_0, e202, hx202_0, hl202_0, hi202_0⟩ := at_L7 HR0_6.out x10_1 p202 q202; cases e202; replace hx202_0 := (HB.out.cell (World.block_lt_of_cell? w _ hx202_0)).trans hx202_0; have HC202_0 := Aside0.mk hl202_0; clear hi202_0 hl202_0; replace p202 := eq_true p202; replace q202 := eq_true q202; have p203 : 0 ≤ (x10_1 : Int) := dq_; have q203 : x10_1 < (l0_6.length : Int) := dq_; obtain ⟨ad203, A203_0, c203_0, e203, hx203_0, hl203_0, hi203_0⟩ := at_L7 HR0_6.out x10_1 p203 q203; obtain rfl : ad202 = ad203 := (by injection e203); replace hx203_0 := (HB.out.cell (World.block_lt_of_cell? w _ hx203_0)).trans hx203_0; have HR203_0 := Aside0.mk hi203_0; have HC203_0 := Aside0.mk hl203_0; clear hi203_0 hl203_0; replace p203 := eq_true p203; replace q203 := eq_true q203; have ea_ := Option.some.inj (hx202_0.symm.trans hx203_0); injection ea_ with ea_ en_ ec_; subst ea_; subst ec_; clear en_) | ((with_reducible refine gate_callee (f := 25) rfl ?_); refine goesL_ (some 56) rfl rfl Tryz.func25 (by kernel_rfl) rfl #[.slice A202_0 (rd_L7 l0_6 x10_1).length c202_0, .int .i64 6, .int .i64 a2] rfl ar_ ?_; (with_reducible refine (jigsawref02_Small.calls k1 _ _ (rd_L7 l0_6 x10_1) 6 a2 t204 _ ?_ ?_ A24.out).mono ?_); exact ca_ ((Kd.C_below HR203_0.out HB.out)); exact HC203_0.out; rintro e w33 ⟨v205, rfl, ho0, hb⟩; refine ⟨_, rfl, ?_⟩; replace HO_9 := Aside0.mk (Kd.S_elder' (vS_ HO_9.out) (Kd.R_base ho0) hb); replace HO_199007 := Aside0.mk (Kd.S_elder' (vS_ HO_199007.out) (Kd.R_base ho0) hb); have HO206 := Aside0.mk (Kd.R_lower (Kd.R_new' (Kd.R_new' (Kd.R_new' (Kd.R_new' (Kd.R_new' (Kd.R_new' ho0 (Kd.R_lt (vR_ HO_199001.out))) (Kd.R_lt (vR_ HO_199002.out))) (Kd.R_lt (vR_ HO_199003.out))) (Kd.R_lt (vR_ HO_199004.out))) (Kd.R_lt (vR_ HO_199005.out))) (Kd.R_lt (vR_ HO201.out))) (below_size bel_)); replace HO_199001 := Aside0.mk (Kd.R_elder' (vR_ HO_199001.out) (Kd.R_base ho0) hb); replace HO_199002 := Aside0.mk (Kd.R_elder' (vR_ HO_199002.out) (Kd.R_base ho0) hb); replace HO_199003 := Aside0.mk (Kd.R_elder' (vR_ HO_199003.out) (Kd.R_base ho0) hb); replace HO_199004 := Aside0.mk (Kd.R_elder' (vR_ HO_199004.out) (Kd.R_base ho0) hb); replace HO_199005 := Aside0.mk (Kd.R_elder' (vR_ HO_199005.out) (Kd.R_base ho0) hb); replace HO201 := Aside0.mk (Kd.R_elder' (vR_ HO201.out) (Kd.R_base ho0) hb); replace BK176 := Aside0.mk (blk_below (bk_ BK176.out) hb); replace BK177 := Aside0.mk (blk_below (bk_ BK177.out) hb); replace BK198 := Aside0.mk (blk_below (bk_ BK198.out) hb); replace HB := Aside0.mk (below_step bel_ hb); clear hb ho0; obtain ⟨Ao35, co35, eo35⟩ := Kd.R_slice HO206.out; subst eo35) | ((with_reducible refine gate_builtin (b := .append) (xs := #[.tmp 57, .tmp 59]) rfl ?_); (try (refine gate_guard (by rfl) ?_; dsimp only)); at_builtin; refine Kd.S_append (Kd.slice 3 (Kd.int .i64)) (w0 := w) w.heap.size rfl (.tmp 57) (.tmp 59) 27 30 (.slice none 0 0) 24 rfl Tryz.underlying27 info30 rfl (by decide) (by omega) u9 x9_1 t204 [.slice Ao35 t204.length co35] (fun k_ => some k_ ≠ (.slice Ao14 t179.length co14 : Value).ownBlock ∧ some k_ ≠ (.slice Ao15 t182.length co15 : Value).ownBlock ∧ some k_ ≠ (.slice Ao16 t185.length co16 : Value).ownBlock ∧ some k_ ≠ (.slice Ao17 t188.length co17 : Value).ownBlock ∧ some k_ ≠ (.slice Ao18 t191.length co18 : Value).ownBlock ∧ some k_ ≠ (.slice Ao19 t195.length co19 : Value).ownBlock ∧ some k_ ≠ (v200 : Value).ownBlock) (fun k_ => some k_ = (.slice Ao35 t204.length co35 : Value).ownBlock) rfl rfl ?aP (fun k_ hk_ => ((Kd.R_mono (ok' := fun k_ => ((fun k_ => some k_ ≠ (.slice Ao14 t179.length co14 : Value).ownBlock ∧ some k_ ≠ (.slice Ao15 t182.length co15 : Value).ownBlock ∧ some k_ ≠ (.slice Ao16 t185.length co16 : Value).ownBlock ∧ some k_ ≠ (.slice Ao17 t188.length co17 : Value).ownBlock ∧ some k_ ≠ (.slice Ao18 t191.length co18 : Value).ownBlock ∧ some k_ ≠ (.slice Ao19 t195.length co19 : Value).ownBlock ∧ some k_ ≠ (v200 : Value).ownBlock)) k_ ∧ some k_ ≠ (u9 : Value).ownBlock) (Kd.R_apart' (Kd.R_apart' (HO206.out) (Kd.S_typed HO_199007.out) (by decide)) (Kd.S_typed HO_9.out) (by decide)) (fun k_ hk => ⟨⟨hk.1.1.1.1.1.1.1.2, ⟨hk.1.1.1.1.1.1.2, ⟨hk.1.1.1.1.1.2, ⟨hk.1.1.1.1.2, ⟨hk.1.1.1.2, ⟨hk.1.2, hk.1.1.2⟩⟩⟩⟩⟩⟩, hk.2⟩))).1 k_ hk_.symm) ?aF ?aO ?aB ?aS ?aL ?_; (case aP => exact Kd.M_row (Kd.R_mono (Kd.R_tight rfl (Kd.R_mono (ok' := fun k_ => ((fun k_ => some k_ ≠ (.slice Ao14 t179.length co14 : Value).ownBlock ∧ some k_ ≠ (.slice Ao15 t182.length co15 : Value).ownBlock ∧ some k_ ≠ (.slice Ao16 t185.length co16 : Value).ownBlock ∧ some k_ ≠ (.slice Ao17 t188.length co17 : Value).ownBlock ∧ some k_ ≠ (.slice Ao18 t191.length co18 : Value).ownBlock ∧ some k_ ≠ (.slice Ao19 t195.length co19 : Value).ownBlock ∧ some k_ ≠ (v200 : Value).ownBlock)) k_ ∧ some k_ ≠ (u9 : Value).ownBlock) (Kd.R_apart' (Kd.R_apart' (HO206.out) (Kd.S_typed HO_199007.out) (by decide)) (Kd.S_typed HO_9.out) (by decide)) (fun k_ hk => ⟨⟨hk.1.1.1.1.1.1.1.2, ⟨hk.1.1.1.1.1.1.2, ⟨hk.1.1.1.1.1.2, ⟨hk.1.1.1.1.2, ⟨hk.1.1.1.2, ⟨hk.1.2, hk.1.1.2⟩⟩⟩⟩⟩⟩, hk.2⟩))) (fun _ h_ => h_))); (case aB => exact bel_); (case aF => exact (fun k_ hk => ⟨Kd.fresh' (Kd.R_lt (vR_ HO_199001.out)) k_ hk, Kd.fresh' (Kd.R_lt (vR_ HO_199002.out)) k_ hk, Kd.fresh' (Kd.R_lt (vR_ HO_199003.out)) k_ hk, Kd.fresh' (Kd.R_lt (vR_ HO_199004.out)) k_ hk, Kd.fresh' (Kd.R_lt (vR_ HO_199005.out)) k_ hk, Kd.fresh' (Kd.S_lt (vS_ HO_199007.out)) k_ hk, Kd.fresh' (Kd.R_lt (vR_ HO201.out)) k_ hk⟩)); (case aO => exact (by refine vS_ ?_; exact Kd.S_mono HO_9.out (fun k_ hk => ⟨⟨hk.1.1.1, ⟨hk.1.1.2.1, ⟨hk.1.1.2.2.1, ⟨hk.1.1.2.2.2.1, ⟨hk.1.1.2.2.2.2.1, ⟨hk.1.1.2.2.2.2.2, hk.1.2⟩⟩⟩⟩⟩⟩, fun e_ => hk.2 e_⟩))); (case aS => exact (below_size bel_)); (case aL => have := LMc25.out; omega); intro v208 w34 ho hb hg hat; rw [← Ny207.out] at ho; replace HO_199001 := Aside0.mk (Kd.R_over' (vR_ HO_199001.out) (Kd.S_typed (vS_ HO_9.out)) (by decide) hg); replace HO_199002 := Aside0.mk (Kd.R_over' (vR_ HO_199002.out) (Kd.S_typed (vS_ HO_9.out)) (by decide) hg); replace HO_199003 := Aside0.mk (Kd.R_over' (vR_ HO_199003.out) (Kd.S_typed (vS_ HO_9.out)) (by decide) hg); replace HO_199004 := Aside0.mk (Kd.R_over' (vR_ HO_199004.out) (Kd.S_typed (vS_ HO_9.out)) (by decide) hg); replace HO_199005 := Aside0.mk (Kd.R_over' (vR_ HO_199005.out) (Kd.S_typed (vS_ HO_9.out)) (by decide) hg); replace HO_199007 := Aside0.mk (Kd.S_after (ok := (fun k_ => some k_ ≠ (.slice Ao14 t179.length co14 : Value).ownBlock ∧ some k_ ≠ (.slice Ao15 t182.length co15 : Value).ownBlock ∧ some k_ ≠ (.slice Ao16 t185.length co16 : Value).ownBlock ∧ some k_ ≠ (.slice Ao17 t188.length co17 : Value).ownBlock ∧ some k_ ≠ (.slice Ao18 t191.length co18 : Value).ownBlock ∧ some k_ ≠ (v200 : Value).ownBlock ∧ some k_ ≠ (.slice Ao35 t204.length co35 : Value).ownBlock)) (by refine vS_ ?_; exact Kd.S_mono HO_199007.out (fun _ hk => ⟨⟨hk.1.1.2.1, ⟨hk.1.1.2.2.1, ⟨hk.1.1.2.2.2.1, ⟨hk.1.1.2.2.2.2.1, ⟨hk.1.1.2.2.2.2.2, ⟨hk.1.2, hk.2⟩⟩⟩⟩⟩⟩, hk.1.1.1⟩)) hg hat); replace BK176 := Aside0.mk (blk_grown (bk_ BK176.out) hg (Kd.S_ne HO_9.out BK176.out (by decide))); replace BK177 := Aside0.mk (blk_grown (bk_ BK177.out) hg (Kd.S_ne HO_9.out BK177.out (by decide))); replace BK198 := Aside0.mk (blk_grown (bk_ BK198.out) hg (Kd.S_ne HO_9.out BK198.out (by decide))); replace HB := Aside0.mk (hb); have HO209 := Aside0.mk (ho); clear HO_9 HO206; clear ho hb hg hat))
        go_roundg k1
        case measure => have := HK1.out; omega
        case rel => exact ⟨(y207), (wrap64 (x10_1 + 1)), eq_, H', ⟨by have := HK1.out; omega⟩, ⟨by refine vS_ ?_; exact Kd.S_mono HO209.out (fun _ hk => ⟨hk.1, ⟨hk.2.1, ⟨hk.2.2.1, ⟨hk.2.2.2.1, ⟨hk.2.2.2.2.1, hk.2.2.2.2.2.1⟩⟩⟩⟩⟩)⟩, ⟨by refine vR_ ?_; exact Kd.R_mono HO_199001.out (fun _ hk => ⟨hk.1.1.1, ⟨hk.1.1.2.1, ⟨hk.1.1.2.2.1, hk.1.1.2.2.2⟩⟩⟩)⟩, ⟨by refine vR_ ?_; exact Kd.R_mono HO_199002.out (fun _ hk => ⟨hk.1.1.1, ⟨hk.1.1.2.1, ⟨hk.1.1.2.2.1, hk.1.1.2.2.2⟩⟩⟩)⟩, ⟨by refine vR_ ?_; exact Kd.R_mono HO_199003.out (fun _ hk => ⟨hk.1.1.1, ⟨hk.1.1.2.1, ⟨hk.1.1.2.2.1, hk.1.1.2.2.2⟩⟩⟩)⟩, ⟨by refine vR_ ?_; exact Kd.R_mono HO_199004.out (fun _ hk => ⟨hk.1.1.1, ⟨hk.1.1.2.1, ⟨hk.1.1.2.2.1, hk.1.1.2.2.2⟩⟩⟩)⟩, ⟨by refine vR_ ?_; exact Kd.R_mono HO_199005.out (fun _ hk => ⟨hk.1.1.1, ⟨hk.1.1.2.1, ⟨hk.1.1.2.2.1, hk.1.1.2.2.2⟩⟩⟩)⟩, ⟨by refine vS_ ?_; exact Kd.S_mono HO_199007.out (fun _ hk => ⟨hk.2, ⟨hk.1.1, ⟨hk.1.2.1, ⟨hk.1.2.2.1, ⟨hk.1.2.2.2.1, hk.1.2.2.2.2.1⟩⟩⟩⟩⟩)⟩, ⟨by refine bk_ ?_; exact BK176.out⟩, ⟨by refine bk_ ?_; exact BK177.out⟩, ⟨by refine bk_ ?_; exact BK198.out⟩, ⟨bel_⟩⟩
       ·
        rw [if_neg c25] at H
        exact absurd H (by simp)
      ·
       rw [if_neg c23] at H
       have c23b0 : decide (0 < ((rd_L7 l0_6 x10_1).length : Int)) = false := decide_eq_false c23
       have c23b1 : decide (0 < (rd_L7 l0_6 x10_1).length) = false := decide_eq_false (by omega)
       clear c23
       replace H := Option.bind_eq_some_iff.mp H
       obtain ⟨t210, A360, H⟩ := H
       try dsimp only at H
       have A36 := Aside0.mk A360
       clear A360
       by_cases c37 : x9_1.length < 5864062014805
       ·
        rw [if_pos c37] at H
        have LMc37 := Aside0.mk c37
        clear c37
        obtain ⟨y213, hy213⟩ : ∃ y_ : List (List Int), y_ = (x9_1 ++ [t210]) := ⟨_, rfl⟩
        replace H : (jigsawref10_Make.l0 k1 a2 y213 (wrap64 (x10_1 + 1)) ((wrap64 (a1 - 1)) % 256) l0_1 l0_2 l0_3 a0_4 a0_5 l0_6 t178 t179 t182 t185 t188 t191 t194 t195) = some (r1, r2, r3, r4, r5, r6, r7, r8, r9) := by first | (rw [hy213]; with_reducible exact H) | (have H2_ := (Option.bind_some _ _).symm.trans H; rw [hy213]; with_reducible exact H2_) | (have H2_ := (Option.bind_some _ _).symm.trans H; with_reducible exact H2_) | with_reducible exact H | (rw [hy213]; exact H) | exact H
        have Ny213 := Aside0.mk hy213
        clear hy213
        have H' := Aside0.mk H
        clear H
        have hnb38 := NB198_176.out
        have hnc38 := NB176_198.out
        have hnb39 := NB198_177.out
        have hnc39 := NB177_198.out
        obtain ⟨_, _, _, _, _, _, _, _, _, _, _, _, _, _, _, _⟩ := cel8_ BK198.out
        go_wp2_with (first | ((with_reducible refine gate_dst (N := 34) rfl ?_); (try (refine gate_guard (by rfl) ?_; dsimp only)); refine Kd.R_lit (Kd.int .i64) _ 3 ?hg (N := 34) ?hd (xs := ([Int.tmod x10_1 3, 1] : List Int)) (inner := [.int .i64 (Int.tmod x10_1 3), .int .i64 1]) (ok := fun _ => True) (okp := fun _ => True) ?hr ?hp (fun _ hk => hk) trivial (Below.refl _ _) (Nat.le_refl _) (by simp) ?_; (case hd => rfl); (case hg => rfl); (case hr => first | (go_simp; done) | (go_simp; rfl)); (case hp => exact (Reps.one (show Kd.M (Kd.int .i64) _ _ _ (Int.tmod x10_1 3) [.int .i64 (Int.tmod x10_1 3)] from rfl) (Reps.one (show Kd.M (Kd.int .i64) _ _ _ 1 [.int .i64 1] from rfl) (Reps.none _ _)))); intro v200 w41 ho42 hb hg_ hnew_; clear hg_ hnew_; (first | rw [← Ny199.out] at ho42 | (simp only [Int.reduceToNat] at ho42; rw [← Ny199.out] at ho42)); replace HO_9 := Aside0.mk (Kd.S_elder' (vS_ HO_9.out) (Kd.R_base ho42) hb); replace HO_199007 := Aside0.mk (Kd.S_elder' (vS_ HO_199007.out) (Kd.R_base ho42) hb); have HO201 := Aside0.mk (Kd.R_lower (Kd.R_new' (Kd.R_new' (Kd.R_new' (Kd.R_new' (Kd.R_new' ho42 (Kd.R_lt (vR_ HO_199001.out))) (Kd.R_lt (vR_ HO_199002.out))) (Kd.R_lt (vR_ HO_199003.out))) (Kd.R_lt (vR_ HO_199004.out))) (Kd.R_lt (vR_ HO_199005.out))) (below_size bel_)); replace HO_199001 := Aside0.mk (Kd.R_elder' (vR_ HO_199001.out) (Kd.R_base ho42) hb); replace HO_199002 := Aside0.mk (Kd.R_elder' (vR_ HO_199002.out) (Kd.R_base ho42) hb); replace HO_199003 := Aside0.mk (Kd.R_elder' (vR_ HO_199003.out) (Kd.R_base ho42) hb); replace HO_199004 := Aside0.mk (Kd.R_elder' (vR_ HO_199004.out) (Kd.R_base ho42) hb); replace HO_199005 := Aside0.mk (Kd.R_elder' (vR_ HO_199005.out) (Kd.R_base ho42) hb); replace BK176 := Aside0.mk (blk_below (bk_ BK176.out) hb); replace BK177 := Aside0.mk (blk_below (bk_ BK177.out) hb); replace BK198 := Aside0.mk (blk_below (bk_ BK198.out) hb); replace HB := Aside0.mk (below_step bel_ hb); clear hb ho42; have hnb43 := NB176_177.out; have hnc43 := NB177_176.out; have hcz44_0 : w41.cell? ⟨gb176, 0, none⟩ = some (.int .u8 ((wrap64 (a1 - 1)) % 256)) := (blk_cell BK176.out 0).trans rfl; have hcz44_1 : w41.cell? ⟨gb176, 1, none⟩ = some (.slice A0_1 l0_1.length c0_1) := (blk_cell BK176.out 1).trans rfl; have hcz44_2 : w41.cell? ⟨gb176, 2, none⟩ = some (.slice A0_2 l0_2.length c0_2) := (blk_cell BK176.out 2).trans rfl; have hcz44_3 : w41.cell? ⟨gb176, 3, none⟩ = some (.slice A0_3 l0_3.length c0_3) := (blk_cell BK176.out 3).trans rfl; have hcz44_4 : w41.cell? ⟨gb176, 4, none⟩ = some (.int .i16 a0_4) := (blk_cell BK176.out 4).trans rfl; have hcz44_5 : w41.cell? ⟨gb176, 5, none⟩ = some (.int .u8 a0_5) := (blk_cell BK176.out 5).trans rfl; have hcz44_6 : w41.cell? ⟨gb176, 6, none⟩ = some (.slice A0_6 l0_6.length c0_6) := (blk_cell BK176.out 6).trans rfl; have hfz44_0 := blk_frozen BK176.out 0; have hfz44_1 := blk_frozen BK176.out 1; have hfz44_2 := blk_frozen BK176.out 2; have hfz44_3 := blk_frozen BK176.out 3; have hfz44_4 := blk_frozen BK176.out 4; have hfz44_5 := blk_frozen BK176.out 5; have hfz44_6 := blk_frozen BK176.out 6; have p202 : 0 ≤ (x10_1 : Int) := dq_; have q202 : x10_1 < (l0_6.length : Int) := dq_; obtain ⟨ad202, A202_0, c202_0, e202, hx202_0, hl202_0, hi202_0⟩ := at_L7 HR0_6.out x10_1 p202 q202; cases e202; replace hx202_0 := (HB.out.cell (World.block_lt_of_cell? w _ hx202_0)).trans hx202_0; have HC202_0 := Aside0.mk hl202_0; clear hi202_0 hl202_0; replace p202 := eq_true p202; replace q202 := eq_true q202; obtain ⟨Ao45, co45, eo45⟩ := Kd.R_slice HO201.out; subst eo45) | ((with_reducible refine gate_callee (f := 25) rfl ?_); refine goesL_ (some 56) rfl rfl Tryz.func25 (by kernel_rfl) rfl #[.slice Ao45 y199.length co45, .int .i64 6, .int .i64 a2] rfl ar_ ?_; (with_reducible refine (jigsawref02_Small.calls k1 _ _ y199 6 a2 t210 _ ?_ ?_ A36.out).mono ?_); exact ca_ ((Kd.R_reads' HO201.out).2.2); exact (Kd.R_reads' HO201.out).2.1; rintro e w46 ⟨v211, rfl, ho0, hb⟩; refine ⟨_, rfl, ?_⟩; replace HO_9 := Aside0.mk (Kd.S_elder' (vS_ HO_9.out) (Kd.R_base ho0) hb); replace HO_199007 := Aside0.mk (Kd.S_elder' (vS_ HO_199007.out) (Kd.R_base ho0) hb); have HO212 := Aside0.mk (Kd.R_lower (Kd.R_new' (Kd.R_new' (Kd.R_new' (Kd.R_new' (Kd.R_new' (Kd.R_new' ho0 (Kd.R_lt (vR_ HO_199001.out))) (Kd.R_lt (vR_ HO_199002.out))) (Kd.R_lt (vR_ HO_199003.out))) (Kd.R_lt (vR_ HO_199004.out))) (Kd.R_lt (vR_ HO_199005.out))) (Kd.R_lt (vR_ HO201.out))) (below_size bel_)); replace HO_199001 := Aside0.mk (Kd.R_elder' (vR_ HO_199001.out) (Kd.R_base ho0) hb); replace HO_199002 := Aside0.mk (Kd.R_elder' (vR_ HO_199002.out) (Kd.R_base ho0) hb); replace HO_199003 := Aside0.mk (Kd.R_elder' (vR_ HO_199003.out) (Kd.R_base ho0) hb); replace HO_199004 := Aside0.mk (Kd.R_elder' (vR_ HO_199004.out) (Kd.R_base ho0) hb); replace HO_199005 := Aside0.mk (Kd.R_elder' (vR_ HO_199005.out) (Kd.R_base ho0) hb); replace HO201 := Aside0.mk (Kd.R_elder' (vR_ HO201.out) (Kd.R_base ho0) hb); replace BK176 := Aside0.mk (blk_below (bk_ BK176.out) hb); replace BK177 := Aside0.mk (blk_below (bk_ BK177.out) hb); replace BK198 := Aside0.mk (blk_below (bk_ BK198.out) hb); replace HB := Aside0.mk (below_step bel_ hb); clear hb ho0; obtain ⟨Ao48, co48, eo48⟩ := Kd.R_slice HO212.out; subst eo48) | ((with_reducible refine gate_builtin (b := .append) (xs := #[.tmp 57, .tmp 59]) rfl ?_); (try (refine gate_guard (by rfl) ?_; dsimp only)); at_builtin; refine Kd.S_append (Kd.slice 3 (Kd.int .i64)) (w0 := w) w.heap.size rfl (.tmp 57) (.tmp 59) 27 30 (.slice none 0 0) 24 rfl Tryz.underlying27 info30 rfl (by decide) (by omega) u9 x9_1 t210 [.slice Ao48 t210.length co48] (fun k_ => some k_ ≠ (.slice Ao14 t179.length co14 : Value).ownBlock ∧ some k_ ≠ (.slice Ao15 t182.length co15 : Value).ownBlock ∧ some k_ ≠ (.slice Ao16 t185.length co16 : Value).ownBlock ∧ some k_ ≠ (.slice Ao17 t188.length co17 : Value).ownBlock ∧ some k_ ≠ (.slice Ao18 t191.length co18 : Value).ownBlock ∧ some k_ ≠ (.slice Ao19 t195.length co19 : Value).ownBlock ∧ some k_ ≠ (.slice Ao45 y199.length co45 : Value).ownBlock) (fun k_ => some k_ = (.slice Ao48 t210.length co48 : Value).ownBlock) rfl rfl ?aP (fun k_ hk_ => ((Kd.R_mono (ok' := fun k_ => ((fun k_ => some k_ ≠ (.slice Ao14 t179.length co14 : Value).ownBlock ∧ some k_ ≠ (.slice Ao15 t182.length co15 : Value).ownBlock ∧ some k_ ≠ (.slice Ao16 t185.length co16 : Value).ownBlock ∧ some k_ ≠ (.slice Ao17 t188.length co17 : Value).ownBlock ∧ some k_ ≠ (.slice Ao18 t191.length co18 : Value).ownBlock ∧ some k_ ≠ (.slice Ao19 t195.length co19 : Value).ownBlock ∧ some k_ ≠ (.slice Ao45 y199.length co45 : Value).ownBlock)) k_ ∧ some k_ ≠ (u9 : Value).ownBlock) (Kd.R_apart' (Kd.R_apart' (HO212.out) (Kd.S_typed HO_199007.out) (by decide)) (Kd.S_typed HO_9.out) (by decide)) (fun k_ hk => ⟨⟨hk.1.1.1.1.1.1.1.2, ⟨hk.1.1.1.1.1.1.2, ⟨hk.1.1.1.1.1.2, ⟨hk.1.1.1.1.2, ⟨hk.1.1.1.2, ⟨hk.1.2, hk.1.1.2⟩⟩⟩⟩⟩⟩, hk.2⟩))).1 k_ hk_.symm) ?aF ?aO ?aB ?aS ?aL ?_; (case aP => exact Kd.M_row (Kd.R_mono (Kd.R_tight rfl (Kd.R_mono (ok' := fun k_ => ((fun k_ => some k_ ≠ (.slice Ao14 t179.length co14 : Value).ownBlock ∧ some k_ ≠ (.slice Ao15 t182.length co15 : Value).ownBlock ∧ some k_ ≠ (.slice Ao16 t185.length co16 : Value).ownBlock ∧ some k_ ≠ (.slice Ao17 t188.length co17 : Value).ownBlock ∧ some k_ ≠ (.slice Ao18 t191.length co18 : Value).ownBlock ∧ some k_ ≠ (.slice Ao19 t195.length co19 : Value).ownBlock ∧ some k_ ≠ (.slice Ao45 y199.length co45 : Value).ownBlock)) k_ ∧ some k_ ≠ (u9 : Value).ownBlock) (Kd.R_apart' (Kd.R_apart' (HO212.out) (Kd.S_typed HO_199007.out) (by decide)) (Kd.S_typed HO_9.out) (by decide)) (fun k_ hk => ⟨⟨hk.1.1.1.1.1.1.1.2, ⟨hk.1.1.1.1.1.1.2, ⟨hk.1.1.1.1.1.2, ⟨hk.1.1.1.1.2, ⟨hk.1.1.1.2, ⟨hk.1.2, hk.1.1.2⟩⟩⟩⟩⟩⟩, hk.2⟩))) (fun _ h_ => h_))); (case aB => exact bel_); (case aF => exact (fun k_ hk => ⟨Kd.fresh' (Kd.R_lt (vR_ HO_199001.out)) k_ hk, Kd.fresh' (Kd.R_lt (vR_ HO_199002.out)) k_ hk, Kd.fresh' (Kd.R_lt (vR_ HO_199003.out)) k_ hk, Kd.fresh' (Kd.R_lt (vR_ HO_199004.out)) k_ hk, Kd.fresh' (Kd.R_lt (vR_ HO_199005.out)) k_ hk, Kd.fresh' (Kd.S_lt (vS_ HO_199007.out)) k_ hk, Kd.fresh' (Kd.R_lt (vR_ HO201.out)) k_ hk⟩)); (case aO => exact (by refine vS_ ?_; exact Kd.S_mono HO_9.out (fun k_ hk => ⟨⟨hk.1.1.1, ⟨hk.1.1.2.1, ⟨hk.1.1.2.2.1, ⟨hk.1.1.2.2.2.1, ⟨hk.1.1.2.2.2.2.1, ⟨hk.1.1.2.2.2.2.2, hk.1.2⟩⟩⟩⟩⟩⟩, fun e_ => hk.2 e_⟩))); (case aS => exact (below_size bel_)); (case aL => have := LMc37.out; omega); intro v214 w47 ho hb hg hat; rw [← Ny213.out] at ho; replace HO_199001 := Aside0.mk (Kd.R_over' (vR_ HO_199001.out) (Kd.S_typed (vS_ HO_9.out)) (by decide) hg); replace HO_199002 := Aside0.mk (Kd.R_over' (vR_ HO_199002.out) (Kd.S_typed (vS_ HO_9.out)) (by decide) hg); replace HO_199003 := Aside0.mk (Kd.R_over' (vR_ HO_199003.out) (Kd.S_typed (vS_ HO_9.out)) (by decide) hg); replace HO_199004 := Aside0.mk (Kd.R_over' (vR_ HO_199004.out) (Kd.S_typed (vS_ HO_9.out)) (by decide) hg); replace HO_199005 := Aside0.mk (Kd.R_over' (vR_ HO_199005.out) (Kd.S_typed (vS_ HO_9.out)) (by decide) hg); replace HO_199007 := Aside0.mk (Kd.S_after (ok := (fun k_ => some k_ ≠ (.slice Ao14 t179.length co14 : Value).ownBlock ∧ some k_ ≠ (.slice Ao15 t182.length co15 : Value).ownBlock ∧ some k_ ≠ (.slice Ao16 t185.length co16 : Value).ownBlock ∧ some k_ ≠ (.slice Ao17 t188.length co17 : Value).ownBlock ∧ some k_ ≠ (.slice Ao18 t191.length co18 : Value).ownBlock ∧ some k_ ≠ (.slice Ao45 y199.length co45 : Value).ownBlock ∧ some k_ ≠ (.slice Ao48 t210.length co48 : Value).ownBlock)) (by refine vS_ ?_; exact Kd.S_mono HO_199007.out (fun _ hk => ⟨⟨hk.1.1.2.1, ⟨hk.1.1.2.2.1, ⟨hk.1.1.2.2.2.1, ⟨hk.1.1.2.2.2.2.1, ⟨hk.1.1.2.2.2.2.2, ⟨hk.1.2, hk.2⟩⟩⟩⟩⟩⟩, hk.1.1.1⟩)) hg hat); replace BK176 := Aside0.mk (blk_grown (bk_ BK176.out) hg (Kd.S_ne HO_9.out BK176.out (by decide))); replace BK177 := Aside0.mk (blk_grown (bk_ BK177.out) hg (Kd.S_ne HO_9.out BK177.out (by decide))); replace BK198 := Aside0.mk (blk_grown (bk_ BK198.out) hg (Kd.S_ne HO_9.out BK198.out (by decide))); replace HB := Aside0.mk (hb); have HO215 := Aside0.mk (ho); clear HO_9 HO212; clear ho hb hg hat))
        go_roundg k1
        case measure => have := HK1.out; omega
        case rel => exact ⟨(y213), (wrap64 (x10_1 + 1)), eq_, H', ⟨by have := HK1.out; omega⟩, ⟨by refine vS_ ?_; exact Kd.S_mono HO215.out (fun _ hk => ⟨hk.1, ⟨hk.2.1, ⟨hk.2.2.1, ⟨hk.2.2.2.1, ⟨hk.2.2.2.2.1, hk.2.2.2.2.2.1⟩⟩⟩⟩⟩)⟩, ⟨by refine vR_ ?_; exact Kd.R_mono HO_199001.out (fun _ hk => ⟨hk.1.1.1, ⟨hk.1.1.2.1, ⟨hk.1.1.2.2.1, hk.1.1.2.2.2⟩⟩⟩)⟩, ⟨by refine vR_ ?_; exact Kd.R_mono HO_199002.out (fun _ hk => ⟨hk.1.1.1, ⟨hk.1.1.2.1, ⟨hk.1.1.2.2.1, hk.1.1.2.2.2⟩⟩⟩)⟩, ⟨by refine vR_ ?_; exact Kd.R_mono HO_199003.out (fun _ hk => ⟨hk.1.1.1, ⟨hk.1.1.2.1, ⟨hk.1.1.2.2.1, hk.1.1.2.2.2⟩⟩⟩)⟩, ⟨by refine vR_ ?_; exact Kd.R_mono HO_199004.out (fun _ hk => ⟨hk.1.1.1, ⟨hk.1.1.2.1, ⟨hk.1.1.2.2.1, hk.1.1.2.2.2⟩⟩⟩)⟩, ⟨by refine vR_ ?_; exact Kd.R_mono HO_199005.out (fun _ hk => ⟨hk.1.1.1, ⟨hk.1.1.2.1, ⟨hk.1.1.2.2.1, hk.1.1.2.2.2⟩⟩⟩)⟩, ⟨by refine vS_ ?_; exact Kd.S_mono HO_199007.out (fun _ hk => ⟨hk.2, ⟨hk.1.1, ⟨hk.1.2.1, ⟨hk.1.2.2.1, ⟨hk.1.2.2.2.1, hk.1.2.2.2.2.1⟩⟩⟩⟩⟩)⟩, ⟨by refine bk_ ?_; exact BK176.out⟩, ⟨by refine bk_ ?_; exact BK177.out⟩, ⟨by refine bk_ ?_; exact BK198.out⟩, ⟨bel_⟩⟩
       ·
        rw [if_neg c37] at H
        exact absurd H (by simp)
     ·
      rw [if_neg c22] at H
      exact absurd H (by simp)
    ·
     rw [if_neg c21] at H
     have c21b0 : decide (x10_1 < (l0_6.length : Int)) = false := decide_eq_false c21
     clear c21
     replace H := Option.bind_eq_some_iff.mp H
     obtain ⟨t216, A490, H⟩ := H
     try dsimp only at H
     have A49 := Aside0.mk A490
     clear A490
     by_cases c50 : x9_1.length < 5864062014805
     ·
      rw [if_pos c50] at H
      have LMc50 := Aside0.mk c50
      clear c50
      obtain ⟨y219, hy219⟩ : ∃ y_ : List (List Int), y_ = (x9_1 ++ [t216]) := ⟨_, rfl⟩
      replace H : (jigsawref10_Make.l0 k1 a2 y219 (wrap64 (x10_1 + 1)) ((wrap64 (a1 - 1)) % 256) l0_1 l0_2 l0_3 a0_4 a0_5 l0_6 t178 t179 t182 t185 t188 t191 t194 t195) = some (r1, r2, r3, r4, r5, r6, r7, r8, r9) := by first | (rw [hy219]; with_reducible exact H) | (have H2_ := (Option.bind_some _ _).symm.trans H; rw [hy219]; with_reducible exact H2_) | (have H2_ := (Option.bind_some _ _).symm.trans H; with_reducible exact H2_) | with_reducible exact H | (rw [hy219]; exact H) | exact H
      have Ny219 := Aside0.mk hy219
      clear hy219
      have H' := Aside0.mk H
      clear H
      have hnb51 := NB198_176.out
      have hnc51 := NB176_198.out
      have hnb52 := NB198_177.out
      have hnc52 := NB177_198.out
      obtain ⟨_, _, _, _, _, _, _, _, _, _, _, _, _, _, _, _⟩ := cel8_ BK198.out
      go_wp2_with (first | ((with_reducible refine gate_dst (N := 34) rfl ?_); (try (refine gate_guard (by rfl) ?_; dsimp only)); refine Kd.R_lit (Kd.int .i64) _ 3 ?hg (N := 34) ?hd (xs := ([Int.tmod x10_1 3, 1] : List Int)) (inner := [.int .i64 (Int.tmod x10_1 3), .int .i64 1]) (ok := fun _ => True) (okp := fun _ => True) ?hr ?hp (fun _ hk => hk) trivial (Below.refl _ _) (Nat.le_refl _) (by simp) ?_; (case hd => rfl); (case hg => rfl); (case hr => first | (go_simp; done) | (go_simp; rfl)); (case hp => exact (Reps.one (show Kd.M (Kd.int .i64) _ _ _ (Int.tmod x10_1 3) [.int .i64 (Int.tmod x10_1 3)] from rfl) (Reps.one (show Kd.M (Kd.int .i64) _ _ _ 1 [.int .i64 1] from rfl) (Reps.none _ _)))); intro v200 w54 ho55 hb hg_ hnew_; clear hg_ hnew_; (first | rw [← Ny199.out] at ho55 | (simp only [Int.reduceToNat] at ho55; rw [← Ny199.out] at ho55)); replace HO_9 := Aside0.mk (Kd.S_elder' (vS_ HO_9.out) (Kd.R_base ho55) hb); replace HO_199007 := Aside0.mk (Kd.S_elder' (vS_ HO_199007.out) (Kd.R_base ho55) hb); have HO201 := Aside0.mk (Kd.R_lower (Kd.R_new' (Kd.R_new' (Kd.R_new' (Kd.R_new' (Kd.R_new' ho55 (Kd.R_lt (vR_ HO_199001.out))) (Kd.R_lt (vR_ HO_199002.out))) (Kd.R_lt (vR_ HO_199003.out))) (Kd.R_lt (vR_ HO_199004.out))) (Kd.R_lt (vR_ HO_199005.out))) (below_size bel_)); replace HO_199001 := Aside0.mk (Kd.R_elder' (vR_ HO_199001.out) (Kd.R_base ho55) hb); replace HO_199002 := Aside0.mk (Kd.R_elder' (vR_ HO_199002.out) (Kd.R_base ho55) hb); replace HO_199003 := Aside0.mk (Kd.R_elder' (vR_ HO_199003.out) (Kd.R_base ho55) hb); replace HO_199004 := Aside0.mk (Kd.R_elder' (vR_ HO_199004.out) (Kd.R_base ho55) hb); replace HO_199005 := Aside0.mk (Kd.R_elder' (vR_ HO_199005.out) (Kd.R_base ho55) hb); replace BK176 := Aside0.mk (blk_below (bk_ BK176.out) hb); replace BK177 := Aside0.mk (blk_below (bk_ BK177.out) hb); replace BK198 := Aside0.mk (blk_below (bk_ BK198.out) hb); replace HB := Aside0.mk (below_step bel_ hb); clear hb ho55; have hnb56 := NB176_177.out; have hnc56 := NB177_176.out; have hcz57_0 : w54.cell? ⟨gb176, 0, none⟩ = some (.int .u8 ((wrap64 (a1 - 1)) % 256)) := (blk_cell BK176.out 0).trans rfl; have hcz57_1 : w54.cell? ⟨gb176, 1, none⟩ = some (.slice A0_1 l0_1.length c0_1) := (blk_cell BK176.out 1).trans rfl; have hcz57_2 : w54.cell? ⟨gb176, 2, none⟩ = some (.slice A0_2 l0_2.length c0_2) := (blk_cell BK176.out 2).trans rfl; have hcz57_3 : w54.cell? ⟨gb176, 3, none⟩ = some (.slice A0_3 l0_3.length c0_3) := (blk_cell BK176.out 3).trans rfl; have hcz57_4 : w54.cell? ⟨gb176, 4, none⟩ = some (.int .i16 a0_4) := (blk_cell BK176.out 4).trans rfl; have hcz57_5 : w54.cell? ⟨gb176, 5, none⟩ = some (.int .u8 a0_5) := (blk_cell BK176.out 5).trans rfl; have hcz57_6 : w54.cell? ⟨gb176, 6, none⟩ = some (.slice A0_6 l0_6.length c0_6) := (blk_cell BK176.out 6).trans rfl; have hfz57_0 := blk_frozen BK176.out 0; have hfz57_1 := blk_frozen BK176.out 1; have hfz57_2 := blk_frozen BK176.out 2; have hfz57_3 := blk_frozen BK176.out 3; have hfz57_4 := blk_frozen BK176.out 4; have hfz57_5 := blk_frozen BK176.out 5; have hfz57_6 := blk_frozen BK176.out 6; obtain ⟨Ao58, co58, eo58⟩ := Kd.R_slice HO201.out; subst eo58) | ((with_reducible refine gate_callee (f := 25) rfl ?_); refine goesL_ (some 56) rfl rfl Tryz.func25 (by kernel_rfl) rfl #[.slice Ao58 y199.length co58, .int .i64 6, .int .i64 a2] rfl ar_ ?_; (with_reducible refine (jigsawref02_Small.calls k1 _ _ y199 6 a2 t216 _ ?_ ?_ A49.out).mono ?_); exact ca_ ((Kd.R_reads' HO201.out).2.2); exact (Kd.R_reads' HO201.out).2.1; rintro e w59 ⟨v217, rfl, ho0, hb⟩; refine ⟨_, rfl, ?_⟩; replace HO_9 := Aside0.mk (Kd.S_elder' (vS_ HO_9.out) (Kd.R_base ho0) hb); replace HO_199007 := Aside0.mk (Kd.S_elder' (vS_ HO_199007.out) (Kd.R_base ho0) hb); have HO218 := Aside0.mk (Kd.R_lower (Kd.R_new' (Kd.R_new' (Kd.R_new' (Kd.R_new' (Kd.R_new' (Kd.R_new' ho0 (Kd.R_lt (vR_ HO_199001.out))) (Kd.R_lt (vR_ HO_199002.out))) (Kd.R_lt (vR_ HO_199003.out))) (Kd.R_lt (vR_ HO_199004.out))) (Kd.R_lt (vR_ HO_199005.out))) (Kd.R_lt (vR_ HO201.out))) (below_size bel_)); replace HO_199001 := Aside0.mk (Kd.R_elder' (vR_ HO_199001.out) (Kd.R_base ho0) hb); replace HO_199002 := Aside0.mk (Kd.R_elder' (vR_ HO_199002.out) (Kd.R_base ho0) hb); replace HO_199003 := Aside0.mk (Kd.R_elder' (vR_ HO_199003.out) (Kd.R_base ho0) hb); replace HO_199004 := Aside0.mk (Kd.R_elder' (vR_ HO_199004.out) (Kd.R_base ho0) hb); replace HO_199005 := Aside0.mk (Kd.R_elder' (vR_ HO_199005.out) (Kd.R_base ho0) hb); replace HO201 := Aside0.mk (Kd.R_elder' (vR_ HO201.out) (Kd.R_base ho0) hb); replace BK176 := Aside0.mk (blk_below (bk_ BK176.out) hb); replace BK177 := Aside0.mk (blk_below (bk_ BK177.out) hb); replace BK198 := Aside0.mk (blk_below (bk_ BK198.out) hb); replace HB := Aside0.mk (below_step bel_ hb); clear hb ho0; obtain ⟨Ao61, co61, eo61⟩ := Kd.R_slice HO218.out; subst eo61) | ((with_reducible refine gate_builtin (b := .append) (xs := #[.tmp 57, .tmp 59]) rfl ?_); (try (refine gate_guard (by rfl) ?_; dsimp only)); at_builtin; refine Kd.S_append (Kd.slice 3 (Kd.int .i64)) (w0 := w) w.heap.size rfl (.tmp 57) (.tmp 59) 27 30 (.slice none 0 0) 24 rfl Tryz.underlying27 info30 rfl (by decide) (by omega) u9 x9_1 t216 [.slice Ao61 t216.length co61] (fun k_ => some k_ ≠ (.slice Ao14 t179.length co14 : Value).ownBlock ∧ some k_ ≠ (.slice Ao15 t182.length co15 : Value).ownBlock ∧ some k_ ≠ (.slice Ao16 t185.length co16 : Value).ownBlock ∧ some k_ ≠ (.slice Ao17 t188.length co17 : Value).ownBlock ∧ some k_ ≠ (.slice Ao18 t191.length co18 : Value).ownBlock ∧ some k_ ≠ (.slice Ao19 t195.length co19 : Value).ownBlock ∧ some k_ ≠ (.slice Ao58 y199.length co58 : Value).ownBlock) (fun k_ => some k_ = (.slice Ao61 t216.length co61 : Value).ownBlock) rfl rfl ?aP (fun k_ hk_ => ((Kd.R_mono (ok' := fun k_ => ((fun k_ => some k_ ≠ (.slice Ao14 t179.length co14 : Value).ownBlock ∧ some k_ ≠ (.slice Ao15 t182.length co15 : Value).ownBlock ∧ some k_ ≠ (.slice Ao16 t185.length co16 : Value).ownBlock ∧ some k_ ≠ (.slice Ao17 t188.length co17 : Value).ownBlock ∧ some k_ ≠ (.slice Ao18 t191.length co18 : Value).ownBlock ∧ some k_ ≠ (.slice Ao19 t195.length co19 : Value).ownBlock ∧ some k_ ≠ (.slice Ao58 y199.length co58 : Value).ownBlock)) k_ ∧ some k_ ≠ (u9 : Value).ownBlock) (Kd.R_apart' (Kd.R_apart' (HO218.out) (Kd.S_typed HO_199007.out) (by decide)) (Kd.S_typed HO_9.out) (by decide)) (fun k_ hk => ⟨⟨hk.1.1.1.1.1.1.1.2, ⟨hk.1.1.1.1.1.1.2, ⟨hk.1.1.1.1.1.2, ⟨hk.1.1.1.1.2, ⟨hk.1.1.1.2, ⟨hk.1.2, hk.1.1.2⟩⟩⟩⟩⟩⟩, hk.2⟩))).1 k_ hk_.symm) ?aF ?aO ?aB ?aS ?aL ?_; (case aP => exact Kd.M_row (Kd.R_mono (Kd.R_tight rfl (Kd.R_mono (ok' := fun k_ => ((fun k_ => some k_ ≠ (.slice Ao14 t179.length co14 : Value).ownBlock ∧ some k_ ≠ (.slice Ao15 t182.length co15 : Value).ownBlock ∧ some k_ ≠ (.slice Ao16 t185.length co16 : Value).ownBlock ∧ some k_ ≠ (.slice Ao17 t188.length co17 : Value).ownBlock ∧ some k_ ≠ (.slice Ao18 t191.length co18 : Value).ownBlock ∧ some k_ ≠ (.slice Ao19 t195.length co19 : Value).ownBlock ∧ some k_ ≠ (.slice Ao58 y199.length co58 : Value).ownBlock)) k_ ∧ some k_ ≠ (u9 : Value).ownBlock) (Kd.R_apart' (Kd.R_apart' (HO218.out) (Kd.S_typed HO_199007.out) (by decide)) (Kd.S_typed HO_9.out) (by decide)) (fun k_ hk => ⟨⟨hk.1.1.1.1.1.1.1.2, ⟨hk.1.1.1.1.1.1.2, ⟨hk.1.1.1.1.1.2, ⟨hk.1.1.1.1.2, ⟨hk.1.1.1.2, ⟨hk.1.2, hk.1.1.2⟩⟩⟩⟩⟩⟩, hk.2⟩))) (fun _ h_ => h_))); (case aB => exact bel_); (case aF => exact (fun k_ hk => ⟨Kd.fresh' (Kd.R_lt (vR_ HO_199001.out)) k_ hk, Kd.fresh' (Kd.R_lt (vR_ HO_199002.out)) k_ hk, Kd.fresh' (Kd.R_lt (vR_ HO_199003.out)) k_ hk, Kd.fresh' (Kd.R_lt (vR_ HO_199004.out)) k_ hk, Kd.fresh' (Kd.R_lt (vR_ HO_199005.out)) k_ hk, Kd.fresh' (Kd.S_lt (vS_ HO_199007.out)) k_ hk, Kd.fresh' (Kd.R_lt (vR_ HO201.out)) k_ hk⟩)); (case aO => exact (by refine vS_ ?_; exact Kd.S_mono HO_9.out (fun k_ hk => ⟨⟨hk.1.1.1, ⟨hk.1.1.2.1, ⟨hk.1.1.2.2.1, ⟨hk.1.1.2.2.2.1, ⟨hk.1.1.2.2.2.2.1, ⟨hk.1.1.2.2.2.2.2, hk.1.2⟩⟩⟩⟩⟩⟩, fun e_ => hk.2 e_⟩))); (case aS => exact (below_size bel_)); (case aL => have := LMc50.out; omega); intro v220 w60 ho hb hg hat; rw [← Ny219.out] at ho; replace HO_199001 := Aside0.mk (Kd.R_over' (vR_ HO_199001.out) (Kd.S_typed (vS_ HO_9.out)) (by decide) hg); replace HO_199002 := Aside0.mk (Kd.R_over' (vR_ HO_199002.out) (Kd.S_typed (vS_ HO_9.out)) (by decide) hg); replace HO_199003 := Aside0.mk (Kd.R_over' (vR_ HO_199003.out) (Kd.S_typed (vS_ HO_9.out)) (by decide) hg); replace HO_199004 := Aside0.mk (Kd.R_over' (vR_ HO_199004.out) (Kd.S_typed (vS_ HO_9.out)) (by decide) hg); replace HO_199005 := Aside0.mk (Kd.R_over' (vR_ HO_199005.out) (Kd.S_typed (vS_ HO_9.out)) (by decide) hg); replace HO_199007 := Aside0.mk (Kd.S_after (ok := (fun k_ => some k_ ≠ (.slice Ao14 t179.length co14 : Value).ownBlock ∧ some k_ ≠ (.slice Ao15 t182.length co15 : Value).ownBlock ∧ some k_ ≠ (.slice Ao16 t185.length co16 : Value).ownBlock ∧ some k_ ≠ (.slice Ao17 t188.length co17 : Value).ownBlock ∧ some k_ ≠ (.slice Ao18 t191.length co18 : Value).ownBlock ∧ some k_ ≠ (.slice Ao58 y199.length co58 : Value).ownBlock ∧ some k_ ≠ (.slice Ao61 t216.length co61 : Value).ownBlock)) (by refine vS_ ?_; exact Kd.S_mono HO_199007.out (fun _ hk => ⟨⟨hk.1.1.2.1, ⟨hk.1.1.2.2.1, ⟨hk.1.1.2.2.2.1, ⟨hk.1.1.2.2.2.2.1, ⟨hk.1.1.2.2.2.2.2, ⟨hk.1.2, hk.2⟩⟩⟩⟩⟩⟩, hk.1.1.1⟩)) hg hat); replace BK176 := Aside0.mk (blk_grown (bk_ BK176.out) hg (Kd.S_ne HO_9.out BK176.out (by decide))); replace BK177 := Aside0.mk (blk_grown (bk_ BK177.out) hg (Kd.S_ne HO_9.out BK177.out (by decide))); replace BK198 := Aside0.mk (blk_grown (bk_ BK198.out) hg (Kd.S_ne HO_9.out BK198.out (by decide))); replace HB := Aside0.mk (hb); have HO221 := Aside0.mk (ho); clear HO_9 HO218; clear ho hb hg hat))
      go_roundg k1
      case measure => have := HK1.out; omega
      case rel => exact ⟨(y219), (wrap64 (x10_1 + 1)), eq_, H', ⟨by have := HK1.out; omega⟩, ⟨by refine vS_ ?_; exact Kd.S_mono HO221.out (fun _ hk => ⟨hk.1, ⟨hk.2.1, ⟨hk.2.2.1, ⟨hk.2.2.2.1, ⟨hk.2.2.2.2.1, hk.2.2.2.2.2.1⟩⟩⟩⟩⟩)⟩, ⟨by refine vR_ ?_; exact Kd.R_mono HO_199001.out (fun _ hk => ⟨hk.1.1.1, ⟨hk.1.1.2.1, ⟨hk.1.1.2.2.1, hk.1.1.2.2.2⟩⟩⟩)⟩, ⟨by refine vR_ ?_; exact Kd.R_mono HO_199002.out (fun _ hk => ⟨hk.1.1.1, ⟨hk.1.1.2.1, ⟨hk.1.1.2.2.1, hk.1.1.2.2.2⟩⟩⟩)⟩, ⟨by refine vR_ ?_; exact Kd.R_mono HO_199003.out (fun _ hk => ⟨hk.1.1.1, ⟨hk.1.1.2.1, ⟨hk.1.1.2.2.1, hk.1.1.2.2.2⟩⟩⟩)⟩, ⟨by refine vR_ ?_; exact Kd.R_mono HO_199004.out (fun _ hk => ⟨hk.1.1.1, ⟨hk.1.1.2.1, ⟨hk.1.1.2.2.1, hk.1.1.2.2.2⟩⟩⟩)⟩, ⟨by refine vR_ ?_; exact Kd.R_mono HO_199005.out (fun _ hk => ⟨hk.1.1.1, ⟨hk.1.1.2.1, ⟨hk.1.1.2.2.1, hk.1.1.2.2.2⟩⟩⟩)⟩, ⟨by refine vS_ ?_; exact Kd.S_mono HO_199007.out (fun _ hk => ⟨hk.2, ⟨hk.1.1, ⟨hk.1.2.1, ⟨hk.1.2.2.1, ⟨hk.1.2.2.2.1, hk.1.2.2.2.2.1⟩⟩⟩⟩⟩)⟩, ⟨by refine bk_ ?_; exact BK176.out⟩, ⟨by refine bk_ ?_; exact BK177.out⟩, ⟨by refine bk_ ?_; exact BK198.out⟩, ⟨bel_⟩⟩
     ·
      rw [if_neg c50] at H
      exact absurd H (by simp)
   ·
    rw [if_neg c20] at H
    have c20b0 : decide (x10_1 < (wrap64 ((t179.length : Int) + (t182.length : Int)))) = false := decide_eq_false c20
    clear c20
    simp only [Option.some.injEq, Prod.mk.injEq] at H
    obtain ⟨rfl, rfl, rfl, rfl, rfl, rfl, rfl, rfl, rfl⟩ := H
    have hnb62 := NB198_176.out
    have hnc62 := NB176_198.out
    have hnb63 := NB198_177.out
    have hnc63 := NB177_198.out
    obtain ⟨_, _, _, _, _, _, _, _, _, _, _, _, _, _, _, _⟩ := cel8_ BK198.out
    have hnb65 := NB177_176.out
    have hnc65 := NB176_177.out
    obtain ⟨_, _, _, _, _, _, _, _, _, _, _, _, _, _, _, _⟩ := cel8_ BK177.out
    go_wp2
    refine bodyPost_ret (results_ct rfl _ _ gb177 32 #[.int .i64 t178, .slice Ao14 t179.length co14, .slice Ao15 t182.length co15, .slice Ao16 t185.length co16, .slice Ao17 t188.length co17, .slice Ao18 t191.length co18, .int .i64 t194, .slice Ao19 t195.length co19] (0, 0) _ rfl (by refine bk_ ?_; refine blk_put (cs := #[.int .i64 t178, .slice Ao14 t179.length co14, .slice Ao15 t182.length co15, .slice Ao16 t185.length co16, .slice Ao17 t188.length co17, .slice Ao18 t191.length co18, .int .i64 t194, .slice none 0 0]) ?_ 7 _ rfl; refine bk_ ?_; refine blk_put (cs := #[.int .i64 t178, .slice Ao14 t179.length co14, .slice Ao15 t182.length co15, .slice Ao16 t185.length co16, .slice Ao17 t188.length co17, .slice Ao18 t191.length co18, .int .i64 0, .slice none 0 0]) ?_ 6 _ rfl; refine bk_ ?_; refine blk_put (cs := #[.int .i64 t178, .slice Ao14 t179.length co14, .slice Ao15 t182.length co15, .slice Ao16 t185.length co16, .slice Ao17 t188.length co17, .slice none 0 0, .int .i64 0, .slice none 0 0]) ?_ 5 _ rfl; refine bk_ ?_; refine blk_put (cs := #[.int .i64 t178, .slice Ao14 t179.length co14, .slice Ao15 t182.length co15, .slice Ao16 t185.length co16, .slice none 0 0, .slice none 0 0, .int .i64 0, .slice none 0 0]) ?_ 4 _ rfl; refine bk_ ?_; refine blk_put (cs := #[.int .i64 t178, .slice Ao14 t179.length co14, .slice Ao15 t182.length co15, .slice none 0 0, .slice none 0 0, .slice none 0 0, .int .i64 0, .slice none 0 0]) ?_ 3 _ rfl; refine bk_ ?_; refine blk_put (cs := #[.int .i64 t178, .slice Ao14 t179.length co14, .slice none 0 0, .slice none 0 0, .slice none 0 0, .slice none 0 0, .int .i64 0, .slice none 0 0]) ?_ 2 _ rfl; refine bk_ ?_; refine blk_put (cs := #[.int .i64 t178, .slice none 0 0, .slice none 0 0, .slice none 0 0, .slice none 0 0, .slice none 0 0, .int .i64 0, .slice none 0 0]) ?_ 1 _ rfl; refine bk_ ?_; refine blk_put (cs := #[.int .i64 0, .slice none 0 0, .slice none 0 0, .slice none 0 0, .slice none 0 0, .slice none 0 0, .int .i64 0, .slice none 0 0]) ?_ 0 _ rfl; refine bk_ ?_; exact BK177.out) Tryz.underlying32 rfl (by kernel_rfl)) rfl ?_
    exact ⟨_, _, _, _, _, _, _, by first | rfl | (simp [errW_none, errW_some] <;> rfl) | (simp [*, errW_none, errW_some] <;> rfl), by refine vR_ ?_; exact Kd.R_mono (fR_ (fR_ (fR_ (fR_ (fR_ (fR_ (fR_ (fR_ (Kd.R_types HO_199001.out BK177.out (by decide)))))))))) (fun _ hk => ⟨hk.1.1, ⟨hk.1.2.1, ⟨hk.1.2.2.1, hk.1.2.2.2⟩⟩⟩), by refine vR_ ?_; exact Kd.R_mono (fR_ (fR_ (fR_ (fR_ (fR_ (fR_ (fR_ (fR_ (Kd.R_types HO_199002.out BK177.out (by decide)))))))))) (fun _ hk => ⟨hk.1.1, ⟨hk.1.2.1, ⟨hk.1.2.2.1, hk.1.2.2.2⟩⟩⟩), by refine vR_ ?_; exact Kd.R_mono (fR_ (fR_ (fR_ (fR_ (fR_ (fR_ (fR_ (fR_ (Kd.R_types HO_199003.out BK177.out (by decide)))))))))) (fun _ hk => ⟨hk.1.1, ⟨hk.1.2.1, ⟨hk.1.2.2.1, hk.1.2.2.2⟩⟩⟩), by refine vR_ ?_; exact Kd.R_mono (fR_ (fR_ (fR_ (fR_ (fR_ (fR_ (fR_ (fR_ (Kd.R_types HO_199004.out BK177.out (by decide)))))))))) (fun _ hk => ⟨hk.1.1, ⟨hk.1.2.1, ⟨hk.1.2.2.1, hk.1.2.2.2⟩⟩⟩), by refine vR_ ?_; exact Kd.R_mono (fR_ (fR_ (fR_ (fR_ (fR_ (fR_ (fR_ (fR_ (Kd.R_types HO_199005.out BK177.out (by decide)))))))))) (fun _ hk => ⟨hk.1.1, ⟨hk.1.2.1, ⟨hk.1.2.2.1, hk.1.2.2.2⟩⟩⟩), by refine vS_ ?_; exact Kd.S_mono (fS_ (fS_ (fS_ (fS_ (fS_ (fS_ (fS_ (fS_ (Kd.S_types HO_199007.out BK177.out (by decide)))))))))) (fun _ hk => ⟨hk.1.2.1, ⟨hk.1.2.2.1, ⟨hk.1.2.2.2.1, ⟨hk.1.2.2.2.2.1, ⟨hk.1.2.2.2.2.2, hk.1.1⟩⟩⟩⟩⟩), by refine vS_ ?_; exact Kd.S_mono (fS_ (fS_ (fS_ (fS_ (fS_ (fS_ (fS_ (fS_ (Kd.S_types HO_9.out BK177.out (by decide)))))))))) (fun _ hk => ⟨hk.1.1, ⟨hk.1.2.1, ⟨hk.1.2.2.1, ⟨hk.1.2.2.2.1, ⟨hk.1.2.2.2.2.1, hk.1.2.2.2.2.2⟩⟩⟩⟩⟩), bel_⟩


/-! ### jigsawlaw14_kind: function 8 -/
def jigsawlaw14_kind.f (_a0 : Int) : Option Int := some 12
theorem jigsawlaw14_kind.calls (a0 : Int) (r : Int) (w : World) (h : jigsawlaw14_kind.f a0 = some r) :
  Calls Tryz.prog 8 #[.int .u8 a0] w fun e w' => e = .returned (.int .i64 r) ∧ Drawn0 w w' := by
 unfold jigsawlaw14_kind.f at h
 obtain rfl := Option.some.inj h
 clear h
 go_enter Tryz.func8, Tryz.ntmps8
 go_wp2
 go_ret
 exact ⟨by first | rfl | (simp; done) | (simp [*]; done), by repeat (first | exact Drawn0.refl _ | apply Drawn0.step)⟩

/-! ### dom_in: function 50 -/
def dom_in.f (a0 : Int) : Option (Bool) := if a0 ≥ (-1000000) then (some (decide (a0 ≤ 1000000))) else (some false)
set_option maxHeartbeats 8000000 in
set_option maxRecDepth 100000 in
theorem dom_in.calls (a0 : Int) (r : Bool) (w : World) (h : dom_in.f a0 = some r) :
  Calls Tryz.prog 50 #[.int .i64 a0] w fun e w' => e = .returned (.bool r) ∧ Drawn0 w w' := by
 unfold dom_in.f at h
 have H := h
 clear h
 by_cases c2 : a0 ≥ (-1000000)
 ·
  rw [if_pos c2] at H
  have c2b0 : decide ((-1000000) ≤ a0) = true := decide_eq_true c2
  clear c2
  obtain rfl := Option.some.inj H
  go_enter Tryz.func50, Tryz.ntmps50
  go_wp2
  go_ret
  exact ⟨by first | rfl | (simp; done) | (simp [*]; done), by repeat (first | exact Drawn0.refl _ | apply Drawn0.step)⟩
 ·
  rw [if_neg c2] at H
  have c2b0 : decide ((-1000000) ≤ a0) = false := decide_eq_false c2
  clear c2
  obtain rfl := Option.some.inj H
  go_enter Tryz.func50, Tryz.ntmps50
  go_wp2
  go_ret
  exact ⟨by first | rfl | (simp; done) | (simp [*]; done), by repeat (first | exact Drawn0.refl _ | apply Drawn0.step)⟩

/-! ### dom_Dom_word: function 51 -/
def dom_Dom_word.f (a0_0 : Int) (l0_1 : List Int) (a0_2 : Int) (a0_3 : Int) (a0_4 : Int) (a1 : Int) : Option (Int) := if a1 < a0_0 then (some 0) else (if (wrap64 (Int.tdiv (wrap64 (a1 - a0_0)) 64)) ≥ (l0_1.length : Int) then (some 0) else (if 0 ≤ (wrap64 (Int.tdiv (wrap64 (a1 - a0_0)) 64)) then (if (wrap64 (Int.tdiv (wrap64 (a1 - a0_0)) 64)) < (l0_1.length : Int) then (some (rd l0_1 (wrap64 (Int.tdiv (wrap64 (a1 - a0_0)) 64)))) else (none)) else (none)))
set_option maxHeartbeats 8000000 in
set_option maxRecDepth 100000 in
theorem dom_Dom_word.calls (a0_0 : Int) (A0_1 : Option Addr) (c0_1 : Nat) (l0_1 : List Int) (a0_2 : Int) (a0_3 : Int) (a0_4 : Int) (a1 : Int) (r : Int) (w : World) (hr0_1 : Kd.C (Kd.int .u64) w A0_1 l0_1.length l0_1) (hc0_1 : l0_1.length ≤ c0_1) (h : dom_Dom_word.f a0_0 l0_1 a0_2 a0_3 a0_4 a1 = some r) :
  Calls Tryz.prog 51 #[.agg #[.int .i64 a0_0, .slice A0_1 l0_1.length c0_1, .int .i64 a0_2, .int .i64 a0_3, .int .i64 a0_4], .int .i64 a1] w fun e w' => e = .returned (.int .u64 r) ∧ Below w.heap.size w w' := by
 have hu58 := Tryz.underlying58
 have HR0_1 := Aside0.mk hr0_1
 have HC0_1 := Aside0.mk hc0_1
 clear hr0_1 hc0_1
 have HB := Aside0.mk (Below.refl w.heap.size w)
 unfold dom_Dom_word.f at h
 have H := h
 clear h
 by_cases c3 : a1 < a0_0
 ·
  rw [if_pos c3] at H
  have c3b0 : decide (a1 < a0_0) = true := decide_eq_true c3
  clear c3
  obtain rfl := Option.some.inj H
  go_enter Tryz.func51, Tryz.ntmps51
  go_wp2_with (first | ((with_reducible refine gate_dst (N := 2) rfl ?_); (try (refine gate_guard (by rfl) ?_; dsimp only)); refine bxe_ (N := 2) (cs := #[.int .i64 a0_0, .slice A0_1 l0_1.length c0_1, .int .i64 a0_2, .int .i64 a0_3, .int .i64 a0_4]) (t := 58) ?_; intro gb222 hg w4 hbox hb; have BK222 := Aside0.mk (hbox); have GW222 := Aside0.mk (by rw [hg]; exact (below_size bel_) : w.heap.size ≤ gb222); have GE222 := GW222; replace HB := Aside0.mk (below_step bel_ hb); clear hb hbox hg; obtain ⟨_, _, _, _, _, _, _, _, _, _⟩ := cel5_ BK222.out))
  go_ret
  exact ⟨by first | rfl | (simp [errW_none, errW_some] <;> rfl) | (simp [*, errW_none, errW_some] <;> rfl), bel_⟩
 ·
  rw [if_neg c3] at H
  have c3b0 : decide (a1 < a0_0) = false := decide_eq_false c3
  clear c3
  by_cases c6 : (wrap64 (Int.tdiv (wrap64 (a1 - a0_0)) 64)) ≥ (l0_1.length : Int)
  ·
   rw [if_pos c6] at H
   have c6b0 : decide ((l0_1.length : Int) ≤ (wrap64 (Int.tdiv (wrap64 (a1 - a0_0)) 64))) = true := decide_eq_true c6
   clear c6
   obtain rfl := Option.some.inj H
   go_enter Tryz.func51, Tryz.ntmps51
   go_wp2_with (first | ((with_reducible refine gate_dst (N := 2) rfl ?_); (try (refine gate_guard (by rfl) ?_; dsimp only)); refine bxe_ (N := 2) (cs := #[.int .i64 a0_0, .slice A0_1 l0_1.length c0_1, .int .i64 a0_2, .int .i64 a0_3, .int .i64 a0_4]) (t := 58) ?_; intro gb222 hg w7 hbox hb; have BK222 := Aside0.mk (hbox); have GW222 := Aside0.mk (by rw [hg]; exact (below_size bel_) : w.heap.size ≤ gb222); have GE222 := GW222; replace HB := Aside0.mk (below_step bel_ hb); clear hb hbox hg; obtain ⟨_, _, _, _, _, _, _, _, _, _⟩ := cel5_ BK222.out))
   go_ret
   exact ⟨by first | rfl | (simp [errW_none, errW_some] <;> rfl) | (simp [*, errW_none, errW_some] <;> rfl), bel_⟩
  ·
   rw [if_neg c6] at H
   have c6b0 : decide ((l0_1.length : Int) ≤ (wrap64 (Int.tdiv (wrap64 (a1 - a0_0)) 64))) = false := decide_eq_false c6
   clear c6
   obtain ⟨ji9, hji9⟩ : ∃ j_ : Int, (wrap64 (Int.tdiv (wrap64 (a1 - a0_0)) 64)) = j_ := ⟨_, rfl⟩
   replace H : (if 0 ≤ (ji9) then (if (ji9) < (l0_1.length : Int) then (some (rd l0_1 (ji9))) else (none)) else (none)) = some r := by first | (rw [hji9] at H; exact H) | (simp only [hji9] at H ⊢; exact H)
   (try rw [hji9] at c6b0)
   have hji9w : (IntKind.i64.wrap (Int.tdiv (wrap64 (a1 - a0_0)) 64)) = ji9 := (i64_w _).trans hji9
   by_cases c10 : 0 ≤ (ji9)
   ·
    rw [if_pos c10] at H
    have c10b0 : decide (0 ≤ (ji9)) = true := decide_eq_true c10
    clear c10
    by_cases c11 : (ji9) < (l0_1.length : Int)
    ·
     rw [if_pos c11] at H
     have c11b0 : decide ((ji9) < (l0_1.length : Int)) = true := decide_eq_true c11
     clear c11
     obtain rfl := Option.some.inj H
     go_enter Tryz.func51, Tryz.ntmps51
     go_wp2_with (first | ((with_reducible refine gate_dst (N := 2) rfl ?_); (try (refine gate_guard (by rfl) ?_; dsimp only)); refine bxe_ (N := 2) (cs := #[.int .i64 a0_0, .slice A0_1 l0_1.length c0_1, .int .i64 a0_2, .int .i64 a0_3, .int .i64 a0_4]) (t := 58) ?_; intro gb222 hg w12 hbox hb; have BK222 := Aside0.mk (hbox); have GW222 := Aside0.mk (by rw [hg]; exact (below_size bel_) : w.heap.size ≤ gb222); have GE222 := GW222; replace HB := Aside0.mk (below_step bel_ hb); clear hb hbox hg; obtain ⟨_, _, _, _, _, _, _, _, _, _⟩ := cel5_ BK222.out; have p223 : 0 ≤ ((ji9) : Int) := dq_; have q223 : (ji9) < (l0_1.length : Int) := dq_; obtain ⟨ad223, e223, hx223_0⟩ := Kd.at_int HR0_1.out (ji9) p223 q223; cases e223; replace hx223_0 := (HB.out.cell (World.block_lt_of_cell? w _ hx223_0)).trans hx223_0; replace p223 := eq_true p223; replace q223 := eq_true q223))
     go_ret
     exact ⟨by first | rfl | (simp [errW_none, errW_some] <;> rfl) | (simp only [← hji9]; first | rfl | (simp [errW_none, errW_some] <;> rfl)) | (simp [*, errW_none, errW_some] <;> rfl), bel_⟩
    ·
     rw [if_neg c11] at H
     exact absurd H (by simp)
   ·
    rw [if_neg c10] at H
    exact absurd H (by simp)

/-! ### dom_place: function 52 -/
def dom_place.f (a0 : Int) : Option (Int) := some (Go.bits .andNot .i64 a0 63)
set_option maxHeartbeats 8000000 in
set_option maxRecDepth 100000 in
theorem dom_place.calls (a0 : Int) (r : Int) (w : World) (h : dom_place.f a0 = some r) :
  Calls Tryz.prog 52 #[.int .i64 a0] w fun e w' => e = .returned (.int .i64 r) ∧ Drawn0 w w' := by
 unfold dom_place.f at h
 have H := h
 clear h
 obtain rfl := Option.some.inj H
 go_enter Tryz.func52, Tryz.ntmps52
 go_wp2
 go_ret
 exact ⟨by first | rfl | (simp; done) | (simp [*]; done), by repeat (first | exact Drawn0.refl _ | apply Drawn0.step)⟩

/-! ### dom_Dom_Has: function 24 -/
def dom_Dom_Has.f (a0_0 : Int) (l0_1 : List Int) (a0_2 : Int) (a0_3 : Int) (a0_4 : Int) (a1 : Int) : Option (Bool) := (dom_in.f a1).bind fun t225 => (if t225 = true then ((dom_place.f a1).bind fun t226 => ((dom_Dom_word.f a0_0 l0_1 a0_2 a0_3 a0_4 t226).bind fun t227 => ((dom_place.f a1).bind fun t228 => (if 0 ≤ (wrap64 (a1 - t228)) then (some ((Go.bits .and .u64 (shr .u64 t227 (wrap64 (a1 - t228))) 1) == 1)) else (none))))) else (some false))
def dom_Dom_Has.T1 : Bool × List (List Nat × List Nat) := (true, [([], []), ([0], [0]), ([1, 1], [1]), ([2], [2]), ([2], [2]), ([4, 2, 2], [2, 4]), ([3, 5, 5, 2], [2, 3, 5]), ([2], [2]), ([2], [2]), ([8, 6, 2], [2, 8]), ([7, 9, 2], [2, 7, 9]), ([6, 10, 2], [2, 6, 10]), ([11, 2], [2, 11]), ([12, 2], [2, 12]), ([2, 13], [2, 13]), ([14, 9, 0, 1, 2, 3, 4, 5, 6, 7, 8, 9, 10, 11, 12, 13, 14], [14])])
def dom_Dom_Has.B1 : List Nat := [0, 1, 3, 7, 7, 23, 63, 7, 7, 383, 1023, 2047, 4095, 8191, 16383, 32767]
theorem dom_Dom_Has.tab1 : rtab .any (opsOf Tryz.f24 1) = dom_Dom_Has.T1 := by kernel_rfl
theorem dom_Dom_Has.bits1 : waitsOk dom_Dom_Has.T1.2 dom_Dom_Has.B1 = true := by kernel_rfl
set_option maxHeartbeats 8000000 in
set_option maxRecDepth 100000 in
theorem dom_Dom_Has.calls (a0_0 : Int) (A0_1 : Option Addr) (c0_1 : Nat) (l0_1 : List Int) (a0_2 : Int) (a0_3 : Int) (a0_4 : Int) (a1 : Int) (r : Bool) (w : World) (hr0_1 : Kd.C (Kd.int .u64) w A0_1 l0_1.length l0_1) (hc0_1 : l0_1.length ≤ c0_1) (h : dom_Dom_Has.f a0_0 l0_1 a0_2 a0_3 a0_4 a1 = some r) :
  Calls Tryz.prog 24 #[.agg #[.int .i64 a0_0, .slice A0_1 l0_1.length c0_1, .int .i64 a0_2, .int .i64 a0_3, .int .i64 a0_4], .int .i64 a1] w fun e w' => e = .returned (.bool r) ∧ Below w.heap.size w w' := by
 have hu58 := Tryz.underlying58
 have HR0_1 := Aside0.mk hr0_1
 have HC0_1 := Aside0.mk hc0_1
 clear hr0_1 hc0_1
 have HB := Aside0.mk (Below.refl w.heap.size w)
 unfold dom_Dom_Has.f at h
 have H := h
 clear h
 replace H := Option.bind_eq_some_iff.mp H
 obtain ⟨t225, A30, H⟩ := H
 try dsimp only at H
 have A3 := Aside0.mk A30
 clear A30
 by_cases c4 : t225 = true
 ·
  subst c4
  rw [if_pos rfl] at H
  replace H := Option.bind_eq_some_iff.mp H
  obtain ⟨t226, A50, H⟩ := H
  try dsimp only at H
  have A5 := Aside0.mk A50
  clear A50
  replace H := Option.bind_eq_some_iff.mp H
  obtain ⟨t227, A60, H⟩ := H
  try dsimp only at H
  have A6 := Aside0.mk A60
  clear A60
  replace H := Option.bind_eq_some_iff.mp H
  obtain ⟨t228, A70, H⟩ := H
  try dsimp only at H
  have A7 := Aside0.mk A70
  clear A70
  obtain ⟨ji8, hji8⟩ : ∃ j_ : Int, (wrap64 (a1 - t228)) = j_ := ⟨_, rfl⟩
  replace H : (if 0 ≤ (ji8) then (some ((Go.bits .and .u64 (shr .u64 t227 (ji8)) 1) == 1)) else (none)) = some r := by first | (rw [hji8] at H; exact H) | (simp only [hji8] at H ⊢; exact H)
  (try rw [hji8] at A3)
  (try rw [hji8] at A5)
  (try rw [hji8] at A6)
  (try rw [hji8] at A7)
  have hji8w : (IntKind.i64.wrap (a1 - t228)) = ji8 := (i64_w _).trans hji8
  by_cases c9 : 0 ≤ (ji8)
  ·
   rw [if_pos c9] at H
   have c9b0 := eq_true c9
   have c9b1 : decide (0 ≤ (ji8)) = true := decide_eq_true c9
   clear c9
   obtain ⟨ji10, hji10⟩ : ∃ j_ : Int, (shr .u64 t227 (ji8)) = j_ := ⟨_, rfl⟩
   replace H : (some ((Go.bits .and .u64 (ji10) 1) == 1)) = some r := by first | (rw [hji10] at H; exact H) | (simp only [hji10] at H ⊢; exact H)
   (try rw [hji10] at A3)
   (try rw [hji10] at A5)
   (try rw [hji10] at A6)
   (try rw [hji10] at A7)
   have hji10_ : (t227 / 2 ^ min (ji8).toNat 64) = ji10 := hji10
   have hji10z : (ji8) ≤ 64 → (t227 / 2 ^ (ji8).toNat) = ji10 := shr_small hji10
   obtain rfl := Option.some.inj H
   go_enter Tryz.func24, Tryz.ntmps24
   try go_wp2_with (first | ((with_reducible refine gate_dst (N := 2) rfl ?_); refine bxe_ (N := 2) (cs := #[.int .i64 a0_0, .slice A0_1 l0_1.length c0_1, .int .i64 a0_2, .int .i64 a0_3, .int .i64 a0_4]) (t := 58) ?_; intro gb224 hg w11 hbox hb; have BK224 := Aside0.mk (hbox); have GW224 := Aside0.mk (by rw [hg]; exact (below_size bel_) : w.heap.size ≤ gb224); have GE224 := GW224; replace HB := Aside0.mk (below_step bel_ hb); clear hb hbox hg))
   replace BK224 := Aside0.mk (blk_drew BK224.out)
   replace HB := Aside0.mk (below_drew1 HB.out)
   refine start_ (n := 16) (S := fun w' => w'.cell? ⟨gb224, 0, none⟩ = some (.int .i64 a0_0) ∧ w'.cell? ⟨gb224, 1, none⟩ = some (.slice A0_1 l0_1.length c0_1) ∧ w'.cell? ⟨gb224, 2, none⟩ = some (.int .i64 a0_2) ∧ w'.cell? ⟨gb224, 3, none⟩ = some (.int .i64 a0_3) ∧ w'.cell? ⟨gb224, 4, none⟩ = some (.int .i64 a0_4)) (ds := []) #[false, false, false, false, false, false, false, false, false, false, false, false, false, false, false, false] (by kernel_rfl) rfl rfl (ca5_ BK224.out) (fun hHeld => ?_); refine with_tabW dom_Dom_Has.tab1 dom_Dom_Has.bits1 (fun HT_ HW_ => ?_)
   generalize w11.drew = w12 at BK224 HB hHeld ⊢
   refine pu_ (i := 0) (N := some 5) (any_of HT_.out (by kernel_rfl)) ?_
   refine one_ (i := 1) (N := some 6) #[true, true, false, false, false, false, false, false, false, false, false, false, false, false, false, false] rfl rfl (one_of HT_.out (by kernel_rfl)) (by decide) (fun K hK => ?_)
   refine goes_ Tryz.func50 (by kernel_rfl) rfl #[.int .i64 a1] (by rfl) rfl rfl ar_ ?_
   with_reducible refine (dom_in.calls a1 true _ A3.out).mono ?_
   rintro e w' ⟨rfl, ⟨nd, rfl⟩⟩
   refine ⟨_, rfl, ?_⟩
   refine hK.out _ _ (ca5_ BK224.out) (fun hHeld => ?_)
   clear hK K
   refine nor_ (N := some 6) ?_
   refine pu_ (i := 2) (N := some 7) (any_of HT_.out (by kernel_rfl)) ?_
   refine pu_ (i := 4) (N := some 9) (any_of HT_.out (by kernel_rfl)) ?_
   refine pu_ (i := 7) (N := some 12) (any_of HT_.out (by kernel_rfl)) ?_
   refine pu_ (i := 8) (N := some 13) (any_of HT_.out (by kernel_rfl)) ?_
   refine tak_ (i := 3) (N := some 8) (take_ofW HT_.out HW_.out (by kernel_rfl)) hHeld ?_
   refine one_ (i := 5) (N := some 10) #[true, true, true, true, true, true, false, true, true, false, false, false, false, false, false, false] rfl rfl (one_of HT_.out (by kernel_rfl)) (by decide) (fun K hK => ?_)
   refine goes_ Tryz.func52 (by kernel_rfl) rfl #[.int .i64 a1] (by rfl) rfl rfl ar_ ?_
   with_reducible refine (dom_place.calls a1 t226 _ A5.out).mono ?_
   rintro e w' ⟨rfl, ⟨nd, rfl⟩⟩
   refine ⟨_, rfl, ?_⟩
   refine hK.out _ _ (ca5_ BK224.out) (fun hHeld => ?_)
   clear hK K
   refine nor_ (N := some 10) ?_
   refine one_ (i := 6) (N := some 11) #[true, true, true, true, true, true, true, true, true, false, false, false, false, false, false, false] rfl rfl (one_of HT_.out (by kernel_rfl)) (by decide) (fun K hK => ?_)
   refine goes_ Tryz.func51 (by kernel_rfl) rfl #[.agg #[.int .i64 a0_0, .slice A0_1 l0_1.length c0_1, .int .i64 a0_2, .int .i64 a0_3, .int .i64 a0_4], .int .i64 t226] (by rfl) rfl rfl ar_ ?_
   with_reducible refine (dom_Dom_word.calls a0_0 _ _ l0_1 a0_2 a0_3 a0_4 t226 t227 _ ?_ ?_ A6.out).mono ?_
   focus repeat (first | exact (Kd.C_below HR0_1.out bel_) | (with_reducible refine Kd.C_alloc ?_ _) | (with_reducible refine Kd.C_drewN ?_ _) | (with_reducible refine Kd.C_drew ?_))
   exact HC0_1.out
   rintro e w13 ⟨rfl, hb⟩
   refine ⟨_, rfl, ?_⟩
   replace BK224 := Aside0.mk (blk_below (bk_ BK224.out) hb)
   replace HB := Aside0.mk (below_step bel_ hb)
   clear hb
   refine hK.out _ _ (ca5_ BK224.out) (fun hHeld => ?_)
   clear hK K
   refine nor_ (N := some 11) ?_
   refine one_ (i := 9) (N := some 14) #[true, true, true, true, true, true, true, true, true, true, false, false, false, false, false, false] rfl rfl (one_of HT_.out (by kernel_rfl)) (by decide) (fun K hK => ?_)
   refine goes_ Tryz.func52 (by kernel_rfl) rfl #[.int .i64 a1] (by rfl) rfl rfl ar_ ?_
   with_reducible refine (dom_place.calls a1 t228 _ A7.out).mono ?_
   rintro e w' ⟨rfl, ⟨nd, rfl⟩⟩
   refine ⟨_, rfl, ?_⟩
   refine hK.out _ _ (ca5_ BK224.out) (fun hHeld => ?_)
   clear hK K
   refine nor_ (N := some 14) ?_
   refine pu_ (i := 10) (N := some 15) (any_of HT_.out (by kernel_rfl)) ?_
   refine pu_ (i := 11) (N := some 16) (any_of HT_.out (by kernel_rfl)) ?_
   refine pu_ (i := 12) (N := some 17) (any_of HT_.out (by kernel_rfl)) ?_
   refine pu_ (i := 13) (N := some 18) (any_of HT_.out (by kernel_rfl)) ?_
   refine pu_ (i := 14) (N := some 19) (any_of HT_.out (by kernel_rfl)) ?_
   refine pu_ (i := 15) (N := some 4) (any_of HT_.out (by kernel_rfl)) ?_
   refine done_ (done_of HT_.out (by kernel_rfl)) ?_
   try go_wp2
   go_ret
   exact ⟨by first | rfl | (simp [errW_none, errW_some] <;> rfl) | (simp only [← hji8, ← hji10]; first | rfl | (simp [errW_none, errW_some] <;> rfl)) | (simp [*, errW_none, errW_some] <;> rfl), bel_⟩
  ·
   rw [if_neg c9] at H
   exact absurd H (by simp)
 ·
  replace c4 := Bool.eq_false_iff.mpr c4
  subst c4
  have H1 : (some false) = some r := by rw [if_neg (show ¬ (false = true) by decide)] at H; exact H
  clear H
  have H := H1
  clear H1
  obtain rfl := Option.some.inj H
  go_enter Tryz.func24, Tryz.ntmps24
  try go_wp2_with (first | ((with_reducible refine gate_dst (N := 2) rfl ?_); refine bxe_ (N := 2) (cs := #[.int .i64 a0_0, .slice A0_1 l0_1.length c0_1, .int .i64 a0_2, .int .i64 a0_3, .int .i64 a0_4]) (t := 58) ?_; intro gb224 hg w14 hbox hb; have GW224 := Aside0.mk (by rw [hg]; exact (below_size bel_) : w.heap.size ≤ gb224); have GE224 := GW224; replace HB := Aside0.mk (below_step bel_ hb); clear hb hbox hg))
  replace HB := Aside0.mk (below_drew1 HB.out)
  refine start_ (n := 16) (S := fun w' => True) (ds := []) #[false, false, false, false, false, false, false, false, false, false, false, false, false, false, false, false] (by kernel_rfl) rfl rfl trivial (fun hHeld => ?_); refine with_tabW dom_Dom_Has.tab1 dom_Dom_Has.bits1 (fun HT_ HW_ => ?_)
  generalize w14.drew = w15 at HB hHeld ⊢
  refine pu_ (i := 0) (N := some 5) (any_of HT_.out (by kernel_rfl)) ?_
  refine one_ (i := 1) (N := some 6) #[true, true, false, false, false, false, false, false, false, false, false, false, false, false, false, false] rfl rfl (one_of HT_.out (by kernel_rfl)) (by decide) (fun K hK => ?_)
  refine goes_ Tryz.func50 (by kernel_rfl) rfl #[.int .i64 a1] (by rfl) rfl rfl ar_ ?_
  with_reducible refine (dom_in.calls a1 false _ A3.out).mono ?_
  rintro e w' ⟨rfl, ⟨nd, rfl⟩⟩
  refine ⟨_, rfl, ?_⟩
  refine hK.out _ _ trivial (fun hHeld => ?_)
  clear hK K
  refine nor_ (N := some 6) ?_
  refine pu_ (i := 2) (N := some 7) (any_of HT_.out (by kernel_rfl)) ?_
  refine und_ (i := 3) (N := some 8) (any_of HT_.out (by kernel_rfl)) ?_
  refine und_ (i := 4) (N := some 9) (any_of HT_.out (by kernel_rfl)) ?_
  refine und_ (i := 5) (N := some 10) (any_of HT_.out (by kernel_rfl)) ?_
  refine und_ (i := 6) (N := some 11) (any_of HT_.out (by kernel_rfl)) ?_
  refine und_ (i := 7) (N := some 12) (any_of HT_.out (by kernel_rfl)) ?_
  refine und_ (i := 8) (N := some 13) (any_of HT_.out (by kernel_rfl)) ?_
  refine und_ (i := 9) (N := some 14) (any_of HT_.out (by kernel_rfl)) ?_
  refine und_ (i := 10) (N := some 15) (any_of HT_.out (by kernel_rfl)) ?_
  refine und_ (i := 11) (N := some 16) (any_of HT_.out (by kernel_rfl)) ?_
  refine und_ (i := 12) (N := some 17) (any_of HT_.out (by kernel_rfl)) ?_
  refine und_ (i := 13) (N := some 18) (any_of HT_.out (by kernel_rfl)) ?_
  refine pu_ (i := 14) (N := some 19) (any_of HT_.out (by kernel_rfl)) ?_
  refine pu_ (i := 15) (N := some 4) (any_of HT_.out (by kernel_rfl)) ?_
  refine done_ (done_of HT_.out (by kernel_rfl)) ?_
  try go_wp2
  go_ret
  exact ⟨by first | rfl | (simp [errW_none, errW_some] <;> rfl) | (simp [*, errW_none, errW_some] <;> rfl), bel_⟩

-- NOT PRINTED: function 73 (dom_Dom_73)

-- NOT PRINTED: function 54 (dom_Dom_54)

/-! ### dom_Dom_Size: function 56 -/
def dom_Dom_Size.f (a0_0 : Int) (l0_1 : List Int) (a0_2 : Int) (a0_3 : Int) (a0_4 : Int) : Option (Int) := some a0_4
set_option maxHeartbeats 8000000 in
set_option maxRecDepth 100000 in
theorem dom_Dom_Size.calls (a0_0 : Int) (A0_1 : Option Addr) (c0_1 : Nat) (l0_1 : List Int) (a0_2 : Int) (a0_3 : Int) (a0_4 : Int) (r : Int) (w : World) (hr0_1 : Kd.C (Kd.int .u64) w A0_1 l0_1.length l0_1) (hc0_1 : l0_1.length ≤ c0_1) (h : dom_Dom_Size.f a0_0 l0_1 a0_2 a0_3 a0_4 = some r) :
  Calls Tryz.prog 56 #[.agg #[.int .i64 a0_0, .slice A0_1 l0_1.length c0_1, .int .i64 a0_2, .int .i64 a0_3, .int .i64 a0_4]] w fun e w' => e = .returned (.int .i64 r) ∧ Below w.heap.size w w' := by
 have hu58 := Tryz.underlying58
 have HC0_1 := Aside0.mk hc0_1
 clear hr0_1 hc0_1
 have HB := Aside0.mk (Below.refl w.heap.size w)
 unfold dom_Dom_Size.f at h
 have H := h
 clear h
 obtain rfl := Option.some.inj H
 go_enter Tryz.func56, Tryz.ntmps56
 go_wp2_with (first | ((with_reducible refine gate_dst (N := 1) rfl ?_); refine bxe_ (N := 1) (cs := #[.int .i64 a0_0, .slice A0_1 l0_1.length c0_1, .int .i64 a0_2, .int .i64 a0_3, .int .i64 a0_4]) (t := 58) ?_; intro gb229 hg w2 hbox hb; have BK229 := Aside0.mk (hbox); have GW229 := Aside0.mk (by rw [hg]; exact (below_size bel_) : w.heap.size ≤ gb229); have GE229 := GW229; replace HB := Aside0.mk (below_step bel_ hb); clear hb hbox hg; obtain ⟨_, _, _, _, _, _, _, _, _, _⟩ := cel5_ BK229.out))
 go_ret
 exact ⟨by first | rfl | (simp [errW_none, errW_some] <;> rfl) | (simp [*, errW_none, errW_some] <;> rfl), bel_⟩

/-! ### prop_Fits_1: function 55 -/
def prop_Fits_1.f (a0_0 : Int) (l0_1 : List Int) (a0_2 : Int) (a0_3 : Int) (a0_4 : Int) : Option (Bool) := (dom_Dom_Size.f a0_0 l0_1 a0_2 a0_3 a0_4).bind fun t231 => (some (t231 == 0))
set_option maxHeartbeats 8000000 in
set_option maxRecDepth 100000 in
theorem prop_Fits_1.calls (a0_0 : Int) (A0_1 : Option Addr) (c0_1 : Nat) (l0_1 : List Int) (a0_2 : Int) (a0_3 : Int) (a0_4 : Int) (r : Bool) (w : World) (hr0_1 : Kd.C (Kd.int .u64) w A0_1 l0_1.length l0_1) (hc0_1 : l0_1.length ≤ c0_1) (h : prop_Fits_1.f a0_0 l0_1 a0_2 a0_3 a0_4 = some r) :
  Calls Tryz.prog 55 #[.agg #[.int .i64 a0_0, .slice A0_1 l0_1.length c0_1, .int .i64 a0_2, .int .i64 a0_3, .int .i64 a0_4]] w fun e w' => e = .returned (.bool r) ∧ Below w.heap.size w w' := by
 have hu58 := Tryz.underlying58
 have HR0_1 := Aside0.mk hr0_1
 have HC0_1 := Aside0.mk hc0_1
 clear hr0_1 hc0_1
 have HB := Aside0.mk (Below.refl w.heap.size w)
 unfold prop_Fits_1.f at h
 have H := h
 clear h
 replace H := Option.bind_eq_some_iff.mp H
 obtain ⟨t231, A20, H⟩ := H
 try dsimp only at H
 have A2 := Aside0.mk A20
 clear A20
 obtain rfl := Option.some.inj H
 go_enter Tryz.func55, Tryz.ntmps55
 go_wp2_with (first | ((with_reducible refine gate_dst (N := 1) rfl ?_); refine bxe_ (N := 1) (cs := #[.int .i64 a0_0, .slice A0_1 l0_1.length c0_1, .int .i64 a0_2, .int .i64 a0_3, .int .i64 a0_4]) (t := 58) ?_; intro gb230 hg w3 hbox hb; have BK230 := Aside0.mk (hbox); have GW230 := Aside0.mk (by rw [hg]; exact (below_size bel_) : w.heap.size ≤ gb230); have GE230 := GW230; replace HB := Aside0.mk (below_step bel_ hb); clear hb hbox hg; obtain ⟨_, _, _, _, _, _, _, _, _, _⟩ := cel5_ BK230.out) | ((with_reducible refine gate_callee (f := 56) rfl ?_); refine goesL_ (some 4) rfl rfl Tryz.func56 (by kernel_rfl) rfl #[.agg #[.int .i64 a0_0, .slice A0_1 l0_1.length c0_1, .int .i64 a0_2, .int .i64 a0_3, .int .i64 a0_4]] rfl ar_ ?_; (with_reducible refine (dom_Dom_Size.calls a0_0 _ _ l0_1 a0_2 a0_3 a0_4 t231 _ ?_ ?_ A2.out).mono ?_); exact ca_ ((Kd.C_below HR0_1.out HB.out)); exact HC0_1.out; rintro e w5 ⟨rfl, hb⟩; refine ⟨_, rfl, ?_⟩; replace HB := Aside0.mk (below_step bel_ hb); clear hb))
 go_ret
 exact ⟨by first | rfl | (simp [errW_none, errW_some] <;> rfl) | (simp [*, errW_none, errW_some] <;> rfl), bel_⟩

-- NOT PRINTED: function 83 (slices_IndexFunc_int_int_83)

-- NOT PRINTED: function 60 (slices_ContainsFunc_int_int_60)


/-! ### model_forms: function 89 -/
def model_forms.f  : Option ((List (S116))) := some (([(⟨(⟨#[108, 105, 110, 95, 101, 113]⟩ : ByteArray), (⟨#[99, 86, 107]⟩ : ByteArray)⟩ : S116), (⟨(⟨#[108, 105, 110, 95, 108, 101]⟩ : ByteArray), (⟨#[99, 86, 107]⟩ : ByteArray)⟩ : S116), (⟨(⟨#[108, 105, 110, 95, 110, 101]⟩ : ByteArray), (⟨#[99, 86, 107]⟩ : ByteArray)⟩ : S116), (⟨(⟨#[108, 105, 110, 95, 114, 101, 105, 102]⟩ : ByteArray), (⟨#[99, 86, 107, 119]⟩ : ByteArray)⟩ : S116), (⟨(⟨#[116, 105, 109, 101, 115]⟩ : ByteArray), (⟨#[118, 118, 118]⟩ : ByteArray)⟩ : S116), (⟨(⟨#[100, 105, 118]⟩ : ByteArray), (⟨#[118, 118, 118]⟩ : ByteArray)⟩ : S116), (⟨(⟨#[109, 111, 100]⟩ : ByteArray), (⟨#[118, 118, 118]⟩ : ByteArray)⟩ : S116), (⟨(⟨#[97, 98, 115]⟩ : ByteArray), (⟨#[118, 118]⟩ : ByteArray)⟩ : S116), (⟨(⟨#[109, 105, 110]⟩ : ByteArray), (⟨#[118, 118, 118]⟩ : ByteArray)⟩ : S116), (⟨(⟨#[109, 97, 120]⟩ : ByteArray), (⟨#[118, 118, 118]⟩ : ByteArray)⟩ : S116), (⟨(⟨#[101, 108, 101, 109, 101, 110, 116]⟩ : ByteArray), (⟨#[118, 99, 118]⟩ : ByteArray)⟩ : S116), (⟨(⟨#[99, 108, 97, 117, 115, 101]⟩ : ByteArray), (⟨#[86, 87]⟩ : ByteArray)⟩ : S116), (⟨(⟨#[101, 113, 95, 114, 101, 105, 102]⟩ : ByteArray), (⟨#[118, 107, 119]⟩ : ByteArray)⟩ : S116), (⟨(⟨#[108, 101, 95, 114, 101, 105, 102]⟩ : ByteArray), (⟨#[118, 107, 119]⟩ : ByteArray)⟩ : S116), (⟨(⟨#[101, 113, 95, 105, 109, 112]⟩ : ByteArray), (⟨#[118, 107, 119]⟩ : ByteArray)⟩ : S116), (⟨(⟨#[108, 101, 95, 105, 109, 112]⟩ : ByteArray), (⟨#[118, 107, 119]⟩ : ByteArray)⟩ : S116), (⟨(⟨#[97, 108, 108, 95, 100, 105, 102, 102, 101, 114, 101, 110, 116]⟩ : ByteArray), (⟨#[86]⟩ : ByteArray)⟩ : S116), (⟨(⟨#[116, 97, 98, 108, 101]⟩ : ByteArray), (⟨#[86, 114]⟩ : ByteArray)⟩ : S116), (⟨(⟨#[99, 117, 109, 117, 108, 97, 116, 105, 118, 101]⟩ : ByteArray), (⟨#[86, 99, 100, 107]⟩ : ByteArray)⟩ : S116), (⟨(⟨#[99, 105, 114, 99, 117, 105, 116]⟩ : ByteArray), (⟨#[86]⟩ : ByteArray)⟩ : S116), (⟨(⟨#[103, 99, 99]⟩ : ByteArray), (⟨#[86, 99, 100, 101]⟩ : ByteArray)⟩ : S116), (⟨(⟨#[108, 101, 120, 95, 108, 101]⟩ : ByteArray), (⟨#[86, 87]⟩ : ByteArray)⟩ : S116), (⟨(⟨#[105, 110, 118, 101, 114, 115, 101]⟩ : ByteArray), (⟨#[86, 87]⟩ : ByteArray)⟩ : S116)] : List (S116)))
set_option maxHeartbeats 8000000 in
set_option maxRecDepth 100000 in
theorem model_forms.calls  (r : List (S116)) (w : World) (h : model_forms.f  = some r) :
  Calls Tryz.prog 89 #[] w fun e w' => ∃ v0_ : Value, e = .returned (v0_) ∧ Kd.R k116 116 w' w.heap.size (fun _ => True) v0_ r ∧ Below w.heap.size w w' := by
 have hu116 := Tryz.underlying116
 have HB := Aside0.mk (Below.refl w.heap.size w)
 unfold model_forms.f at h
 have H := h
 clear h
 obtain ⟨y232, hy232⟩ : ∃ y_ : List (S116), y_ = (([(⟨(⟨#[108, 105, 110, 95, 101, 113]⟩ : ByteArray), (⟨#[99, 86, 107]⟩ : ByteArray)⟩ : S116), (⟨(⟨#[108, 105, 110, 95, 108, 101]⟩ : ByteArray), (⟨#[99, 86, 107]⟩ : ByteArray)⟩ : S116), (⟨(⟨#[108, 105, 110, 95, 110, 101]⟩ : ByteArray), (⟨#[99, 86, 107]⟩ : ByteArray)⟩ : S116), (⟨(⟨#[108, 105, 110, 95, 114, 101, 105, 102]⟩ : ByteArray), (⟨#[99, 86, 107, 119]⟩ : ByteArray)⟩ : S116), (⟨(⟨#[116, 105, 109, 101, 115]⟩ : ByteArray), (⟨#[118, 118, 118]⟩ : ByteArray)⟩ : S116), (⟨(⟨#[100, 105, 118]⟩ : ByteArray), (⟨#[118, 118, 118]⟩ : ByteArray)⟩ : S116), (⟨(⟨#[109, 111, 100]⟩ : ByteArray), (⟨#[118, 118, 118]⟩ : ByteArray)⟩ : S116), (⟨(⟨#[97, 98, 115]⟩ : ByteArray), (⟨#[118, 118]⟩ : ByteArray)⟩ : S116), (⟨(⟨#[109, 105, 110]⟩ : ByteArray), (⟨#[118, 118, 118]⟩ : ByteArray)⟩ : S116), (⟨(⟨#[109, 97, 120]⟩ : ByteArray), (⟨#[118, 118, 118]⟩ : ByteArray)⟩ : S116), (⟨(⟨#[101, 108, 101, 109, 101, 110, 116]⟩ : ByteArray), (⟨#[118, 99, 118]⟩ : ByteArray)⟩ : S116), (⟨(⟨#[99, 108, 97, 117, 115, 101]⟩ : ByteArray), (⟨#[86, 87]⟩ : ByteArray)⟩ : S116), (⟨(⟨#[101, 113, 95, 114, 101, 105, 102]⟩ : ByteArray), (⟨#[118, 107, 119]⟩ : ByteArray)⟩ : S116), (⟨(⟨#[108, 101, 95, 114, 101, 105, 102]⟩ : ByteArray), (⟨#[118, 107, 119]⟩ : ByteArray)⟩ : S116), (⟨(⟨#[101, 113, 95, 105, 109, 112]⟩ : ByteArray), (⟨#[118, 107, 119]⟩ : ByteArray)⟩ : S116), (⟨(⟨#[108, 101, 95, 105, 109, 112]⟩ : ByteArray), (⟨#[118, 107, 119]⟩ : ByteArray)⟩ : S116), (⟨(⟨#[97, 108, 108, 95, 100, 105, 102, 102, 101, 114, 101, 110, 116]⟩ : ByteArray), (⟨#[86]⟩ : ByteArray)⟩ : S116), (⟨(⟨#[116, 97, 98, 108, 101]⟩ : ByteArray), (⟨#[86, 114]⟩ : ByteArray)⟩ : S116), (⟨(⟨#[99, 117, 109, 117, 108, 97, 116, 105, 118, 101]⟩ : ByteArray), (⟨#[86, 99, 100, 107]⟩ : ByteArray)⟩ : S116), (⟨(⟨#[99, 105, 114, 99, 117, 105, 116]⟩ : ByteArray), (⟨#[86]⟩ : ByteArray)⟩ : S116), (⟨(⟨#[103, 99, 99]⟩ : ByteArray), (⟨#[86, 99, 100, 101]⟩ : ByteArray)⟩ : S116), (⟨(⟨#[108, 101, 120, 95, 108, 101]⟩ : ByteArray), (⟨#[86, 87]⟩ : ByteArray)⟩ : S116), (⟨(⟨#[105, 110, 118, 101, 114, 115, 101]⟩ : ByteArray), (⟨#[86, 87]⟩ : ByteArray)⟩ : S116)] : List (S116))) := ⟨_, rfl⟩
 replace H : (some y232) = some r := by first | (rw [hy232]; with_reducible exact H) | (have H2_ := (Option.bind_some _ _).symm.trans H; rw [hy232]; with_reducible exact H2_) | (have H2_ := (Option.bind_some _ _).symm.trans H; with_reducible exact H2_) | with_reducible exact H | (rw [hy232]; exact H) | exact H
 have Ny232 := Aside0.mk hy232
 clear hy232
 obtain rfl := Option.some.inj H
 go_enter Tryz.func89, Tryz.ntmps89
 go_wp2_with (first | ((with_reducible refine gate_dst (N := 24) rfl ?_); refine Kd.R_lit k116 _ 116 ?hg (N := 24) ?hd (xs := ([(⟨(⟨#[108, 105, 110, 95, 101, 113]⟩ : ByteArray), (⟨#[99, 86, 107]⟩ : ByteArray)⟩ : S116), (⟨(⟨#[108, 105, 110, 95, 108, 101]⟩ : ByteArray), (⟨#[99, 86, 107]⟩ : ByteArray)⟩ : S116), (⟨(⟨#[108, 105, 110, 95, 110, 101]⟩ : ByteArray), (⟨#[99, 86, 107]⟩ : ByteArray)⟩ : S116), (⟨(⟨#[108, 105, 110, 95, 114, 101, 105, 102]⟩ : ByteArray), (⟨#[99, 86, 107, 119]⟩ : ByteArray)⟩ : S116), (⟨(⟨#[116, 105, 109, 101, 115]⟩ : ByteArray), (⟨#[118, 118, 118]⟩ : ByteArray)⟩ : S116), (⟨(⟨#[100, 105, 118]⟩ : ByteArray), (⟨#[118, 118, 118]⟩ : ByteArray)⟩ : S116), (⟨(⟨#[109, 111, 100]⟩ : ByteArray), (⟨#[118, 118, 118]⟩ : ByteArray)⟩ : S116), (⟨(⟨#[97, 98, 115]⟩ : ByteArray), (⟨#[118, 118]⟩ : ByteArray)⟩ : S116), (⟨(⟨#[109, 105, 110]⟩ : ByteArray), (⟨#[118, 118, 118]⟩ : ByteArray)⟩ : S116), (⟨(⟨#[109, 97, 120]⟩ : ByteArray), (⟨#[118, 118, 118]⟩ : ByteArray)⟩ : S116), (⟨(⟨#[101, 108, 101, 109, 101, 110, 116]⟩ : ByteArray), (⟨#[118, 99, 118]⟩ : ByteArray)⟩ : S116), (⟨(⟨#[99, 108, 97, 117, 115, 101]⟩ : ByteArray), (⟨#[86, 87]⟩ : ByteArray)⟩ : S116), (⟨(⟨#[101, 113, 95, 114, 101, 105, 102]⟩ : ByteArray), (⟨#[118, 107, 119]⟩ : ByteArray)⟩ : S116), (⟨(⟨#[108, 101, 95, 114, 101, 105, 102]⟩ : ByteArray), (⟨#[118, 107, 119]⟩ : ByteArray)⟩ : S116), (⟨(⟨#[101, 113, 95, 105, 109, 112]⟩ : ByteArray), (⟨#[118, 107, 119]⟩ : ByteArray)⟩ : S116), (⟨(⟨#[108, 101, 95, 105, 109, 112]⟩ : ByteArray), (⟨#[118, 107, 119]⟩ : ByteArray)⟩ : S116), (⟨(⟨#[97, 108, 108, 95, 100, 105, 102, 102, 101, 114, 101, 110, 116]⟩ : ByteArray), (⟨#[86]⟩ : ByteArray)⟩ : S116), (⟨(⟨#[116, 97, 98, 108, 101]⟩ : ByteArray), (⟨#[86, 114]⟩ : ByteArray)⟩ : S116), (⟨(⟨#[99, 117, 109, 117, 108, 97, 116, 105, 118, 101]⟩ : ByteArray), (⟨#[86, 99, 100, 107]⟩ : ByteArray)⟩ : S116), (⟨(⟨#[99, 105, 114, 99, 117, 105, 116]⟩ : ByteArray), (⟨#[86]⟩ : ByteArray)⟩ : S116), (⟨(⟨#[103, 99, 99]⟩ : ByteArray), (⟨#[86, 99, 100, 101]⟩ : ByteArray)⟩ : S116), (⟨(⟨#[108, 101, 120, 95, 108, 101]⟩ : ByteArray), (⟨#[86, 87]⟩ : ByteArray)⟩ : S116), (⟨(⟨#[105, 110, 118, 101, 114, 115, 101]⟩ : ByteArray), (⟨#[86, 87]⟩ : ByteArray)⟩ : S116)] : List (S116))) (inner := [.string (⟨#[108, 105, 110, 95, 101, 113]⟩ : ByteArray), .string (⟨#[99, 86, 107]⟩ : ByteArray), .string (⟨#[108, 105, 110, 95, 108, 101]⟩ : ByteArray), .string (⟨#[99, 86, 107]⟩ : ByteArray), .string (⟨#[108, 105, 110, 95, 110, 101]⟩ : ByteArray), .string (⟨#[99, 86, 107]⟩ : ByteArray), .string (⟨#[108, 105, 110, 95, 114, 101, 105, 102]⟩ : ByteArray), .string (⟨#[99, 86, 107, 119]⟩ : ByteArray), .string (⟨#[116, 105, 109, 101, 115]⟩ : ByteArray), .string (⟨#[118, 118, 118]⟩ : ByteArray), .string (⟨#[100, 105, 118]⟩ : ByteArray), .string (⟨#[118, 118, 118]⟩ : ByteArray), .string (⟨#[109, 111, 100]⟩ : ByteArray), .string (⟨#[118, 118, 118]⟩ : ByteArray), .string (⟨#[97, 98, 115]⟩ : ByteArray), .string (⟨#[118, 118]⟩ : ByteArray), .string (⟨#[109, 105, 110]⟩ : ByteArray), .string (⟨#[118, 118, 118]⟩ : ByteArray), .string (⟨#[109, 97, 120]⟩ : ByteArray), .string (⟨#[118, 118, 118]⟩ : ByteArray), .string (⟨#[101, 108, 101, 109, 101, 110, 116]⟩ : ByteArray), .string (⟨#[118, 99, 118]⟩ : ByteArray), .string (⟨#[99, 108, 97, 117, 115, 101]⟩ : ByteArray), .string (⟨#[86, 87]⟩ : ByteArray), .string (⟨#[101, 113, 95, 114, 101, 105, 102]⟩ : ByteArray), .string (⟨#[118, 107, 119]⟩ : ByteArray), .string (⟨#[108, 101, 95, 114, 101, 105, 102]⟩ : ByteArray), .string (⟨#[118, 107, 119]⟩ : ByteArray), .string (⟨#[101, 113, 95, 105, 109, 112]⟩ : ByteArray), .string (⟨#[118, 107, 119]⟩ : ByteArray), .string (⟨#[108, 101, 95, 105, 109, 112]⟩ : ByteArray), .string (⟨#[118, 107, 119]⟩ : ByteArray), .string (⟨#[97, 108, 108, 95, 100, 105, 102, 102, 101, 114, 101, 110, 116]⟩ : ByteArray), .string (⟨#[86]⟩ : ByteArray), .string (⟨#[116, 97, 98, 108, 101]⟩ : ByteArray), .string (⟨#[86, 114]⟩ : ByteArray), .string (⟨#[99, 117, 109, 117, 108, 97, 116, 105, 118, 101]⟩ : ByteArray), .string (⟨#[86, 99, 100, 107]⟩ : ByteArray), .string (⟨#[99, 105, 114, 99, 117, 105, 116]⟩ : ByteArray), .string (⟨#[86]⟩ : ByteArray), .string (⟨#[103, 99, 99]⟩ : ByteArray), .string (⟨#[86, 99, 100, 101]⟩ : ByteArray), .string (⟨#[108, 101, 120, 95, 108, 101]⟩ : ByteArray), .string (⟨#[86, 87]⟩ : ByteArray), .string (⟨#[105, 110, 118, 101, 114, 115, 101]⟩ : ByteArray), .string (⟨#[86, 87]⟩ : ByteArray)]) (ok := fun _ => True) (okp := fun _ => True) ?hr ?hp (fun _ hk => hk) trivial (Below.refl _ _) (Nat.le_refl _) (by simp) ?_; (case hd => rfl); (case hg => rfl); (case hr => first | (go_simp; done) | (go_simp; rfl)); (case hp => exact (Reps.c2 (show Kd.M k116 _ _ _ (⟨(⟨#[108, 105, 110, 95, 101, 113]⟩ : ByteArray), (⟨#[99, 86, 107]⟩ : ByteArray)⟩ : S116) [.string (⟨#[108, 105, 110, 95, 101, 113]⟩ : ByteArray), .string (⟨#[99, 86, 107]⟩ : ByteArray)] from (k116_mkM _ _ _ (⟨(⟨#[108, 105, 110, 95, 101, 113]⟩ : ByteArray), (⟨#[99, 86, 107]⟩ : ByteArray)⟩ : S116) )) (Reps.c2 (show Kd.M k116 _ _ _ (⟨(⟨#[108, 105, 110, 95, 108, 101]⟩ : ByteArray), (⟨#[99, 86, 107]⟩ : ByteArray)⟩ : S116) [.string (⟨#[108, 105, 110, 95, 108, 101]⟩ : ByteArray), .string (⟨#[99, 86, 107]⟩ : ByteArray)] from (k116_mkM _ _ _ (⟨(⟨#[108, 105, 110, 95, 108, 101]⟩ : ByteArray), (⟨#[99, 86, 107]⟩ : ByteArray)⟩ : S116) )) (Reps.c2 (show Kd.M k116 _ _ _ (⟨(⟨#[108, 105, 110, 95, 110, 101]⟩ : ByteArray), (⟨#[99, 86, 107]⟩ : ByteArray)⟩ : S116) [.string (⟨#[108, 105, 110, 95, 110, 101]⟩ : ByteArray), .string (⟨#[99, 86, 107]⟩ : ByteArray)] from (k116_mkM _ _ _ (⟨(⟨#[108, 105, 110, 95, 110, 101]⟩ : ByteArray), (⟨#[99, 86, 107]⟩ : ByteArray)⟩ : S116) )) (Reps.c2 (show Kd.M k116 _ _ _ (⟨(⟨#[108, 105, 110, 95, 114, 101, 105, 102]⟩ : ByteArray), (⟨#[99, 86, 107, 119]⟩ : ByteArray)⟩ : S116) [.string (⟨#[108, 105, 110, 95, 114, 101, 105, 102]⟩ : ByteArray), .string (⟨#[99, 86, 107, 119]⟩ : ByteArray)] from (k116_mkM _ _ _ (⟨(⟨#[108, 105, 110, 95, 114, 101, 105, 102]⟩ : ByteArray), (⟨#[99, 86, 107, 119]⟩ : ByteArray)⟩ : S116) )) (Reps.c2 (show Kd.M k116 _ _ _ (⟨(⟨#[116, 105, 109, 101, 115]⟩ : ByteArray), (⟨#[118, 118, 118]⟩ : ByteArray)⟩ : S116) [.string (⟨#[116, 105, 109, 101, 115]⟩ : ByteArray), .string (⟨#[118, 118, 118]⟩ : ByteArray)] from (k116_mkM _ _ _ (⟨(⟨#[116, 105, 109, 101, 115]⟩ : ByteArray), (⟨#[118, 118, 118]⟩ : ByteArray)⟩ : S116) )) (Reps.c2 (show Kd.M k116 _ _ _ (⟨(⟨#[100, 105, 118]⟩ : ByteArray), (⟨#[118, 118, 118]⟩ : ByteArray)⟩ : S116) [.string (⟨#[100, 105, 118]⟩ : ByteArray), .string (⟨#[118, 118, 118]⟩ : ByteArray)] from (k116_mkM _ _ _ (⟨(⟨#[100, 105, 118]⟩ : ByteArray), (⟨#[118, 118, 118]⟩ : ByteArray)⟩ : S116) )) (Reps.c2 (show Kd.M k116 _ _ _ (⟨(⟨#[109, 111, 100]⟩ : ByteArray), (⟨#[118, 118, 118]⟩ : ByteArray)⟩ : S116) [.string (⟨#[109, 111, 100]⟩ : ByteArray), .string (⟨#[118, 118, 118]⟩ : ByteArray)] from (k116_mkM _ _ _ (⟨(⟨#[109, 111, 100]⟩ : ByteArray), (⟨#[118, 118, 118]⟩ : ByteArray)⟩ : S116) )) (Reps.c2 (show Kd.M k116 _ _ _ (⟨(⟨#[97, 98, 115]⟩ : ByteArray), (⟨#[118, 118]⟩ : ByteArray)⟩ : S116) [.string (⟨#[97, 98, 115]⟩ : ByteArray), .string (⟨#[118, 118]⟩ : ByteArray)] from (k116_mkM _ _ _ (⟨(⟨#[97, 98, 115]⟩ : ByteArray), (⟨#[118, 118]⟩ : ByteArray)⟩ : S116) )) (Reps.c2 (show Kd.M k116 _ _ _ (⟨(⟨#[109, 105, 110]⟩ : ByteArray), (⟨#[118, 118, 118]⟩ : ByteArray)⟩ : S116) [.string (⟨#[109, 105, 110]⟩ : ByteArray), .string (⟨#[118, 118, 118]⟩ : ByteArray)] from (k116_mkM _ _ _ (⟨(⟨#[109, 105, 110]⟩ : ByteArray), (⟨#[118, 118, 118]⟩ : ByteArray)⟩ : S116) )) (Reps.c2 (show Kd.M k116 _ _ _ (⟨(⟨#[109, 97, 120]⟩ : ByteArray), (⟨#[118, 118, 118]⟩ : ByteArray)⟩ : S116) [.string (⟨#[109, 97, 120]⟩ : ByteArray), .string (⟨#[118, 118, 118]⟩ : ByteArray)] from (k116_mkM _ _ _ (⟨(⟨#[109, 97, 120]⟩ : ByteArray), (⟨#[118, 118, 118]⟩ : ByteArray)⟩ : S116) )) (Reps.c2 (show Kd.M k116 _ _ _ (⟨(⟨#[101, 108, 101, 109, 101, 110, 116]⟩ : ByteArray), (⟨#[118, 99, 118]⟩ : ByteArray)⟩ : S116) [.string (⟨#[101, 108, 101, 109, 101, 110, 116]⟩ : ByteArray), .string (⟨#[118, 99, 118]⟩ : ByteArray)] from (k116_mkM _ _ _ (⟨(⟨#[101, 108, 101, 109, 101, 110, 116]⟩ : ByteArray), (⟨#[118, 99, 118]⟩ : ByteArray)⟩ : S116) )) (Reps.c2 (show Kd.M k116 _ _ _ (⟨(⟨#[99, 108, 97, 117, 115, 101]⟩ : ByteArray), (⟨#[86, 87]⟩ : ByteArray)⟩ : S116) [.string (⟨#[99, 108, 97, 117, 115, 101]⟩ : ByteArray), .string (⟨#[86, 87]⟩ : ByteArray)] from (k116_mkM _ _ _ (⟨(⟨#[99, 108, 97, 117, 115, 101]⟩ : ByteArray), (⟨#[86, 87]⟩ : ByteArray)⟩ : S116) )) (Reps.c2 (show Kd.M k116 _ _ _ (⟨(⟨#[101, 113, 95, 114, 101, 105, 102]⟩ : ByteArray), (⟨#[118, 107, 119]⟩ : ByteArray)⟩ : S116) [.string (⟨#[101, 113, 95, 114, 101, 105, 102]⟩ : ByteArray), .string (⟨#[118, 107, 119]⟩ : ByteArray)] from (k116_mkM _ _ _ (⟨(⟨#[101, 113, 95, 114, 101, 105, 102]⟩ : ByteArray), (⟨#[118, 107, 119]⟩ : ByteArray)⟩ : S116) )) (Reps.c2 (show Kd.M k116 _ _ _ (⟨(⟨#[108, 101, 95, 114, 101, 105, 102]⟩ : ByteArray), (⟨#[118, 107, 119]⟩ : ByteArray)⟩ : S116) [.string (⟨#[108, 101, 95, 114, 101, 105, 102]⟩ : ByteArray), .string (⟨#[118, 107, 119]⟩ : ByteArray)] from (k116_mkM _ _ _ (⟨(⟨#[108, 101, 95, 114, 101, 105, 102]⟩ : ByteArray), (⟨#[118, 107, 119]⟩ : ByteArray)⟩ : S116) )) (Reps.c2 (show Kd.M k116 _ _ _ (⟨(⟨#[101, 113, 95, 105, 109, 112]⟩ : ByteArray), (⟨#[118, 107, 119]⟩ : ByteArray)⟩ : S116) [.string (⟨#[101, 113, 95, 105, 109, 112]⟩ : ByteArray), .string (⟨#[118, 107, 119]⟩ : ByteArray)] from (k116_mkM _ _ _ (⟨(⟨#[101, 113, 95, 105, 109, 112]⟩ : ByteArray), (⟨#[118, 107, 119]⟩ : ByteArray)⟩ : S116) )) (Reps.c2 (show Kd.M k116 _ _ _ (⟨(⟨#[108, 101, 95, 105, 109, 112]⟩ : ByteArray), (⟨#[118, 107, 119]⟩ : ByteArray)⟩ : S116) [.string (⟨#[108, 101, 95, 105, 109, 112]⟩ : ByteArray), .string (⟨#[118, 107, 119]⟩ : ByteArray)] from (k116_mkM _ _ _ (⟨(⟨#[108, 101, 95, 105, 109, 112]⟩ : ByteArray), (⟨#[118, 107, 119]⟩ : ByteArray)⟩ : S116) )) (Reps.c2 (show Kd.M k116 _ _ _ (⟨(⟨#[97, 108, 108, 95, 100, 105, 102, 102, 101, 114, 101, 110, 116]⟩ : ByteArray), (⟨#[86]⟩ : ByteArray)⟩ : S116) [.string (⟨#[97, 108, 108, 95, 100, 105, 102, 102, 101, 114, 101, 110, 116]⟩ : ByteArray), .string (⟨#[86]⟩ : ByteArray)] from (k116_mkM _ _ _ (⟨(⟨#[97, 108, 108, 95, 100, 105, 102, 102, 101, 114, 101, 110, 116]⟩ : ByteArray), (⟨#[86]⟩ : ByteArray)⟩ : S116) )) (Reps.c2 (show Kd.M k116 _ _ _ (⟨(⟨#[116, 97, 98, 108, 101]⟩ : ByteArray), (⟨#[86, 114]⟩ : ByteArray)⟩ : S116) [.string (⟨#[116, 97, 98, 108, 101]⟩ : ByteArray), .string (⟨#[86, 114]⟩ : ByteArray)] from (k116_mkM _ _ _ (⟨(⟨#[116, 97, 98, 108, 101]⟩ : ByteArray), (⟨#[86, 114]⟩ : ByteArray)⟩ : S116) )) (Reps.c2 (show Kd.M k116 _ _ _ (⟨(⟨#[99, 117, 109, 117, 108, 97, 116, 105, 118, 101]⟩ : ByteArray), (⟨#[86, 99, 100, 107]⟩ : ByteArray)⟩ : S116) [.string (⟨#[99, 117, 109, 117, 108, 97, 116, 105, 118, 101]⟩ : ByteArray), .string (⟨#[86, 99, 100, 107]⟩ : ByteArray)] from (k116_mkM _ _ _ (⟨(⟨#[99, 117, 109, 117, 108, 97, 116, 105, 118, 101]⟩ : ByteArray), (⟨#[86, 99, 100, 107]⟩ : ByteArray)⟩ : S116) )) (Reps.c2 (show Kd.M k116 _ _ _ (⟨(⟨#[99, 105, 114, 99, 117, 105, 116]⟩ : ByteArray), (⟨#[86]⟩ : ByteArray)⟩ : S116) [.string (⟨#[99, 105, 114, 99, 117, 105, 116]⟩ : ByteArray), .string (⟨#[86]⟩ : ByteArray)] from (k116_mkM _ _ _ (⟨(⟨#[99, 105, 114, 99, 117, 105, 116]⟩ : ByteArray), (⟨#[86]⟩ : ByteArray)⟩ : S116) )) (Reps.c2 (show Kd.M k116 _ _ _ (⟨(⟨#[103, 99, 99]⟩ : ByteArray), (⟨#[86, 99, 100, 101]⟩ : ByteArray)⟩ : S116) [.string (⟨#[103, 99, 99]⟩ : ByteArray), .string (⟨#[86, 99, 100, 101]⟩ : ByteArray)] from (k116_mkM _ _ _ (⟨(⟨#[103, 99, 99]⟩ : ByteArray), (⟨#[86, 99, 100, 101]⟩ : ByteArray)⟩ : S116) )) (Reps.c2 (show Kd.M k116 _ _ _ (⟨(⟨#[108, 101, 120, 95, 108, 101]⟩ : ByteArray), (⟨#[86, 87]⟩ : ByteArray)⟩ : S116) [.string (⟨#[108, 101, 120, 95, 108, 101]⟩ : ByteArray), .string (⟨#[86, 87]⟩ : ByteArray)] from (k116_mkM _ _ _ (⟨(⟨#[108, 101, 120, 95, 108, 101]⟩ : ByteArray), (⟨#[86, 87]⟩ : ByteArray)⟩ : S116) )) (Reps.c2 (show Kd.M k116 _ _ _ (⟨(⟨#[105, 110, 118, 101, 114, 115, 101]⟩ : ByteArray), (⟨#[86, 87]⟩ : ByteArray)⟩ : S116) [.string (⟨#[105, 110, 118, 101, 114, 115, 101]⟩ : ByteArray), .string (⟨#[86, 87]⟩ : ByteArray)] from (k116_mkM _ _ _ (⟨(⟨#[105, 110, 118, 101, 114, 115, 101]⟩ : ByteArray), (⟨#[86, 87]⟩ : ByteArray)⟩ : S116) )) (Reps.none _ _))))))))))))))))))))))))); intro v233 w1 ho2 hb hg_ hnew_; clear hg_ hnew_; (first | rw [← Ny232.out] at ho2 | (simp only [Int.reduceToNat] at ho2; rw [← Ny232.out] at ho2)); have HO234 := Aside0.mk (Kd.R_lower ho2 (below_size bel_)); replace HB := Aside0.mk (below_step bel_ hb); clear hb ho2))
 go_ret
 exact ⟨_, by first | rfl | (simp [errW_none, errW_some] <;> rfl) | (simp [*, errW_none, errW_some] <;> rfl), by refine vR_ ?_; exact HO234.out, bel_⟩

/-! ### model_Word: function 88 -/
def model_Word.f (a0 : Int) : Option (ByteArray × Bool) := if a0 < 1 then (none) else ((model_forms.f).bind fun t235 => (if a0 > (t235.length : Int) then (none) else ((model_forms.f).bind fun t238 => (if 0 ≤ (wrap64 (a0 - 1)) then (if (wrap64 (a0 - 1)) < (t238.length : Int) then (some ((rd_T116 t238 (wrap64 (a0 - 1))).f0, true)) else (none)) else (none)))))
set_option maxHeartbeats 8000000 in
set_option maxRecDepth 100000 in
theorem model_Word.calls (a0 : Int) (r1 : ByteArray) (r2 : Bool) (w : World) (h : model_Word.f a0 = some (r1, r2)) :
  Calls Tryz.prog 88 #[.int .i64 a0] w fun e w' => e = .returned (.tuple #[.string r1, .bool r2]) ∧ Below w.heap.size w w' := by
 have HB := Aside0.mk (Below.refl w.heap.size w)
 unfold model_Word.f at h
 have H := h
 clear h
 by_cases c2 : a0 < 1
 ·
  rw [if_pos c2] at H
  exact absurd H (by simp)
 ·
  rw [if_neg c2] at H
  have c2b0 : decide (a0 < 1) = false := decide_eq_false c2
  clear c2
  replace H := Option.bind_eq_some_iff.mp H
  obtain ⟨t235, A30, H⟩ := H
  try dsimp only at H
  have A3 := Aside0.mk A30
  clear A30
  by_cases c4 : a0 > (t235.length : Int)
  ·
   rw [if_pos c4] at H
   exact absurd H (by simp)
  ·
   rw [if_neg c4] at H
   have c4b0 : decide ((t235.length : Int) < a0) = false := decide_eq_false c4
   clear c4
   replace H := Option.bind_eq_some_iff.mp H
   obtain ⟨t238, A50, H⟩ := H
   try dsimp only at H
   have A5 := Aside0.mk A50
   clear A50
   obtain ⟨ji6, hji6⟩ : ∃ j_ : Int, (wrap64 (a0 - 1)) = j_ := ⟨_, rfl⟩
   replace H : (if 0 ≤ (ji6) then (if (ji6) < (t238.length : Int) then (some ((rd_T116 t238 (ji6)).f0, true)) else (none)) else (none)) = some (r1, r2) := by first | (rw [hji6] at H; exact H) | (simp only [hji6] at H ⊢; exact H)
   (try rw [hji6] at A3)
   (try rw [hji6] at A5)
   have hji6w : (IntKind.i64.wrap (a0 - 1)) = ji6 := (i64_w _).trans hji6
   by_cases c7 : 0 ≤ (ji6)
   ·
    rw [if_pos c7] at H
    have c7b0 : decide (0 ≤ (ji6)) = true := decide_eq_true c7
    clear c7
    by_cases c8 : (ji6) < (t238.length : Int)
    ·
     rw [if_pos c8] at H
     have c8b0 : decide ((ji6) < (t238.length : Int)) = true := decide_eq_true c8
     clear c8
     simp only [Option.some.injEq, Prod.mk.injEq] at H
     obtain ⟨rfl, rfl⟩ := H
     go_enter Tryz.func88, Tryz.ntmps88
     go_wp2_with (first | (go_at_call 89; (with_reducible refine (model_forms.calls t235 _ A3.out).mono ?_); rintro e w9 ⟨v236, rfl, ho0, hb⟩; have HO237 := Aside0.mk (Kd.R_lower ho0 (below_size bel_)); replace HB := Aside0.mk (below_step bel_ hb); clear hb ho0; obtain ⟨Ao10, co10, eo10⟩ := Kd.R_slice HO237.out; subst eo10) | ((with_reducible refine gate_callee (f := 89) rfl ?_); refine goesL_ (some 12) rfl rfl Tryz.func89 (by kernel_rfl) rfl #[] rfl ar_ ?_; (with_reducible refine (model_forms.calls t238 _ A5.out).mono ?_); rintro e w11 ⟨v239, rfl, ho0, hb⟩; refine ⟨_, rfl, ?_⟩; have HO240 := Aside0.mk (Kd.R_lower (Kd.R_new' ho0 (Kd.R_lt (vR_ HO237.out))) (below_size bel_)); replace HB := Aside0.mk (below_step bel_ hb); clear hb ho0; obtain ⟨Ao12, co12, eo12⟩ := Kd.R_slice HO240.out; subst eo12; have p241 : 0 ≤ ((ji6) : Int) := dq_; have q241 : (ji6) < (t238.length : Int) := dq_; obtain ⟨ad241, e241, hx241_0, hx241_1⟩ := at_T116 (Kd.R_reads' HO240.out).2.2 (ji6) p241 q241; cases e241; replace p241 := eq_true p241; replace q241 := eq_true q241))
     go_ret2
     exact ⟨by first | rfl | (simp [errW_none, errW_some] <;> rfl) | (simp only [← hji6]; first | rfl | (simp [errW_none, errW_some] <;> rfl)) | (simp [*, errW_none, errW_some] <;> rfl), bel_⟩
    ·
     rw [if_neg c8] at H
     exact absurd H (by simp)
   ·
    rw [if_neg c7] at H
    exact absurd H (by simp)

/-! ### model_Shape: function 74 -/
def model_Shape.f (a0 : Int) : Option (ByteArray) := (model_Word.f a0).bind fun bt242 => (if bt242.2 = true then ((model_forms.f).bind fun t244 => (if 0 ≤ (wrap64 (a0 - 1)) then (if (wrap64 (a0 - 1)) < (t244.length : Int) then (some ((rd_T116 t244 (wrap64 (a0 - 1))).f1)) else (none)) else (none))) else (none))
set_option maxHeartbeats 8000000 in
set_option maxRecDepth 100000 in
theorem model_Shape.calls (a0 : Int) (r : ByteArray) (w : World) (h : model_Shape.f a0 = some r) :
  Calls Tryz.prog 74 #[.int .i64 a0] w fun e w' => e = .returned (.string r) ∧ Below w.heap.size w w' := by
 have HB := Aside0.mk (Below.refl w.heap.size w)
 unfold model_Shape.f at h
 have H := h
 clear h
 replace H := Option.bind_eq_some_iff.mp H
 obtain ⟨⟨t242, t243⟩, A20, H⟩ := H
 try dsimp only at H
 have A2 := Aside0.mk A20
 clear A20
 by_cases c3 : t243 = true
 ·
  subst c3
  rw [if_pos rfl] at H
  replace H := Option.bind_eq_some_iff.mp H
  obtain ⟨t244, A40, H⟩ := H
  try dsimp only at H
  have A4 := Aside0.mk A40
  clear A40
  obtain ⟨ji5, hji5⟩ : ∃ j_ : Int, (wrap64 (a0 - 1)) = j_ := ⟨_, rfl⟩
  replace H : (if 0 ≤ (ji5) then (if (ji5) < (t244.length : Int) then (some ((rd_T116 t244 (ji5)).f1)) else (none)) else (none)) = some r := by first | (rw [hji5] at H; exact H) | (simp only [hji5] at H ⊢; exact H)
  (try rw [hji5] at A2)
  (try rw [hji5] at A4)
  have hji5w : (IntKind.i64.wrap (a0 - 1)) = ji5 := (i64_w _).trans hji5
  by_cases c6 : 0 ≤ (ji5)
  ·
   rw [if_pos c6] at H
   have c6b0 : decide (0 ≤ (ji5)) = true := decide_eq_true c6
   clear c6
   by_cases c7 : (ji5) < (t244.length : Int)
   ·
    rw [if_pos c7] at H
    have c7b0 : decide ((ji5) < (t244.length : Int)) = true := decide_eq_true c7
    clear c7
    obtain rfl := Option.some.inj H
    go_enter Tryz.func74, Tryz.ntmps74
    go_wp2_with (first | ((with_reducible refine gate_callee (f := 88) rfl ?_); refine goesL_ (some 7) rfl rfl Tryz.func88 (by kernel_rfl) rfl #[.int .i64 a0] rfl ar_ ?_; (with_reducible refine (model_Word.calls a0 t242 true _ A2.out).mono ?_); rintro e w8 ⟨rfl, hb⟩; refine ⟨_, rfl, ?_⟩; replace HB := Aside0.mk (below_step bel_ hb); clear hb) | ((with_reducible refine gate_callee (f := 89) rfl ?_); refine goesL_ (some 12) rfl rfl Tryz.func89 (by kernel_rfl) rfl #[] rfl ar_ ?_; (with_reducible refine (model_forms.calls  t244 _ A4.out).mono ?_); rintro e w9 ⟨v245, rfl, ho0, hb⟩; refine ⟨_, rfl, ?_⟩; have HO246 := Aside0.mk (Kd.R_lower ho0 (below_size bel_)); replace HB := Aside0.mk (below_step bel_ hb); clear hb ho0; obtain ⟨Ao10, co10, eo10⟩ := Kd.R_slice HO246.out; subst eo10; have p247 : 0 ≤ ((ji5) : Int) := dq_; have q247 : (ji5) < (t244.length : Int) := dq_; obtain ⟨ad247, e247, hx247_0, hx247_1⟩ := at_T116 (Kd.R_reads' HO246.out).2.2 (ji5) p247 q247; cases e247; replace p247 := eq_true p247; replace q247 := eq_true q247))
    go_ret
    exact ⟨by first | rfl | (simp [errW_none, errW_some] <;> rfl) | (simp only [← hji5]; first | rfl | (simp [errW_none, errW_some] <;> rfl)) | (simp [*, errW_none, errW_some] <;> rfl), bel_⟩
   ·
    rw [if_neg c7] at H
    exact absurd H (by simp)
  ·
   rw [if_neg c6] at H
   exact absurd H (by simp)
 ·
  replace c3 := Bool.eq_false_iff.mpr c3
  subst c3
  have H1 : (none) = some r := by rw [if_neg (show ¬ (false = true) by decide)] at H; exact H
  clear H
  have H := H1
  clear H1
  exact absurd H (by simp)

/-! ### model_within: function 90 -/
def model_within.f (a0 : Int) (a1 : Int) (a2 : Int) : Option (Bool) := if a0 ≥ a1 then (some (decide (a0 ≤ a2))) else (some false)
set_option maxHeartbeats 8000000 in
set_option maxRecDepth 100000 in
theorem model_within.calls (a0 : Int) (a1 : Int) (a2 : Int) (r : Bool) (w : World) (h : model_within.f a0 a1 a2 = some r) :
  Calls Tryz.prog 90 #[.int .i64 a0, .int .i64 a1, .int .i64 a2] w fun e w' => e = .returned (.bool r) ∧ Drawn0 w w' := by
 unfold model_within.f at h
 have H := h
 clear h
 by_cases c4 : a0 ≥ a1
 ·
  rw [if_pos c4] at H
  have c4b0 : decide (a1 ≤ a0) = true := decide_eq_true c4
  clear c4
  obtain rfl := Option.some.inj H
  go_enter Tryz.func90, Tryz.ntmps90
  go_wp2
  go_ret
  exact ⟨by first | rfl | (simp; done) | (simp [*]; done), by repeat (first | exact Drawn0.refl _ | apply Drawn0.step)⟩
 ·
  rw [if_neg c4] at H
  have c4b0 : decide (a1 ≤ a0) = false := decide_eq_false c4
  clear c4
  obtain rfl := Option.some.inj H
  go_enter Tryz.func90, Tryz.ntmps90
  go_wp2
  go_ret
  exact ⟨by first | rfl | (simp; done) | (simp [*]; done), by repeat (first | exact Drawn0.refl _ | apply Drawn0.step)⟩

/-! ### model_counted: function 75 -/
def model_counted.f (a0_0 : Int) (l0_1 : List Int) (l0_2 : List Int) (l0_3 : List Int) (l0_4 : List Int) (l0_5 : List Int) (a0_6 : Int) (l0_7 : List (List Int)) (a1 : ByteArray) : Option (Bool) := if a0_0 = 12 then ((model_within.f (wrap64 ((l0_1.length : Int) + (l0_2.length : Int))) 1 128).bind fun t249 => (if t249 = true then (if (mx (l0_1.length : Int) (l0_2.length : Int)) ≤ 64 then (some ((wrap64 ((wrap64 ((wrap64 ((l0_3.length : Int) + (l0_4.length : Int))) + (l0_5.length : Int))) + (l0_7.length : Int))) == 0)) else (none)) else (none))) else (none)
set_option maxHeartbeats 8000000 in
set_option maxRecDepth 100000 in
theorem model_counted.calls (a0_0 : Int) (A0_1 : Option Addr) (c0_1 : Nat) (l0_1 : List Int) (A0_2 : Option Addr) (c0_2 : Nat) (l0_2 : List Int) (A0_3 : Option Addr) (c0_3 : Nat) (l0_3 : List Int) (A0_4 : Option Addr) (c0_4 : Nat) (l0_4 : List Int) (A0_5 : Option Addr) (c0_5 : Nat) (l0_5 : List Int) (a0_6 : Int) (A0_7 : Option Addr) (c0_7 : Nat) (l0_7 : List (List Int)) (a1 : ByteArray) (r : Bool) (w : World) (hr0_1 : Kd.C (Kd.int .i64) w A0_1 l0_1.length l0_1) (hc0_1 : l0_1.length ≤ c0_1) (hr0_2 : Kd.C (Kd.int .i64) w A0_2 l0_2.length l0_2) (hc0_2 : l0_2.length ≤ c0_2) (hr0_3 : Kd.C (Kd.int .i64) w A0_3 l0_3.length l0_3) (hc0_3 : l0_3.length ≤ c0_3) (hr0_4 : Kd.C (Kd.int .i64) w A0_4 l0_4.length l0_4) (hc0_4 : l0_4.length ≤ c0_4) (hr0_5 : Kd.C (Kd.int .i64) w A0_5 l0_5.length l0_5) (hc0_5 : l0_5.length ≤ c0_5) (hr0_7 : Kd.C (Kd.slice 3 (Kd.int .i64)) w A0_7 l0_7.length l0_7) (hc0_7 : l0_7.length ≤ c0_7) (h : model_counted.f a0_0 l0_1 l0_2 l0_3 l0_4 l0_5 a0_6 l0_7 a1 = some r) :
  Calls Tryz.prog 75 #[.agg #[.int .i64 a0_0, .slice A0_1 l0_1.length c0_1, .slice A0_2 l0_2.length c0_2, .slice A0_3 l0_3.length c0_3, .slice A0_4 l0_4.length c0_4, .slice A0_5 l0_5.length c0_5, .int .i64 a0_6, .slice A0_7 l0_7.length c0_7], .string a1] w fun e w' => e = .returned (.bool r) ∧ Below w.heap.size w w' := by
 have hu32 := Tryz.underlying32
 have HC0_1 := Aside0.mk hc0_1
 clear hr0_1 hc0_1
 have HC0_2 := Aside0.mk hc0_2
 clear hr0_2 hc0_2
 have HC0_3 := Aside0.mk hc0_3
 clear hr0_3 hc0_3
 have HC0_4 := Aside0.mk hc0_4
 clear hr0_4 hc0_4
 have HC0_5 := Aside0.mk hc0_5
 clear hr0_5 hc0_5
 have HC0_7 := Aside0.mk hc0_7
 clear hr0_7 hc0_7
 have HB := Aside0.mk (Below.refl w.heap.size w)
 unfold model_counted.f at h
 have H := h
 clear h
 by_cases c3 : a0_0 = 12
 ·
  rw [if_pos c3] at H
  have c3b0 : (a0_0 == 12) = true := beq_iff_eq.mpr c3
  have c3b1 : (a0_0 != 12) = false := bne_eq_false_iff_eq.mpr c3
  clear c3
  replace H := Option.bind_eq_some_iff.mp H
  obtain ⟨t249, A40, H⟩ := H
  try dsimp only at H
  have A4 := Aside0.mk A40
  clear A40
  by_cases c5 : t249 = true
  ·
   subst c5
   rw [if_pos rfl] at H
   obtain ⟨ji6, hji6⟩ : ∃ j_ : Int, (mx (l0_1.length : Int) (l0_2.length : Int)) = j_ := ⟨_, rfl⟩
   replace H : (if (ji6) ≤ 64 then (some ((wrap64 ((wrap64 ((wrap64 ((l0_3.length : Int) + (l0_4.length : Int))) + (l0_5.length : Int))) + (l0_7.length : Int))) == 0)) else (none)) = some r := by first | (rw [hji6] at H; exact H) | (simp only [hji6] at H ⊢; exact H)
   (try rw [hji6] at A4)
   (try (have hji6l : 0 ≤ ji6 := by (rw [← hji6]; unfold mx; (repeat' split) <;> omega)))
   (try (have hji6m : 0 ≤ ji6 := by omega))
   have hji6_ : (if (l0_1.length : Int) < (l0_2.length : Int) then (l0_2.length : Int) else (l0_1.length : Int)) = ji6 := hji6
   (try (have hji6N : (if l0_1.length < l0_2.length then (l0_2.length : Int) else (l0_1.length : Int)) = ji6 := by (rw [← hji6_]; (repeat' split) <;> omega)))
   (try (have hji6M : (((if l0_1.length < l0_2.length then l0_2.length else l0_1.length) : Nat) : Int) = ji6 := by (rw [← hji6_]; (repeat' split) <;> omega)))
   by_cases c7 : (ji6) ≤ 64
   ·
    rw [if_pos c7] at H
    have c7b0 : decide ((ji6) ≤ 64) = true := decide_eq_true c7
    clear c7
    obtain rfl := Option.some.inj H
    go_enter Tryz.func75, Tryz.ntmps75
    go_wp2_with (first | ((with_reducible refine gate_dst (N := 2) rfl ?_); (try (refine gate_guard (by rfl) ?_; dsimp only)); refine bxe_ (N := 2) (cs := #[.int .i64 a0_0, .slice A0_1 l0_1.length c0_1, .slice A0_2 l0_2.length c0_2, .slice A0_3 l0_3.length c0_3, .slice A0_4 l0_4.length c0_4, .slice A0_5 l0_5.length c0_5, .int .i64 a0_6, .slice A0_7 l0_7.length c0_7]) (t := 32) ?_; intro gb248 hg w8 hbox hb; have BK248 := Aside0.mk (hbox); have GW248 := Aside0.mk (by rw [hg]; exact (below_size bel_) : w.heap.size ≤ gb248); have GE248 := GW248; replace HB := Aside0.mk (below_step bel_ hb); clear hb hbox hg; obtain ⟨_, _, _, _, _, _, _, _, _, _, _, _, _, _, _, _⟩ := cel8_ BK248.out) | ((with_reducible refine gate_callee (f := 90) rfl ?_); refine goesL_ (some 16) rfl rfl Tryz.func90 (by kernel_rfl) rfl #[.int .i64 (wrap64 ((l0_1.length : Int) + (l0_2.length : Int))), .int .i64 1, .int .i64 128] rfl ar_ ?_; (with_reducible refine (model_within.calls (wrap64 ((l0_1.length : Int) + (l0_2.length : Int))) 1 128 true _ A4.out).mono ?_); rintro e w' ⟨rfl, ⟨nd, rfl⟩⟩; refine ⟨_, rfl, ?_⟩))
    go_ret
    exact ⟨by first | rfl | (simp [errW_none, errW_some] <;> rfl) | (simp only [← hji6]; first | rfl | (simp [errW_none, errW_some] <;> rfl)) | (simp [*, errW_none, errW_some] <;> rfl), bel_⟩
   ·
    rw [if_neg c7] at H
    exact absurd H (by simp)
  ·
   replace c5 := Bool.eq_false_iff.mpr c5
   subst c5
   have H1 : (none) = some r := by rw [if_neg (show ¬ (false = true) by decide)] at H; exact H
   clear H
   have H := H1
   clear H1
   exact absurd H (by simp)
 ·
  rw [if_neg c3] at H
  exact absurd H (by simp)

/-! ### model_alike: function 76 -/
def model_alike.f (a0_0 : Int) (l0_1 : List Int) (l0_2 : List Int) (l0_3 : List Int) (l0_4 : List Int) (l0_5 : List Int) (a0_6 : Int) (l0_7 : List (List Int)) : Option (Bool) := if a0_0 = 1 then (none) else (if a0_0 = 2 then (none) else (if a0_0 = 3 then (none) else (if a0_0 = 4 then (none) else (if a0_0 = 19 then (none) else (if a0_0 = 21 then (none) else (if a0_0 = 22 then (none) else (if a0_0 = 23 then (none) else (if a0_0 = 18 then (none) else (some true)))))))))
set_option maxHeartbeats 8000000 in
set_option maxRecDepth 100000 in
theorem model_alike.calls (a0_0 : Int) (A0_1 : Option Addr) (c0_1 : Nat) (l0_1 : List Int) (A0_2 : Option Addr) (c0_2 : Nat) (l0_2 : List Int) (A0_3 : Option Addr) (c0_3 : Nat) (l0_3 : List Int) (A0_4 : Option Addr) (c0_4 : Nat) (l0_4 : List Int) (A0_5 : Option Addr) (c0_5 : Nat) (l0_5 : List Int) (a0_6 : Int) (A0_7 : Option Addr) (c0_7 : Nat) (l0_7 : List (List Int)) (r : Bool) (w : World) (hr0_1 : Kd.C (Kd.int .i64) w A0_1 l0_1.length l0_1) (hc0_1 : l0_1.length ≤ c0_1) (hr0_2 : Kd.C (Kd.int .i64) w A0_2 l0_2.length l0_2) (hc0_2 : l0_2.length ≤ c0_2) (hr0_3 : Kd.C (Kd.int .i64) w A0_3 l0_3.length l0_3) (hc0_3 : l0_3.length ≤ c0_3) (hr0_4 : Kd.C (Kd.int .i64) w A0_4 l0_4.length l0_4) (hc0_4 : l0_4.length ≤ c0_4) (hr0_5 : Kd.C (Kd.int .i64) w A0_5 l0_5.length l0_5) (hc0_5 : l0_5.length ≤ c0_5) (hr0_7 : Kd.C (Kd.slice 3 (Kd.int .i64)) w A0_7 l0_7.length l0_7) (hc0_7 : l0_7.length ≤ c0_7) (h : model_alike.f a0_0 l0_1 l0_2 l0_3 l0_4 l0_5 a0_6 l0_7 = some r) :
  Calls Tryz.prog 76 #[.agg #[.int .i64 a0_0, .slice A0_1 l0_1.length c0_1, .slice A0_2 l0_2.length c0_2, .slice A0_3 l0_3.length c0_3, .slice A0_4 l0_4.length c0_4, .slice A0_5 l0_5.length c0_5, .int .i64 a0_6, .slice A0_7 l0_7.length c0_7]] w fun e w' => e = .returned (.bool r) ∧ Below w.heap.size w w' := by
 have hu32 := Tryz.underlying32
 have HC0_1 := Aside0.mk hc0_1
 clear hr0_1 hc0_1
 have HC0_2 := Aside0.mk hc0_2
 clear hr0_2 hc0_2
 have HC0_3 := Aside0.mk hc0_3
 clear hr0_3 hc0_3
 have HC0_4 := Aside0.mk hc0_4
 clear hr0_4 hc0_4
 have HC0_5 := Aside0.mk hc0_5
 clear hr0_5 hc0_5
 have HC0_7 := Aside0.mk hc0_7
 clear hr0_7 hc0_7
 have HB := Aside0.mk (Below.refl w.heap.size w)
 unfold model_alike.f at h
 have H := h
 clear h
 by_cases c2 : a0_0 = 1
 ·
  rw [if_pos c2] at H
  exact absurd H (by simp)
 ·
  rw [if_neg c2] at H
  have c2b0 : (a0_0 == 1) = false := beq_eq_false_iff_ne.mpr c2
  have c2b1 : (a0_0 != 1) = true := bne_iff_ne.mpr c2
  by_cases c3 : a0_0 = 2
  ·
   rw [if_pos c3] at H
   exact absurd H (by simp)
  ·
   rw [if_neg c3] at H
   have c3b0 : (a0_0 == 2) = false := beq_eq_false_iff_ne.mpr c3
   have c3b1 : (a0_0 != 2) = true := bne_iff_ne.mpr c3
   by_cases c4 : a0_0 = 3
   ·
    rw [if_pos c4] at H
    exact absurd H (by simp)
   ·
    rw [if_neg c4] at H
    have c4b0 : (a0_0 == 3) = false := beq_eq_false_iff_ne.mpr c4
    have c4b1 : (a0_0 != 3) = true := bne_iff_ne.mpr c4
    by_cases c5 : a0_0 = 4
    ·
     rw [if_pos c5] at H
     exact absurd H (by simp)
    ·
     rw [if_neg c5] at H
     have c5b0 : (a0_0 == 4) = false := beq_eq_false_iff_ne.mpr c5
     have c5b1 : (a0_0 != 4) = true := bne_iff_ne.mpr c5
     by_cases c6 : a0_0 = 19
     ·
      rw [if_pos c6] at H
      exact absurd H (by simp)
     ·
      rw [if_neg c6] at H
      have c6b0 : (a0_0 == 19) = false := beq_eq_false_iff_ne.mpr c6
      have c6b1 : (a0_0 != 19) = true := bne_iff_ne.mpr c6
      by_cases c7 : a0_0 = 21
      ·
       rw [if_pos c7] at H
       exact absurd H (by simp)
      ·
       rw [if_neg c7] at H
       have c7b0 : (a0_0 == 21) = false := beq_eq_false_iff_ne.mpr c7
       have c7b1 : (a0_0 != 21) = true := bne_iff_ne.mpr c7
       by_cases c8 : a0_0 = 22
       ·
        rw [if_pos c8] at H
        exact absurd H (by simp)
       ·
        rw [if_neg c8] at H
        have c8b0 : (a0_0 == 22) = false := beq_eq_false_iff_ne.mpr c8
        have c8b1 : (a0_0 != 22) = true := bne_iff_ne.mpr c8
        by_cases c9 : a0_0 = 23
        ·
         rw [if_pos c9] at H
         exact absurd H (by simp)
        ·
         rw [if_neg c9] at H
         have c9b0 : (a0_0 == 23) = false := beq_eq_false_iff_ne.mpr c9
         have c9b1 : (a0_0 != 23) = true := bne_iff_ne.mpr c9
         by_cases c10 : a0_0 = 18
         ·
          rw [if_pos c10] at H
          exact absurd H (by simp)
         ·
          rw [if_neg c10] at H
          have c10b0 : (a0_0 == 18) = false := beq_eq_false_iff_ne.mpr c10
          have c10b1 : (a0_0 != 18) = true := bne_iff_ne.mpr c10
          obtain rfl := Option.some.inj H
          go_enter Tryz.func76, Tryz.ntmps76
          go_wp2_with (first | ((with_reducible refine gate_dst (N := 1) rfl ?_); (try (refine gate_guard (by rfl) ?_; dsimp only)); refine bxe_ (N := 1) (cs := #[.int .i64 a0_0, .slice A0_1 l0_1.length c0_1, .slice A0_2 l0_2.length c0_2, .slice A0_3 l0_3.length c0_3, .slice A0_4 l0_4.length c0_4, .slice A0_5 l0_5.length c0_5, .int .i64 a0_6, .slice A0_7 l0_7.length c0_7]) (t := 32) ?_; intro gb250 hg w11 hbox hb; have BK250 := Aside0.mk (hbox); have GW250 := Aside0.mk (by rw [hg]; exact (below_size bel_) : w.heap.size ≤ gb250); have GE250 := GW250; replace HB := Aside0.mk (below_step bel_ hb); clear hb hbox hg; obtain ⟨_, _, _, _, _, _, _, _, _, _, _, _, _, _, _, _⟩ := cel8_ BK250.out))
          go_ret
          exact ⟨by first | rfl | (simp [errW_none, errW_some] <;> rfl) | (simp [*, errW_none, errW_some] <;> rfl), bel_⟩

/-! ### slices_GrowNil: function 103 -/
def slices_GrowNil.f (a1 : Int) : Option (List Int) := if 0 ≤ a1 ∧ a1 ≤ 17592186044415 then some [] else none
theorem infoGrow : (Tryz.prog.info? 3).map (fun i => (i.zero, i.size, i.bytes)) = some (some (.int .i64 0), 1, 8) := by kernel_rfl
theorem slices_GrowNil.calls (a1 : Int) (r : List Int) (w : World) (h : slices_GrowNil.f a1 = some r) :
  Calls Tryz.prog 103 #[.slice none 0 0, .int .i64 a1] w fun e w' => ∃ v_ : Value, e = .returned v_ ∧ Kd.R (Kd.int .i64) 3 w' w.heap.size (fun _ => True) v_ r ∧ Below w.heap.size w w' := by
 unfold slices_GrowNil.f at h
 by_cases hb : 0 ≤ a1 ∧ a1 ≤ 17592186044415
 ·
  rw [if_pos hb] at h
  obtain rfl := Option.some.inj h
  obtain ⟨h0, h1⟩ := hb
  have d1 : decide (a1 < 0) = false := decide_eq_false (by omega)
  by_cases hz : a1 = 0
  ·
   subst hz
   go_enter Tryz.func103, Tryz.ntmps103
   go_wp2
   go_ret
   exact ⟨_, rfl, Kd.R_nil _ _ _ _ _, Below.refl _ _⟩
  ·
   have d2 : decide (0 < a1) = true := decide_eq_true (by omega)
   have hn : a1.toNat * 8 ≤ 140737488355328 := by omega
   clear h
   go_enter Tryz.func103, Tryz.ntmps103
   go_wp2_with ((with_reducible refine gate_builtin (b := .append) (xs := #[.tmp 20, .tmp 21]) rfl ?_); at_builtin; refine Kd.R_append_zeros (Kd.int .i64) (w0 := w) w.heap.size rfl (.tmp 20) (.tmp 21) 30 3 3 (.int .i64 0) 8 rfl Tryz.underlying30 Tryz.underlying3 infoGrow rfl (by decide) (by omega) (.slice none 0 0) [] (0 : Int) a1 (fun _ => True) rfl rfl rfl (fun _ _ => trivial) (Kd.R_nil _ _ _ _ _) h0 (Below.refl _ _) (Nat.le_refl _) (by simp only [List.length_nil]; omega) ?_; intro v1 w1 hR hB hG hat; (obtain ⟨A1, c1, rfl⟩ := Kd.R_slice hR); have HR := Aside0.mk hR; have HB := Aside0.mk hB; clear hR hB hG hat)
   go_ret
   exact ⟨_, rfl, Kd.R_take HR.out (Nat.zero_le _), HB.out⟩
 ·
  rw [if_neg hb] at h; cases h

end Go.Proofs.YtmhchlbbfpmdgaaGreatDoor.XClauseFilters
