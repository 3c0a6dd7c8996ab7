-- by xprint.py, a program of this session, over the kit's print
import Derived.Test.YtmhchlbbfpmdgaaGreatDoorXCKex0
import Derived.Test.YtmhchlbbfpmdgaaGreatDoorSq
namespace Go.Proofs.YtmhchlbbfpmdgaaGreatDoor.XClauseKeeps
open Go.RowKit Go.Proofs.YtmhchlbbfpmdgaaGreatDoor.Sq Go.Proofs.YtmhchlbbfpmdgaaGreatDoorW.PrintWords Go.Proofs.YtmhchlbbfpmdgaaGreatDoorW.PrintLast Go.Proofs.YtmhchlbbfpmdgaaGreatDoorW.PrintMore
attribute [local go_sem] max2_int min2_int max_two min_two max_three min_three max_four min_four   -- for this text's walks alone
set_option linter.unusedVariables false
set_option linter.unusedSimpArgs false

theorem fold_step {op : Int → Int → Int} {l : List Int} {z : Int} {k : Nat} (h : k < l.length) : (l.take (k + 1)).foldl op z = op ((l.take k).foldl op z) (rd l k) := by
 rw [List.take_succ_eq_append_getElem h, List.foldl_append]
 have e : rd l k = l[k] := by unfold rd; rw [Int.toNat_natCast, List.getD_eq_getElem?_getD, List.getElem?_eq_getElem h]; rfl
 rw [e]; rfl
theorem mx_self (a : Int) : mx a a = a := by unfold mx; split <;> rfl
theorem mn_self (a : Int) : mn a a = a := by unfold mn; split <;> rfl

def IdxPost (l0 : List Int) (p : Int → Bool) (w : World) (e : Ending) (w' : World) : Prop := ∃ i : Int, e = .returned (.int .i64 i) ∧ (0 ≤ i ↔ l0.any p = true) ∧ Drawn0 w w'
/-- slices.IndexFunc at numbers and whatever function that captures nothing and makes nothing. -/
theorem indexInt (g : Nat) (lb : Array Value) (p : Int → Bool) (eg : ∀ args w, (callFunc g args).run Tryz.prog w = .ok (.enter g args) w)
  (A0 : Option Addr) (c0 : Nat) (l0 : List Int) (w : World)
  (hp : ∀ v m, Calls Tryz.prog g (#[.int .i64 v] ++ lb) (w.drewN m) fun e w' => e = .returned (.bool (p v)) ∧ Drawn0 (w.drewN m) w') (hr0 : Kd.C (Kd.int .i64) w A0 l0.length l0) :
  Calls Tryz.prog 83 #[.slice A0 l0.length c0, .func (.func g) #[] lb] w (IdxPost l0 p w) := by
 have hbig : l0.length ≤ 9223372036854775807 := hr0.2.1
 have HR := Aside0.mk hr0
 have HP := Aside0.mk hp
 clear hr0 hp
 go_enter Tryz.func83, Tryz.ntmps83
 go_wp2
 go_loopg [8] l0.length (fun gg s8 wr => ∃ kk : Nat, kk ≤ l0.length ∧ l0.length - kk ≤ gg ∧ s8 = .int .i64 kk ∧ Aside0 (Drawn0 w wr) ∧ Aside0 (∀ j, j < kk → p (rd l0 (j : Nat)) = false))
 case atStart => exact ⟨0, Nat.zero_le _, by omega, rfl, ⟨Drawn0.refl _⟩, ⟨fun j hj => absurd hj (Nat.not_lt_zero _)⟩⟩
 case round =>
  obtain ⟨kk, hkk, hg, rfl, BW, AF⟩ := hrel
  obtain ⟨⟨m, rfl⟩⟩ := BW
  by_cases hlt : kk < l0.length
  ·
   have hltz : (kk : Int) < (l0.length : Int) := by omega
   obtain ⟨ad, rfl, hcell⟩ := Kd.at_int HR.out (kk : Int) (by omega) hltz
   rw [Int.toNat_natCast] at hcell
   have hcell' : (w.drewN m).cell? (ad.add kk) = some (.int .i64 (rd l0 kk)) := by rw [World.cell?_drewN]; exact hcell
   clear hcell
   have hcall := HP.out (rd l0 kk) m
   cases hq : p (rd l0 kk) with
   | true =>
    rw [hq] at hcall
    have HQ := Aside0.mk hq
    have HC := Aside0.mk hcall
    clear hq hcall
    go_wp2_with (go_at_fn g; refine HC.out.mono ?_; rintro e w' ⟨rfl, ⟨nd, rfl⟩⟩)
    go_ret
    refine ⟨kk, rfl, ⟨fun _ => ?_, fun _ => by omega⟩, ⟨_, rfl⟩⟩
    rw [List.any_eq_true]
    exact ⟨rd l0 kk, by unfold rd; rw [Int.toNat_natCast, List.getD_eq_getElem?_getD, List.getElem?_eq_getElem hlt]; exact List.getElem_mem hlt, HQ.out⟩
   | false =>
    rw [hq] at hcall
    have HQ := Aside0.mk hq
    have HC := Aside0.mk hcall
    clear hq hcall
    go_wp2_with (go_at_fn g; refine HC.out.mono ?_; rintro e w' ⟨rfl, ⟨nd, rfl⟩⟩)
    go_roundg (l0.length - (kk + 1))
    case measure => omega
    case rel =>
     refine ⟨kk + 1, by omega, by omega, by go_num, ⟨⟨_, rfl⟩⟩, ⟨fun j hj => ?_⟩⟩
     by_cases e : j = kk
     ·
      subst e; exact HQ.out
     ·
      exact AF.out j (by omega)
  ·
   have hltz : ¬ (kk : Int) < (l0.length : Int) := by omega
   have : kk = l0.length := by omega
   subst this
   go_wp2
   go_ret
   refine ⟨-1, rfl, ⟨fun h => absurd h (by decide), fun h => ?_⟩, ⟨_, rfl⟩⟩
   rw [List.any_eq_true] at h
   obtain ⟨x, hx, hp⟩ := h
   obtain ⟨j, hj, rfl⟩ := List.getElem_of_mem hx
   have := AF.out j hj
   unfold rd at this
   rw [Int.toNat_natCast, List.getD_eq_getElem?_getD, List.getElem?_eq_getElem hj] at this
   simp only [Option.getD_some] at this
   rw [this] at hp; cases hp
/-- slices.ContainsFunc at numbers and whatever function that captures nothing and makes nothing. -/
theorem containsInt (g : Nat) (lb : Array Value) (p : Int → Bool) (eg : ∀ args w, (callFunc g args).run Tryz.prog w = .ok (.enter g args) w)
  (A0 : Option Addr) (c0 : Nat) (l0 : List Int) (w : World)
  (hp : ∀ v m, Calls Tryz.prog g (#[.int .i64 v] ++ lb) (w.drewN m) fun e w' => e = .returned (.bool (p v)) ∧ Drawn0 (w.drewN m) w') (hr0 : Kd.C (Kd.int .i64) w A0 l0.length l0) (hc0 : l0.length ≤ c0) :
  Calls Tryz.prog 60 #[.slice A0 l0.length c0, .func (.func g) #[] lb] w fun e w' => e = .returned (.bool (l0.any p)) ∧ Drawn0 w w' := by
 have HC := Aside0.mk (indexInt g lb p eg A0 c0 l0 w hp hr0)
 clear hr0
 go_enter Tryz.func60, Tryz.ntmps60
 go_wp2_with (go_at_call 83; refine HC.out.mono ?_; rintro e w' ⟨i, rfl, hi, hd⟩; have HI := Aside0.mk hi; clear hi)
 go_ret
 refine ⟨?_, hd⟩
 have := HI.out
 by_cases h : 0 ≤ i
 ·
  rw [this.mp h]; simp [h]
 ·
  have : l0.any p = false := by rw [Bool.eq_false_iff]; exact fun e => h (this.mpr e)
  rw [this]; simp [h]

/-! ### jigsawref06_Shapes: function 36 -/
def jigsawref06_Shapes.f  : Option (List ByteArray) := some (([(⟨#[]⟩ : ByteArray), (⟨#[99, 86, 107]⟩ : ByteArray), (⟨#[99, 86, 107]⟩ : ByteArray), (⟨#[99, 86, 107]⟩ : ByteArray), (⟨#[99, 86, 107, 119]⟩ : ByteArray), (⟨#[118, 118, 118]⟩ : ByteArray), (⟨#[118, 118, 118]⟩ : ByteArray), (⟨#[118, 118, 118]⟩ : ByteArray), (⟨#[118, 118]⟩ : ByteArray), (⟨#[118, 118, 118]⟩ : ByteArray), (⟨#[118, 118, 118]⟩ : ByteArray), (⟨#[118, 99, 118]⟩ : ByteArray), (⟨#[86, 87]⟩ : ByteArray), (⟨#[118, 107, 119]⟩ : ByteArray), (⟨#[118, 107, 119]⟩ : ByteArray), (⟨#[118, 107, 119]⟩ : ByteArray), (⟨#[118, 107, 119]⟩ : ByteArray), (⟨#[86]⟩ : ByteArray), (⟨#[86, 114]⟩ : ByteArray), (⟨#[86, 99, 100, 107]⟩ : ByteArray), (⟨#[86]⟩ : ByteArray), (⟨#[86, 99, 100, 101]⟩ : ByteArray), (⟨#[86, 87]⟩ : ByteArray), (⟨#[86, 87]⟩ : ByteArray)] : List ByteArray))
set_option maxHeartbeats 8000000 in
set_option maxRecDepth 100000 in
theorem jigsawref06_Shapes.calls  (r : List ByteArray) (w : World) (h : jigsawref06_Shapes.f  = some r) :
  Calls Tryz.prog 36 #[] w fun e w' => ∃ v0_ : Value, e = .returned (v0_) ∧ Kd.R Kd.string 9 w' w.heap.size (fun _ => True) v0_ r ∧ Below w.heap.size w w' := by
 have HB := Aside0.mk (Below.refl w.heap.size w)
 have H : (some (([(⟨#[]⟩ : ByteArray), (⟨#[99, 86, 107]⟩ : ByteArray), (⟨#[99, 86, 107]⟩ : ByteArray), (⟨#[99, 86, 107]⟩ : ByteArray), (⟨#[99, 86, 107, 119]⟩ : ByteArray), (⟨#[118, 118, 118]⟩ : ByteArray), (⟨#[118, 118, 118]⟩ : ByteArray), (⟨#[118, 118, 118]⟩ : ByteArray), (⟨#[118, 118]⟩ : ByteArray), (⟨#[118, 118, 118]⟩ : ByteArray), (⟨#[118, 118, 118]⟩ : ByteArray), (⟨#[118, 99, 118]⟩ : ByteArray), (⟨#[86, 87]⟩ : ByteArray), (⟨#[118, 107, 119]⟩ : ByteArray), (⟨#[118, 107, 119]⟩ : ByteArray), (⟨#[118, 107, 119]⟩ : ByteArray), (⟨#[118, 107, 119]⟩ : ByteArray), (⟨#[86]⟩ : ByteArray), (⟨#[86, 114]⟩ : ByteArray), (⟨#[86, 99, 100, 107]⟩ : ByteArray), (⟨#[86]⟩ : ByteArray), (⟨#[86, 99, 100, 101]⟩ : ByteArray), (⟨#[86, 87]⟩ : ByteArray), (⟨#[86, 87]⟩ : ByteArray)] : List ByteArray))) = some r := h
 clear h
 obtain ⟨y101, hy101⟩ : ∃ y_ : List ByteArray, y_ = (([(⟨#[]⟩ : ByteArray), (⟨#[99, 86, 107]⟩ : ByteArray), (⟨#[99, 86, 107]⟩ : ByteArray), (⟨#[99, 86, 107]⟩ : ByteArray), (⟨#[99, 86, 107, 119]⟩ : ByteArray), (⟨#[118, 118, 118]⟩ : ByteArray), (⟨#[118, 118, 118]⟩ : ByteArray), (⟨#[118, 118, 118]⟩ : ByteArray), (⟨#[118, 118]⟩ : ByteArray), (⟨#[118, 118, 118]⟩ : ByteArray), (⟨#[118, 118, 118]⟩ : ByteArray), (⟨#[118, 99, 118]⟩ : ByteArray), (⟨#[86, 87]⟩ : ByteArray), (⟨#[118, 107, 119]⟩ : ByteArray), (⟨#[118, 107, 119]⟩ : ByteArray), (⟨#[118, 107, 119]⟩ : ByteArray), (⟨#[118, 107, 119]⟩ : ByteArray), (⟨#[86]⟩ : ByteArray), (⟨#[86, 114]⟩ : ByteArray), (⟨#[86, 99, 100, 107]⟩ : ByteArray), (⟨#[86]⟩ : ByteArray), (⟨#[86, 99, 100, 101]⟩ : ByteArray), (⟨#[86, 87]⟩ : ByteArray), (⟨#[86, 87]⟩ : ByteArray)] : List ByteArray)) := ⟨_, rfl⟩
 replace H : (some y101) = some r := by first | (rw [hy101]; with_reducible exact H) | (have H2_ := (Option.bind_some _ _).symm.trans H; rw [hy101]; with_reducible exact H2_) | (have H2_ := (Option.bind_some _ _).symm.trans H; with_reducible exact H2_) | with_reducible exact H | (rw [hy101]; exact H) | exact H
 have Ny101 := Aside0.mk hy101
 clear hy101
 obtain rfl := Option.some.inj H
 go_enter Tryz.func36, Tryz.ntmps36
 go_wp2_with (first | ((with_reducible refine gate_dst (N := 1) rfl ?_); refine Kd.R_lit Kd.string _ 9 ?hg (N := 1) ?hd (xs := ([(⟨#[]⟩ : ByteArray), (⟨#[99, 86, 107]⟩ : ByteArray), (⟨#[99, 86, 107]⟩ : ByteArray), (⟨#[99, 86, 107]⟩ : ByteArray), (⟨#[99, 86, 107, 119]⟩ : ByteArray), (⟨#[118, 118, 118]⟩ : ByteArray), (⟨#[118, 118, 118]⟩ : ByteArray), (⟨#[118, 118, 118]⟩ : ByteArray), (⟨#[118, 118]⟩ : ByteArray), (⟨#[118, 118, 118]⟩ : ByteArray), (⟨#[118, 118, 118]⟩ : ByteArray), (⟨#[118, 99, 118]⟩ : ByteArray), (⟨#[86, 87]⟩ : ByteArray), (⟨#[118, 107, 119]⟩ : ByteArray), (⟨#[118, 107, 119]⟩ : ByteArray), (⟨#[118, 107, 119]⟩ : ByteArray), (⟨#[118, 107, 119]⟩ : ByteArray), (⟨#[86]⟩ : ByteArray), (⟨#[86, 114]⟩ : ByteArray), (⟨#[86, 99, 100, 107]⟩ : ByteArray), (⟨#[86]⟩ : ByteArray), (⟨#[86, 99, 100, 101]⟩ : ByteArray), (⟨#[86, 87]⟩ : ByteArray), (⟨#[86, 87]⟩ : ByteArray)] : List ByteArray)) (inner := [.string (⟨#[]⟩ : ByteArray), .string (⟨#[99, 86, 107]⟩ : ByteArray), .string (⟨#[99, 86, 107]⟩ : ByteArray), .string (⟨#[99, 86, 107]⟩ : ByteArray), .string (⟨#[99, 86, 107, 119]⟩ : ByteArray), .string (⟨#[118, 118, 118]⟩ : ByteArray), .string (⟨#[118, 118, 118]⟩ : ByteArray), .string (⟨#[118, 118, 118]⟩ : ByteArray), .string (⟨#[118, 118]⟩ : ByteArray), .string (⟨#[118, 118, 118]⟩ : ByteArray), .string (⟨#[118, 118, 118]⟩ : ByteArray), .string (⟨#[118, 99, 118]⟩ : ByteArray), .string (⟨#[86, 87]⟩ : ByteArray), .string (⟨#[118, 107, 119]⟩ : ByteArray), .string (⟨#[118, 107, 119]⟩ : ByteArray), .string (⟨#[118, 107, 119]⟩ : ByteArray), .string (⟨#[118, 107, 119]⟩ : ByteArray), .string (⟨#[86]⟩ : ByteArray), .string (⟨#[86, 114]⟩ : ByteArray), .string (⟨#[86, 99, 100, 107]⟩ : ByteArray), .string (⟨#[86]⟩ : ByteArray), .string (⟨#[86, 99, 100, 101]⟩ : ByteArray), .string (⟨#[86, 87]⟩ : ByteArray), .string (⟨#[86, 87]⟩ : ByteArray)]) (ok := fun _ => True) (okp := fun _ => True) ?hr ?hp (fun _ hk => hk) trivial (Below.refl _ _) (Nat.le_refl _) (by simp) ?_; (case hd => rfl); (case hg => rfl); (case hr => first | (go_simp; done) | (go_simp; rfl)); (case hp => exact (Reps.one (show Kd.M Kd.string _ _ _ (⟨#[]⟩ : ByteArray) [.string (⟨#[]⟩ : ByteArray)] from rfl) (Reps.one (show Kd.M Kd.string _ _ _ (⟨#[99, 86, 107]⟩ : ByteArray) [.string (⟨#[99, 86, 107]⟩ : ByteArray)] from rfl) (Reps.one (show Kd.M Kd.string _ _ _ (⟨#[99, 86, 107]⟩ : ByteArray) [.string (⟨#[99, 86, 107]⟩ : ByteArray)] from rfl) (Reps.one (show Kd.M Kd.string _ _ _ (⟨#[99, 86, 107]⟩ : ByteArray) [.string (⟨#[99, 86, 107]⟩ : ByteArray)] from rfl) (Reps.one (show Kd.M Kd.string _ _ _ (⟨#[99, 86, 107, 119]⟩ : ByteArray) [.string (⟨#[99, 86, 107, 119]⟩ : ByteArray)] from rfl) (Reps.one (show Kd.M Kd.string _ _ _ (⟨#[118, 118, 118]⟩ : ByteArray) [.string (⟨#[118, 118, 118]⟩ : ByteArray)] from rfl) (Reps.one (show Kd.M Kd.string _ _ _ (⟨#[118, 118, 118]⟩ : ByteArray) [.string (⟨#[118, 118, 118]⟩ : ByteArray)] from rfl) (Reps.one (show Kd.M Kd.string _ _ _ (⟨#[118, 118, 118]⟩ : ByteArray) [.string (⟨#[118, 118, 118]⟩ : ByteArray)] from rfl) (Reps.one (show Kd.M Kd.string _ _ _ (⟨#[118, 118]⟩ : ByteArray) [.string (⟨#[118, 118]⟩ : ByteArray)] from rfl) (Reps.one (show Kd.M Kd.string _ _ _ (⟨#[118, 118, 118]⟩ : ByteArray) [.string (⟨#[118, 118, 118]⟩ : ByteArray)] from rfl) (Reps.one (show Kd.M Kd.string _ _ _ (⟨#[118, 118, 118]⟩ : ByteArray) [.string (⟨#[118, 118, 118]⟩ : ByteArray)] from rfl) (Reps.one (show Kd.M Kd.string _ _ _ (⟨#[118, 99, 118]⟩ : ByteArray) [.string (⟨#[118, 99, 118]⟩ : ByteArray)] from rfl) (Reps.one (show Kd.M Kd.string _ _ _ (⟨#[86, 87]⟩ : ByteArray) [.string (⟨#[86, 87]⟩ : ByteArray)] from rfl) (Reps.one (show Kd.M Kd.string _ _ _ (⟨#[118, 107, 119]⟩ : ByteArray) [.string (⟨#[118, 107, 119]⟩ : ByteArray)] from rfl) (Reps.one (show Kd.M Kd.string _ _ _ (⟨#[118, 107, 119]⟩ : ByteArray) [.string (⟨#[118, 107, 119]⟩ : ByteArray)] from rfl) (Reps.one (show Kd.M Kd.string _ _ _ (⟨#[118, 107, 119]⟩ : ByteArray) [.string (⟨#[118, 107, 119]⟩ : ByteArray)] from rfl) (Reps.one (show Kd.M Kd.string _ _ _ (⟨#[118, 107, 119]⟩ : ByteArray) [.string (⟨#[118, 107, 119]⟩ : ByteArray)] from rfl) (Reps.one (show Kd.M Kd.string _ _ _ (⟨#[86]⟩ : ByteArray) [.string (⟨#[86]⟩ : ByteArray)] from rfl) (Reps.one (show Kd.M Kd.string _ _ _ (⟨#[86, 114]⟩ : ByteArray) [.string (⟨#[86, 114]⟩ : ByteArray)] from rfl) (Reps.one (show Kd.M Kd.string _ _ _ (⟨#[86, 99, 100, 107]⟩ : ByteArray) [.string (⟨#[86, 99, 100, 107]⟩ : ByteArray)] from rfl) (Reps.one (show Kd.M Kd.string _ _ _ (⟨#[86]⟩ : ByteArray) [.string (⟨#[86]⟩ : ByteArray)] from rfl) (Reps.one (show Kd.M Kd.string _ _ _ (⟨#[86, 99, 100, 101]⟩ : ByteArray) [.string (⟨#[86, 99, 100, 101]⟩ : ByteArray)] from rfl) (Reps.one (show Kd.M Kd.string _ _ _ (⟨#[86, 87]⟩ : ByteArray) [.string (⟨#[86, 87]⟩ : ByteArray)] from rfl) (Reps.one (show Kd.M Kd.string _ _ _ (⟨#[86, 87]⟩ : ByteArray) [.string (⟨#[86, 87]⟩ : ByteArray)] from rfl) (Reps.none _ _)))))))))))))))))))))))))); intro v102 w1 ho2 hb hg_ hnew_; clear hg_ hnew_; (first | rw [← Ny101.out] at ho2 | (simp only [Int.reduceToNat] at ho2; rw [← Ny101.out] at ho2)); have HO103 := Aside0.mk (Kd.R_lower ho2 (below_size bel_)); replace HB := Aside0.mk (below_step bel_ hb); clear hb ho2))
 go_ret
 exact ⟨_, by first | rfl | (simp [errW_none, errW_some] <;> rfl) | (simp [*, errW_none, errW_some] <;> rfl), by refine vR_ ?_; exact HO103.out, bel_⟩

/-! ### jigsawref06_has: function 37 -/
def jigsawref06_has.l0 : Nat → ByteArray → Int → Int → Int → Option (Int)
 | 0, _, _, _, _ => none
 | k + 1, x0, x1, x5, x6 => if x6 < (x0.size : Int) then (if 0 ≤ x6 then (if (bt x0 x6) = x1 then (jigsawref06_has.l0 k x0 x1 (wrap64 (x5 + 1)) (wrap64 (x6 + 1))) else (jigsawref06_has.l0 k x0 x1 x5 (wrap64 (x6 + 1)))) else (none)) else (some x5)
def jigsawref06_has.f (k : Nat) (a0 : ByteArray) (a1 : Int) : Option (Int) := jigsawref06_has.l0 k a0 a1 0 0
theorem jigsawref06_has.mono_l : ∀ k, (∀ y0 y1 y2 y3, LeO (jigsawref06_has.l0 k y0 y1 y2 y3) (jigsawref06_has.l0 (k + 1) y0 y1 y2 y3))
 | 0 => fun _ _ _ _ r h => by simp [jigsawref06_has.l0] at h
 | k + 1 => by
  have ih0 := jigsawref06_has.mono_l k
  ·
   intro y0 y1 y2 y3
   unfold jigsawref06_has.l0
   exact leo_
theorem jigsawref06_has.mono : ∀ a0 a1 k, LeO (jigsawref06_has.f k a0 a1) (jigsawref06_has.f (k + 1) a0 a1) := by
 intro a0 a1 k
 have ih0 := jigsawref06_has.mono_l k
 unfold jigsawref06_has.f
 exact leo_
set_option maxHeartbeats 8000000 in
set_option maxRecDepth 100000 in
theorem jigsawref06_has.calls (k : Nat) (a0 : ByteArray) (a1 : Int) (r : Int) (w : World) (h : jigsawref06_has.f k a0 a1 = some r) :
  Calls Tryz.prog 37 #[.string a0, .int .u8 a1] w fun e w' => e = .returned (.int .i64 r) ∧ Drawn0 w w' := by
 have H : (jigsawref06_has.l0 k a0 a1 0 0) = some r := h
 clear h
 have H' := Aside0.mk H
 clear H
 go_enter Tryz.func37, Tryz.ntmps37
 go_wp2
 go_loopg [5, 6] k (fun kq v5 v6 w' => ∃ (x5_1 : Int) (x6_1 : Int), v5 = .int .i64 x5_1 ∧ v6 = .int .i64 x6_1 ∧ Aside0 (jigsawref06_has.l0 kq a0 a1 x5_1 x6_1 = some r) ∧ Aside0 (kq ≤ k) ∧ Drawn0 w w')
 case atStart => exact ⟨(0), (0), eq_, eq_, H', ⟨Nat.le_refl _⟩, by repeat (first | exact Drawn0.refl _ | apply Drawn0.step)⟩
 case round =>
  clear H'
  try clear p2
  obtain ⟨x5_1, x6_1, rfl, rfl, HA, HK1, ⟨m1, rfl⟩⟩ := hrel
  cases gk with
  | zero => exact absurd HA.out (by simp [jigsawref06_has.l0])
  | succ k1 =>
   have H := HA.out
   clear HA
   simp only [jigsawref06_has.l0] at H
   by_cases c3 : x6_1 < (a0.size : Int)
   ·
    rw [if_pos c3] at H
    have c3b0 : decide (x6_1 < (a0.size : Int)) = true := decide_eq_true c3
    clear c3
    by_cases c4 : 0 ≤ x6_1
    ·
     rw [if_pos c4] at H
     have c4b0 : decide (0 ≤ x6_1) = true := decide_eq_true c4
     clear c4
     by_cases c6 : (bt a0 x6_1) = a1
     ·
      rw [if_pos c6] at H
      have c6b0 : ((bt a0 x6_1) == a1) = true := beq_iff_eq.mpr c6
      have c6b1 : ((bt a0 x6_1) != a1) = false := bne_eq_false_iff_eq.mpr c6
      clear c6
      have H' := Aside0.mk H
      clear H
      have p5 : 0 ≤ (x6_1 : Int) := dq_
      have q5 : x6_1 < (a0.size : Int) := dq_
      have hx5 := bt_at a0 x6_1
      replace p5 := eq_true p5
      replace q5 := eq_true q5
      go_wp2
      go_roundg k1
      case measure => have := HK1.out; omega
      case rel => exact ⟨(wrap64 (x5_1 + 1)), (wrap64 (x6_1 + 1)), eq_, eq_, H', ⟨by have := HK1.out; omega⟩, by repeat (first | exact Drawn0.refl _ | apply Drawn0.step)⟩
     ·
      rw [if_neg c6] at H
      have c6b0 : ((bt a0 x6_1) == a1) = false := beq_eq_false_iff_ne.mpr c6
      have c6b1 : ((bt a0 x6_1) != a1) = true := bne_iff_ne.mpr c6
      have H' := Aside0.mk H
      clear H
      have p5 : 0 ≤ (x6_1 : Int) := dq_
      have q5 : x6_1 < (a0.size : Int) := dq_
      have hx5 := bt_at a0 x6_1
      replace p5 := eq_true p5
      replace q5 := eq_true q5
      go_wp2
      go_roundg k1
      case measure => have := HK1.out; omega
      case rel => exact ⟨(x5_1), (wrap64 (x6_1 + 1)), eq_, eq_, H', ⟨by have := HK1.out; omega⟩, by repeat (first | exact Drawn0.refl _ | apply Drawn0.step)⟩
    ·
     rw [if_neg c4] at H
     exact absurd H (by simp)
   ·
    rw [if_neg c3] at H
    have c3b0 : decide (x6_1 < (a0.size : Int)) = false := decide_eq_false c3
    clear c3
    obtain rfl := Option.some.inj H
    go_wp2
    go_ret
    exact ⟨by first | rfl | (simp; done) | (simp [*]; done), by repeat (first | exact Drawn0.refl _ | apply Drawn0.step)⟩

/-! ### jigsawref06_places: function 38 -/
def jigsawref06_places.l0 : Nat → List Int → Int → Int → List Int → Int → Option (List Int)
 | 0, _, _, _, _, _ => none
 | k + 1, x0, x1, x2, x7, x8 => if x8 < x1 then (if x8 < (x0.length : Int) then (if 0 ≤ x8 then (if x2 = 0 then (none) else (if x7.length < 17592186044416 then (jigsawref06_places.l0 k x0 x1 x2 (x7 ++ [Int.tmod (wrap64 (rd x0 x8)) x2]) (wrap64 (x8 + 1))) else (none))) else (none)) else (if x2 = 0 then (none) else (if x7.length < 17592186044416 then (jigsawref06_places.l0 k x0 x1 x2 (x7 ++ [Int.tmod x8 x2]) (wrap64 (x8 + 1))) else (none)))) else (some x7)
def jigsawref06_places.f (k : Nat) (l0 : List Int) (a1 : Int) (a2 : Int) : Option (List Int) := jigsawref06_places.l0 k l0 a1 a2 ([] : List Int) 0
theorem jigsawref06_places.mono_l : ∀ k, (∀ y0 y1 y2 y3 y4, LeO (jigsawref06_places.l0 k y0 y1 y2 y3 y4) (jigsawref06_places.l0 (k + 1) y0 y1 y2 y3 y4))
 | 0 => fun _ _ _ _ _ r h => by simp [jigsawref06_places.l0] at h
 | k + 1 => by
  have ih0 := jigsawref06_places.mono_l k
  ·
   intro y0 y1 y2 y3 y4
   unfold jigsawref06_places.l0
   exact leo_
theorem jigsawref06_places.mono : ∀ a0 a1 a2 k, LeO (jigsawref06_places.f k a0 a1 a2) (jigsawref06_places.f (k + 1) a0 a1 a2) := by
 intro a0 a1 a2 k
 have ih0 := jigsawref06_places.mono_l k
 unfold jigsawref06_places.f
 exact leo_
set_option maxHeartbeats 8000000 in
set_option maxRecDepth 100000 in
theorem jigsawref06_places.calls (k : Nat) (A0 : Option Addr) (c0 : Nat) (l0 : List Int) (a1 : Int) (a2 : Int) (r : List Int) (w : World) (hr0 : Kd.C (Kd.int .u8) w A0 l0.length l0) (hc0 : l0.length ≤ c0) (h : jigsawref06_places.f k l0 a1 a2 = some r) :
  Calls Tryz.prog 38 #[.slice A0 l0.length c0, .int .i64 a1, .int .i64 a2] w fun e w' => ∃ v0_ : Value, e = .returned (v0_) ∧ Kd.R (Kd.int .i64) 3 w' w.heap.size (fun _ => True) v0_ r ∧ Below w.heap.size w w' := by
 have HR0 := Aside0.mk hr0
 have HC0 := Aside0.mk hc0
 clear hr0 hc0
 have HB := Aside0.mk (Below.refl w.heap.size w)
 have H : (jigsawref06_places.l0 k l0 a1 a2 ([] : List Int) 0) = some r := h
 clear h
 have H' := Aside0.mk H
 clear H
 go_enter Tryz.func38, Tryz.ntmps38
 go_wp2
 go_loopg [7, 8] k (fun kq v7 v8 w' => ∃ (x7_1 : List Int) (x8_1 : Int), v8 = .int .i64 x8_1 ∧ Aside0 (jigsawref06_places.l0 kq l0 a1 a2 x7_1 x8_1 = some r) ∧ Aside0 (kq ≤ k) ∧ Aside0 (Kd.R (Kd.int .i64) 3 w' w.heap.size (fun _ => True) v7 x7_1) ∧ Aside0 (Below w.heap.size w w'))
 case atStart => exact ⟨(([] : List Int)), (0), eq_, H', ⟨Nat.le_refl _⟩, ⟨nil_⟩, ⟨bel_⟩⟩
 case round =>
  clear H'
  try clear p2
  try clear c3
  obtain ⟨x7_1, x8_1, rfl, HA, HK1, HO_7, HB⟩ := hrel
  cases gk with
  | zero => exact absurd HA.out (by simp [jigsawref06_places.l0])
  | succ k1 =>
   have H := HA.out
   clear HA
   simp only [jigsawref06_places.l0] at H
   by_cases c4 : x8_1 < a1
   ·
    rw [if_pos c4] at H
    have c4b0 : decide (x8_1 < a1) = true := decide_eq_true c4
    clear c4
    by_cases c5 : x8_1 < (l0.length : Int)
    ·
     rw [if_pos c5] at H
     have c5b0 : decide (x8_1 < (l0.length : Int)) = true := decide_eq_true c5
     clear c5
     by_cases c6 : 0 ≤ x8_1
     ·
      rw [if_pos c6] at H
      have c6b0 : decide (0 ≤ x8_1) = true := decide_eq_true c6
      clear c6
      by_cases c7 : a2 = 0
      ·
       rw [if_pos c7] at H
       exact absurd H (by simp)
      ·
       rw [if_neg c7] at H
       have c7b0 : (a2 == 0) = false := beq_eq_false_iff_ne.mpr c7
       have c7b1 : (a2 != 0) = true := bne_iff_ne.mpr c7
       by_cases c8 : x7_1.length < 17592186044416
       ·
        rw [if_pos c8] at H
        have LMc8 := Aside0.mk c8
        clear c8
        obtain ⟨y105, hy105⟩ : ∃ y_ : List Int, y_ = (x7_1 ++ [Int.tmod (wrap64 (rd l0 x8_1)) a2]) := ⟨_, rfl⟩
        replace H : (jigsawref06_places.l0 k1 l0 a1 a2 y105 (wrap64 (x8_1 + 1))) = some r := by first | (rw [hy105]; with_reducible exact H) | (have H2_ := (Option.bind_some _ _).symm.trans H; rw [hy105]; with_reducible exact H2_) | (have H2_ := (Option.bind_some _ _).symm.trans H; with_reducible exact H2_) | with_reducible exact H | (rw [hy105]; exact H) | exact H
        have Ny105 := Aside0.mk hy105
        clear hy105
        have H' := Aside0.mk H
        clear H
        have p104 : 0 ≤ (x8_1 : Int) := dq_
        have q104 : x8_1 < (l0.length : Int) := dq_
        obtain ⟨ad104, e104, hx104_0⟩ := Kd.at_int HR0.out x8_1 p104 q104
        cases e104
        replace hx104_0 := (HB.out.cell (World.block_lt_of_cell? w _ hx104_0)).trans hx104_0
        replace p104 := eq_true p104
        replace q104 := eq_true q104
        go_wp2_with (first | ((with_reducible refine gate_builtin (b := .append) (xs := #[.tmp 25, .tmp 29]) rfl ?_); at_builtin; refine Kd.R_append (Kd.int .i64) (w0 := w) w.heap.size rfl (.tmp 25) (.tmp 29) 30 3 (.int .i64 0) 8 rfl Tryz.underlying30 info3 rfl (by decide) (by omega) u7 x7_1 (Int.tmod (wrap64 (rd l0 x8_1)) a2) [.int .i64 (Int.tmod (wrap64 (rd l0 x8_1)) a2)] (fun _ => True) (fun _ => False) rfl rfl ?aP (fun _ hk => hk.elim) ?aF ?aO ?aB ?aS ?aL ?_; (case aP => exact rfl); (case aB => exact bel_); (case aF => exact (fun _ _ => trivial)); (case aO => exact (vR_ HO_7.out)); (case aS => exact (below_size bel_)); (case aL => have := LMc8.out; omega); intro v106 w9 ho hb hg hat; rw [← Ny105.out] at ho; replace HB := Aside0.mk (hb); have HO107 := Aside0.mk (ho); clear HO_7; clear ho hb hg hat))
        go_roundg k1
        case measure => have := HK1.out; omega
        case rel => exact ⟨(y105), (wrap64 (x8_1 + 1)), eq_, H', ⟨by have := HK1.out; omega⟩, ⟨by refine vR_ ?_; exact HO107.out⟩, ⟨bel_⟩⟩
       ·
        rw [if_neg c8] at H
        exact absurd H (by simp)
     ·
      rw [if_neg c6] at H
      exact absurd H (by simp)
    ·
     rw [if_neg c5] at H
     have c5b0 : decide (x8_1 < (l0.length : Int)) = false := decide_eq_false c5
     clear c5
     by_cases c10 : a2 = 0
     ·
      rw [if_pos c10] at H
      exact absurd H (by simp)
     ·
      rw [if_neg c10] at H
      have c10b0 : (a2 == 0) = false := beq_eq_false_iff_ne.mpr c10
      have c10b1 : (a2 != 0) = true := bne_iff_ne.mpr c10
      by_cases c11 : x7_1.length < 17592186044416
      ·
       rw [if_pos c11] at H
       have LMc11 := Aside0.mk c11
       clear c11
       obtain ⟨y108, hy108⟩ : ∃ y_ : List Int, y_ = (x7_1 ++ [Int.tmod x8_1 a2]) := ⟨_, rfl⟩
       replace H : (jigsawref06_places.l0 k1 l0 a1 a2 y108 (wrap64 (x8_1 + 1))) = some r := by first | (rw [hy108]; with_reducible exact H) | (have H2_ := (Option.bind_some _ _).symm.trans H; rw [hy108]; with_reducible exact H2_) | (have H2_ := (Option.bind_some _ _).symm.trans H; with_reducible exact H2_) | with_reducible exact H | (rw [hy108]; exact H) | exact H
       have Ny108 := Aside0.mk hy108
       clear hy108
       have H' := Aside0.mk H
       clear H
       go_wp2_with (first | ((with_reducible refine gate_builtin (b := .append) (xs := #[.tmp 25, .tmp 29]) rfl ?_); at_builtin; refine Kd.R_append (Kd.int .i64) (w0 := w) w.heap.size rfl (.tmp 25) (.tmp 29) 30 3 (.int .i64 0) 8 rfl Tryz.underlying30 info3 rfl (by decide) (by omega) u7 x7_1 (Int.tmod x8_1 a2) [.int .i64 (Int.tmod x8_1 a2)] (fun _ => True) (fun _ => False) rfl rfl ?aP (fun _ hk => hk.elim) ?aF ?aO ?aB ?aS ?aL ?_; (case aP => exact rfl); (case aB => exact bel_); (case aF => exact (fun _ _ => trivial)); (case aO => exact (vR_ HO_7.out)); (case aS => exact (below_size bel_)); (case aL => have := LMc11.out; omega); intro v109 w12 ho hb hg hat; rw [← Ny108.out] at ho; replace HB := Aside0.mk (hb); have HO110 := Aside0.mk (ho); clear HO_7; clear ho hb hg hat))
       go_roundg k1
       case measure => have := HK1.out; omega
       case rel => exact ⟨(y108), (wrap64 (x8_1 + 1)), eq_, H', ⟨by have := HK1.out; omega⟩, ⟨by refine vR_ ?_; exact HO110.out⟩, ⟨bel_⟩⟩
      ·
       rw [if_neg c11] at H
       exact absurd H (by simp)
   ·
    rw [if_neg c4] at H
    have c4b0 : decide (x8_1 < a1) = false := decide_eq_false c4
    clear c4
    obtain rfl := Option.some.inj H
    go_wp2
    go_ret
    exact ⟨_, by first | rfl | (simp [errW_none, errW_some] <;> rfl) | (simp [*, errW_none, errW_some] <;> rfl), by refine vR_ ?_; exact HO_7.out, bel_⟩

end Go.Proofs.YtmhchlbbfpmdgaaGreatDoor.XClauseKeeps
