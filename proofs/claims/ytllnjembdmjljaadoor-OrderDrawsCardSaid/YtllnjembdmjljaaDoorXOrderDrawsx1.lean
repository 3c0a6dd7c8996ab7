-- by xprint.py, a program of this session, over the kit's print
import Derived.Test.YtllnjembdmjljaaDoorXOrderDrawsx0
namespace Go.Proofs.YtllnjembdmjljaaDoor.XOrderDraws
open Go.RowKit Go.Proofs.YtllnjembdmjljaaDoorW.PrintWords Go.Proofs.YtllnjembdmjljaaDoorW.PrintLast Go.Proofs.YtllnjembdmjljaaDoorW.PrintMore
attribute [local go_sem] max2_int min2_int max_two min_two max_three min_three max_four min_four   -- for this text's walks alone
set_option linter.unusedVariables false
set_option linter.unusedSimpArgs false

theorem fold_step {op : Int → Int → Int} {l : List Int} {z : Int} {k : Nat} (h : k < l.length) : (l.take (k + 1)).foldl op z = op ((l.take k).foldl op z) (rd l k) := by
  rw [List.take_succ_eq_append_getElem h, List.foldl_append]
  have e : rd l k = l[k] := by unfold rd; rw [Int.toNat_natCast, List.getD_eq_getElem?_getD, List.getElem?_eq_getElem h]; rfl
  rw [e]; rfl
theorem mx_self (a : Int) : mx a a = a := by unfold mx; split <;> rfl
theorem mn_self (a : Int) : mn a a = a := by unfold mn; split <;> rfl

def IdxPost (l0 : List Int) (p : Int → Bool) (w : World) (e : Ending) (w' : World) : Prop := ∃ i : Int, e = .returned (.int .i64 i) ∧ (0 ≤ i ↔ l0.any p = true) ∧ Drawn0 w w'
/-- slices.IndexFunc at numbers and whatever function that captures nothing and makes nothing. -/
theorem indexInt (g : Nat) (lb : Array Value) (p : Int → Bool) (eg : ∀ args w, (callFunc g args).run Tryd.prog w = .ok (.enter g args) w)
    (A0 : Option Addr) (c0 : Nat) (l0 : List Int) (w : World)
    (hp : ∀ v m, Calls Tryd.prog g (#[.int .i64 v] ++ lb) (w.drewN m) fun e w' => e = .returned (.bool (p v)) ∧ Drawn0 (w.drewN m) w') (hr0 : Kd.C (Kd.int .i64) w A0 l0.length l0) :
    Calls Tryd.prog 56 #[.slice A0 l0.length c0, .func (.func g) #[] lb] w (IdxPost l0 p w) := by
  have hbig : l0.length ≤ 9223372036854775807 := hr0.2.1
  have HR := Aside0.mk hr0
  have HP := Aside0.mk hp
  clear hr0 hp
  go_enter Tryd.func56, Tryd.ntmps56
  go_wp2
  go_loopg [8] l0.length (fun gg s8 wr => ∃ kk : Nat, kk ≤ l0.length ∧ l0.length - kk ≤ gg ∧ s8 = .int .i64 kk ∧ Aside0 (Drawn0 w wr) ∧ Aside0 (∀ j, j < kk → p (rd l0 (j : Nat)) = false))
  case atStart => exact ⟨0, Nat.zero_le _, by omega, rfl, ⟨Drawn0.refl _⟩, ⟨fun j hj => absurd hj (Nat.not_lt_zero _)⟩⟩
  case round =>
    obtain ⟨kk, hkk, hg, rfl, BW, AF⟩ := hrel
    obtain ⟨⟨m, rfl⟩⟩ := BW
    by_cases hlt : kk < l0.length
    · have hltz : (kk : Int) < (l0.length : Int) := by omega
      obtain ⟨ad, rfl, hcell⟩ := Kd.at_int HR.out (kk : Int) (by omega) hltz
      rw [Int.toNat_natCast] at hcell
      have hcell' : (w.drewN m).cell? (ad.add kk) = some (.int .i64 (rd l0 kk)) := by rw [World.cell?_drewN]; exact hcell
      clear hcell
      have hcall := HP.out (rd l0 kk) m
      cases hq : p (rd l0 kk) with
      | true =>
        rw [hq] at hcall
        have HQ := Aside0.mk hq
        have HC := Aside0.mk hcall
        clear hq hcall
        go_wp2_with (go_at_fn g; refine HC.out.mono ?_; rintro e w' ⟨rfl, ⟨nd, rfl⟩⟩)
        go_ret
        refine ⟨kk, rfl, ⟨fun _ => ?_, fun _ => by omega⟩, ⟨_, rfl⟩⟩
        rw [List.any_eq_true]
        exact ⟨rd l0 kk, by unfold rd; rw [Int.toNat_natCast, List.getD_eq_getElem?_getD, List.getElem?_eq_getElem hlt]; exact List.getElem_mem hlt, HQ.out⟩
      | false =>
        rw [hq] at hcall
        have HQ := Aside0.mk hq
        have HC := Aside0.mk hcall
        clear hq hcall
        go_wp2_with (go_at_fn g; refine HC.out.mono ?_; rintro e w' ⟨rfl, ⟨nd, rfl⟩⟩)
        go_roundg (l0.length - (kk + 1))
        case measure => omega
        case rel =>
          refine ⟨kk + 1, by omega, by omega, by go_num, ⟨⟨_, rfl⟩⟩, ⟨fun j hj => ?_⟩⟩
          by_cases e : j = kk
          · subst e; exact HQ.out
          · exact AF.out j (by omega)
    · have hltz : ¬ (kk : Int) < (l0.length : Int) := by omega
      have : kk = l0.length := by omega
      subst this
      go_wp2
      go_ret
      refine ⟨-1, rfl, ⟨fun h => absurd h (by decide), fun h => ?_⟩, ⟨_, rfl⟩⟩
      rw [List.any_eq_true] at h
      obtain ⟨x, hx, hp⟩ := h
      obtain ⟨j, hj, rfl⟩ := List.getElem_of_mem hx
      have := AF.out j hj
      unfold rd at this
      rw [Int.toNat_natCast, List.getD_eq_getElem?_getD, List.getElem?_eq_getElem hj] at this
      simp only [Option.getD_some] at this
      rw [this] at hp; cases hp
/-- slices.ContainsFunc at numbers and whatever function that captures nothing and makes nothing. -/
theorem containsInt (g : Nat) (lb : Array Value) (p : Int → Bool) (eg : ∀ args w, (callFunc g args).run Tryd.prog w = .ok (.enter g args) w)
    (A0 : Option Addr) (c0 : Nat) (l0 : List Int) (w : World)
    (hp : ∀ v m, Calls Tryd.prog g (#[.int .i64 v] ++ lb) (w.drewN m) fun e w' => e = .returned (.bool (p v)) ∧ Drawn0 (w.drewN m) w') (hr0 : Kd.C (Kd.int .i64) w A0 l0.length l0) (hc0 : l0.length ≤ c0) :
    Calls Tryd.prog 40 #[.slice A0 l0.length c0, .func (.func g) #[] lb] w fun e w' => e = .returned (.bool (l0.any p)) ∧ Drawn0 w w' := by
  have HC := Aside0.mk (indexInt g lb p eg A0 c0 l0 w hp hr0)
  clear hr0
  go_enter Tryd.func40, Tryd.ntmps40
  go_wp2_with (go_at_call 56; refine HC.out.mono ?_; rintro e w' ⟨i, rfl, hi, hd⟩; have HI := Aside0.mk hi; clear hi)
  go_ret
  refine ⟨?_, hd⟩
  have := HI.out
  by_cases h : 0 ≤ i
  · rw [this.mp h]; simp [h]
  · have : l0.any p = false := by rw [Bool.eq_false_iff]; exact fun e => h (this.mpr e)
    rw [this]; simp [h]

/-! ### slices_Clone_uint32_uint32: function 30 -/
def slices_Clone_uint32_uint32.f (l0 : List Int) : Option (List Int) := if 0 = 1 then (some ([] : List Int)) else ((some (([] : List Int) : List Int)).bind fun y101 => (if y101.length + l0.length < 35184372088832 then (some (y101 ++ l0)) else (none)))
set_option maxHeartbeats 8000000 in
set_option maxRecDepth 100000 in
theorem slices_Clone_uint32_uint32.calls (A0 : Option Addr) (c0 : Nat) (l0 : List Int) (r : List Int) (w : World) (hr0 : Kd.C (Kd.int .u32) w A0 l0.length l0) (hc0 : l0.length ≤ c0) (h : slices_Clone_uint32_uint32.f l0 = some r) :
    Calls Tryd.prog 30 #[.slice A0 l0.length c0] w fun e w' => ∃ v0_ : Value, e = .returned (v0_) ∧ Kd.R (Kd.int .u32) 26 w' w.heap.size (fun _ => True) v0_ r ∧ Below w.heap.size w w' := by
  have qT : ∀ (w : World) (a : Option Addr) (n c n' c' : Nat), (binOp .eql 22 (.slice a n c) (.slice none n' c')).run Tryd.prog w = .ok (.bool a.isNone) w := fun w a n c n' c' => Lib.run_eql_slice_nil w _ _ a n c n' c' Tryd.underlying22
  rcases A0 with _ | A0
  · have e0 : l0 = [] := by
      rcases l0 with _ | ⟨x, l0⟩
      · rfl
      · obtain ⟨ad, he, _⟩ := hr0.2.2 (by simp)
        cases he
    subst e0
    have e1 : r = [] := by simpa [slices_Clone_uint32_uint32.f] using h.symm
    subst e1
    go_enter Tryd.func30, Tryd.ntmps30
    go_wp2
    go_ret
    exact ⟨_, rfl, Kd.R_nil _ _ _ _ _, by repeat (first | (with_reducible first | exact Below.refl _ _ | apply below_alloc | apply pw_below_drewN | apply below_drew1))⟩
  have HR0 := Aside0.mk hr0
  have HC0 := Aside0.mk hc0
  clear hr0 hc0
  have HB := Aside0.mk (Below.refl w.heap.size w)
  have H : (if ([] : List Int).length + l0.length < 35184372088832 then (some (([] : List Int) ++ l0)) else (none)) = some r := h
  clear h
  obtain ⟨y101, hy101⟩ : ∃ y_ : List Int, y_ = (([] : List Int)) := ⟨_, rfl⟩
  rw [← hy101] at H
  have Ny101 := Aside0.mk hy101
  clear hy101
  by_cases c3 : y101.length + l0.length < 35184372088832
  · rw [if_pos c3] at H
    have LMc3 := Aside0.mk c3
    clear c3
    obtain ⟨y104, hy104⟩ : ∃ y_ : List Int, y_ = (y101 ++ l0) := ⟨_, rfl⟩
    replace H : (some y104) = some r := by first | (rw [hy104]; with_reducible exact H) | (have H2_ := (Option.bind_some _ _).symm.trans H; rw [hy104]; with_reducible exact H2_) | (have H2_ := (Option.bind_some _ _).symm.trans H; with_reducible exact H2_) | with_reducible exact H | (rw [hy104]; exact H) | exact H
    have Ny104 := Aside0.mk hy104
    clear hy104
    obtain rfl := Option.some.inj H
    go_enter Tryd.func30, Tryd.ntmps30
    go_wp2_with (first | ((with_reducible refine gate_dst (N := 5) rfl ?_); refine Kd.R_lit (Kd.int .u32) _ 26 ?hg (N := 5) ?hd (xs := ([] : List Int)) (inner := []) (ok := fun _ => True) (okp := fun _ => True) ?hr ?hp (fun _ hk => hk) trivial (Below.refl _ _) (Nat.le_refl _) (by simp) ?_; (case hd => rfl); (case hg => rfl); (case hr => first | (go_simp; done) | (go_simp; rfl)); (case hp => exact (Reps.none _ _)); intro v102 w4 ho5 hb hg_ hnew_; clear hg_ hnew_; (first | rw [← Ny101.out] at ho5 | (simp only [Int.reduceToNat] at ho5; rw [← Ny101.out] at ho5)); have n0_ := Aside0.mk (Kd.R_lower ho5 (below_size (by repeat (first | (with_reducible first | exact HB.out | apply below_alloc | apply pw_below_drewN | apply below_drew1) | exact HB.out)))); have n1_ := Aside0.mk (below_step (by repeat (first | (with_reducible first | exact HB.out | apply below_alloc | apply pw_below_drewN | apply below_drew1) | exact HB.out)) hb); clear HB; have HO103 := n0_; have HB := n1_; clear n0_ n1_; clear hb ho5) | ((with_reducible refine gate_builtin (b := .append) (xs := #[.tmp 5, .tmp 6]) rfl ?_); at_builtin; refine Kd.R_append_rows (Kd.int .u32) (w0 := w) w.heap.size rfl (.tmp 5) (.tmp 6) 22 26 (.int .u32 0) 4 rfl Tryd.underlying22 info26 rfl (by decide) (by omega) v102 y101 l0 _ _ _ (fun _ => True) (fun _ => False) rfl rfl ?aO ?aR (fun _ _ h => h) (fun _ h => h.elim) ?aF ?aB ?aS ?aL ?_; (case aR => repeat (first | exact (Kd.C_below HR0.out HB.out) | (with_reducible refine Kd.C_alloc ?_ _) | (with_reducible refine Kd.C_drewN ?_ _) | (with_reducible refine Kd.C_drew ?_))); (case aB => exact (by repeat (first | (with_reducible first | exact HB.out | apply below_alloc | apply pw_below_drewN | apply below_drew1) | exact HB.out))); (case aF => exact (fun _ _ => trivial)); (case aO => exact (by (with_reducible repeat (first | apply Kd.R_alloc | apply Kd.R_drewN | apply Kd.R_drew)); exact HO103.out)); (case aS => exact (below_size (by repeat (first | (with_reducible first | exact HB.out | apply below_alloc | apply pw_below_drewN | apply below_drew1) | exact HB.out)))); (case aL => have := LMc3.out; omega); intro v105 w6 ho hb hg hat; rw [← Ny104.out] at ho; have n0_ := Aside0.mk (hb); have n1_ := Aside0.mk (ho); clear HB; clear HO103; have HB := n0_; have HO106 := n1_; clear n0_ n1_; clear ho hb hg hat))
    go_ret
    exact ⟨_, by first | rfl | (simp [errW_none, errW_some] <;> rfl) | (simp [*, errW_none, errW_some] <;> rfl), by (with_reducible repeat (first | apply Kd.R_alloc | apply Kd.R_drewN | apply Kd.R_drew)); exact HO106.out, by repeat (first | (with_reducible first | exact HB.out | apply below_alloc | apply pw_below_drewN | apply below_drew1) | exact HB.out)⟩
  · rw [if_neg c3] at H
    exact absurd H (by simp)

/-! ### order_Drawn: function 7 -/
def order_Drawn.f (l0 : List Int) : Option (List Int) := (slices_Clone_uint32_uint32.f l0).bind fun t107 => (some t107)
set_option maxHeartbeats 8000000 in
set_option maxRecDepth 100000 in
theorem order_Drawn.calls (A0 : Option Addr) (c0 : Nat) (l0 : List Int) (r : List Int) (w : World) (hr0 : Kd.C (Kd.int .u32) w A0 l0.length l0) (hc0 : l0.length ≤ c0) (h : order_Drawn.f l0 = some r) :
    Calls Tryd.prog 7 #[.slice A0 l0.length c0] w fun e w' => ∃ (g_ : Nat) (v0_ : Value), e = .returned (.pointer (some ⟨g_, 0, none⟩)) ∧ w.heap.size ≤ g_ ∧ w'.heap[g_]? = some (.cells #[v0_] 79 (0, 0)) ∧ Kd.R (Kd.int .u32) 26 w' w.heap.size (fun k_ => k_ ≠ g_) v0_ r ∧ Below w.heap.size w w' := by
  have HR0 := Aside0.mk hr0
  have HC0 := Aside0.mk hc0
  clear hr0 hc0
  have HB := Aside0.mk (Below.refl w.heap.size w)
  have H : ((slices_Clone_uint32_uint32.f l0).bind fun t107 => (some t107)) = some r := h
  clear h
  replace H := Option.bind_eq_some_iff.mp H
  obtain ⟨t107, A20, H⟩ := H
  replace H : (some t107) = some r := H
  have A2 := Aside0.mk A20
  clear A20
  obtain rfl := Option.some.inj H
  go_enter Tryd.func7, Tryd.ntmps7
  go_wp2_with (first | ((with_reducible refine gate_callee (f := 30) rfl ?_); refine goesL_ (some 4) rfl rfl Tryd.func30 (by kernel_rfl) rfl #[.slice A0 l0.length c0] rfl (by (try simp only [List.map_toArray, List.map_cons, List.map_nil]); first | done | rfl | (simp only [List.length_drop, List.length_take]; rfl)) ?_; (with_reducible refine (slices_Clone_uint32_uint32.calls _ _ l0 t107 _ ?side1 ?side2 A2.out).mono ?_); (case side1 => repeat (first | exact HR0.out | (with_reducible refine Kd.C_alloc ?_ _) | (with_reducible refine Kd.C_drewN ?_ _) | (with_reducible refine Kd.C_drew ?_))); (case side2 => exact HC0.out); rintro e w3 ⟨v108, rfl, ho0, hb⟩; refine ⟨_, rfl, ?_⟩; have n0_ := Aside0.mk (Kd.R_lower ho0 (below_size (by repeat (first | (with_reducible first | exact HB.out | apply below_alloc | apply pw_below_drewN | apply below_drew1) | exact HB.out)))); have n1_ := Aside0.mk (below_step (by repeat (first | (with_reducible first | exact HB.out | apply below_alloc | apply pw_below_drewN | apply below_drew1) | exact HB.out)) hb); clear HB; have HO109 := n0_; have HB := n1_; clear n0_ n1_; (try clear hb); (try clear hb2); (try clear hk); (try clear hi); (try clear ho0); obtain ⟨AD, cD, eD⟩ := Kd.R_slice HO109.out; subst eD) | ((with_reducible refine gate_dst (N := 6) rfl ?_); refine box_event ?hg (N := 6) ?hd (cs := #[.slice AD t107.length cD]) (t := 79) ?hr ?_; (case hd => rfl); (case hg => rfl); (case hr => first | (go_simp; done) | (go_simp; rfl)); intro gD hg w9 hbox hb; have GE := Aside0.mk ((by rw [hg]; exact (below_size (by repeat (first | (with_reducible first | exact HB.out | apply below_alloc | apply pw_below_drewN | apply below_drew1) | exact HB.out))) : w.heap.size ≤ gD)); have HO2 := Aside0.mk (Kd.R_below (Kd.R_mono (Kd.R_elderB HO109.out gD (Nat.le_of_eq hg.symm)) (fun _ hk => hk.2)) hb); have n0_ := Aside0.mk (below_step (by repeat (first | (with_reducible first | exact HB.out | apply below_alloc | apply pw_below_drewN | apply below_drew1) | exact HB.out)) hb); have BK := Aside0.mk hbox; clear HB; have HB := n0_; clear n0_; clear hb hbox hg))
  go_ret
  exact ⟨gD, rfl, GE.out, _, BK.out, HO2.out, HB.out⟩

/-! ### order_Draws_Next: function 8 -/
def order_Draws_Next.f (l0 : List Int) (a1 : Int) : Option (Int) := if a1 < 1 then (some 0) else (if (l0.length : Int) = 0 then (some 0) else (if 0 < (l0.length : Int) then (if a1 = 0 then (none) else (some (Int.tmod (wrap64 (rd l0 0)) a1))) else (none)))
theorem keep_set1 (w : World) (g : Nat) (u : Value) : KeepBut w (w.setCell ⟨g, 0, none⟩ u) g none := ⟨Nat.le_of_eq (by simp [World.setCell]), fun i _ hg _ => Below.heap_setCell w ⟨g, 0, none⟩ u i hg⟩
/-- But for the block g nothing was turned. -/
def Still (w w' : World) (g : Nat) : Prop := w'.os = w.os ∧ w'.tape = w.tape ∧ w'.output = w.output ∧ KeepBut w w' g none
theorem Still.refl (w : World) (g : Nat) : Still w w g := ⟨rfl, rfl, rfl, KeepBut.refl w g none⟩
theorem still_set (w : World) (g : Nat) (u : Value) : Still w (w.setCell ⟨g, 0, none⟩ u) g := ⟨rfl, rfl, rfl, keep_set1 w g u⟩
theorem still_from {w W W' : World} {g : Nat} (hb : Below w.heap.size w W) (hk : Still W W' g) : Still w W' g :=
  ⟨hk.1.trans hb.os, hk.2.1.trans hb.tape, hk.2.2.1.trans hb.output, Nat.le_trans hb.size hk.2.2.2.1, fun i hi hg hr => (hk.2.2.2.2 i (Nat.lt_of_lt_of_le hi hb.size) hg hr).trans (hb.block i hi)⟩
/-- What was elder than the block g stands. -/
theorem still_below {w W W' : World} {g : Nat} (hb : Below w.heap.size w W) (hg : w.heap.size ≤ g) (hk : Still W W' g) : Below w.heap.size w W' :=
  ⟨hk.1.trans hb.os, hk.2.1.trans hb.tape, hk.2.2.1.trans hb.output, Nat.le_trans hb.size hk.2.2.2.1, fun i hi => (hk.2.2.2.2 i (Nat.lt_of_lt_of_le hi hb.size) (by omega) (by simp)).trans (hb.block i hi)⟩
/-- What is left of the draws in the block g. -/
def Left (w : World) (g : Nat) (l : List Int) : Prop := ∃ (A : Option Addr) (c : Nat), w.heap[g]? = some (.cells #[.slice A l.length c] 79 (0, 0)) ∧ l.length ≤ c ∧ Kd.C (Kd.int .u32) w A l.length l ∧ ∀ ad, A = some ad → 0 < l.length → ad.block ≠ g
theorem Left.made {w : World} {g base : Nat} {v : Value} {l : List Int} (hb : w.heap[g]? = some (.cells #[v] 79 (0, 0))) (ho : Kd.R (Kd.int .u32) 26 w base (fun k => k ≠ g) v l) : Left w g l := by
  obtain ⟨A, c, rfl⟩ := Kd.R_slice ho
  refine ⟨A, c, hb, (Kd.R_reads' ho).2.1, (Kd.R_reads' ho).2.2, fun ad e _ => ?_⟩
  subst e
  rintro rfl
  exact ho.1 ad.block (by simp [Value.ownBlock]) rfl
set_option maxHeartbeats 8000000 in
set_option maxRecDepth 100000 in
theorem order_Draws_Next.calls_nil (a1 : Int) (w : World) : Calls Tryd.prog 8 #[.pointer none, .int .i64 a1] w fun e w' => e = .returned (.int .i64 0) ∧ Drawn0 w w' := by
  go_enter Tryd.func8, Tryd.ntmps8
  go_wp2
  go_ret
  exact ⟨by first | rfl | (simp; done) | (simp [*]; done), by repeat (first | exact Drawn0.refl _ | apply Drawn0.step)⟩
set_option maxHeartbeats 8000000 in
set_option maxRecDepth 100000 in
theorem order_Draws_Next.calls (g : Nat) (l0 : List Int) (a1 : Int) (r : Int) (w : World) (hL : Left w g l0) (h : order_Draws_Next.f l0 a1 = some r) :
    Calls Tryd.prog 8 #[.pointer (some ⟨g, 0, none⟩), .int .i64 a1] w fun e w' => e = .returned (.int .i64 r) ∧ Left w' g (if a1 < 1 then l0 else l0.tail) ∧ Still w w' g := by
  obtain ⟨A, c, hb, hc, hr0, hf⟩ := hL
  have hcz : w.cell? ⟨g, 0, none⟩ = some (.slice A l0.length c) := (blk_cell hb 0).trans rfl
  have hfz := blk_frozen hb 0
  have HK0 := Aside0.mk (Still.refl w g)
  have HL := Aside0.mk (show Left w g l0 from ⟨A, c, hb, hc, hr0, hf⟩)
  unfold order_Draws_Next.f at h
  by_cases c3 : a1 < 1
  · rw [if_pos c3] at h
    have c3b0 : decide (a1 < 1) = true := decide_eq_true c3
    obtain rfl := Option.some.inj h
    rw [if_pos c3]
    clear c3 h
    go_enter Tryd.func8, Tryd.ntmps8
    go_wp2
    go_ret
    exact ⟨by first | rfl | (simp; done) | (simp [*]; done), HL.out, HK0.out⟩
  · rw [if_neg c3] at h
    have c3b0 : decide (a1 < 1) = false := decide_eq_false c3
    rw [if_neg c3]
    by_cases c4 : (l0.length : Int) = 0
    · rw [if_pos c4] at h
      have c4b0 : ((l0.length : Int) == 0) = true := beq_iff_eq.mpr c4
      have e0 : l0 = [] := List.length_eq_zero_iff.1 (by omega)
      obtain rfl := Option.some.inj h
      clear c4 h
      go_enter Tryd.func8, Tryd.ntmps8
      go_wp2
      go_ret
      exact ⟨by first | rfl | (simp; done) | (simp [*]; done), by subst e0; exact HL.out, HK0.out⟩
    · rw [if_neg c4] at h
      have c4b0 : ((l0.length : Int) == 0) = false := beq_eq_false_iff_ne.mpr c4
      have hp : 0 < (l0.length : Int) := by omega
      rw [if_pos hp] at h
      by_cases c6 : a1 = 0
      · rw [if_pos c6] at h
        exact absurd h (by simp)
      rw [if_neg c6] at h
      have c6b0 : (a1 == 0) = false := beq_eq_false_iff_ne.mpr c6
      obtain rfl := Option.some.inj h
      have p110 : 0 ≤ (0 : Int) := (by omega)
      obtain ⟨ad110, e110, hx110_0⟩ := Kd.at_int hr0 0 p110 hp
      cases e110
      have qi110 : (0 < l0.length) = True := eq_true (by omega)
      have qi1 : (1 ≤ l0.length) = True := eq_true (by omega)
      have qi2 : (1 ≤ c) = True := eq_true (by omega)
      (try rw [show ((0 : Int)).toNat = 0 from rfl] at hx110_0)
      (try rw [Addr.add_zero'] at hx110_0)
      clear c3 c4 h
      go_enter Tryd.func8, Tryd.ntmps8
      go_wp2
      · go_ret
        refine ⟨by first | rfl | (simp; done) | (simp [*]; done), ?_, still_set w g _⟩
        have e1 : l0.tail = [] := by rw [← List.drop_one]; exact List.drop_eq_nil_of_le (by omega)
        rw [e1, show l0.length - 1 = 0 by omega]
        exact ⟨some ad110, 0, blk_put hb 0 _ rfl, Nat.le_refl _, ⟨rfl, by simp, fun h => absurd h (by simp)⟩, fun _ _ h => absurd h (by simp)⟩
      · go_ret
        refine ⟨by first | rfl | (simp; done) | (simp [*]; done), ?_, still_set w g _⟩
        have lt : l0.length - 1 = l0.tail.length := List.length_tail.symm
        have hC := Kd.C_drop hr0 (m := 1) (by omega) hc
        rw [if_neg (by assumption), List.drop_one] at hC
        have hf1 : ∀ ad, some (ad110.add 1) = some ad → 0 < l0.tail.length → ad.block ≠ g := fun ad e _ => by
          cases e
          exact hf ad110 rfl (by omega)
        rw [lt]
        exact ⟨some (ad110.add 1), c - 1, blk_put hb 0 _ rfl, by rw [List.length_tail]; omega, Kd.C_keep 0 hC (keep_set1 w g _) hf1, hf1⟩


/-! ### jigsawref02_Has: function 39 -/
def jigsawref02_Has.l0 : Nat → List Int → Int → Int → Option (Bool)
  | 0, _, _, _ => none
  | k + 1, x0, x1, x5 => if x5 < (x0.length : Int) then (if 0 ≤ x5 then (if (rd x0 x5) = x1 then (some true) else (jigsawref02_Has.l0 k x0 x1 (wrap64 (x5 + 1)))) else (none)) else (some false)
def jigsawref02_Has.f (k : Nat) (l0 : List Int) (a1 : Int) : Option (Bool) := jigsawref02_Has.l0 k l0 a1 0
theorem jigsawref02_Has.mono_l : ∀ k, (∀ y0 y1 y2, LeO (jigsawref02_Has.l0 k y0 y1 y2) (jigsawref02_Has.l0 (k + 1) y0 y1 y2))
  | 0 => fun _ _ _ r h => by simp [jigsawref02_Has.l0] at h
  | k + 1 => by
    have ih0 := jigsawref02_Has.mono_l k
    · intro y0 y1 y2
      unfold jigsawref02_Has.l0
      repeat' first
      | (with_reducible exact ih0 _ _ _)
      | (with_reducible exact LeO.refl _)
      | (with_reducible exact LeO.none _)
      | (with_reducible refine LeO.ite ?_ ?_)
      | (with_reducible refine LeO.bind ?_ (fun _ => ?_))
      | exact ih0 _ _ _
      | exact LeO.none _
      | refine LeO.ite ?_ ?_
      | refine LeO.bind ?_ (fun _ => ?_)
theorem jigsawref02_Has.mono : ∀ a0 a1 k, LeO (jigsawref02_Has.f k a0 a1) (jigsawref02_Has.f (k + 1) a0 a1) := by
  intro a0 a1 k
  have ih0 := jigsawref02_Has.mono_l k
  unfold jigsawref02_Has.f
  repeat' first
      | (with_reducible exact ih0 _ _ _)
      | (with_reducible exact LeO.refl _)
      | (with_reducible exact LeO.none _)
      | (with_reducible refine LeO.ite ?_ ?_)
      | (with_reducible refine LeO.bind ?_ (fun _ => ?_))
      | exact ih0 _ _ _
      | exact LeO.none _
      | refine LeO.ite ?_ ?_
      | refine LeO.bind ?_ (fun _ => ?_)
set_option maxHeartbeats 8000000 in
set_option maxRecDepth 100000 in
theorem jigsawref02_Has.calls (k : Nat) (A0 : Option Addr) (c0 : Nat) (l0 : List Int) (a1 : Int) (r : Bool) (w : World) (hr0 : Kd.C (Kd.int .i64) w A0 l0.length l0) (hc0 : l0.length ≤ c0) (h : jigsawref02_Has.f k l0 a1 = some r) :
    Calls Tryd.prog 39 #[.slice A0 l0.length c0, .int .i64 a1] w fun e w' => e = .returned (.bool r) ∧ Drawn0 w w' := by
  have HR0 := Aside0.mk hr0
  have HC0 := Aside0.mk hc0
  clear hr0 hc0
  have H : (jigsawref02_Has.l0 k l0 a1 0) = some r := h
  clear h
  have H' := Aside0.mk H
  clear H
  go_enter Tryd.func39, Tryd.ntmps39
  go_wp2
  go_loopg [5] k (fun kq v5 w' => ∃ (x5_1 : Int), v5 = .int .i64 x5_1 ∧ Aside0 (jigsawref02_Has.l0 kq l0 a1 x5_1 = some r) ∧ Aside0 (kq ≤ k) ∧ Drawn0 w w')
  case atStart => exact ⟨(0), (by first | rfl | (simp; done) | (simp [*]; done)), H', ⟨Nat.le_refl _⟩, by repeat (first | exact Drawn0.refl _ | apply Drawn0.step)⟩
  case round =>
    clear H'
    try clear p2
    obtain ⟨x5_1, rfl, HA, HK1, ⟨m1, rfl⟩⟩ := hrel
    cases gk with
    | zero => exact absurd HA.out (by simp [jigsawref02_Has.l0])
    | succ k1 =>
      have H := HA.out
      clear HA
      simp only [jigsawref02_Has.l0] at H
      by_cases c3 : x5_1 < (l0.length : Int)
      · rw [if_pos c3] at H
        have c3b0 : decide (x5_1 < (l0.length : Int)) = true := decide_eq_true c3
        clear c3
        by_cases c4 : 0 ≤ x5_1
        · rw [if_pos c4] at H
          have c4b0 : decide (0 ≤ x5_1) = true := decide_eq_true c4
          clear c4
          by_cases c5 : (rd l0 x5_1) = a1
          · rw [if_pos c5] at H
            have c5b0 : ((rd l0 x5_1) == a1) = true := beq_iff_eq.mpr c5
            have c5b1 : ((rd l0 x5_1) != a1) = false := bne_eq_false_iff_eq.mpr c5
            clear c5
            obtain rfl := Option.some.inj H
            have p111 : 0 ≤ (x5_1 : Int) := of_decide_eq_true (by first | (with_reducible assumption) | assumption)
            have q111 : x5_1 < (l0.length : Int) := of_decide_eq_true (by first | (with_reducible assumption) | assumption)
            obtain ⟨ad111, e111, hx111_0⟩ := Kd.at_int HR0.out x5_1 p111 q111
            cases e111
            replace p111 := eq_true p111
            replace q111 := eq_true q111
            go_wp2
            go_ret
            exact ⟨by first | rfl | (simp; done) | (simp [*]; done), by repeat (first | exact Drawn0.refl _ | apply Drawn0.step)⟩
          · rw [if_neg c5] at H
            have c5b0 : ((rd l0 x5_1) == a1) = false := beq_eq_false_iff_ne.mpr c5
            have c5b1 : ((rd l0 x5_1) != a1) = true := bne_iff_ne.mpr c5
            have H' := Aside0.mk H
            clear H
            have p111 : 0 ≤ (x5_1 : Int) := of_decide_eq_true (by first | (with_reducible assumption) | assumption)
            have q111 : x5_1 < (l0.length : Int) := of_decide_eq_true (by first | (with_reducible assumption) | assumption)
            obtain ⟨ad111, e111, hx111_0⟩ := Kd.at_int HR0.out x5_1 p111 q111
            cases e111
            replace p111 := eq_true p111
            replace q111 := eq_true q111
            go_wp2
            go_roundg k1
            case measure => have := HK1.out; omega
            case rel => exact ⟨(wrap64 (x5_1 + 1)), (by first | rfl | (simp; done) | (simp [*]; done)), H', ⟨by have := HK1.out; omega⟩, by repeat (first | exact Drawn0.refl _ | apply Drawn0.step)⟩
        · rw [if_neg c4] at H
          exact absurd H (by simp)
      · rw [if_neg c3] at H
        have c3b0 : decide (x5_1 < (l0.length : Int)) = false := decide_eq_false c3
        clear c3
        obtain rfl := Option.some.inj H
        go_wp2
        go_ret
        exact ⟨by first | rfl | (simp; done) | (simp [*]; done), by repeat (first | exact Drawn0.refl _ | apply Drawn0.step)⟩

end Go.Proofs.YtllnjembdmjljaaDoor.XOrderDraws
