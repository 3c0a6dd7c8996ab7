import Derived.Test.YtckfbfdnlpnllaaGreatDoorXAFxx0
import Derived.Test.YtckfbfdnlpnllaaGreatDoorXAFxx1
import Derived.Test.YtckfbfdnlpnllaaGreatDoorXAFxx4
import Derived.Test.YtckfbfdnlpnllaaGreatDoorXAFxx5
import Derived.Test.YtckfbfdnlpnllaaGreatDoorXAFxx7
import Derived.Test.YtckfbfdnlpnllaaGreatDoorSq
import Derived.Test.YtckfbfdnlpnllaaGreatDoorAd3
namespace Go.Proofs.YtckfbfdnlpnllaaGreatDoor.XAllDiffFixed
open Go.Shelf Go.Proofs.YtckfbfdnlpnllaaGreatDoor.Ad Go.RowKit Go.Shelf Go.Proofs.YtckfbfdnlpnllaaGreatDoor.XAllDiffFixed Go.Proofs.YtckfbfdnlpnllaaGreatDoorW.PrintWords Go.Proofs.YtckfbfdnlpnllaaGreatDoorW.PrintLast Go.Proofs.YtckfbfdnlpnllaaGreatDoorW.PrintMore
set_option linter.unusedVariables false
set_option linter.unusedSimpArgs false

/-! ### alldiff_Filter: function 11 -/
-- (the texts Ad ask for dom_Dom_Min.f)
/-- A domain's values: what 'List' says is what the iterator goes over, and no great ones are among them. -/
def valsF (k : Nat) (d : S57) : Option (List Int) :=
  (dom_Dom_List.f k d.f0 d.f1 d.f2 d.f3 d.f4).bind fun L => if eachF k d k d.f2 = some L ∧ L.all (fun x => decide (-2147483648 ≤ x ∧ x ≤ 2147483647)) = true then some L else none
def allVals (k : Nat) : List S57 → Option (List (List Int))
  | [] => some []
  | d :: ds => (valsF k d).bind fun L => (allVals k ds).bind fun Ls => some (L :: Ls)
def valAt (Ls : List (List Int)) (i : Int) : List Int := Ls.getD i.toNat []
theorem eachF_mono {k : Nat} {d : S57} : ∀ (m : Nat) (v : Int) (l : List Int), eachF k d m v = some l → eachF (k + 1) d (m + 1) v = some l
  | 0, _, _, h => by cases h
  | m + 1, v, l, h => by
    unfold eachF at h ⊢
    obtain ⟨p, h1, h2⟩ := Option.bind_eq_some_iff.1 h
    refine Option.bind_eq_some_iff.2 ⟨p, dom_Dom_Next.mono _ _ _ _ _ _ _ _ h1, ?_⟩
    by_cases hp : p.2 = true
    · rw [if_pos hp] at h2 ⊢
      obtain ⟨l', h3, h4⟩ := Option.map_eq_some_iff.1 h2
      exact Option.map_eq_some_iff.2 ⟨l', eachF_mono m _ _ h3, h4⟩
    · rw [if_neg hp] at h2 ⊢
      exact h2
theorem valsF_mono (k : Nat) (d : S57) : LeO (valsF k d) (valsF (k + 1) d) := fun r h => by
  unfold valsF at h ⊢
  obtain ⟨L, h1, h2⟩ := Option.bind_eq_some_iff.1 h
  refine Option.bind_eq_some_iff.2 ⟨L, dom_Dom_List.mono _ _ _ _ _ _ _ h1, ?_⟩
  by_cases c : eachF k d k d.f2 = some L ∧ L.all (fun x => decide (-2147483648 ≤ x ∧ x ≤ 2147483647)) = true
  · rw [if_pos c] at h2
    rw [if_pos ⟨eachF_mono _ _ _ c.1, c.2⟩]
    exact h2
  · rw [if_neg c] at h2
    cases h2
theorem allVals_mono (k : Nat) : ∀ (l : List S57), LeO (allVals k l) (allVals (k + 1) l)
  | [] => LeO.refl _
  | d :: ds => by
    unfold allVals
    exact LeO.bind (valsF_mono k d) fun L => LeO.bind (allVals_mono k ds) fun _ => LeO.refl _
theorem allVals_at {k : Nat} : ∀ {l : List S57} {Ls : List (List Int)}, allVals k l = some Ls → Ls.length = l.length ∧ ∀ n : Nat, n < l.length → valsF k (l.getD n z57) = some (Ls.getD n [])
  | [], Ls, h => by
    simp only [allVals, Option.some.injEq] at h
    subst h
    exact ⟨rfl, fun n hn => absurd hn (Nat.not_lt_zero _)⟩
  | d :: ds, Ls, h => by
    unfold allVals at h
    obtain ⟨L, h1, h2⟩ := Option.bind_eq_some_iff.1 h
    obtain ⟨Ls', h3, h4⟩ := Option.bind_eq_some_iff.1 h2
    obtain rfl := Option.some.inj h4
    obtain ⟨e, ih⟩ := allVals_at h3
    refine ⟨by simp [e], fun n hn => ?_⟩
    cases n with
    | zero => simpa using h1
    | succ n => simpa using ih n (by simpa using hn)
theorem i32_list : ∀ (L : List Int), L.all (fun x => decide (-2147483648 ≤ x ∧ x ≤ 2147483647)) = true → ∃ M : List I32, M.map (·.1) = L
  | [], _ => ⟨[], rfl⟩
  | x :: L, h => by
    simp only [List.all_cons, Bool.and_eq_true, decide_eq_true_eq] at h
    obtain ⟨M, hM⟩ := i32_list L h.2
    exact ⟨⟨x, h.1⟩ :: M, by rw [List.map_cons, hM]⟩
theorem valsF_spec {k : Nat} {d : S57} {L : List Int} (h : valsF k d = some L) : dom_Dom_List.f k d.f0 d.f1 d.f2 d.f3 d.f4 = some L ∧ eachF k d k d.f2 = some L ∧ ∀ x ∈ L, -2147483648 ≤ x ∧ x ≤ 2147483647 := by
  unfold valsF at h
  obtain ⟨L', h1, h2⟩ := Option.bind_eq_some_iff.1 h
  by_cases c : eachF k d k d.f2 = some L' ∧ L'.all (fun x => decide (-2147483648 ≤ x ∧ x ≤ 2147483647)) = true
  · rw [if_pos c] at h2
    obtain rfl := Option.some.inj h2
    exact ⟨h1, c.1, fun x hx => by simpa using List.all_eq_true.1 c.2 x hx⟩
  · rw [if_neg c] at h2
    cases h2
theorem vals_each {k : Nat} {l1 : List S57} {Ls : List (List Int)} (h : allVals k l1 = some Ls) : ∀ i : Int, 0 ≤ i → i < (l1.length : Int) → ∃ (m : Nat) (L : List I32), eachF k (rd_T57 l1 i) m (rd_T57 l1 i).f2 = some (L.map (·.1)) ∧ valAt Ls i = L.map (·.1) := by
  intro i h0 h1
  have h2 := (allVals_at h).2 i.toNat (by omega)
  obtain ⟨_, h3, h4⟩ := valsF_spec h2
  obtain ⟨M, hM⟩ := i32_list (Ls.getD i.toNat []) (List.all_eq_true.2 fun x hx => by simpa using h4 x hx)
  exact ⟨k, M, by rw [hM]; exact h3, hM.symm⟩
theorem vals_list {k : Nat} {l1 : List S57} {Ls : List (List Int)} (h : allVals k l1 = some Ls) {i : Int} (h0 : 0 ≤ i) (h1 : i < (l1.length : Int)) : dom_Dom_List.f k (rd_T57 l1 i).f0 (rd_T57 l1 i).f1 (rd_T57 l1 i).f2 (rd_T57 l1 i).f3 (rd_T57 l1 i).f4 = some (valAt Ls i) ∧ ∀ x ∈ valAt Ls i, -2147483648 ≤ x ∧ x ≤ 2147483647 := by
  have h2 := (allVals_at h).2 i.toNat (by omega)
  obtain ⟨h3, _, h4⟩ := valsF_spec h2
  exact ⟨h3, h4⟩
def alldiff_Filter.g (k : Nat) (l1 : List S57) : Option (List S57 × Bool) :=
  if 0 < l1.length ∧ l1.length ≤ 1048576 then
    (allVals k l1).bind fun Ls => if Ls.all (fun L => decide (L.length ≤ 1048576)) = true then
      (matchF (valAt Ls) (l1.length + 1) l1.length 0 (mt0 l1.length) 0).bind fun r => if r.2.2 = true then (filtL (valAt Ls) (l1.length + 1) l1.length 0 [] r.1 r.2.1).bind fun out => prop_Made.f k out else some ([], false)
      else none
  else none
theorem alldiff_Filter.mono_g (k : Nat) (l1 : List S57) : LeO (alldiff_Filter.g k l1) (alldiff_Filter.g (k + 1) l1) := by
  unfold alldiff_Filter.g
  refine LeO.ite (LeO.bind (allVals_mono k l1) fun Ls => LeO.ite (LeO.bind (LeO.refl _) fun r => LeO.ite (LeO.bind (LeO.refl _) fun out => prop_Made.mono _ _) (LeO.refl _)) (LeO.refl _)) (LeO.refl _)
theorem all_len {Ls : List (List Int)} {b : Nat} (h : Ls.all (fun L => decide (L.length ≤ b)) = true) (i : Int) : (valAt Ls i).length ≤ b := by
  unfold valAt
  rw [List.getD_eq_getElem?_getD]
  cases hx : Ls[i.toNat]? with
  | none => simp
  | some L => simpa using List.all_eq_true.1 h L (List.mem_of_getElem? hx)
def alldiff_Filter.f (k : Nat) (a0_0 : Int) (l0_1 : List Int) (l0_2 : List Int) (l0_3 : List Int) (l0_4 : List Int) (l0_5 : List Int) (a0_6 : Int) (l0_7 : List (List Int)) (l1 : List (S57)) : Option (List S57 × Bool) := (prop_Fits.f k a0_0 l0_1 l0_2 l0_3 l0_4 l0_5 a0_6 l0_7 l1 17 17).bind fun t428 => if t428 = true then alldiff_Filter.g k l1 else some ([], false)
theorem alldiff_Filter.mono : ∀ a0 a1 a2 a3 a4 a5 a6 a7 a8 k, LeO (alldiff_Filter.f k a0 a1 a2 a3 a4 a5 a6 a7 a8) (alldiff_Filter.f (k + 1) a0 a1 a2 a3 a4 a5 a6 a7 a8) := by
  intro a0 a1 a2 a3 a4 a5 a6 a7 a8 k
  unfold alldiff_Filter.f
  exact LeO.bind (prop_Fits.mono _ _ _ _ _ _ _ _ _ _ _ _) fun _ => LeO.ite (alldiff_Filter.mono_g k a8) (LeO.refl _)
set_option maxHeartbeats 16000000 in
set_option maxRecDepth 100000 in
theorem alldiff_Filter.calls (k : Nat) (a0_0 : Int) (A0_1 : Option Addr) (c0_1 : Nat) (l0_1 : List Int) (A0_2 : Option Addr) (c0_2 : Nat) (l0_2 : List Int) (A0_3 : Option Addr) (c0_3 : Nat) (l0_3 : List Int) (A0_4 : Option Addr) (c0_4 : Nat) (l0_4 : List Int) (A0_5 : Option Addr) (c0_5 : Nat) (l0_5 : List Int) (a0_6 : Int) (A0_7 : Option Addr) (c0_7 : Nat) (l0_7 : List (List Int)) (A1 : Option Addr) (c1 : Nat) (l1 : List (S57)) (r1 : List (S57)) (r2 : Bool) (w : World) (hr0_1 : Kd.C (Kd.int .i64) w A0_1 l0_1.length l0_1) (hc0_1 : l0_1.length ≤ c0_1) (hr0_2 : Kd.C (Kd.int .i64) w A0_2 l0_2.length l0_2) (hc0_2 : l0_2.length ≤ c0_2) (hr0_3 : Kd.C (Kd.int .i64) w A0_3 l0_3.length l0_3) (hc0_3 : l0_3.length ≤ c0_3) (hr0_4 : Kd.C (Kd.int .i64) w A0_4 l0_4.length l0_4) (hc0_4 : l0_4.length ≤ c0_4) (hr0_5 : Kd.C (Kd.int .i64) w A0_5 l0_5.length l0_5) (hc0_5 : l0_5.length ≤ c0_5) (hr0_7 : Kd.C (Kd.slice 3 (Kd.int .i64)) w A0_7 l0_7.length l0_7) (hc0_7 : l0_7.length ≤ c0_7) (hr1 : Kd.C k57 w A1 l1.length l1) (hc1 : l1.length ≤ c1) (hrtab : Kd.C (Kd.int .u8) w (some ⟨0, 0, none⟩) tabL.length tabL) (h : alldiff_Filter.f k a0_0 l0_1 l0_2 l0_3 l0_4 l0_5 a0_6 l0_7 l1 = some (r1, r2)) :
    Calls Tryz.prog 11 #[.agg #[.int .i64 a0_0, .slice A0_1 l0_1.length c0_1, .slice A0_2 l0_2.length c0_2, .slice A0_3 l0_3.length c0_3, .slice A0_4 l0_4.length c0_4, .slice A0_5 l0_5.length c0_5, .int .i64 a0_6, .slice A0_7 l0_7.length c0_7], .slice A1 l1.length c1] w fun e w' => ∃ v0_ : Value, e = .returned (.tuple #[v0_, .bool r2]) ∧ Kd.N k57 57 w' w.heap.size (fun k_ => (w.heap.size ≤ k_)) v0_ r1 ∧ Below w.heap.size w w' := by
  have hu32 := Tryz.underlying32
  have hu57 := Tryz.underlying57
  have HR0_1 := Aside0.mk hr0_1
  have HC0_1 := Aside0.mk hc0_1
  clear hr0_1 hc0_1
  have HR0_2 := Aside0.mk hr0_2
  have HC0_2 := Aside0.mk hc0_2
  clear hr0_2 hc0_2
  have HR0_3 := Aside0.mk hr0_3
  have HC0_3 := Aside0.mk hc0_3
  clear hr0_3 hc0_3
  have HR0_4 := Aside0.mk hr0_4
  have HC0_4 := Aside0.mk hc0_4
  clear hr0_4 hc0_4
  have HR0_5 := Aside0.mk hr0_5
  have HC0_5 := Aside0.mk hc0_5
  clear hr0_5 hc0_5
  have HR0_7 := Aside0.mk hr0_7
  have HC0_7 := Aside0.mk hc0_7
  clear hr0_7 hc0_7
  have HR1 := Aside0.mk hr1
  have HC1 := Aside0.mk hc1
  clear hr1 hc1
  have HRtab := Aside0.mk hrtab
  clear hrtab
  have HB := Aside0.mk (Below.refl w.heap.size w)
  have H : (prop_Fits.f k a0_0 l0_1 l0_2 l0_3 l0_4 l0_5 a0_6 l0_7 l1 17 17).bind (fun t428 => if t428 = true then alldiff_Filter.g k l1 else some ([], false)) = some (r1, r2) := h
  clear h
  replace H := Option.bind_eq_some_iff.mp H
  obtain ⟨t428, A30, H⟩ := H
  replace H : (if t428 = true then alldiff_Filter.g k l1 else some ([], false)) = some (r1, r2) := H
  have A3 := Aside0.mk A30
  clear A30
  by_cases c4 : t428 = true
  · subst c4
    rw [if_pos rfl] at H
    unfold alldiff_Filter.g at H
    by_cases cn : 0 < l1.length ∧ l1.length ≤ 1048576
    case neg => rw [if_neg cn] at H; cases H
    rw [if_pos cn] at H
    obtain ⟨Ls, hLs, H⟩ := Option.bind_eq_some_iff.1 H
    by_cases cl : Ls.all (fun L => decide (L.length ≤ 1048576)) = true
    case neg => rw [if_neg cl] at H; cases H
    rw [if_pos cl] at H
    obtain ⟨r, hm, H⟩ := Option.bind_eq_some_iff.1 H
    obtain ⟨s0, t0, b0⟩ := r
    have HLs := Aside0.mk hLs
    have HMt := Aside0.mk hm
    have HCn := Aside0.mk cn
    have HCl := Aside0.mk cl
    have H' := Aside0.mk H
    clear H hLs hm cn cl
    go_enter Tryz.func11, Tryz.ntmps11
    go_wp2_with (first | ((with_reducible refine gate_dst (N := 2) rfl ?_); refine box_event ?hg (N := 2) ?hd (cs := #[.int .i64 a0_0, .slice A0_1 l0_1.length c0_1, .slice A0_2 l0_2.length c0_2, .slice A0_3 l0_3.length c0_3, .slice A0_4 l0_4.length c0_4, .slice A0_5 l0_5.length c0_5, .int .i64 a0_6, .slice A0_7 l0_7.length c0_7]) (t := 32) ?hr ?_; (case hd => rfl); (case hg => rfl); (case hr => first | (go_simp; done) | (go_simp; rfl)); intro gb427 hg w5 hbox hb; have n0_ := Aside0.mk (below_step (by repeat (first | (with_reducible first | exact HB.out | apply below_alloc | apply pw_below_drewN | apply below_drew1) | exact HB.out)) hb); have n1_ := Aside0.mk (hbox); have n2_ := Aside0.mk ((by rw [hg]; exact (below_size (by repeat (first | (with_reducible first | exact HB.out | apply below_alloc | apply pw_below_drewN | apply below_drew1) | exact HB.out))) : w.heap.size ≤ gb427)); have n3_ := Aside0.mk ((by rw [hg]; exact (below_size (by repeat (first | (with_reducible first | exact HB.out | apply below_alloc | apply pw_below_drewN | apply below_drew1) | exact HB.out))) : w.heap.size ≤ gb427)); clear HB; have HB := n0_; have BK427 := n1_; have GW427 := n2_; have GE427 := n3_; clear n0_ n1_ n2_ n3_; clear hb hbox hg; have hcz6_0 : w5.cell? ⟨gb427, 0, none⟩ = some (.int .i64 a0_0) := (blk_cell BK427.out 0).trans rfl; have hcz6_1 : w5.cell? ⟨gb427, 1, none⟩ = some (.slice A0_1 l0_1.length c0_1) := (blk_cell BK427.out 1).trans rfl; have hcz6_2 : w5.cell? ⟨gb427, 2, none⟩ = some (.slice A0_2 l0_2.length c0_2) := (blk_cell BK427.out 2).trans rfl; have hcz6_3 : w5.cell? ⟨gb427, 3, none⟩ = some (.slice A0_3 l0_3.length c0_3) := (blk_cell BK427.out 3).trans rfl; have hcz6_4 : w5.cell? ⟨gb427, 4, none⟩ = some (.slice A0_4 l0_4.length c0_4) := (blk_cell BK427.out 4).trans rfl; have hcz6_5 : w5.cell? ⟨gb427, 5, none⟩ = some (.slice A0_5 l0_5.length c0_5) := (blk_cell BK427.out 5).trans rfl; have hcz6_6 : w5.cell? ⟨gb427, 6, none⟩ = some (.int .i64 a0_6) := (blk_cell BK427.out 6).trans rfl; have hcz6_7 : w5.cell? ⟨gb427, 7, none⟩ = some (.slice A0_7 l0_7.length c0_7) := (blk_cell BK427.out 7).trans rfl; have hfz6_0 := blk_frozen BK427.out 0; have hfz6_1 := blk_frozen BK427.out 1; have hfz6_2 := blk_frozen BK427.out 2; have hfz6_3 := blk_frozen BK427.out 3; have hfz6_4 := blk_frozen BK427.out 4; have hfz6_5 := blk_frozen BK427.out 5; have hfz6_6 := blk_frozen BK427.out 6; have hfz6_7 := blk_frozen BK427.out 7) | ((with_reducible refine gate_callee (f := 29) rfl ?_); refine goesL_ (some 16) rfl rfl Tryz.func29 (by kernel_rfl) rfl #[.agg #[.int .i64 a0_0, .slice A0_1 l0_1.length c0_1, .slice A0_2 l0_2.length c0_2, .slice A0_3 l0_3.length c0_3, .slice A0_4 l0_4.length c0_4, .slice A0_5 l0_5.length c0_5, .int .i64 a0_6, .slice A0_7 l0_7.length c0_7], .slice A1 l1.length c1, .int .i64 17, .int .i64 17] rfl (by (try simp only [List.map_toArray, List.map_cons, List.map_nil]); first | done | rfl | (simp only [List.length_drop, List.length_take]; rfl)) ?_; (with_reducible refine (prop_Fits.calls k a0_0 _ _ l0_1 _ _ l0_2 _ _ l0_3 _ _ l0_4 _ _ l0_5 a0_6 _ _ l0_7 _ _ l1 17 17 true _ ?side1 ?side2 ?side3 ?side4 ?side5 ?side6 ?side7 ?side8 ?side9 ?side10 ?side11 ?side12 ?side13 ?side14 A3.out).mono ?_); (case side1 => repeat (first | exact (Kd.C_below HR0_1.out HB.out) | (with_reducible refine Kd.C_alloc ?_ _) | (with_reducible refine Kd.C_drewN ?_ _) | (with_reducible refine Kd.C_drew ?_))); (case side2 => exact HC0_1.out); (case side3 => repeat (first | exact (Kd.C_below HR0_2.out HB.out) | (with_reducible refine Kd.C_alloc ?_ _) | (with_reducible refine Kd.C_drewN ?_ _) | (with_reducible refine Kd.C_drew ?_))); (case side4 => exact HC0_2.out); (case side5 => repeat (first | exact (Kd.C_below HR0_3.out HB.out) | (with_reducible refine Kd.C_alloc ?_ _) | (with_reducible refine Kd.C_drewN ?_ _) | (with_reducible refine Kd.C_drew ?_))); (case side6 => exact HC0_3.out); (case side7 => repeat (first | exact (Kd.C_below HR0_4.out HB.out) | (with_reducible refine Kd.C_alloc ?_ _) | (with_reducible refine Kd.C_drewN ?_ _) | (with_reducible refine Kd.C_drew ?_))); (case side8 => exact HC0_4.out); (case side9 => repeat (first | exact (Kd.C_below HR0_5.out HB.out) | (with_reducible refine Kd.C_alloc ?_ _) | (with_reducible refine Kd.C_drewN ?_ _) | (with_reducible refine Kd.C_drew ?_))); (case side10 => exact HC0_5.out); (case side11 => repeat (first | exact (Kd.C_below HR0_7.out HB.out) | (with_reducible refine Kd.C_alloc ?_ _) | (with_reducible refine Kd.C_drewN ?_ _) | (with_reducible refine Kd.C_drew ?_))); (case side12 => exact HC0_7.out); (case side13 => repeat (first | exact (Kd.C_below HR1.out HB.out) | (with_reducible refine Kd.C_alloc ?_ _) | (with_reducible refine Kd.C_drewN ?_ _) | (with_reducible refine Kd.C_drew ?_))); (case side14 => exact HC1.out); rintro e w7 ⟨rfl, hb⟩; refine ⟨_, rfl, ?_⟩; have n0_ := Aside0.mk (blk_below (g := gb427) (o := .cells #[.int .i64 a0_0, .slice A0_1 l0_1.length c0_1, .slice A0_2 l0_2.length c0_2, .slice A0_3 l0_3.length c0_3, .slice A0_4 l0_4.length c0_4, .slice A0_5 l0_5.length c0_5, .int .i64 a0_6, .slice A0_7 l0_7.length c0_7] 32 (0, 0)) (by (with_reducible repeat (first | refine blk_drewN ?_ _ | refine blk_drew ?_ | refine blk_alloc ?_ _)); exact BK427.out) hb); have n1_ := Aside0.mk (below_step (by repeat (first | (with_reducible first | exact HB.out | apply below_alloc | apply pw_below_drewN | apply below_drew1 | refine below_set ?_ GE427.out) | exact HB.out)) hb); clear BK427; clear HB; have BK427 := n0_; have HB := n1_; clear n0_ n1_; (try clear hb); (try clear hb2); (try clear hk); (try clear hi)))
    refine (match.calls k (l1.length + 1) (valAt Ls) l1 A1 c1 (vals_each HLs.out) (s0, t0, b0) _ HMt.out (Kd.C_below HR1.out HB.out) HC1.out ⟨HCn.out.1, Nat.le_trans HCn.out.2 (by omega)⟩ (Nat.lt_succ_self _)).mono ?_
    rintro e wm ⟨hbm, hpost⟩
    have hsz7 := HB.out.size
    have HB' := Aside0.mk (below_step HB.out hbm)
    clear HB hbm
    have HB := HB'
    clear HB'
    cases b0 with
    | false =>
      have hr := H'.out
      simp only [Bool.false_eq_true, if_false, Option.some.injEq, Prod.mk.injEq] at hr
      obtain ⟨rfl, rfl⟩ := hr
      rcases hpost with ⟨h_, _⟩ | ⟨_, rfl⟩
      · cases h_
      go_wp2
      go_ret2
      exact ⟨_, rfl, Kd.N_nil _ _ _ _ _, HB.out⟩
    | true =>
    rcases hpost with ⟨_, c, ec1, ec2, ec3, hT, rfl, hM⟩ | ⟨h_, _⟩
    case inr => cases h_
    have hr := H'.out
    simp only [if_true] at hr
    obtain ⟨outF, hF, hMade⟩ := Option.bind_eq_some_iff.1 hr
    have HF := Aside0.mk hF
    have HMade := Aside0.mk hMade
    have HM := Aside0.mk hM
    have HT := Aside0.mk (fun k_ e_ => Nat.le_trans hsz7 (hT k_ e_))
    clear hsz7
    clear hr hF hMade hM hT H'
    obtain ⟨G, bo, bv, bm, Ad, cd, cv, ld⟩ := c
    simp only at ec1 ec2 ec3
    subst ec1
    subst ec2
    subst ec3
    have HG0 := Aside0.mk (GoodAt.all (Nat.lt_succ_self _) ld.length 0 0 (mt0 ld.length) s0 t0 (Int.le_refl _) (by omega) (GoodAt.start (valAt Ls) ld.length) HMt.out)
    go_wp2_with (fail)
    go_loopg [8, 27] (ld.length + 1) (fun kq v8 v27 W => ∃ (m : Nat) (i t : Int) (s : Mt) (out : List (List Int)), v27 = .int .i64 i ∧ kq = m + 1 ∧ Aside0 (0 ≤ i ∧ i + m = ld.length ∧ (out.length : Int) = i) ∧ Aside0 (filtL (valAt Ls) (ld.length + 1) m i out s t = some outF) ∧ Aside0 (GoodAt (valAt Ls) ld.length t ld.length s) ∧ Aside0 (MAt (MC.mk G bo bv bm Ad cd cv ld) wm.heap.size t s W) ∧ Aside0 (Kd.N (Kd.slice 3 (Kd.int .i64)) 30 W w.heap.size (fun k_ => wm.heap.size ≤ k_) v8 out) ∧ Aside0 (Below w.heap.size w W))
    case atStart => exact ⟨ld.length, 0, t0, s0, [], rfl, rfl, ⟨Int.le_refl _, by omega, rfl⟩, HF, HG0, HM, ⟨Kd.N_nil _ _ _ _ _⟩, HB⟩
    case round =>
      clear HM HB HF HG0
      obtain ⟨m, i, t, s, out, rfl, rfl, HI, HF, HG, HM, HO_8, HB⟩ := hrel
      cases m with
      | zero =>
        have c8b0 : decide (i < (ld.length : Int)) = false := decide_eq_false (by have := HI.out; omega)
        have hr := HF.out
        simp only [filtL, Option.some.injEq] at hr
        subst hr
        clear HF
        obtain ⟨Ao33, co33, eo33⟩ := Kd.N_slice HO_8.out
        subst eo33
        go_wp2_with ((with_reducible refine gate_callee (f := 32) rfl ?_); refine goesL_ (some 54) rfl rfl Tryz.func32 (by kernel_rfl) rfl #[.slice Ao33 out.length co33] rfl (by (try simp only [List.map_toArray, List.map_cons, List.map_nil]); first | done | rfl) ?_; (with_reducible refine (prop_Made.calls k _ _ out r1 r2 _ ?side1 ?side2 ?side3 HMade.out).mono ?_); (case side1 => exact (Kd.N_reads' HO_8.out).2.2); (case side2 => exact (Kd.N_reads' HO_8.out).2.1); (case side3 => exact Kd.C_below HRtab.out HB.out); rintro e w34 ⟨v430, rfl, ho0, hb⟩; refine ⟨_, rfl, ?_⟩; have n1_ := Aside0.mk (Kd.N_lower (Kd.N_mono (ok' := fun k_ => w.heap.size ≤ k_) ho0 (fun k_ hk_ => Nat.le_trans HB.out.size hk_)) HB.out.size); have n3_ := Aside0.mk (below_step HB.out hb); clear HB ho0 hb; have HB := n3_; clear n3_)
        go_ret2
        exact ⟨_, rfl, n1_.out, HB.out⟩
      | succ m =>
        have hf := HF.out
        simp only [filtL] at hf
        have HI01 := Aside0.mk (show 0 ≤ i ∧ i < (ld.length : Int) by have := HI.out; omega)
        cases hc : canL (valAt Ls) (ld.length + 1) i (valAt Ls i) [] s t with
        | none => rw [hc] at hf; cases hf
        | some cr =>
        obtain ⟨lF, sF, tF⟩ := cr
        rw [hc] at hf
        have HCan := Aside0.mk hc
        have HNext := Aside0.mk (show filtL (valAt Ls) (ld.length + 1) m (i + 1) (out ++ [lF]) sF tF = some outF from hf)
        clear hf hc HF
        have c8b0 : decide (i < (ld.length : Int)) = true := decide_eq_true HI01.out.2
        have p433 : 0 ≤ (i : Int) := HI01.out.1
        have q433 : i < (ld.length : Int) := HI01.out.2
        obtain ⟨ad433, A433_1, c433_1, e433, hx433_0, hx433_1, hx433_2, hx433_3, hx433_4, hl433_1, hi433_1⟩ := at_T57 HR1.out i p433 q433
        cases e433
        replace hx433_0 := (HB.out.cell (World.block_lt_of_cell? w _ hx433_0)).trans hx433_0
        replace hx433_1 := (HB.out.cell (World.block_lt_of_cell? w _ hx433_1)).trans hx433_1
        replace hx433_2 := (HB.out.cell (World.block_lt_of_cell? w _ hx433_2)).trans hx433_2
        replace hx433_3 := (HB.out.cell (World.block_lt_of_cell? w _ hx433_3)).trans hx433_3
        replace hx433_4 := (HB.out.cell (World.block_lt_of_cell? w _ hx433_4)).trans hx433_4
        have HR433_1 := Aside0.mk hi433_1
        have HC433_1 := Aside0.mk hl433_1
        clear hi433_1 hl433_1
        replace p433 := eq_true p433
        replace q433 := eq_true q433
        go_wp2_with (first | ((with_reducible refine gate_dst (N := 10) rfl ?_); refine box_event rfl (N := 10) rfl (cs := #[.int .i64 0, .slice none 0 0, .int .i64 0, .int .i64 0, .int .i64 0]) (t := 57) (by first | (go_simp; done) | (go_simp; rfl)) ?_; intro gb hg w14 hbox hb; have GE := Aside0.mk (Nat.le_of_eq hg.symm : wr.heap.size ≤ gb); have BK := Aside0.mk hbox; have HB14 := Aside0.mk hb; clear hb hbox hg; have hcz0 : w14.cell? ⟨gb, 0, none⟩ = some (.int .i64 0) := (blk_cell BK.out 0).trans rfl; have hcz1 : w14.cell? ⟨gb, 1, none⟩ = some (.slice none 0 0) := (blk_cell BK.out 1).trans rfl; have hcz2 : w14.cell? ⟨gb, 2, none⟩ = some (.int .i64 0) := (blk_cell BK.out 2).trans rfl; have hcz3 : w14.cell? ⟨gb, 3, none⟩ = some (.int .i64 0) := (blk_cell BK.out 3).trans rfl; have hcz4 : w14.cell? ⟨gb, 4, none⟩ = some (.int .i64 0) := (blk_cell BK.out 4).trans rfl; have hfz0 := blk_frozen BK.out 0; have hfz1 := blk_frozen BK.out 1; have hfz2 := blk_frozen BK.out 2; have hfz3 := blk_frozen BK.out 3; have hfz4 := blk_frozen BK.out 4) | ((with_reducible refine gate_callee (f := 21) rfl ?_); refine goesL_ (some 33) rfl rfl Tryz.func21 (by kernel_rfl) rfl #[.agg #[.int .i64 ((rd_T57 ld i).f0), .slice A433_1 ((rd_T57 ld i).f1).length c433_1, .int .i64 ((rd_T57 ld i).f2), .int .i64 ((rd_T57 ld i).f3), .int .i64 ((rd_T57 ld i).f4)]] rfl (by (try simp only [List.map_toArray, List.map_cons, List.map_nil]); first | done | rfl) ?_; (with_reducible refine (dom_Dom_List.calls k ((rd_T57 ld i).f0) _ _ ((rd_T57 ld i).f1) ((rd_T57 ld i).f2) ((rd_T57 ld i).f3) ((rd_T57 ld i).f4) (valAt Ls i) _ ?side1 ?side2 ?side3 (vals_list HLs.out HI01.out.1 HI01.out.2).1).mono ?_); (case side1 => exact Kd.C_below HR433_1.out (below_step HB.out (by repeat (first | exact HB14.out | refine below_set ?_ GE.out)))); (case side2 => exact HC433_1.out); (case side3 => exact Kd.C_below HRtab.out (below_step HB.out (by repeat (first | exact HB14.out | refine below_set ?_ GE.out)))); rintro e w21 ⟨v439, rfl, ho0, hb⟩; refine ⟨_, rfl, ?_⟩; have HBn := Aside0.mk (below_step (by repeat (first | exact HB14.out | refine below_set ?_ GE.out)) hb : Below wr.heap.size wr w21); have hsz := Nat.le_trans HM.out.size (below_size (by repeat (first | exact HB14.out | refine below_set ?_ GE.out)) : wr.heap.size ≤ _); have n0_ := Aside0.mk (Kd.N_elder' HO_8.out (fun k_ e_ => Nat.le_trans (below_size (by repeat (first | exact HB14.out | refine below_set ?_ GE.out))) (Kd.R_base ho0 k_ e_)) HBn.out); have n1_ := Aside0.mk (Kd.R_lower (Kd.R_newM (M := fun k_ => wm.heap.size ≤ k_) ho0 (below_size (by repeat (first | exact HB14.out | refine below_set ?_ GE.out))) (fun k_ h_ => Nat.le_trans HM.out.size h_)) (Nat.le_trans HB.out.size (below_size (by repeat (first | exact HB14.out | refine below_set ?_ GE.out))))); clear ho0 hb hsz; obtain ⟨Ao22, co22, eo22⟩ := Kd.R_slice n1_.out; subst eo22))
        have HM' := Aside0.mk (HM.out.below HBn.out)
        have HB' := Aside0.mk (below_step HB.out HBn.out)
        clear HM HB HO_8 hx433_0 hx433_1 hx433_2 hx433_3 hx433_4 hcz0 hcz1 hcz2 hcz3 hcz4 hfz0 hfz1 hfz2 hfz3 hfz4 HBn HB14 BK GE p433 q433 c8b0
        have HLen := Aside0.mk (all_len HCl.out i)
        go_loopg [11, 35] ((valAt Ls i).length + 1) (fun kq v11 v35 W => ∃ (l : List Int) (j : Nat) (t' : Int) (s' : Mt), v35 = .int .i64 j ∧ kq = (valAt Ls i).length - j + 1 ∧ Aside0 (j ≤ (valAt Ls i).length ∧ l.length ≤ j) ∧ Aside0 (canL (valAt Ls) (ld.length + 1) i ((valAt Ls i).drop j) l s' t' = some (lF, sF, tF)) ∧ Aside0 (GoodAt (valAt Ls) ld.length t' ld.length s') ∧ Aside0 (MAt (MC.mk G bo bv bm (some ad433) cd cv ld) wm.heap.size t' s' W) ∧ Aside0 (Kd.N (Kd.slice 3 (Kd.int .i64)) 30 W w.heap.size (fun k_ => (wm.heap.size ≤ k_ ∧ some k_ ≠ (.slice Ao22 (valAt Ls i).length co22 : Value).ownBlock) ∧ some k_ ≠ (v11 : Value).ownBlock) u8 out) ∧ Aside0 (Kd.R (Kd.int .i64) 3 W w.heap.size (fun k_ => wm.heap.size ≤ k_ ∧ some k_ ≠ (.slice Ao22 (valAt Ls i).length co22 : Value).ownBlock) v11 l) ∧ Aside0 (Kd.R (Kd.int .i64) 3 W w.heap.size (fun k_ => wm.heap.size ≤ k_ ∧ some k_ ≠ (v11 : Value).ownBlock) (.slice Ao22 (valAt Ls i).length co22) (valAt Ls i)) ∧ Aside0 (Below w.heap.size w W))
        case atStart => exact ⟨[], 0, t, s, rfl, rfl, ⟨Nat.zero_le _, Nat.le_refl _⟩, HCan, HG, HM', ⟨Kd.N_mono n0_.out (fun k_ hk => ⟨hk, by simp [Value.ownBlock]⟩)⟩, ⟨Kd.R_nil _ _ _ _ _⟩, ⟨Kd.R_mono n1_.out (fun k_ hk => ⟨hk.1, by simp [Value.ownBlock]⟩)⟩, HB'⟩
        case round =>
          clear HM' HB' HCan HG n0_ n1_
          obtain ⟨l, j, t', s', rfl, rfl, HJ, HCan, HG, HM, HO_8, HO_11, HO_33, HB⟩ := hrel
          by_cases cj : j < (valAt Ls i).length
          · have c23b0 : decide ((j : Int) < ((valAt Ls i).length : Int)) = true := decide_eq_true (by omega)
            have p441 : (0 : Int) ≤ (j : Int) := Int.natCast_nonneg _
            have q441 : (j : Int) < ((valAt Ls i).length : Int) := by omega
            obtain ⟨ad441, e441, hx441_0⟩ := Kd.at_int (Kd.R_reads' HO_33.out).2.2 j p441 q441
            cases e441
            simp only [Int.toNat_natCast] at hx441_0
            have hv : (valAt Ls i).drop j = rd (valAt Ls i) j :: (valAt Ls i).drop (j + 1) := by
              rw [List.drop_eq_getElem_cons cj]
              congr 1
              unfold rd
              simp [List.getD_eq_getElem?_getD, List.getElem?_eq_getElem cj]
            have hmem : rd (valAt Ls i) j ∈ valAt Ls i := by
              have := List.mem_of_mem_drop (l := valAt Ls i) (i := j) (a := rd (valAt Ls i) j) (by rw [hv]; exact List.mem_cons_self ..)
              exact this
            have hcan := HCan.out
            rw [hv] at hcan
            simp only [canL] at hcan
            have HMem := Aside0.mk hmem
            clear hv hmem HCan
            replace p441 := eq_true p441
            replace q441 := eq_true q441
            cases hcf : canF (valAt Ls) (ld.length + 1) i (rd (valAt Ls i) j) s' t' with
            | none => rw [hcf] at hcan; cases hcan
            | some cr =>
            obtain ⟨s2, t2, b⟩ := cr
            rw [hcf] at hcan
            have HCf := Aside0.mk hcf
            have HCan := Aside0.mk hcan
            clear hcf hcan
            have HG2 := Aside0.mk (GoodAt.can (Nat.lt_succ_self _) HI01.out.1 HI01.out.2 HMem.out HG.out HCf.out)
            have HI32 := Aside0.mk (vals_list HLs.out HI01.out.1 HI01.out.2).2
            go_wp2_with (fail)
            refine (can.calls k (ld.length + 1) (MC.mk G bo bv bm (some ad433) cd cv ld) (valAt Ls) (vals_each HLs.out) t' i (rd (valAt Ls i) j) s' (s2, t2, b) wr HCf.out HI01.out.1 HI01.out.2 (HI32.out _ HMem.out) (HI32.out _ (HG.out.val HI01.out.1 HI01.out.2)) (HG.out.less _) (Nat.lt_succ_self _) (HM.out.more HM.out.size (Nat.le_refl _))).mono ?_
            rintro e w31 ⟨rfl, hm, hk⟩
            have hfar : ∀ k_, wm.heap.size ≤ k_ → k_ < wr.heap.size → w31.heap[k_]? = wr.heap[k_]? := fun k_ h1 h2 => hk.block k_ h2 (fun e => absurd (HM.out.T_lt e) (Nat.not_lt.2 h1))
            have n0_ := Aside0.mk (hm.lessT HM.out (hk.mono HM.out.size))
            have n1_ := Aside0.mk (Kd.N_step HO_8.out (fun k_ h1 h2 => hfar k_ h1.1.1 h2))
            have n2_ := Aside0.mk (Kd.R_step HO_11.out (fun k_ h1 h2 => hfar k_ h1.1 h2))
            have n3_ := Aside0.mk (Kd.R_step HO_33.out (fun k_ h1 h2 => hfar k_ h1.1 h2))
            have n4_ := Aside0.mk (below_keepL HB.out hk HB.out.size HT.out)
            clear HM HO_8 HO_11 HO_33 HB hm hk hfar HG
            have HM := n0_
            have HO_8 := n1_
            have HO_11 := n2_
            have HO_33 := n3_
            have HB := n4_
            clear n0_ n1_ n2_ n3_ n4_ hx441_0
            have hj64 : wrap64 ((j : Int) + 1) = ((j + 1 : Nat) : Int) := by have := HLen.out; unfold wrap64; omega
            have HJ64 := Aside0.mk hj64
            clear hj64
            cases b with
            | false =>
              go_wp2
              go_roundg ((valAt Ls i).length - (j + 1) + 1)
              case measure => omega
              case rel => exact ⟨l, j + 1, t2, s2, by rw [HJ64.out], rfl, ⟨by omega, by have := HJ.out; omega⟩, HCan, HG2, HM, HO_8, HO_11, HO_33, HB⟩
            | true =>
              go_wp2_with ((with_reducible refine gate_builtin (b := .append) (xs := #[.tmp 43, .tmp 45]) rfl ?_); at_builtin; refine Kd.R_append (Kd.int .i64) (w0 := w) w.heap.size rfl (.tmp 43) (.tmp 45) 30 3 (.int .i64 0) 8 rfl Tryz.underlying30 info3 rfl (by decide) (by omega) u11 l (rd (valAt Ls i) j) [.int .i64 (rd (valAt Ls i) j)] (fun k_ => wm.heap.size ≤ k_ ∧ some k_ ≠ (.slice (some ad441) (valAt Ls i).length co22 : Value).ownBlock) (fun _ => False) rfl rfl ?aP (fun _ hk => hk.elim) ?aF ?aO ?aB ?aS ?aL ?_; (case aP => exact rfl); (case aB => exact HB.out); (case aF => exact (fun k_ hk => ⟨Nat.le_trans HM.out.size hk, Kd.fresh' (Kd.R_lt HO_33.out) k_ hk⟩)); (case aO => exact HO_11.out); (case aS => exact HB.out.size); (case aL => have := HLen.out; have := HJ.out; omega); intro v443 w28 ho hb hg hat; have n0_ := Aside0.mk (HM.out.grown hg (fun k_ e_ => ((HO_11.out).1 k_ e_).1)); have n1_ := Aside0.mk (Kd.N_afterv (ok := (fun k_ => wm.heap.size ≤ k_ ∧ some k_ ≠ (.slice (some ad441) (valAt Ls i).length co22 : Value).ownBlock)) HO_8.out hg hat); have n3_ := Aside0.mk (Kd.R_after (ok := (fun k_ => wm.heap.size ≤ k_)) HO_33.out hg hat); have n2_ := Aside0.mk ho; have n4_ := Aside0.mk hb; clear HM HO_8 HO_11 HO_33 HB ho hb hg hat; have HM := n0_; have HO_8 := n1_; have HO_11 := n2_; have HO_33 := n3_; have HB := n4_; clear n0_ n1_ n2_ n3_ n4_)
              go_roundg ((valAt Ls i).length - (j + 1) + 1)
              case measure => omega
              case rel => exact ⟨l ++ [rd (valAt Ls i) j], j + 1, t2, s2, by rw [HJ64.out], rfl, ⟨by omega, by have := HJ.out; rw [List.length_append]; simp; omega⟩, HCan, HG2, HM, HO_8, HO_11, HO_33, HB⟩
          · have c23b0 : decide ((j : Int) < ((valAt Ls i).length : Int)) = false := decide_eq_false (by omega)
            have hcan := HCan.out
            rw [List.drop_eq_nil_of_le (by omega)] at hcan
            simp only [canL, Option.some.injEq, Prod.mk.injEq] at hcan
            obtain ⟨rfl, rfl, rfl⟩ := hcan
            clear HCan
            obtain ⟨Ao31, co31, eo31⟩ := Kd.R_slice HO_11.out
            subst eo31
            have hi64 : wrap64 (i + 1) = i + 1 := by have := HI01.out; have := HCn.out; unfold wrap64; omega
            have HI64 := Aside0.mk hi64
            clear hi64
            go_wp2_with ((with_reducible refine gate_builtin (b := .append) (xs := #[.tmp 48, .tmp 50]) rfl ?_); at_builtin; refine Kd.N_append (Kd.slice 3 (Kd.int .i64)) (w0 := w) w.heap.size rfl (.tmp 48) (.tmp 50) 27 30 (.slice none 0 0) 24 rfl Tryz.underlying27 info30 rfl (by decide) (by omega) u8 out l [.slice Ao31 l.length co31] (fun k_ => wm.heap.size ≤ k_) (fun k_ => wm.heap.size ≤ k_ ∧ some k_ ≠ (u8 : Value).ownBlock) rfl rfl ?aP (fun _ hk => hk) ?aF ?aO ?aB ?aS ?aL ?_; (case aP => exact (Kd.FK_slice_mk (Kd.R_reads' HO_11.out).2.1 (Kd.R_F (Kd.R_mono (Kd.R_apart' HO_11.out (Kd.N_typed HO_8.out) (by decide)) (fun k_ hk => ⟨hk.1.1, hk.2⟩))))); (case aB => exact HB.out); (case aF => exact (fun k_ hk => Nat.le_trans HM.out.size hk)); (case aO => exact Kd.N_mono HO_8.out (fun _ hk => hk.1.1)); (case aS => exact HB.out.size); (case aL => have := HI.out; have := HCn.out; omega); intro v446 w30 ho hb hg hat; have n0_ := Aside0.mk (HM.out.grown hg (fun k_ e_ => ((HO_8.out).1 k_ e_).1.1)); have n1_ := Aside0.mk ho; have n4_ := Aside0.mk hb; clear HM HO_8 HO_11 HO_33 HB ho hb hg hat; have HM := n0_; have HO_8 := n1_; have HB := n4_; clear n0_ n1_ n4_)
            go_roundg (m + 1)
            case measure => omega
            case rel => exact ⟨m, i + 1, _, _, out ++ [l], by rw [HI64.out], rfl, ⟨by have := HI.out; rw [List.length_append]; simp; omega⟩, HNext, HG, HM, HO_8, HB⟩
  · replace c4 := Bool.eq_false_iff.mpr c4
    subst c4
    rw [if_neg (show ¬ (false = true) by decide)] at H
    simp only [Option.some.injEq, Prod.mk.injEq] at H
    obtain ⟨rfl, rfl⟩ := H
    go_enter Tryz.func11, Tryz.ntmps11
    go_wp2_with (first | ((with_reducible refine gate_dst (N := 2) rfl ?_); refine box_event ?hg (N := 2) ?hd (cs := #[.int .i64 a0_0, .slice A0_1 l0_1.length c0_1, .slice A0_2 l0_2.length c0_2, .slice A0_3 l0_3.length c0_3, .slice A0_4 l0_4.length c0_4, .slice A0_5 l0_5.length c0_5, .int .i64 a0_6, .slice A0_7 l0_7.length c0_7]) (t := 32) ?hr ?_; (case hd => rfl); (case hg => rfl); (case hr => first | (go_simp; done) | (go_simp; rfl)); intro gb427 hg w35 hbox hb; have n0_ := Aside0.mk (below_step (by repeat (first | (with_reducible first | exact HB.out | apply below_alloc | apply pw_below_drewN | apply below_drew1) | exact HB.out)) hb); have n1_ := Aside0.mk (hbox); have n2_ := Aside0.mk ((by rw [hg]; exact (below_size (by repeat (first | (with_reducible first | exact HB.out | apply below_alloc | apply pw_below_drewN | apply below_drew1) | exact HB.out))) : w.heap.size ≤ gb427)); have n3_ := Aside0.mk ((by rw [hg]; exact (below_size (by repeat (first | (with_reducible first | exact HB.out | apply below_alloc | apply pw_below_drewN | apply below_drew1) | exact HB.out))) : w.heap.size ≤ gb427)); clear HB; have HB := n0_; have BK427 := n1_; have GW427 := n2_; have GE427 := n3_; clear n0_ n1_ n2_ n3_; clear hb hbox hg; have hcz36_0 : w35.cell? ⟨gb427, 0, none⟩ = some (.int .i64 a0_0) := (blk_cell BK427.out 0).trans rfl; have hcz36_1 : w35.cell? ⟨gb427, 1, none⟩ = some (.slice A0_1 l0_1.length c0_1) := (blk_cell BK427.out 1).trans rfl; have hcz36_2 : w35.cell? ⟨gb427, 2, none⟩ = some (.slice A0_2 l0_2.length c0_2) := (blk_cell BK427.out 2).trans rfl; have hcz36_3 : w35.cell? ⟨gb427, 3, none⟩ = some (.slice A0_3 l0_3.length c0_3) := (blk_cell BK427.out 3).trans rfl; have hcz36_4 : w35.cell? ⟨gb427, 4, none⟩ = some (.slice A0_4 l0_4.length c0_4) := (blk_cell BK427.out 4).trans rfl; have hcz36_5 : w35.cell? ⟨gb427, 5, none⟩ = some (.slice A0_5 l0_5.length c0_5) := (blk_cell BK427.out 5).trans rfl; have hcz36_6 : w35.cell? ⟨gb427, 6, none⟩ = some (.int .i64 a0_6) := (blk_cell BK427.out 6).trans rfl; have hcz36_7 : w35.cell? ⟨gb427, 7, none⟩ = some (.slice A0_7 l0_7.length c0_7) := (blk_cell BK427.out 7).trans rfl; have hfz36_0 := blk_frozen BK427.out 0; have hfz36_1 := blk_frozen BK427.out 1; have hfz36_2 := blk_frozen BK427.out 2; have hfz36_3 := blk_frozen BK427.out 3; have hfz36_4 := blk_frozen BK427.out 4; have hfz36_5 := blk_frozen BK427.out 5; have hfz36_6 := blk_frozen BK427.out 6; have hfz36_7 := blk_frozen BK427.out 7) | ((with_reducible refine gate_callee (f := 29) rfl ?_); refine goesL_ (some 16) rfl rfl Tryz.func29 (by kernel_rfl) rfl #[.agg #[.int .i64 a0_0, .slice A0_1 l0_1.length c0_1, .slice A0_2 l0_2.length c0_2, .slice A0_3 l0_3.length c0_3, .slice A0_4 l0_4.length c0_4, .slice A0_5 l0_5.length c0_5, .int .i64 a0_6, .slice A0_7 l0_7.length c0_7], .slice A1 l1.length c1, .int .i64 17, .int .i64 17] rfl (by (try simp only [List.map_toArray, List.map_cons, List.map_nil]); first | done | rfl | (simp only [List.length_drop, List.length_take]; rfl)) ?_; (with_reducible refine (prop_Fits.calls k a0_0 _ _ l0_1 _ _ l0_2 _ _ l0_3 _ _ l0_4 _ _ l0_5 a0_6 _ _ l0_7 _ _ l1 17 17 false _ ?side1 ?side2 ?side3 ?side4 ?side5 ?side6 ?side7 ?side8 ?side9 ?side10 ?side11 ?side12 ?side13 ?side14 A3.out).mono ?_); (case side1 => repeat (first | exact (Kd.C_below HR0_1.out HB.out) | (with_reducible refine Kd.C_alloc ?_ _) | (with_reducible refine Kd.C_drewN ?_ _) | (with_reducible refine Kd.C_drew ?_))); (case side2 => exact HC0_1.out); (case side3 => repeat (first | exact (Kd.C_below HR0_2.out HB.out) | (with_reducible refine Kd.C_alloc ?_ _) | (with_reducible refine Kd.C_drewN ?_ _) | (with_reducible refine Kd.C_drew ?_))); (case side4 => exact HC0_2.out); (case side5 => repeat (first | exact (Kd.C_below HR0_3.out HB.out) | (with_reducible refine Kd.C_alloc ?_ _) | (with_reducible refine Kd.C_drewN ?_ _) | (with_reducible refine Kd.C_drew ?_))); (case side6 => exact HC0_3.out); (case side7 => repeat (first | exact (Kd.C_below HR0_4.out HB.out) | (with_reducible refine Kd.C_alloc ?_ _) | (with_reducible refine Kd.C_drewN ?_ _) | (with_reducible refine Kd.C_drew ?_))); (case side8 => exact HC0_4.out); (case side9 => repeat (first | exact (Kd.C_below HR0_5.out HB.out) | (with_reducible refine Kd.C_alloc ?_ _) | (with_reducible refine Kd.C_drewN ?_ _) | (with_reducible refine Kd.C_drew ?_))); (case side10 => exact HC0_5.out); (case side11 => repeat (first | exact (Kd.C_below HR0_7.out HB.out) | (with_reducible refine Kd.C_alloc ?_ _) | (with_reducible refine Kd.C_drewN ?_ _) | (with_reducible refine Kd.C_drew ?_))); (case side12 => exact HC0_7.out); (case side13 => repeat (first | exact (Kd.C_below HR1.out HB.out) | (with_reducible refine Kd.C_alloc ?_ _) | (with_reducible refine Kd.C_drewN ?_ _) | (with_reducible refine Kd.C_drew ?_))); (case side14 => exact HC1.out); rintro e w37 ⟨rfl, hb⟩; refine ⟨_, rfl, ?_⟩; have n0_ := Aside0.mk (blk_below (g := gb427) (o := .cells #[.int .i64 a0_0, .slice A0_1 l0_1.length c0_1, .slice A0_2 l0_2.length c0_2, .slice A0_3 l0_3.length c0_3, .slice A0_4 l0_4.length c0_4, .slice A0_5 l0_5.length c0_5, .int .i64 a0_6, .slice A0_7 l0_7.length c0_7] 32 (0, 0)) (by (with_reducible repeat (first | refine blk_drewN ?_ _ | refine blk_drew ?_ | refine blk_alloc ?_ _)); exact BK427.out) hb); have n1_ := Aside0.mk (below_step (by repeat (first | (with_reducible first | exact HB.out | apply below_alloc | apply pw_below_drewN | apply below_drew1 | refine below_set ?_ GE427.out) | exact HB.out)) hb); clear BK427; clear HB; have BK427 := n0_; have HB := n1_; clear n0_ n1_; (try clear hb); (try clear hb2); (try clear hk); (try clear hi)))
    go_ret2
    exact ⟨_, rfl, Kd.N_nil _ _ _ _ _, by repeat (first | (with_reducible first | exact HB.out | apply below_alloc | apply pw_below_drewN | apply below_drew1 | refine below_set ?_ GE427.out) | exact HB.out)⟩

end Go.Proofs.YtckfbfdnlpnllaaGreatDoor.XAllDiffFixed
