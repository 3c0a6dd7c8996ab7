-- by xprint.py, a program of this session, over the kit's print
import Derived.Test.YtijjhobjmehhoaaGreatDoorXGAlx0
import Derived.Test.YtijjhobjmehhoaaGreatDoorXGAlx5
import Derived.Test.YtijjhobjmehhoaaGreatDoorXGAlx12
import Derived.Test.YtijjhobjmehhoaaGreatDoorXGAlx16
import Derived.Test.YtijjhobjmehhoaaGreatDoorXGAlx17
import Derived.Test.YtijjhobjmehhoaaGreatDoorXGAlx18
import Derived.Test.YtijjhobjmehhoaaGreatDoorXGAlx21
import Derived.Test.YtijjhobjmehhoaaGreatDoorXGAlx22
import Derived.Test.YtijjhobjmehhoaaGreatDoorSq
import Derived.Test.YtijjhobjmehhoaaGreatDoorMp
namespace Go.Proofs.YtijjhobjmehhoaaGreatDoor.XGccAll
open Go.RowKit Go.Proofs.YtijjhobjmehhoaaGreatDoor.Mp Go.Proofs.YtijjhobjmehhoaaGreatDoor.Sq Go.Proofs.YtijjhobjmehhoaaGreatDoorW.PrintWords Go.Proofs.YtijjhobjmehhoaaGreatDoorW.PrintLast Go.Proofs.YtijjhobjmehhoaaGreatDoorW.PrintMore
attribute [local go_sem] max2_int min2_int max_two min_two max_three min_three max_four min_four   -- for this text's walks alone
set_option linter.unusedVariables false
set_option linter.unusedSimpArgs false

/-! ### jigsawlaw20_GccAll: function 6 -/
mutual
def jigsawlaw20_GccAll.j0 : Nat → List (List Int) → Int → Int → Int → Int → Option (Bool)
 | 0, _, _, _, _, _ => none
 | k + 1, e, c, d, a, b => jigsawlaw20_GccAll.l0 k e c d a ([] : List Int) b
def jigsawlaw20_GccAll.l0 : Nat → List (List Int) → Int → Int → Int → List Int → Int → Option (Bool)
 | 0, _, _, _, _, _, _ => none
 | k + 1, e, f, d, b, a, c => if d < f then (if a.length < 17592186044416 then (jigsawlaw20_GccAll.l0 k e f (wrap64 (d + 1)) b (a ++ [d]) c) else (none)) else (jigsawlaw20_GccAll.l1 k e ([] : List Int) e (e.length : Int) 0 b a ([] : List Int) ([] : List Int) ([] : List Int) c)
def jigsawlaw20_GccAll.l1 : Nat → List (List Int) → List Int → List (List Int) → Int → Int → Int → List Int → List Int → List Int → List Int → Int → Option (Bool)
 | 0, _, _, _, _, _, _, _, _, _, _, _ => none
 | k + 1, s, t, m, o, a, b, c, d, e, g, l => if a < o then (if 0 ≤ a then (if a < (m.length : Int) then (jigsawlaw20_GccAll.l2 k s t m o a (rd_L7 m a) ((rd_L7 m a).length : Int) 0 b c d e g l) else (none)) else (none)) else ((jigsawlaw20_doms.f k s).bind fun p => ((gcc_Filter.f k b c ([] : List Int) d e g l ([] : List (List Int)) p).bind fun n => (if n.2 = true then ((jigsawlaw20_GccFixed.f k n.1).bind fun q => (some q)) else ((jigsawlaw20_wakes.f k).bind fun r => (some r)))))
def jigsawlaw20_GccAll.l2 : Nat → List (List Int) → List Int → List (List Int) → Int → Int → List Int → Int → Int → Int → List Int → List Int → List Int → List Int → Int → Option (Bool)
 | 0, _, _, _, _, _, _, _, _, _, _, _, _, _, _ => none
 | k + 1, t, s, n, o, p, m, q, d, e, g, a, b, c, l => if d < q then (if 0 ≤ d then (if d < (m.length : Int) then (if (rd m d) > 1000 then (none) else (if (rd m d) < (-1000) then (none) else ((jigsawref02_Has.f k s (rd m d)).bind fun u => (if s.length < 17592186044416 then ((some (s ++ [rd m d] : List Int)).bind fun r => (if u = true then (jigsawlaw20_GccAll.l2 k t r n o p m q (wrap64 (d + 1)) e g a b c l) else (if a.length < 17592186044416 then (if b.length < 17592186044416 then (if c.length < 17592186044416 then (jigsawlaw20_GccAll.l2 k t r n o p m q (wrap64 (d + 1)) e g (a ++ [rd m d]) (b ++ [1]) (c ++ [1]) l) else (none)) else (none)) else (none)))) else (none))))) else (none)) else (none)) else (jigsawlaw20_GccAll.l1 k t s n o (wrap64 (p + 1)) e g a b c l)
end
def jigsawlaw20_GccAll.f (k : Nat) (b : Int) (c : List Int) (d : List Int) (e : List Int) (g : Int) (l : Int) (m : List (List Int)) : Option (Bool) := (jigsawref10_Make.f k b c d e g l m 17 4).bind fun a => (jigsawlaw20_GccAll.j0 k a.2.2.2.2.2.2.2.2 (a.2.2.2.2.2.2.2.2.length : Int) 0 21 0)
theorem jigsawlaw20_GccAll.mono_l : ∀ k, (∀ a b c d e, LeO (jigsawlaw20_GccAll.j0 k a b c d e) (jigsawlaw20_GccAll.j0 (k + 1) a b c d e)) ∧ (∀ a b c d e f, LeO (jigsawlaw20_GccAll.l0 k a b c d e f) (jigsawlaw20_GccAll.l0 (k + 1) a b c d e f)) ∧ (∀ a b c d e f l m n o g, LeO (jigsawlaw20_GccAll.l1 k a b c d e f l m n o g) (jigsawlaw20_GccAll.l1 (k + 1) a b c d e f l m n o g)) ∧ (∀ a b c d e f l m n o g p q s, LeO (jigsawlaw20_GccAll.l2 k a b c d e f l m n o g p q s) (jigsawlaw20_GccAll.l2 (k + 1) a b c d e f l m n o g p q s))
 | 0 => by refine ⟨?_, ?_, ?_, ?_⟩ <;> (intros; exact LeO.none _)
 | k + 1 => by
  obtain ⟨ih0, ih1, ih2, ih3⟩ := jigsawlaw20_GccAll.mono_l k
  have m0 := @gcc_Filter.mono
  have m1 := @jigsawlaw20_GccFixed.mono
  have m2 := @jigsawlaw20_doms.mono
  have m3 := @jigsawlaw20_wakes.mono
  have m4 := @jigsawref02_Has.mono
  have m5 := @jigsawref10_Make.mono
  refine ⟨?_, ?_, ?_, ?_⟩ <;> intros
  all_goals first | unfold jigsawlaw20_GccAll.j0 | unfold jigsawlaw20_GccAll.l0 | unfold jigsawlaw20_GccAll.l1 | unfold jigsawlaw20_GccAll.l2
  all_goals exact leo_
theorem jigsawlaw20_GccAll.mono : ∀ a b c d e g l k, LeO (jigsawlaw20_GccAll.f k a b c d e g l) (jigsawlaw20_GccAll.f (k + 1) a b c d e g l) := by
 intro a b c d e g l k
 obtain ⟨ih0, ih1, ih2, ih3⟩ := jigsawlaw20_GccAll.mono_l k
 unfold jigsawlaw20_GccAll.f
 have m0 := @gcc_Filter.mono
 have m1 := @jigsawlaw20_GccFixed.mono
 have m2 := @jigsawlaw20_doms.mono
 have m3 := @jigsawlaw20_wakes.mono
 have m4 := @jigsawref02_Has.mono
 have m5 := @jigsawref10_Make.mono
 exact leo_
def jigsawlaw20_GccAll.T20 : Bool × List (List Nat × List Nat) := (true, [([], []), ([], []), ([1], [1]), ([0, 2, 2], [0, 2]), ([3], [3]), ([4], [4]), ([4], [4]), ([5, 3, 0, 1, 2, 3, 4, 5], [5]), ([6, 7, 0, 1, 2, 3, 4, 5, 6, 7], [6])])
def jigsawlaw20_GccAll.B20 : List Nat := [0, 0, 2, 7, 15, 31, 31, 63, 255]
theorem jigsawlaw20_GccAll.tab20 : rtab .any (opsOf Tryz.f6 20) = jigsawlaw20_GccAll.T20 := by kernel_rfl
theorem jigsawlaw20_GccAll.bits20 : waitsOk jigsawlaw20_GccAll.T20.2 jigsawlaw20_GccAll.B20 = true := by kernel_rfl
theorem has_inv {l : List Int} {v : Int} (hl : l.length < 17592186044416) : ∀ (k : Nat) (i : Nat) (r : Bool), jigsawref02_Has.l0 k l v (i : Int) = some r → r = decide (v ∈ l.drop i)
  | 0, i, r, h => by simp [jigsawref02_Has.l0] at h
  | k + 1, i, r, h => by
    simp only [jigsawref02_Has.l0] at h
    by_cases hi : (i : Int) < (l.length : Int)
    · rw [if_pos hi, if_pos (by omega)] at h
      have hi' : i < l.length := by omega
      have hd : l.drop i = l[i] :: l.drop (i + 1) := List.drop_eq_getElem_cons hi'
      have hr : rd l (i : Int) = l[i] := by simp [rd, List.getD, hi']
      by_cases he : rd l (i : Int) = v
      · rw [if_pos he] at h
        cases h
        exact (decide_eq_true (by rw [hd, ← he, hr]; exact List.mem_cons_self)).symm
      · rw [if_neg he] at h
        have hw : wrap64 ((i : Int) + 1) = ((i + 1 : Nat) : Int) := by unfold wrap64; omega
        rw [hw] at h
        rw [has_inv hl k (i + 1) r h]
        rw [hr] at he
        apply decide_eq_decide.2
        rw [hd, List.mem_cons]
        exact ⟨Or.inr, fun h => h.resolve_left (fun e => he e.symm)⟩
    · rw [if_neg hi] at h
      cases h
      rw [List.drop_eq_nil_of_le (by omega)]
      simp
theorem app_step {ops : Array Oper} {oi : Oper} {a : Act} {Q : Exit → Act → World → Prop} {Kc : Act → World → Prop} {w W : World} (hw : Region.wanted oi (yielded ops a.tmps) = true) (s x : Operand) (ho : oi.op = .call { callee := .builtin .append, args := #[s, x], argTypes := #[30, 30] }) (v : Value) (xs : List Int) (ad : Nat) (z : Int) {vC vD vE : Value} (ok : Nat → Prop)
    (hs : a.eval s = v) (hx : a.eval x = .slice (some ⟨ad, 0, none⟩) 1 1) (HO : Kd.R (Kd.int .i64) 3 W w.heap.size ok v xs) (ht : Tb W ad z vC vD vE) (hf : ∀ k, W.heap.size ≤ k → ok k) (HB : Below w.heap.size w W) (hl : xs.length < 17592186044416)
    (h : ∀ v1 w1, Kd.R (Kd.int .i64) 3 w1 w.heap.size ok v1 (xs ++ [z]) → Below w.heap.size w w1 → W.grownBy w1 v.ownBlock → (v1.ownBlock = v.ownBlock ∨ ∃ b, v1.ownBlock = some b ∧ W.heap.size ≤ b) → Kc (a.put oi.dst v1) w1) :
    if Region.wanted oi (yielded ops a.tmps) = true then Oper.wp Tryz.prog oi a W Kc Q else Kc (a.put oi.dst undef) W :=
  Kd.R_append_rows_step (Kd.int .i64) w.heap.size hw s x 30 3 (.int .i64 0) 8 ho Tryz.underlying30 info3 rfl (by decide) (by omega) v xs [z] _ 1 1 ok (fun _ => False) hs hx HO ht.reads (fun _ _ h => h) (fun _ h => h.elim) hf HB HB.size (by omega) h
set_option maxHeartbeats 8000000 in
set_option maxRecDepth 100000 in
theorem jigsawlaw20_GccAll.calls (k : Nat) (aI : Int) (aR : Option Addr) (c0_1 : Nat) (ae : List Int) (aT : Option Addr) (c0_2 : Nat) (af : List Int) (aU : Option Addr) (c0_3 : Nat) (ag : List Int) (aJ : Int) (aK : Int) (aV : Option Addr) (c0_6 : Nat) (ah : List (List Int)) (r : Bool) (w : World) (a8 : Kd.C (Kd.int .u8) w aR ae.length ae) (a9 : ae.length ≤ c0_1) (ba : Kd.C (Kd.int .u8) w aT af.length af) (bb : af.length ≤ c0_2) (bc : Kd.C (Kd.int .i8) w aU ag.length ag) (bd : ag.length ≤ c0_3) (be : Kd.C (Kd.slice 3 (Kd.int .i64)) w aV ah.length ah) (bf : ah.length ≤ c0_6) (hrtab : Kd.C (Kd.int .u8) w (some ⟨0, 0, none⟩) tabL.length tabL) (h : jigsawlaw20_GccAll.f k aI ae af ag aJ aK ah = some r) :
  Calls Tryz.prog 6 #[.agg #[.int .u8 aI, .slice aR ae.length c0_1, .slice aT af.length c0_2, .slice aU ag.length c0_3, .int .i16 aJ, .int .u8 aK, .slice aV ah.length c0_6]] w fun e w' => e = .returned (.bool r) ∧ Below w.heap.size w w' := by
 have hu29 := Tryz.underlying29
 have hu32 := Tryz.underlying32
 have bK := a_ a8
 have bL := a_ a9
 clear a8 a9
 have bM := a_ ba
 have bN := a_ bb
 clear ba bb
 have bO := a_ bc
 have bP := a_ bd
 clear bc bd
 have bQ := a_ be
 have bR := a_ bf
 clear be bf
 have HRtab := a_ hrtab
 clear hrtab
 have HB := a_ (Below.refl w.heap.size w)
 unfold jigsawlaw20_GccAll.f at h
 have H := h
 clear h
 replace H := bs_.mp H
 obtain ⟨⟨b3, b4, b5, b6, b7, b8, b9, ca, d⟩, bY, H⟩ := H
 try dsimp only at H
 have A2 := a_ bY
 clear bY
 have bj := a_ H
 clear H
 go_enter Tryz.func6, Tryz.ntmps6
 go_upto_region 3 with (first | ((with_reducible refine gate_dst (N := 1) rfl ?_); refine bxe_ (N := 1) (cs := #[.int .u8 aI, .slice aR ae.length c0_1, .slice aT af.length c0_2, .slice aU ag.length c0_3, .int .i16 aJ, .int .u8 aK, .slice aV ah.length c0_6]) (t := 29) ?_; intro bz_1 hg w3 hbox hb; have BZ := a_ (hbox); have cM_ := a_ (by rw [hg]; exact (bz_ bel_) : w.heap.size ≤ bz_1); replace HB := hq_ hb; clear hb hbox hg; have bz0_ : w3.cell? ⟨bz_1, 0, none⟩ = some (.int .u8 aI) := (blk_cell BZ.out 0).trans rfl; have bz1_ : w3.cell? ⟨bz_1, 1, none⟩ = some (.slice aR ae.length c0_1) := (blk_cell BZ.out 1).trans rfl; have bz2_ : w3.cell? ⟨bz_1, 2, none⟩ = some (.slice aT af.length c0_2) := (blk_cell BZ.out 2).trans rfl; have bz3_ : w3.cell? ⟨bz_1, 3, none⟩ = some (.slice aU ag.length c0_3) := (blk_cell BZ.out 3).trans rfl; have bz4_ : w3.cell? ⟨bz_1, 4, none⟩ = some (.int .i16 aJ) := (blk_cell BZ.out 4).trans rfl; have bz5_ : w3.cell? ⟨bz_1, 5, none⟩ = some (.int .u8 aK) := (blk_cell BZ.out 5).trans rfl; have bz6_ : w3.cell? ⟨bz_1, 6, none⟩ = some (.slice aV ah.length c0_6) := (blk_cell BZ.out 6).trans rfl) | ((with_reducible refine gate_callee (f := 8) rfl ?_); refine goesL_ (some 23) rfl rfl Tryz.func8 kr_ rfl #[.agg #[.int .u8 aI, .slice aR ae.length c0_1, .slice aT af.length c0_2, .slice aU ag.length c0_3, .int .i16 aJ, .int .u8 aK, .slice aV ah.length c0_6], .int .i64 17, .int .i64 4] rfl ar_ ?_; (with_reducible refine (jigsawref10_Make.calls k aI _ _ ae _ _ af _ _ ag aJ aK _ _ ah 17 4 b3 b4 b5 b6 b7 b8 b9 ca d _ ?_ ?_ ?_ ?_ ?_ ?_ ?_ ?_ A2.out).mono ?_); exact ca_ ((cb_ bK.out HB.out)); exact bL.out; exact ca_ ((cb_ bM.out HB.out)); exact bN.out; exact ca_ ((cb_ bO.out HB.out)); exact bP.out; exact ca_ ((cb_ bQ.out HB.out)); exact bR.out; rintro e w4 ⟨cb, cc, cd, ce, cf, cg, bk, rfl, Q, cG, cH, cI, cJ, cK, bZ, hb⟩; refine ⟨_, rfl, ?_⟩; have av := a_ (Kd.N_lower (nm_ (ok' := fun a => some a ≠ cb.ownBlock ∧ some a ≠ cc.ownBlock ∧ some a ≠ cd.ownBlock ∧ some a ≠ ce.ownBlock ∧ some a ≠ cf.ownBlock ∧ some a ≠ cg.ownBlock) (Kd.S_N (Kd.S_bound bZ)) (fun a hk_ => ⟨hk_.1.1, hk_.1.2.1, hk_.1.2.2.1, hk_.1.2.2.2.1, hk_.1.2.2.2.2.1, hk_.1.2.2.2.2.2⟩)) (bz_ bel_)); replace HB := hq_ hb; obtain ⟨pc0, qc0, ec0⟩ := Kd.R_slice Q; subst ec0; obtain ⟨pc1, qc1, ec1⟩ := Kd.R_slice cG; subst ec1; obtain ⟨pc2, qc2, ec2⟩ := Kd.R_slice cH; subst ec2; obtain ⟨pc3, qc3, ec3⟩ := Kd.R_slice cI; subst ec3; obtain ⟨pc4, qc4, ec4⟩ := Kd.R_slice cJ; subst ec4; obtain ⟨pc5, qc5, ec5⟩ := Kd.N_slice (Kd.S_N cK); subst ec5; clear hb Q cG cH cI cJ cK bZ) | ((with_reducible refine gate_dst (N := 3) rfl ?_); refine bxe_ (N := 3) (cs := #[.int .i64 0, .slice none 0 0, .slice none 0 0, .slice none 0 0, .slice none 0 0, .slice none 0 0, .int .i64 0, .slice none 0 0]) (t := 32) ?_; intro bq_1 hg w4 hbox hb; replace av := a_ (Kd.N_below (Kd.N_elderB (vN_ av.out) bq_1 (Nat.le_of_eq hg.symm)) hb); have BQ := a_ (hbox); have cN_ := a_ (by rw [hg]; exact (bz_ bel_) : w.heap.size ≤ bq_1); replace HB := hq_ hb; clear hb hbox hg; obtain ⟨_, _, _, _, _, _, _, _, _, _, _, _, _, _, _, _⟩ := cel8_ BQ.out) | ((with_reducible refine gate_dst (N := 5) rfl ?_); refine bxe_ (N := 5) (cs := #[.int .i64 0, .slice none 0 0, .slice none 0 0, .slice none 0 0, .slice none 0 0, .slice none 0 0, .int .i64 0, .slice none 0 0]) (t := 32) ?_; intro m hg w5 hbox hb; replace av := a_ (Kd.N_below (Kd.N_elderB (by refine vN_ ?_; exact (nm_ (fN_ (fN_ (fN_ (fN_ (fN_ (fN_ (fN_ (fN_ (nm_ av.out (fun a hk => (⟨hk, hk.2⟩ : _ ∧ a ≠ bq_1))))))))))) (fun _ h_ => h_.1.1))) m (Nat.le_of_eq hg.symm)) hb); have c := a_ (hbox); have bS := a_ (by rw [hg]; exact (bz_ bel_) : w.heap.size ≤ m); have cS := bS; replace HB := hq_ hb; clear hb hbox hg; obtain ⟨_, _, _, _, _, _, _, _, _, _, _, _, _, _, _, _⟩ := cel8_ c.out))
 (try simp only [Act.put, List.setIfInBounds_toArray, List.set_cons_zero, List.set_cons_succ])
 go_cut [28, 29] (fun cL bl wc => ∃ (kq : Nat) (W : Int) (E : Int), cL = .int .i64 W ∧ bl = .int .i64 E ∧ Aside0 (jigsawlaw20_GccAll.j0 kq d W E 21 0 = some r) ∧ Aside0 (kq ≤ k) ∧ Aside0 (Kd.N (Kd.slice 3 (Kd.int .i64)) 30 wc w.heap.size (fun a => a ≠ m) bk d) ∧ Aside0 (wc.heap[m]? = some (.cells #[.int .i64 21, (.slice none 0 0), (.slice none 0 0), (.slice none 0 0), (.slice none 0 0), (.slice none 0 0), .int .i64 0, (.slice none 0 0)] 32 (0, 0))) ∧ Aside0 (Below w.heap.size w wc))
 case first =>
  have H := bj.out
  clear bj
  have H' := a_ H
  clear H
  obtain ⟨cY, cZ, cM⟩ := Kd.N_slice av.out
  subst cM
  go_wp2
  go_meet
  exact ⟨_, ((d.length : Int)), (0), eq_, eq_, H', ⟨by first | omega | exact lr_ _⟩, ⟨by refine vN_ ?_; exact nm_ (fN_ (fN_ (fN_ (fN_ (fN_ (fN_ (fN_ (fN_ (nm_ av.out (fun a hk => (⟨hk, hk.2⟩ : _ ∧ a ≠ m))))))))))) (fun _ hk => hk.1.2)⟩, ⟨by refine bk_ ?_; refine bu_ (cs := #[.int .i64 21, .slice none 0 0, .slice none 0 0, .slice none 0 0, .slice none 0 0, .slice none 0 0, .int .i64 0, .slice none 0 0]) ?_ 7 _ rfl; refine bk_ ?_; refine bu_ (cs := #[.int .i64 21, .slice none 0 0, .slice none 0 0, .slice none 0 0, .slice none 0 0, .slice none 0 0, .int .i64 0, .slice none 0 0]) ?_ 6 _ rfl; refine bk_ ?_; refine bu_ (cs := #[.int .i64 21, .slice none 0 0, .slice none 0 0, .slice none 0 0, .slice none 0 0, .slice none 0 0, .int .i64 0, .slice none 0 0]) ?_ 5 _ rfl; refine bk_ ?_; refine bu_ (cs := #[.int .i64 21, .slice none 0 0, .slice none 0 0, .slice none 0 0, .slice none 0 0, .slice none 0 0, .int .i64 0, .slice none 0 0]) ?_ 4 _ rfl; refine bk_ ?_; refine bu_ (cs := #[.int .i64 21, .slice none 0 0, .slice none 0 0, .slice none 0 0, .slice none 0 0, .slice none 0 0, .int .i64 0, .slice none 0 0]) ?_ 3 _ rfl; refine bk_ ?_; refine bu_ (cs := #[.int .i64 21, .slice none 0 0, .slice none 0 0, .slice none 0 0, .slice none 0 0, .slice none 0 0, .int .i64 0, .slice none 0 0]) ?_ 2 _ rfl; refine bk_ ?_; refine bu_ (cs := #[.int .i64 21, .slice none 0 0, .slice none 0 0, .slice none 0 0, .slice none 0 0, .slice none 0 0, .int .i64 0, .slice none 0 0]) ?_ 1 _ rfl; refine bk_ ?_; refine bu_ (cs := #[.int .i64 0, .slice none 0 0, .slice none 0 0, .slice none 0 0, .slice none 0 0, .slice none 0 0, .int .i64 0, .slice none 0 0]) ?_ 0 _ rfl; refine bk_ ?_; exact c.out⟩, ⟨bel_⟩⟩
 clear bj
 try clear p2
 try clear c6
 obtain ⟨kq, W, E, rfl, rfl, HA, ar, HO_4, c, HB⟩ := hcut
 cases kq with
 | zero => exact absurd HA.out (by simp [jigsawlaw20_GccAll.j0])
 | succ kj2 =>
  have H := HA.out
  clear HA
  simp only [jigsawlaw20_GccAll.j0] at H
  have H' := a_ H
  clear H
  go_wp2
  go_loopg [29] kj2 (fun kq bl w' => ∃ (E : Int) (p : List Int) (u638001 : Value), bl = .int .i64 E ∧ Aside0 (jigsawlaw20_GccAll.l0 kq d W E 21 p 0 = some r) ∧ Aside0 (kq ≤ kj2) ∧ Aside0 (Kd.N (Kd.slice 3 (Kd.int .i64)) 30 w' w.heap.size (fun a => some a ≠ u638001.ownBlock ∧ a ≠ m) bk d) ∧ Aside0 (Kd.R (Kd.int .i64) 3 w' w.heap.size (fun _ => True) u638001 p) ∧ Aside0 (w'.heap[m]? = some (.cells #[.int .i64 21, u638001, (.slice none 0 0), (.slice none 0 0), (.slice none 0 0), (.slice none 0 0), .int .i64 0, (.slice none 0 0)] 32 (0, 0))) ∧ Aside0 (Below w.heap.size w w'))
  case atStart => exact ⟨(E), (([] : List Int)), (.slice none 0 0), eq_, H', ⟨lr_ _⟩, ⟨by refine vN_ ?_; exact nm_ HO_4.out (fun _ hk => ⟨(by simp [Value.ownBlock]), hk⟩)⟩, ⟨nil_⟩, ⟨bk_ c.out⟩, ⟨bel_⟩⟩
  clear H'
  try clear p2
  try clear c6
  try clear p2
  obtain ⟨E, p, u638001, rfl, HA, au, HO_4, HO_638001, c, HB⟩ := hrel
  cases gk with
  | zero => exact absurd HA.out (by simp [jigsawlaw20_GccAll.l0])
  | succ k2 =>
   have H := HA.out
   clear HA
   simp only [jigsawlaw20_GccAll.l0] at H
   replace H := ct_ H
   rcases H with ⟨c8b0, H⟩ | ⟨c8b0, H⟩
   ·
    replace H := ga_ H
    obtain ⟨LMc9, H⟩ := H
    obtain ⟨aW, ak⟩ : ∃ y_ : List Int, y_ = (p ++ [E]) := ⟨_, rfl⟩
    replace H : (jigsawlaw20_GccAll.l0 k2 d W (wrap64 (E + 1)) 21 aW 0) = some r := h2_ H ak
    have bT := a_ ak
    clear ak
    have H' := a_ H
    clear H
    obtain ⟨_, _, _, _, _, _, _, _, _, _, _, _, _, _, _, _⟩ := cel8_ c.out
    go_wp2_with (first | ((with_reducible refine gate_builtin (b := .append) (xs := #[.tmp 33, .tmp 35]) rfl ?_); at_builtin; refine Kd.R_append (Kd.int .i64) (w0 := w) w.heap.size rfl (.tmp 33) (.tmp 35) 30 3 (.int .i64 0) 8 rfl Tryz.underlying30 info3 rfl (by decide) (by omega) u638001 p E [.int .i64 E] (fun _ => True) (fun _ => False) rfl rfl ?aP (fun _ hk => hk.elim) ?aF ?aO ?aB ?aS ?aL ?_; (case aP => exact rfl); (case aB => exact bel_); (case aF => exact (fun _ _ => trivial)); (case aO => exact (vR_ HO_638001.out)); (case aS => exact (bz_ bel_)); (case aL => have := LMc9.out; omega); intro cU w11 ho hb hg hat; rw [← bT.out] at ho; replace HO_4 := a_ (Kd.N_afterv (ok := (fun a => a ≠ m)) (by refine vN_ ?_; exact nm_ HO_4.out (fun _ hk => ⟨hk.2, hk.1⟩)) hg hat); replace c := a_ (blk_grown (bk_ c.out) hg (Kd.R_ne HO_638001.out c.out (by decide))); replace HB := a_ (hb); have bg := a_ (ho); clear HO_638001; clear ho hb hg hat; obtain ⟨ch, ci, cj⟩ := Kd.R_slice bg.out; subst cj; obtain ⟨_, _, _, _, _, _, _, _, _, _, _, _, _, _, _, _⟩ := cel8_ c.out))
    go_roundg k2
    case measure => have := ar.out; have := au.out; omega
    exact ⟨(wrap64 (E + 1)), (aW), (.slice ch aW.length ci), eq_, H', ⟨by have := ar.out; have := au.out; omega⟩, ⟨by refine vN_ ?_; exact nm_ (fN_ (nm_ HO_4.out (fun a hk => (⟨hk, hk.1⟩ : _ ∧ a ≠ m)))) (fun _ hk => ⟨hk.1.2, hk.1.1⟩)⟩, ⟨by refine vR_ ?_; exact rm_ (fR_ (rt_ bg.out c.out (by decide))) (fun _ hk => trivial)⟩, ⟨by refine bk_ ?_; refine bu_ (cs := #[.int .i64 21, u638001, .slice none 0 0, .slice none 0 0, .slice none 0 0, .slice none 0 0, .int .i64 0, .slice none 0 0]) ?_ 1 _ rfl; refine bk_ ?_; exact c.out⟩, ⟨bel_⟩⟩
   have H' := a_ H
   clear H
   obtain ⟨O, G, ck⟩ := Kd.N_slice HO_4.out
   subst ck
   have hmm := @run_makeMap Tryz.prog
   go_wp2_with (first | ((with_reducible refine gate_dst (N := 39) rfl ?_); refine map_event rfl (by first | (go_simp; done) | (go_simp; rfl)) ?_; intro mb hg w12 hmap hb; have hvm : (Value.slice (some ⟨mb, 0, none⟩) 0 0).ownBlock = some mb := rfl; have hvb : ∀ k, (Value.slice (some ⟨mb, 0, none⟩) 0 0).ownBlock = some k → wr.heap.size ≤ k := (by intro k e; cases e; exact Nat.le_of_eq hg.symm); generalize (Value.slice (some ⟨mb, 0, none⟩) 0 0) = vm at hvm hvb; replace HO_4 := a_ (Kd.N_elder' (vN_ HO_4.out) hvb hb); replace HO_638001 := a_ (Kd.R_elder' (vR_ HO_638001.out) hvb hb); replace c := a_ (bq_ c.out hb); have hmw := a_ (by rw [hg]; exact (bz_ bel_) : w.heap.size ≤ mb); replace HB := hq_ hb; clear hb hg hvb))
   clear hmm
   go_loopg [42] k2 (fun kq cN w' => ∃ (aM : List Int) (om : Obj) (l : Int) (x : List Int) (y : List Int) (z : List Int) (u638003 : Value) (u638004 : Value) (u638005 : Value), cN = .int .i64 l ∧ Aside0 (jigsawlaw20_GccAll.l1 kq d aM d (d.length : Int) l 21 p x y z 0 = some r) ∧ Aside0 (kq ≤ k2) ∧ Aside0 (Kd.N (Kd.slice 3 (Kd.int .i64)) 30 w' w.heap.size (fun a => some a ≠ vm.ownBlock ∧ some a ≠ u638001.ownBlock ∧ some a ≠ u638003.ownBlock ∧ some a ≠ u638004.ownBlock ∧ some a ≠ u638005.ownBlock ∧ a ≠ m) (.slice O d.length G) d) ∧ Aside0 (w'.heap[mb]? = some om ∧ MO om aM) ∧ Aside0 (Kd.N (Kd.slice 3 (Kd.int .i64)) 30 w' w.heap.size (fun a => some a ≠ vm.ownBlock ∧ some a ≠ u638001.ownBlock ∧ some a ≠ u638003.ownBlock ∧ some a ≠ u638004.ownBlock ∧ some a ≠ u638005.ownBlock ∧ a ≠ m) (.slice O d.length G) d) ∧ Aside0 (Kd.R (Kd.int .i64) 3 w' w.heap.size (fun a => some a ≠ vm.ownBlock ∧ some a ≠ u638003.ownBlock ∧ some a ≠ u638004.ownBlock ∧ some a ≠ u638005.ownBlock) u638001 p) ∧ Aside0 (Kd.R (Kd.int .i64) 3 w' w.heap.size (fun a => some a ≠ vm.ownBlock ∧ some a ≠ u638001.ownBlock ∧ some a ≠ u638004.ownBlock ∧ some a ≠ u638005.ownBlock) u638003 x) ∧ Aside0 (Kd.R (Kd.int .i64) 3 w' w.heap.size (fun a => some a ≠ vm.ownBlock ∧ some a ≠ u638001.ownBlock ∧ some a ≠ u638003.ownBlock ∧ some a ≠ u638005.ownBlock) u638004 y) ∧ Aside0 (Kd.R (Kd.int .i64) 3 w' w.heap.size (fun a => some a ≠ vm.ownBlock ∧ some a ≠ u638001.ownBlock ∧ some a ≠ u638003.ownBlock ∧ some a ≠ u638004.ownBlock) u638005 z) ∧ Aside0 (w'.heap[m]? = some (.cells #[.int .i64 21, u638001, (.slice none 0 0), u638003, u638004, u638005, .int .i64 0, (.slice none 0 0)] 32 (0, 0))) ∧ Aside0 (Below w.heap.size w w'))
   case atStart => exact ⟨(([] : List Int)), (.map #[] 0), (0), (([] : List Int)), (([] : List Int)), (([] : List Int)), (.slice none 0 0), (.slice none 0 0), (.slice none 0 0), eq_, H', ⟨lr_ _⟩, ⟨by refine vN_ ?_; exact nm_ HO_4.out (fun _ hk => ⟨hk.2, ⟨hk.1.1, ⟨(by simp [Value.ownBlock]), ⟨(by simp [Value.ownBlock]), ⟨(by simp [Value.ownBlock]), hk.1.2⟩⟩⟩⟩⟩)⟩, ⟨⟨bk_ hmap, mo_made⟩⟩, ⟨by refine vN_ ?_; exact nm_ HO_4.out (fun _ hk => ⟨hk.2, ⟨hk.1.1, ⟨(by simp [Value.ownBlock]), ⟨(by simp [Value.ownBlock]), ⟨(by simp [Value.ownBlock]), hk.1.2⟩⟩⟩⟩⟩)⟩, ⟨by refine vR_ ?_; exact rm_ HO_638001.out (fun _ hk => ⟨hk.2, ⟨(by simp [Value.ownBlock]), ⟨(by simp [Value.ownBlock]), (by simp [Value.ownBlock])⟩⟩⟩)⟩, ⟨nil_⟩, ⟨nil_⟩, ⟨nil_⟩, ⟨bk_ c.out⟩, ⟨bel_⟩⟩
   clear H'
   try clear p2
   try clear c6
   try clear p6
   try clear c8
   try clear c8b0
   try clear c9
   try clear p2
   obtain ⟨aM, om, l, x, y, z, u638003, u638004, u638005, rfl, HA, ay, HO_4, HO_7, HO_40, HO_638001, HO_638003, HO_638004, HO_638005, c, HB⟩ := hrel
   cases gk with
   | zero => exact absurd HA.out (by simp [jigsawlaw20_GccAll.l1])
   | succ k3 =>
    have H := HA.out
    clear HA
    simp only [jigsawlaw20_GccAll.l1] at H
    replace H := cf_ H
    rcases H with ⟨c15b0, H⟩ | ⟨c15b0, H⟩
    ·
     replace H := bo_ H
     obtain ⟨aq, b1, H⟩ := H
     try dsimp only at H
     replace H := bs_.mp H
     obtain ⟨⟨aN, cu⟩, bp, H⟩ := H
     try dsimp only at H
     have b2 := a_ bp
     clear bp
     replace H := hf_ H
     rcases H with ⟨rfl, H⟩ | ⟨rfl, H⟩
     ·
      replace H := bo_ H
      obtain ⟨a7, cR, H⟩ := H
      try dsimp only at H
      obtain rfl := si_ H
      try go_wp2
      replace HO_4 := a_ (Kd.N_drew HO_4.out)
      replace HO_7 := a_ (And.intro (blk_drew HO_7.out.1) HO_7.out.2)
      replace HO_40 := a_ (Kd.N_drew HO_40.out)
      replace HO_638001 := a_ (Kd.R_drew HO_638001.out)
      replace HO_638003 := a_ (Kd.R_drew HO_638003.out)
      replace HO_638004 := a_ (Kd.R_drew HO_638004.out)
      replace HO_638005 := a_ (Kd.R_drew HO_638005.out)
      replace c := a_ (blk_drew c.out)
      replace HB := a_ (below_drew1 HB.out)
      refine start_ (n := 9) (S := fun w' => w'.cell? ⟨m, 0, none⟩ = some (.int .i64 21) ∧ w'.cell? ⟨m, 1, none⟩ = some (u638001) ∧ w'.cell? ⟨m, 2, none⟩ = some (.slice none 0 0) ∧ w'.cell? ⟨m, 3, none⟩ = some (u638003) ∧ w'.cell? ⟨m, 4, none⟩ = some (u638004) ∧ w'.cell? ⟨m, 5, none⟩ = some (u638005) ∧ w'.cell? ⟨m, 6, none⟩ = some (.int .i64 0) ∧ w'.cell? ⟨m, 7, none⟩ = some (.slice none 0 0)) (ds := []) #[false, false, false, false, false, false, false, false, false] kr_ rfl rfl (ca8_ c.out) (fun hHeld => ?_); refine with_tabW jigsawlaw20_GccAll.tab20 jigsawlaw20_GccAll.bits20 (fun HT_ HW_ => ?_)
      generalize wr.drew = w59 at HO_4 HO_7 HO_40 HO_638001 HO_638003 HO_638004 HO_638005 c HB hHeld ⊢
      refine pn_ 1 80 ao_ ?_
      refine tn_ 0 79 tw_ hHeld ?_
      refine onn_ 2 81 #[true, true, true, false, false, false, false, false, false] rfl rfl on_ (by decide) (fun K hK => ?_)
      refine goes_ Tryz.func11 kr_ rfl #[.slice O d.length G] (by rfl) rfl rfl ar_ ?_
      with_reducible refine (jigsawlaw20_doms.calls k3 _ _ d aq _ ?_ ?_ ?_ b1.out).mono ?_
      exact ca_ ((Kd.N_reads' HO_4.out).2.2)
      exact (Kd.N_reads' HO_4.out).2.1
      exact ca_ ((cb_ HRtab.out HB.out))
      rintro e w60 ⟨cw, rfl, Q, hb⟩
      refine ⟨_, rfl, ?_⟩
      have V := a_ (Kd.N_lower (nm_ (ok' := fun a => some a ≠ (.slice O d.length G : Value).ownBlock ∧ some a ≠ vm.ownBlock ∧ some a ≠ (.slice O d.length G : Value).ownBlock ∧ some a ≠ u638001.ownBlock ∧ some a ≠ u638003.ownBlock ∧ some a ≠ u638004.ownBlock ∧ some a ≠ u638005.ownBlock ∧ a ≠ m) Q (fun a hk_ => ⟨(fr_ (Kd.N_lt (vN_ HO_4.out)) a hk_), (fr_ (vml_ hvm (bk_ HO_7.out.1)) a hk_), (fr_ (Kd.N_lt (vN_ HO_40.out)) a hk_), (fr_ (rl_ (vR_ HO_638001.out)) a hk_), (fr_ (rl_ (vR_ HO_638003.out)) a hk_), (fr_ (rl_ (vR_ HO_638004.out)) a hk_), (fr_ (rl_ (vR_ HO_638005.out)) a hk_), (Kd.freshB (bk_ c.out) a hk_)⟩)) (bz_ bel_))
      replace HO_638001 := a_ (rb_ (vR_ HO_638001.out) hb)
      replace HO_638003 := a_ (rb_ (vR_ HO_638003.out) hb)
      replace HO_638004 := a_ (rb_ (vR_ HO_638004.out) hb)
      replace HO_638005 := a_ (rb_ (vR_ HO_638005.out) hb)
      replace c := a_ (bq_ c.out hb)
      replace HB := hq_ hb
      clear hb Q
      obtain ⟨bw, bx, bz⟩ := Kd.R_slice HO_638001.out
      (first | subst bz | (injection bz with f1_ f2_ f3_; have f4_ := f1_.symm; have f5_ := f3_.symm; clear f1_ f2_ f3_; subst f4_; subst f5_))
      obtain ⟨bA, bB, bC⟩ := Kd.R_slice HO_638003.out
      (first | subst bC | (injection bC with f1_ f2_ f3_; have f4_ := f1_.symm; have f5_ := f3_.symm; clear f1_ f2_ f3_; subst f4_; subst f5_))
      obtain ⟨bD, bE, bF⟩ := Kd.R_slice HO_638004.out
      (first | subst bF | (injection bF with f1_ f2_ f3_; have f4_ := f1_.symm; have f5_ := f3_.symm; clear f1_ f2_ f3_; subst f4_; subst f5_))
      obtain ⟨bG, bH, bI⟩ := Kd.R_slice HO_638005.out
      (first | subst bI | (injection bI with f1_ f2_ f3_; have f4_ := f1_.symm; have f5_ := f3_.symm; clear f1_ f2_ f3_; subst f4_; subst f5_))
      obtain ⟨cD, cE, bJ⟩ := Kd.N_slice V.out
      (first | subst bJ | (injection bJ with f1_ f2_ f3_; have f4_ := f1_.symm; have f5_ := f3_.symm; clear f1_ f2_ f3_; subst f4_; subst f5_))
      refine hK.out _ _ (ca8_ c.out) (fun hHeld => ?_)
      clear hK K
      refine nor_ (N := some 81) ?_
      refine onn_ 3 82 #[true, true, true, true, false, false, false, false, false] rfl rfl on_ (by decide) (fun K hK => ?_)
      refine goes_ Tryz.func10 kr_ rfl #[.agg #[.int .i64 21, .slice bw p.length bx, .slice none 0 0, .slice bA x.length bB, .slice bD y.length bE, .slice bG z.length bH, .int .i64 0, .slice none 0 0], .slice cD aq.length cE] (by rfl) rfl rfl ar_ ?_
      refine (gcc_Filter.calls k3 21 _ _ p _ _ ([] : List Int) _ _ x _ _ y _ _ z 0 _ _ ([] : List (List Int)) (fun a => (some a ≠ (.slice O d.length G : Value).ownBlock ∧ (some a ≠ vm.ownBlock ∧ (some a ≠ (.slice O d.length G : Value).ownBlock ∧ (some a ≠ (.slice bw p.length bx : Value).ownBlock ∧ (some a ≠ (.slice bA x.length bB : Value).ownBlock ∧ (some a ≠ (.slice bD y.length bE : Value).ownBlock ∧ (some a ≠ (.slice bG z.length bH : Value).ownBlock ∧ a ≠ m)))))))) _ _ aq aN false _ ?side1 ?side2 ?side3 ?side4 ?side5 ?side6 ?side7 ?side8 ?side9 ?side10 ?side11 ?side12 ?side13 ?side14 b2.out).mono ?_
      (case side1 => exact ca_ ((rr_ HO_638001.out).2.2))
      (case side2 => exact (rr_ HO_638001.out).2.1)
      (case side3 => exact Kd.C_nil _ _)
      (case side4 => exact lr_ _)
      (case side5 => exact ca_ ((rr_ HO_638003.out).2.2))
      (case side6 => exact (rr_ HO_638003.out).2.1)
      (case side7 => exact ca_ ((rr_ HO_638004.out).2.2))
      (case side8 => exact (rr_ HO_638004.out).2.1)
      (case side9 => exact ca_ ((rr_ HO_638005.out).2.2))
      (case side10 => exact (rr_ HO_638005.out).2.1)
      (case side11 => exact Kd.C_nil _ _)
      (case side12 => exact lr_ _)
      (case side13 => exact Kd.N_V (V.out))
      (case side14 => exact ca_ ((cb_ HRtab.out HB.out)))
      rintro e w66 ⟨cz, rfl, Q, hb⟩
      refine ⟨_, rfl, ?_⟩
      replace c := a_ (bq_ c.out hb)
      replace HB := hq_ hb
      clear hb Q
      refine hK.out _ _ (ca8_ c.out) (fun hHeld => ?_)
      clear hK K
      refine nor_ (N := some 82) ?_
      refine pn_ 4 78 ao_ ?_
      refine pn_ 5 83 ao_ ?_
      refine pn_ 6 84 ao_ ?_
      refine pn_ 7 12 ao_ ?_
      refine pn_ 8 13 ao_ ?_
      refine done_ dn_ ?_
      try go_wp2_with (first | ((with_reducible refine gate_callee (f := 13) rfl ?_); refine goesL_ (some 87) rfl rfl Tryz.func13 kr_ rfl #[] rfl ar_ ?_; (with_reducible refine (jigsawlaw20_wakes.calls k3 a7 _ ?_ cR.out).mono ?_); exact ca_ ((cb_ HRtab.out HB.out)); rintro e w67 ⟨rfl, hb⟩; refine ⟨_, rfl, ?_⟩; replace HB := hq_ hb; clear hb))
      go_ret
      exact ⟨er_, bel_⟩
     replace H := bo_ H
     obtain ⟨cv, cQ, H⟩ := H
     try dsimp only at H
     obtain rfl := si_ H
     try go_wp2
     replace HO_4 := a_ (Kd.N_drew HO_4.out)
     replace HO_7 := a_ (And.intro (blk_drew HO_7.out.1) HO_7.out.2)
     replace HO_40 := a_ (Kd.N_drew HO_40.out)
     replace HO_638001 := a_ (Kd.R_drew HO_638001.out)
     replace HO_638003 := a_ (Kd.R_drew HO_638003.out)
     replace HO_638004 := a_ (Kd.R_drew HO_638004.out)
     replace HO_638005 := a_ (Kd.R_drew HO_638005.out)
     replace c := a_ (blk_drew c.out)
     replace HB := a_ (below_drew1 HB.out)
     refine start_ (n := 9) (S := fun w' => w'.cell? ⟨m, 0, none⟩ = some (.int .i64 21) ∧ w'.cell? ⟨m, 1, none⟩ = some (u638001) ∧ w'.cell? ⟨m, 2, none⟩ = some (.slice none 0 0) ∧ w'.cell? ⟨m, 3, none⟩ = some (u638003) ∧ w'.cell? ⟨m, 4, none⟩ = some (u638004) ∧ w'.cell? ⟨m, 5, none⟩ = some (u638005) ∧ w'.cell? ⟨m, 6, none⟩ = some (.int .i64 0) ∧ w'.cell? ⟨m, 7, none⟩ = some (.slice none 0 0)) (ds := []) #[false, false, false, false, false, false, false, false, false] kr_ rfl rfl (ca8_ c.out) (fun hHeld => ?_); refine with_tabW jigsawlaw20_GccAll.tab20 jigsawlaw20_GccAll.bits20 (fun HT_ HW_ => ?_)
     generalize wr.drew = w48 at HO_4 HO_7 HO_40 HO_638001 HO_638003 HO_638004 HO_638005 c HB hHeld ⊢
     refine pn_ 1 80 ao_ ?_
     refine tn_ 0 79 tw_ hHeld ?_
     refine onn_ 2 81 #[true, true, true, false, false, false, false, false, false] rfl rfl on_ (by decide) (fun K hK => ?_)
     refine goes_ Tryz.func11 kr_ rfl #[.slice O d.length G] (by rfl) rfl rfl ar_ ?_
     with_reducible refine (jigsawlaw20_doms.calls k3 _ _ d aq _ ?_ ?_ ?_ b1.out).mono ?_
     exact ca_ ((Kd.N_reads' HO_4.out).2.2)
     exact (Kd.N_reads' HO_4.out).2.1
     exact ca_ ((cb_ HRtab.out HB.out))
     rintro e w49 ⟨cw, rfl, Q, hb⟩
     refine ⟨_, rfl, ?_⟩
     have V := a_ (Kd.N_lower (nm_ (ok' := fun a => some a ≠ (.slice O d.length G : Value).ownBlock ∧ some a ≠ vm.ownBlock ∧ some a ≠ (.slice O d.length G : Value).ownBlock ∧ some a ≠ u638001.ownBlock ∧ some a ≠ u638003.ownBlock ∧ some a ≠ u638004.ownBlock ∧ some a ≠ u638005.ownBlock ∧ a ≠ m) Q (fun a hk_ => ⟨(fr_ (Kd.N_lt (vN_ HO_4.out)) a hk_), (fr_ (vml_ hvm (bk_ HO_7.out.1)) a hk_), (fr_ (Kd.N_lt (vN_ HO_40.out)) a hk_), (fr_ (rl_ (vR_ HO_638001.out)) a hk_), (fr_ (rl_ (vR_ HO_638003.out)) a hk_), (fr_ (rl_ (vR_ HO_638004.out)) a hk_), (fr_ (rl_ (vR_ HO_638005.out)) a hk_), (Kd.freshB (bk_ c.out) a hk_)⟩)) (bz_ bel_))
     replace HO_4 := a_ (Kd.N_elder' (vN_ HO_4.out) (Kd.N_base Q) hb)
     replace HO_7 := a_ (And.intro (bq_ HO_7.out.1 hb) HO_7.out.2)
     replace HO_40 := a_ (Kd.N_elder' (vN_ HO_40.out) (Kd.N_base Q) hb)
     replace HO_638001 := a_ (rb_ (vR_ HO_638001.out) hb)
     replace HO_638003 := a_ (rb_ (vR_ HO_638003.out) hb)
     replace HO_638004 := a_ (rb_ (vR_ HO_638004.out) hb)
     replace HO_638005 := a_ (rb_ (vR_ HO_638005.out) hb)
     replace c := a_ (bq_ c.out hb)
     replace HB := hq_ hb
     clear hb Q
     obtain ⟨aZ, a0, bq⟩ := Kd.R_slice HO_638001.out
     (first | subst bq | (injection bq with f1_ f2_ f3_; have f4_ := f1_.symm; have f5_ := f3_.symm; clear f1_ f2_ f3_; subst f4_; subst f5_))
     obtain ⟨a1, a2, br⟩ := Kd.R_slice HO_638003.out
     (first | subst br | (injection br with f1_ f2_ f3_; have f4_ := f1_.symm; have f5_ := f3_.symm; clear f1_ f2_ f3_; subst f4_; subst f5_))
     obtain ⟨a3, a4, bs⟩ := Kd.R_slice HO_638004.out
     (first | subst bs | (injection bs with f1_ f2_ f3_; have f4_ := f1_.symm; have f5_ := f3_.symm; clear f1_ f2_ f3_; subst f4_; subst f5_))
     obtain ⟨a5, a6, bu⟩ := Kd.R_slice HO_638005.out
     (first | subst bu | (injection bu with f1_ f2_ f3_; have f4_ := f1_.symm; have f5_ := f3_.symm; clear f1_ f2_ f3_; subst f4_; subst f5_))
     obtain ⟨cx, cy, bv⟩ := Kd.N_slice V.out
     (first | subst bv | (injection bv with f1_ f2_ f3_; have f4_ := f1_.symm; have f5_ := f3_.symm; clear f1_ f2_ f3_; subst f4_; subst f5_))
     refine hK.out _ _ (ca8_ c.out) (fun hHeld => ?_)
     clear hK K
     refine nor_ (N := some 81) ?_
     refine onn_ 3 82 #[true, true, true, true, false, false, false, false, false] rfl rfl on_ (by decide) (fun K hK => ?_)
     refine goes_ Tryz.func10 kr_ rfl #[.agg #[.int .i64 21, .slice aZ p.length a0, .slice none 0 0, .slice a1 x.length a2, .slice a3 y.length a4, .slice a5 z.length a6, .int .i64 0, .slice none 0 0], .slice cx aq.length cy] (by rfl) rfl rfl ar_ ?_
     refine (gcc_Filter.calls k3 21 _ _ p _ _ ([] : List Int) _ _ x _ _ y _ _ z 0 _ _ ([] : List (List Int)) (fun a => (some a ≠ (.slice O d.length G : Value).ownBlock ∧ (some a ≠ vm.ownBlock ∧ (some a ≠ (.slice O d.length G : Value).ownBlock ∧ (some a ≠ (.slice aZ p.length a0 : Value).ownBlock ∧ (some a ≠ (.slice a1 x.length a2 : Value).ownBlock ∧ (some a ≠ (.slice a3 y.length a4 : Value).ownBlock ∧ (some a ≠ (.slice a5 z.length a6 : Value).ownBlock ∧ a ≠ m)))))))) _ _ aq aN true _ ?side1 ?side2 ?side3 ?side4 ?side5 ?side6 ?side7 ?side8 ?side9 ?side10 ?side11 ?side12 ?side13 ?side14 b2.out).mono ?_
     (case side1 => exact ca_ ((rr_ HO_638001.out).2.2))
     (case side2 => exact (rr_ HO_638001.out).2.1)
     (case side3 => exact Kd.C_nil _ _)
     (case side4 => exact lr_ _)
     (case side5 => exact ca_ ((rr_ HO_638003.out).2.2))
     (case side6 => exact (rr_ HO_638003.out).2.1)
     (case side7 => exact ca_ ((rr_ HO_638004.out).2.2))
     (case side8 => exact (rr_ HO_638004.out).2.1)
     (case side9 => exact ca_ ((rr_ HO_638005.out).2.2))
     (case side10 => exact (rr_ HO_638005.out).2.1)
     (case side11 => exact Kd.C_nil _ _)
     (case side12 => exact lr_ _)
     (case side13 => exact Kd.N_V (V.out))
     (case side14 => exact ca_ ((cb_ HRtab.out HB.out)))
     rintro e w55 ⟨cz, rfl, Q, hb⟩
     refine ⟨_, rfl, ?_⟩
     replace V := a_ (Kd.N_elder' (vN_ V.out) (Kd.N_base Q) hb)
     have aQ := a_ (Kd.N_lower (nm_ (ok' := fun a => some a ≠ (.slice O d.length G : Value).ownBlock ∧ some a ≠ vm.ownBlock ∧ some a ≠ (.slice O d.length G : Value).ownBlock ∧ some a ≠ (.slice aZ p.length a0 : Value).ownBlock ∧ some a ≠ (.slice a1 x.length a2 : Value).ownBlock ∧ some a ≠ (.slice a3 y.length a4 : Value).ownBlock ∧ some a ≠ (.slice a5 z.length a6 : Value).ownBlock ∧ a ≠ m) Q (fun a hk_ => ⟨Or.elim hk_ (fun hs_ => hs_.1) (fun hn_ => (fr_ (Kd.N_lt (vN_ HO_4.out)) a hn_)), Or.elim hk_ (fun hs_ => hs_.2.1) (fun hn_ => (fr_ (vml_ hvm (bk_ HO_7.out.1)) a hn_)), Or.elim hk_ (fun hs_ => hs_.2.2.1) (fun hn_ => (fr_ (Kd.N_lt (vN_ HO_40.out)) a hn_)), Or.elim hk_ (fun hs_ => hs_.2.2.2.1) (fun hn_ => (fr_ (rl_ (vR_ HO_638001.out)) a hn_)), Or.elim hk_ (fun hs_ => hs_.2.2.2.2.1) (fun hn_ => (fr_ (rl_ (vR_ HO_638003.out)) a hn_)), Or.elim hk_ (fun hs_ => hs_.2.2.2.2.2.1) (fun hn_ => (fr_ (rl_ (vR_ HO_638004.out)) a hn_)), Or.elim hk_ (fun hs_ => hs_.2.2.2.2.2.2.1) (fun hn_ => (fr_ (rl_ (vR_ HO_638005.out)) a hn_)), Or.elim hk_ (fun hs_ => hs_.2.2.2.2.2.2.2) (fun hn_ => (Kd.freshB (bk_ c.out) a hn_))⟩)) (bz_ bel_))
     replace HO_4 := a_ (Kd.N_elder' (vN_ HO_4.out) (Kd.N_base Q) hb)
     replace HO_7 := a_ (And.intro (bq_ HO_7.out.1 hb) HO_7.out.2)
     replace HO_40 := a_ (Kd.N_elder' (vN_ HO_40.out) (Kd.N_base Q) hb)
     replace HO_638001 := a_ (rb_ (vR_ HO_638001.out) hb)
     replace HO_638003 := a_ (rb_ (vR_ HO_638003.out) hb)
     replace HO_638004 := a_ (rb_ (vR_ HO_638004.out) hb)
     replace HO_638005 := a_ (rb_ (vR_ HO_638005.out) hb)
     replace c := a_ (bq_ c.out hb)
     replace HB := hq_ hb
     clear hb Q
     refine hK.out _ _ (ca8_ c.out) (fun hHeld => ?_)
     clear hK K
     refine nor_ (N := some 82) ?_
     refine pn_ 4 78 ao_ ?_
     refine pn_ 5 83 ao_ ?_
     refine pn_ 6 84 ao_ ?_
     refine pn_ 7 12 ao_ ?_
     refine pn_ 8 13 ao_ ?_
     refine done_ dn_ ?_
     obtain ⟨cA, cB, cC⟩ := Kd.N_slice aQ.out
     subst cC
     have hu58 := Tryz.underlying58
     have az := a_ (Kd.N_reads' aQ.out).2.2
     have a2 := a_ (Kd.N_reads' aQ.out).2.1
     replace HRtab := a_ (cb_ HRtab.out HB.out)
     have zB := HB
     replace HB := a_ (Below.refl w55.heap.size w55)
     have H' : Aside0 (jigsawlaw20_GccFixed.l0 k3 aN aN (aN.length : Int) 0 = some cv) := a_ cQ.out
     try clear HO_4
     try clear HO_7
     try clear HO_40
     try clear HO_638001
     try clear HO_638003
     try clear HO_638004
     try clear HO_638005
     try clear V
     try clear aQ
     try clear c
     try clear hHeld
     go_wp2
     go_loopg [90] k3 (fun kq aK w' => ∃ (a : Int), aK = .int .i64 a ∧ Aside0 (jigsawlaw20_GccFixed.l0 kq aN aN (aN.length : Int) a = some cv) ∧ Aside0 (kq ≤ k3) ∧ Aside0 (Below w55.heap.size w55 w'))
     case atStart => exact ⟨(0), eq_, H', ⟨lr_ _⟩, ⟨bel_⟩⟩
     clear H'
     obtain ⟨a, rfl, HA, B, HB⟩ := hrel
     cases gk with
     | zero => exact absurd HA.out (by simp [jigsawlaw20_GccFixed.l0])
     | succ ka =>
      have H := HA.out
      clear HA
      simp only [jigsawlaw20_GccFixed.l0] at H
      replace H := cf_ H
      rcases H with ⟨c2b0, H⟩ | ⟨c2b0, H⟩
      ·
       replace H := bo_ H
       obtain ⟨aI, aR, H⟩ := H
       try dsimp only at H
       obtain rfl := si_ H
       go_wp2_with (first | ((with_reducible refine gate_callee (f := 13) rfl ?_); refine goesL_ (some 137) rfl rfl Tryz.func13 kr_ rfl #[] rfl ar_ ?_; (with_reducible refine (jigsawlaw20_wakes.calls ka aI _ ?_ aR.out).mono ?_); exact ca_ ((cb_ HRtab.out HB.out)); rintro e w42 ⟨rfl, hb⟩; refine ⟨_, rfl, ?_⟩; replace HB := hq_ hb; clear hb))
       go_ret
       exact ⟨er_, bp_ zB.out bel_⟩
      replace H := gu_ H
      obtain ⟨c3b0, H⟩ := H
      replace H := gu_ H
      obtain ⟨c4b0, H⟩ := H
      replace H := bo_ H
      obtain ⟨m, A5, H⟩ := H
      try dsimp only at H
      have H' := a_ H
      clear H
      have p452 : 0 ≤ (a : Int) := dq_
      have Y : a < (aN.length : Int) := dq_
      obtain ⟨aq, p, c452_1, aD, u, v, x, y, z, ab, ac⟩ := at_T58 az.out a p452 Y
      cases aD
      replace u := hx_ HB u
      replace v := hx_ HB v
      replace x := hx_ HB x
      replace y := hx_ HB y
      replace z := hx_ HB z
      have K := a_ ac
      have M := a_ ab
      clear ac ab
      replace p452 := et_ p452
      replace Y := et_ Y
      go_wp2_with (first | ((with_reducible refine gate_dst (N := 15) rfl ?_); refine bxe_ (N := 15) (cs := #[.int .i64 0, .slice none 0 0, .int .i64 0, .int .i64 0, .int .i64 0]) (t := 58) ?_; intro E hg w6 hbox hb; have d := a_ (hbox); have ar := a_ (by rw [hg]; exact (bz_ bel_) : w55.heap.size ≤ E); have aS := ar; replace HB := hq_ hb; clear hb hbox hg; obtain ⟨_, _, _, _, _, _, _, _, _, _⟩ := cel5_ d.out) | ((with_reducible refine gate_callee (f := 21) rfl ?_); refine goesL_ (some 96) rfl rfl Tryz.func21 kr_ rfl #[.agg #[.int .i64 ((rd_T58 aN a).f0), .slice p ((rd_T58 aN a).f1).length c452_1, .int .i64 ((rd_T58 aN a).f2), .int .i64 ((rd_T58 aN a).f3), .int .i64 ((rd_T58 aN a).f4)]] rfl ar_ ?_; (with_reducible refine (dom_Dom_List.calls ka ((rd_T58 aN a).f0) _ _ ((rd_T58 aN a).f1) ((rd_T58 aN a).f2) ((rd_T58 aN a).f3) ((rd_T58 aN a).f4) m _ ?_ ?_ ?_ A5.out).mono ?_); exact cb_ K.out bel_; exact M.out; exact cb_ HRtab.out bel_; rintro e w8 ⟨a1, rfl, aA, hb⟩; refine ⟨_, rfl, ?_⟩; have al := a_ (Kd.R_lower aA (bz_ bel_)); replace d := a_ (bb_ (g := E) (o := .cells #[.int .i64 ((rd_T58 aN a).f0), .slice p ((rd_T58 aN a).f1).length c452_1, .int .i64 ((rd_T58 aN a).f2), .int .i64 ((rd_T58 aN a).f3), .int .i64 ((rd_T58 aN a).f4)] 58 (0, 0)) (by refine bk_ ?_; refine bu_ (cs := #[.int .i64 ((rd_T58 aN a).f0), .slice p ((rd_T58 aN a).f1).length c452_1, .int .i64 ((rd_T58 aN a).f2), .int .i64 ((rd_T58 aN a).f3), .int .i64 0]) ?_ 4 _ rfl; refine bk_ ?_; refine bu_ (cs := #[.int .i64 ((rd_T58 aN a).f0), .slice p ((rd_T58 aN a).f1).length c452_1, .int .i64 ((rd_T58 aN a).f2), .int .i64 0, .int .i64 0]) ?_ 3 _ rfl; refine bk_ ?_; refine bu_ (cs := #[.int .i64 ((rd_T58 aN a).f0), .slice p ((rd_T58 aN a).f1).length c452_1, .int .i64 0, .int .i64 0, .int .i64 0]) ?_ 2 _ rfl; refine bk_ ?_; refine bu_ (cs := #[.int .i64 ((rd_T58 aN a).f0), .slice none 0 0, .int .i64 0, .int .i64 0, .int .i64 0]) ?_ 1 _ rfl; refine bk_ ?_; refine bu_ (cs := #[.int .i64 0, .slice none 0 0, .int .i64 0, .int .i64 0, .int .i64 0]) ?_ 0 _ rfl; refine bk_ ?_; exact d.out) hb); replace HB := hq_ hb; clear hb aA; obtain ⟨aL, an, aM⟩ := Kd.R_slice al.out; subst aM))
      go_loopg [98] ka (fun kq aNz w' => ∃ (l : Int), aNz = .int .i64 l ∧ Aside0 (jigsawlaw20_GccFixed.l1 kq aN a aN (aN.length : Int) a m (m.length : Int) l ((rd_T58 aN a).f0) ((rd_T58 aN a).f1) ((rd_T58 aN a).f2) ((rd_T58 aN a).f3) ((rd_T58 aN a).f4) = some cv) ∧ Aside0 (kq ≤ ka) ∧ Aside0 (Kd.R (Kd.int .i64) 3 w' w55.heap.size (fun _ => True) (.slice aL m.length an) m) ∧ Aside0 (w'.heap[E]? = some (.cells #[.int .i64 ((rd_T58 aN a).f0), (.slice p ((rd_T58 aN a).f1).length c452_1), .int .i64 ((rd_T58 aN a).f2), .int .i64 ((rd_T58 aN a).f3), .int .i64 ((rd_T58 aN a).f4)] 58 (0, 0))) ∧ Aside0 (Below w55.heap.size w55 w'))
      case atStart => exact ⟨(0), eq_, H', ⟨lr_ _⟩, ⟨vR_ al.out⟩, ⟨bk_ d.out⟩, ⟨bel_⟩⟩
      clear H'
      try clear c2
      try clear c2b0
      try clear p2
      try clear c3
      try clear c3b0
      try clear c4
      try clear c4b0
      try clear p4
      try clear q4
      try clear aB
      try clear c5
      try clear u
      try clear v
      try clear x
      try clear y
      try clear z
      try clear p452
      try clear Y
      obtain ⟨l, rfl, HA, F, HO_96, d, HB⟩ := hrel
      cases gk with
      | zero => exact absurd HA.out (by simp [jigsawlaw20_GccFixed.l1])
      | succ kb =>
       have H := HA.out
       clear HA
       simp only [jigsawlaw20_GccFixed.l1] at H
       replace H := cf_ H
       rcases H with ⟨c10b0, H⟩ | ⟨c10b0, H⟩
       ·
        have H' := a_ H
        clear H
        go_wp2
        go_roundg kb
        case measure => have := B.out; have := F.out; omega
        exact ⟨(wrap64 (a + 1)), eq_, H', ⟨by have := B.out; have := F.out; omega⟩, ⟨bel_⟩⟩
       replace H := gu_ H
       obtain ⟨c11b0, H⟩ := H
       replace H := gu_ H
       obtain ⟨c12b0, H⟩ := H
       have H' := a_ H
       clear H
       have p457 : 0 ≤ (l : Int) := dq_
       have aa : l < (m.length : Int) := dq_
       obtain ⟨am, aE, ad⟩ := ai_ (rr_ HO_96.out).2.2 l p457 aa
       cases aE
       replace p457 := et_ p457
       replace aa := et_ aa
       go_wp2
       go_loopg [18, 104] kb (fun kq ao aF w' => ∃ (q : Int) (b : Int), ao = .int .i64 q ∧ aF = .int .i64 b ∧ Aside0 (jigsawlaw20_GccFixed.l2 kq aN a (rd m l) q aN (aN.length : Int) a m (m.length : Int) l aN (aN.length : Int) b ((rd_T58 aN a).f0) ((rd_T58 aN a).f1) ((rd_T58 aN a).f2) ((rd_T58 aN a).f3) ((rd_T58 aN a).f4) = some cv) ∧ Aside0 (kq ≤ kb) ∧ Aside0 (Kd.R (Kd.int .i64) 3 w' w55.heap.size (fun _ => True) (.slice (some am) m.length an) m) ∧ Aside0 (w'.heap[E]? = some (.cells #[.int .i64 ((rd_T58 aN a).f0), (.slice p ((rd_T58 aN a).f1).length c452_1), .int .i64 ((rd_T58 aN a).f2), .int .i64 ((rd_T58 aN a).f3), .int .i64 ((rd_T58 aN a).f4)] 58 (0, 0))) ∧ Aside0 (Below w55.heap.size w55 w'))
       case atStart => exact ⟨(0), (0), eq_, eq_, H', ⟨lr_ _⟩, ⟨vR_ HO_96.out⟩, ⟨bk_ d.out⟩, ⟨bel_⟩⟩
       clear H'
       try clear c1
       try clear c2
       try clear c2b0
       try clear p2
       try clear c3
       try clear c3b0
       try clear c4
       try clear c4b0
       try clear p4
       try clear q4
       try clear aB
       try clear c5
       try clear c10
       try clear c10b0
       try clear c11
       try clear c11b0
       try clear c12
       try clear c12b0
       try clear u
       try clear v
       try clear x
       try clear y
       try clear z
       try clear ad
       try clear p2
       try clear p4
       try clear p452
       try clear p457
       try clear q4
       try clear Y
       try clear aa
       obtain ⟨q, b, rfl, rfl, HA, I, HO_96, d, HB⟩ := hrel
       cases gk with
       | zero => exact absurd HA.out (by simp [jigsawlaw20_GccFixed.l2])
       | succ kc =>
        have H := HA.out
        clear HA
        simp only [jigsawlaw20_GccFixed.l2] at H
        replace H := cf_ H
        rcases H with ⟨c13b0, H⟩ | ⟨c13b0, H⟩
        ·
         replace H := ef_ H
         rcases H with ⟨c36, c36b0, c36b1, H⟩ | ⟨-, c36b0, c36b1, H⟩
         ·
          have H' := a_ H
          clear H
          go_wp2
          go_roundg kc
          case measure => have := B.out; have := F.out; have := I.out; omega
          exact ⟨(wrap64 (l + 1)), eq_, H', ⟨by have := B.out; have := F.out; have := I.out; omega⟩, ⟨vR_ HO_96.out⟩, ⟨bk_ d.out⟩, ⟨bel_⟩⟩
         replace H := bo_ H
         obtain ⟨ak, aQ, H⟩ := H
         try dsimp only at H
         replace H := gn_ H
         obtain ⟨c38, H⟩ := H
         have c38b0 : decide (1 < ak) = false := df_ c38
         clear c38
         have H' := a_ H
         clear H
         obtain ⟨_, _, _, _, _, _, _, _, _, _⟩ := cel5_ d.out
         go_wp2_with (first | (go_at_call 23; (with_reducible refine (dom_Dom_Size.calls ((rd_T58 aN a).f0) _ _ ((rd_T58 aN a).f1) ((rd_T58 aN a).f2) ((rd_T58 aN a).f3) ((rd_T58 aN a).f4) ak _ ?_ ?_ aQ.out).mono ?_); exact ca_ ((cb_ K.out HB.out)); exact M.out; rintro e w40 ⟨rfl, hb⟩; replace HO_96 := a_ (rb_ (vR_ HO_96.out) hb); replace d := a_ (bq_ d.out hb); replace HB := hq_ hb; clear hb))
         go_roundg kc
         case measure => have := B.out; have := F.out; have := I.out; omega
         exact ⟨(wrap64 (l + 1)), eq_, H', ⟨by have := B.out; have := F.out; have := I.out; omega⟩, ⟨vR_ HO_96.out⟩, ⟨bk_ d.out⟩, ⟨bel_⟩⟩
        replace H := gu_ H
        obtain ⟨c14b0, H⟩ := H
        replace H := gu_ H
        obtain ⟨c15b0, H⟩ := H
        replace H := bo_ H
        obtain ⟨ap, aO, H⟩ := H
        try dsimp only at H
        have aj := a_ H
        clear H
        have p459 : 0 ≤ (b : Int) := dq_
        have ai : b < (aN.length : Int) := dq_
        obtain ⟨av, G, c459_1, aG, O, P, Q, U, V, ae, af⟩ := at_T58 az.out b p459 ai
        obtain rfl : aq = av := (by injection aG)
        replace O := hx_ HB O
        replace P := hx_ HB P
        replace Q := hx_ HB Q
        replace U := hx_ HB U
        replace V := hx_ HB V
        have ag := a_ af
        have ah := a_ ae
        clear af ae
        replace p459 := et_ p459
        replace ai := et_ ai
        go_upto_if 111 with (first | ((with_reducible refine gate_dst (N := 20) rfl ?_); refine bxe_ (N := 20) (cs := #[.int .i64 0, .slice none 0 0, .int .i64 0, .int .i64 0, .int .i64 0]) (t := 58) ?_; intro X hg w18 hbox hb; replace HO_96 := a_ (rb_ (vR_ HO_96.out) hb); have s := a_ (hbox); have aw := a_ (by rw [hg]; exact (bz_ bel_) : w55.heap.size ≤ X); have aT := aw; replace HB := hq_ hb; have n := a_ ((by rw [hg]; exact Nat.ne_of_lt (blk_lt (bk_ d.out)) : E ≠ X)); have J := a_ ((by rw [hg]; exact Nat.ne_of_gt (blk_lt (bk_ d.out)) : X ≠ E)); replace d := a_ (bq_ d.out hb); clear hb hbox hg; have aU := J.out; have aV := n.out; obtain ⟨_, _, _, _, _, _, _, _, _, _⟩ := cel5_ s.out) | ((with_reducible refine gate_callee (f := 22) rfl ?_); refine goesL_ (some 111) rfl rfl Tryz.func22 kr_ rfl #[.agg #[.int .i64 ((rd_T58 aN b).f0), .slice G ((rd_T58 aN b).f1).length c459_1, .int .i64 ((rd_T58 aN b).f2), .int .i64 ((rd_T58 aN b).f3), .int .i64 ((rd_T58 aN b).f4)], .int .i64 (rd m l)] rfl ar_ ?_; (with_reducible refine (dom_Dom_Has.calls ((rd_T58 aN b).f0) _ _ ((rd_T58 aN b).f1) ((rd_T58 aN b).f2) ((rd_T58 aN b).f3) ((rd_T58 aN b).f4) (rd m l) ap _ ?_ ?_ aO.out).mono ?_); exact cb_ ag.out bel_; exact ah.out; rintro e w21 ⟨rfl, hb⟩; refine ⟨_, rfl, ?_⟩; replace HO_96 := a_ (rb_ (by refine vR_ ?_; exact (rm_ (fR_ (fR_ (fR_ (fR_ (fR_ (rt_ HO_96.out s.out (by decide))))))) (fun _ h_ => h_.1))) hb); replace d := a_ (bb_ (g := E) (o := .cells #[.int .i64 ((rd_T58 aN a).f0), .slice p ((rd_T58 aN a).f1).length c452_1, .int .i64 ((rd_T58 aN a).f2), .int .i64 ((rd_T58 aN a).f3), .int .i64 ((rd_T58 aN a).f4)] 58 (0, 0)) (by refine bk_ ?_; refine blk_far ?_ n.out _; refine bk_ ?_; refine blk_far ?_ n.out _; refine bk_ ?_; refine blk_far ?_ n.out _; refine bk_ ?_; refine blk_far ?_ n.out _; refine bk_ ?_; refine blk_far ?_ n.out _; refine bk_ ?_; exact d.out) hb); replace s := a_ (bb_ (g := X) (o := .cells #[.int .i64 ((rd_T58 aN b).f0), .slice G ((rd_T58 aN b).f1).length c459_1, .int .i64 ((rd_T58 aN b).f2), .int .i64 ((rd_T58 aN b).f3), .int .i64 ((rd_T58 aN b).f4)] 58 (0, 0)) (by refine bk_ ?_; refine bu_ (cs := #[.int .i64 ((rd_T58 aN b).f0), .slice G ((rd_T58 aN b).f1).length c459_1, .int .i64 ((rd_T58 aN b).f2), .int .i64 ((rd_T58 aN b).f3), .int .i64 0]) ?_ 4 _ rfl; refine bk_ ?_; refine bu_ (cs := #[.int .i64 ((rd_T58 aN b).f0), .slice G ((rd_T58 aN b).f1).length c459_1, .int .i64 ((rd_T58 aN b).f2), .int .i64 0, .int .i64 0]) ?_ 3 _ rfl; refine bk_ ?_; refine bu_ (cs := #[.int .i64 ((rd_T58 aN b).f0), .slice G ((rd_T58 aN b).f1).length c459_1, .int .i64 0, .int .i64 0, .int .i64 0]) ?_ 2 _ rfl; refine bk_ ?_; refine bu_ (cs := #[.int .i64 ((rd_T58 aN b).f0), .slice none 0 0, .int .i64 0, .int .i64 0, .int .i64 0]) ?_ 1 _ rfl; refine bk_ ?_; refine bu_ (cs := #[.int .i64 0, .slice none 0 0, .int .i64 0, .int .i64 0, .int .i64 0]) ?_ 0 _ rfl; refine bk_ ?_; exact s.out) hb); replace HB := hq_ hb; clear hb))
        (try simp only [Act.put, List.setIfInBounds_toArray, List.set_cons_zero, List.set_cons_succ])
        go_cut [18] (fun ao wc => ∃ (kq : Nat) (A : Int), ao = .int .i64 A ∧ Aside0 (jigsawlaw20_GccFixed.j3 kq aN a (rd m l) A b aN (aN.length : Int) a m (m.length : Int) l aN (aN.length : Int) b ((rd_T58 aN a).f0) ((rd_T58 aN a).f1) ((rd_T58 aN a).f2) ((rd_T58 aN a).f3) ((rd_T58 aN a).f4) ((rd_T58 aN b).f0) ((rd_T58 aN b).f1) ((rd_T58 aN b).f2) ((rd_T58 aN b).f3) ((rd_T58 aN b).f4) = some cv) ∧ Aside0 (kq ≤ kc) ∧ Aside0 (Kd.R (Kd.int .i64) 3 wc w55.heap.size (fun _ => True) (.slice (some am) m.length an) m) ∧ Aside0 (wc.heap[E]? = some (.cells #[.int .i64 ((rd_T58 aN a).f0), (.slice p ((rd_T58 aN a).f1).length c452_1), .int .i64 ((rd_T58 aN a).f2), .int .i64 ((rd_T58 aN a).f3), .int .i64 ((rd_T58 aN a).f4)] 58 (0, 0))) ∧ Aside0 (wc.heap[X]? = some (.cells #[.int .i64 ((rd_T58 aN b).f0), (.slice G ((rd_T58 aN b).f1).length c459_1), .int .i64 ((rd_T58 aN b).f2), .int .i64 ((rd_T58 aN b).f3), .int .i64 ((rd_T58 aN b).f4)] 58 (0, 0))) ∧ Aside0 (Below w55.heap.size w55 wc))
        case first =>
         have H := aj.out
         clear aj
         replace H := ht_ H
         rcases H with ⟨rfl, H⟩ | ⟨rfl, H⟩
         ·
          have H' := a_ H
          clear H
          go_wp2
          go_meet
          exact ⟨_, (wrap64 (q + 1)), eq_, H', ⟨by have := B.out; have := F.out; have := I.out; first | omega | exact lr_ _⟩, ⟨vR_ HO_96.out⟩, ⟨bk_ d.out⟩, ⟨bk_ s.out⟩, ⟨bel_⟩⟩
         have H' := a_ H
         clear H
         go_wp2
         go_meet
         exact ⟨_, (q), eq_, H', ⟨by have := B.out; have := F.out; have := I.out; first | omega | exact lr_ _⟩, ⟨vR_ HO_96.out⟩, ⟨bk_ d.out⟩, ⟨bk_ s.out⟩, ⟨bel_⟩⟩
        clear aj
        try clear c1
        try clear c2
        try clear c2b0
        try clear p2
        try clear c3
        try clear c3b0
        try clear c4
        try clear c4b0
        try clear p4
        try clear q4
        try clear aB
        try clear c5
        try clear p6
        try clear c10
        try clear c10b0
        try clear c11
        try clear c11b0
        try clear c12
        try clear c12b0
        try clear c13
        try clear c13b0
        try clear c14
        try clear c14b0
        try clear c15
        try clear c15b0
        try clear c19
        try clear c21
        try clear c22
        try clear u
        try clear v
        try clear x
        try clear y
        try clear z
        try clear ad
        try clear O
        try clear P
        try clear Q
        try clear U
        try clear V
        try clear p2
        try clear p4
        try clear p452
        try clear p457
        try clear p459
        try clear q4
        try clear Y
        try clear aa
        try clear ai
        obtain ⟨kq, A, rfl, HA, Z, HO_96, d, s, HB⟩ := hcut
        cases kq with
        | zero => exact absurd HA.out (by simp [jigsawlaw20_GccFixed.j3])
        | succ kj16 =>
         have H := HA.out
         clear HA
         simp only [jigsawlaw20_GccFixed.j3] at H
         replace H := eg_ H
         rcases H with ⟨-, c23b0, c23b1, H⟩ | ⟨c23, c23b0, c23b1, H⟩
         ·
          have H' := a_ H
          clear H
          go_wp2
          go_roundg kj16
          case measure => have := B.out; have := F.out; have := I.out; have := Z.out; omega
          exact ⟨(A), (wrap64 (b + 1)), eq_, eq_, H', ⟨by have := B.out; have := F.out; have := I.out; have := Z.out; omega⟩, ⟨vR_ HO_96.out⟩, ⟨bk_ d.out⟩, ⟨bel_⟩⟩
         replace H := bo_ H
         obtain ⟨W, aC, H⟩ := H
         try dsimp only at H
         replace H := ef_ H
         rcases H with ⟨c25, c25b0, c25b1, H⟩ | ⟨-, c25b0, c25b1, H⟩
         ·
          have H' := a_ H
          clear H
          have aY := n.out
          have aZ := J.out
          obtain ⟨_, _, _, _, _, _, _, _, _, _⟩ := cel5_ d.out
          go_wp2_with (first | (go_at_call 23; (with_reducible refine (dom_Dom_Size.calls ((rd_T58 aN a).f0) _ _ ((rd_T58 aN a).f1) ((rd_T58 aN a).f2) ((rd_T58 aN a).f3) ((rd_T58 aN a).f4) W _ ?_ ?_ aC.out).mono ?_); exact ca_ ((cb_ K.out HB.out)); exact M.out; rintro e w35 ⟨rfl, hb⟩; replace HO_96 := a_ (rb_ (vR_ HO_96.out) hb); replace d := a_ (bq_ d.out hb); replace HB := hq_ hb; clear hb))
          go_roundg kj16
          case measure => have := B.out; have := F.out; have := I.out; have := Z.out; omega
          exact ⟨(A), (wrap64 (b + 1)), eq_, eq_, H', ⟨by have := B.out; have := F.out; have := I.out; have := Z.out; omega⟩, ⟨vR_ HO_96.out⟩, ⟨bk_ d.out⟩, ⟨bel_⟩⟩
         replace H := bo_ H
         obtain ⟨aH, aP, H⟩ := H
         try dsimp only at H
         replace H := gf_ H
         obtain ⟨rfl, H⟩ := H
         have H' := a_ H
         clear H
         have aW := n.out
         have aX := J.out
         obtain ⟨_, _, _, _, _, _, _, _, _, _⟩ := cel5_ d.out
         go_wp2_with (first | (go_at_call 23; (with_reducible refine (dom_Dom_Size.calls ((rd_T58 aN a).f0) _ _ ((rd_T58 aN a).f1) ((rd_T58 aN a).f2) ((rd_T58 aN a).f3) ((rd_T58 aN a).f4) W _ ?_ ?_ aC.out).mono ?_); exact ca_ ((cb_ K.out HB.out)); exact M.out; rintro e w30 ⟨rfl, hb⟩; replace HO_96 := a_ (rb_ (vR_ HO_96.out) hb); replace d := a_ (bq_ d.out hb); replace s := a_ (bq_ s.out hb); replace HB := hq_ hb; clear hb; obtain ⟨_, _, _, _, _, _, _, _, _, _⟩ := cel5_ s.out) | (go_at_call 22; (with_reducible refine (dom_Dom_Has.calls ((rd_T58 aN b).f0) _ _ ((rd_T58 aN b).f1) ((rd_T58 aN b).f2) ((rd_T58 aN b).f3) ((rd_T58 aN b).f4) (rd m l) false _ ?_ ?_ aP.out).mono ?_); exact ca_ ((cb_ ag.out HB.out)); exact ah.out; rintro e w32 ⟨rfl, hb⟩; replace HO_96 := a_ (rb_ (vR_ HO_96.out) hb); replace d := a_ (bq_ d.out hb); replace HB := hq_ hb; clear hb))
         go_roundg kj16
         case measure => have := B.out; have := F.out; have := I.out; have := Z.out; omega
         exact ⟨(A), (wrap64 (b + 1)), eq_, eq_, H', ⟨by have := B.out; have := F.out; have := I.out; have := Z.out; omega⟩, ⟨vR_ HO_96.out⟩, ⟨bk_ d.out⟩, ⟨bel_⟩⟩
    replace H := gu_ H
    obtain ⟨c16b0, H⟩ := H
    replace H := gu_ H
    obtain ⟨c17b0, H⟩ := H
    have H' := a_ H
    clear H
    have p641 : 0 ≤ (l : Int) := dq_
    have ax : l < (d.length : Int) := dq_
    obtain ⟨aw, cO, c641_0, cl, az, aA, aC⟩ := at_L7 (Kd.N_reads' HO_40.out).2.2 l p641 ax
    cases cl
    obtain ⟨ce641, hce641, hMe641, hcc641⟩ := Kd.N_get HO_40.out [] l p641 (by first | exact ax | exact dq_ | (have e_ := (Kd.N_reads' HO_40.out).1; omega))
    obtain ⟨ua641_0, uc641_0, rfl, aD, aE⟩ := Kd.FK_slice_open hMe641
    have ad := hcc641 0 _ rfl
    rw [Nat.add_zero, show ((Kd.slice 3 (Kd.int .i64))).sz = 1 from rfl, Nat.mul_one] at ad
    replace ad := si_ (ad.symm.trans az)
    injection ad with hva_ hvn_ hvc_
    rw [hva_] at aE
    rw [hvc_] at aD
    have HL := a_ (show Kd.V (Kd.int .i64) 3 _ w.heap.size _ _ (rd_L7 d l) from Kd.V_mk aD aE)
    clear hva_ hvn_ hvc_ aE aD hcc641 hce641
    have aG := a_ aC
    have cF := a_ aA
    clear aC aA
    replace p641 := et_ p641
    replace ax := et_ ax
    go_wp2
    go_loopg [48] k3 (fun kq cP w' => ∃ (A : List Int) (om : Obj) (q : Int) (v : List Int) (u : List Int) (s : List Int) (u638003 : Value) (u638004 : Value) (u638005 : Value), cP = .int .i64 q ∧ Aside0 (jigsawlaw20_GccAll.l2 kq d A d (d.length : Int) l (rd_L7 d l) ((rd_L7 d l).length : Int) q 21 p v u s 0 = some r) ∧ Aside0 (kq ≤ k3) ∧ Aside0 (Kd.N (Kd.slice 3 (Kd.int .i64)) 30 w' w.heap.size (fun a => some a ≠ vm.ownBlock ∧ some a ≠ u638001.ownBlock ∧ some a ≠ u638003.ownBlock ∧ some a ≠ u638004.ownBlock ∧ some a ≠ u638005.ownBlock ∧ a ≠ m) (.slice (some aw) d.length G) d) ∧ Aside0 (w'.heap[mb]? = some om ∧ MO om A) ∧ Aside0 (Kd.V (Kd.int .i64) 3 w' w.heap.size (fun a => some a ≠ vm.ownBlock ∧ some a ≠ u638001.ownBlock ∧ some a ≠ u638003.ownBlock ∧ some a ≠ u638004.ownBlock ∧ some a ≠ u638005.ownBlock ∧ a ≠ m) (.slice cO (rd_L7 d l).length c641_0) (rd_L7 d l)) ∧ Aside0 (Kd.R (Kd.int .i64) 3 w' w.heap.size (fun a => some a ≠ vm.ownBlock ∧ some a ≠ u638003.ownBlock ∧ some a ≠ u638004.ownBlock ∧ some a ≠ u638005.ownBlock) u638001 p) ∧ Aside0 (Kd.R (Kd.int .i64) 3 w' w.heap.size (fun a => some a ≠ vm.ownBlock ∧ some a ≠ u638001.ownBlock ∧ some a ≠ u638004.ownBlock ∧ some a ≠ u638005.ownBlock) u638003 v) ∧ Aside0 (Kd.R (Kd.int .i64) 3 w' w.heap.size (fun a => some a ≠ vm.ownBlock ∧ some a ≠ u638001.ownBlock ∧ some a ≠ u638003.ownBlock ∧ some a ≠ u638005.ownBlock) u638004 u) ∧ Aside0 (Kd.R (Kd.int .i64) 3 w' w.heap.size (fun a => some a ≠ vm.ownBlock ∧ some a ≠ u638001.ownBlock ∧ some a ≠ u638003.ownBlock ∧ some a ≠ u638004.ownBlock) u638005 s) ∧ Aside0 (w'.heap[m]? = some (.cells #[.int .i64 21, u638001, (.slice none 0 0), u638003, u638004, u638005, .int .i64 0, (.slice none 0 0)] 32 (0, 0))) ∧ Aside0 (Below w.heap.size w w'))
    case atStart => exact ⟨(aM), (om), (0), (x), (y), (z), (u638003), (u638004), (u638005), eq_, H', ⟨lr_ _⟩, ⟨vN_ HO_4.out⟩, ⟨⟨bk_ HO_7.out.1, HO_7.out.2⟩⟩, ⟨vV_ (vm_ HL.out (fun _ h_ => h_.1))⟩, ⟨vR_ HO_638001.out⟩, ⟨vR_ HO_638003.out⟩, ⟨vR_ HO_638004.out⟩, ⟨vR_ HO_638005.out⟩, ⟨bk_ c.out⟩, ⟨bel_⟩⟩
    clear H'
    try clear c1
    try clear p2
    try clear c6
    try clear p6
    try clear q6
    try clear c0
    try clear c8
    try clear c8b0
    try clear c9
    try clear c15
    try clear c15b0
    try clear c16
    try clear c16b0
    try clear c17
    try clear c17b0
    try clear az
    try clear p2
    try clear p6
    try clear p641
    try clear ax
    obtain ⟨A, om, q, v, u, s, u638003, u638004, u638005, rfl, HA, aH, HO_4, HO_7, HO_40, HO_638001, HO_638003, HO_638004, HO_638005, c, HB⟩ := hrel
    cases gk with
    | zero => exact absurd HA.out (by simp [jigsawlaw20_GccAll.l2])
    | succ k4 =>
     have H := HA.out
     clear HA
     simp only [jigsawlaw20_GccAll.l2] at H
     replace H := cf_ H
     rcases H with ⟨c18b0, H⟩ | ⟨c18b0, H⟩
     ·
      have H' := a_ H
      clear H
      go_wp2
      go_roundg k4
      case measure => have := ar.out; have := au.out; have := ay.out; have := aH.out; omega
      exact ⟨(A), (om), (wrap64 (l + 1)), (v), (u), (s), (u638003), (u638004), (u638005), eq_, H', ⟨by have := ar.out; have := au.out; have := ay.out; have := aH.out; omega⟩, ⟨vN_ HO_4.out⟩, ⟨⟨bk_ HO_7.out.1, HO_7.out.2⟩⟩, ⟨vN_ HO_4.out⟩, ⟨vR_ HO_638001.out⟩, ⟨vR_ HO_638003.out⟩, ⟨vR_ HO_638004.out⟩, ⟨vR_ HO_638005.out⟩, ⟨bk_ c.out⟩, ⟨bel_⟩⟩
     replace H := gu_ H
     obtain ⟨c19b0, H⟩ := H
     replace H := gu_ H
     obtain ⟨c20b0, H⟩ := H
     replace H := gn_ H
     obtain ⟨c21, H⟩ := H
     have c21b0 : decide (1000 < (rd (rd_L7 d l) q)) = false := df_ c21
     clear c21
     replace H := gn_ H
     obtain ⟨c22, H⟩ := H
     have c22b0 : decide ((rd (rd_L7 d l) q) < (-1000)) = false := df_ c22
     clear c22
     have hwf := wfn c21b0 c22b0
     replace H := bo_ H
     obtain ⟨bm, b0, H⟩ := H
     try dsimp only at H
     replace H := ga_ H
     obtain ⟨LMc24, H⟩ := H
     obtain ⟨ac, al⟩ : ∃ y_ : List Int, y_ = (A ++ [rd (rd_L7 d l) q]) := ⟨_, rfl⟩
     replace H : (if bm = true then (jigsawlaw20_GccAll.l2 k4 d ac d (d.length : Int) l (rd_L7 d l) ((rd_L7 d l).length : Int) (wrap64 (q + 1)) 21 p v u s 0) else (if v.length < 17592186044416 then (if u.length < 17592186044416 then (if s.length < 17592186044416 then (jigsawlaw20_GccAll.l2 k4 d ac d (d.length : Int) l (rd_L7 d l) ((rd_L7 d l).length : Int) (wrap64 (q + 1)) 21 p (v ++ [rd (rd_L7 d l) q]) (u ++ [1]) (s ++ [1]) 0) else (none)) else (none)) else (none))) = some r := h2_ H al
     have bh := a_ al
     clear al
     have hcn := cnt_new (A := A) (x := rd (rd_L7 d l) q) (b := bm) (by have h_ := has_inv LMc24.out k4 0 bm b0.out; rwa [List.drop_zero] at h_)
     rw [← bh.out] at hcn
     replace H := ht_ H
     rcases H with ⟨rfl, H⟩ | ⟨rfl, H⟩
     ·
      have H' := a_ H
      clear H
      obtain ⟨bU, aX, P, p642, aj⟩ := ak_ (a_ (Kd.V_reads' HO_40.out).2.2) q
      cases aX
      go_wp2_with (first | (at_lookup; first | refine mo_look (bk_ M.out.1) M.out.2 (rd (rd_L7 d l) q) hwf rfl _ _ rfl rfl rfl ?_ | refine mo_look (bk_ HO_7.out.1) HO_7.out.2 (rd (rd_L7 d l) q) hwf rfl _ _ rfl rfl rfl ?_) | (at_mapUpdate; refine mo_put (bk_ HO_7.out.1) HO_7.out.2 (rd (rd_L7 d l) q) hwf LMc24.out rfl _ _ _ rfl rfl rfl rfl ?_; intro w25 o25 ho hmo hg; rw [← bh.out] at hmo; rw [← hvm] at hg; have hat := vat_ vm wr; replace HO_4 := a_ (Kd.N_afterv (ok := (fun a => some a ≠ u638001.ownBlock ∧ some a ≠ u638003.ownBlock ∧ some a ≠ u638004.ownBlock ∧ some a ≠ u638005.ownBlock ∧ a ≠ m)) (by refine vN_ ?_; exact nm_ HO_4.out (fun _ hk => ⟨⟨hk.2.1, ⟨hk.2.2.1, ⟨hk.2.2.2.1, ⟨hk.2.2.2.2.1, hk.2.2.2.2.2⟩⟩⟩⟩, hk.1⟩)) hg hat); replace HO_40 := a_ (Kd.V_afterv (ok := (fun a => some a ≠ u638001.ownBlock ∧ some a ≠ u638003.ownBlock ∧ some a ≠ u638004.ownBlock ∧ some a ≠ u638005.ownBlock ∧ a ≠ m)) (by refine vV_ ?_; exact vm_ HO_40.out (fun _ hk => ⟨⟨hk.2.1, ⟨hk.2.2.1, ⟨hk.2.2.2.1, ⟨hk.2.2.2.2.1, hk.2.2.2.2.2⟩⟩⟩⟩, hk.1⟩)) hg hat); replace HO_638001 := a_ (Kd.R_after (ok := (fun a => some a ≠ u638003.ownBlock ∧ some a ≠ u638004.ownBlock ∧ some a ≠ u638005.ownBlock)) (by refine vR_ ?_; exact rm_ HO_638001.out (fun _ hk => ⟨⟨hk.2.1, ⟨hk.2.2.1, hk.2.2.2⟩⟩, hk.1⟩)) hg hat); replace HO_638003 := a_ (Kd.R_after (ok := (fun a => some a ≠ u638001.ownBlock ∧ some a ≠ u638004.ownBlock ∧ some a ≠ u638005.ownBlock)) (by refine vR_ ?_; exact rm_ HO_638003.out (fun _ hk => ⟨⟨hk.2.1, ⟨hk.2.2.1, hk.2.2.2⟩⟩, hk.1⟩)) hg hat); replace HO_638004 := a_ (Kd.R_after (ok := (fun a => some a ≠ u638001.ownBlock ∧ some a ≠ u638003.ownBlock ∧ some a ≠ u638005.ownBlock)) (by refine vR_ ?_; exact rm_ HO_638004.out (fun _ hk => ⟨⟨hk.2.1, ⟨hk.2.2.1, hk.2.2.2⟩⟩, hk.1⟩)) hg hat); replace HO_638005 := a_ (Kd.R_after (ok := (fun a => some a ≠ u638001.ownBlock ∧ some a ≠ u638003.ownBlock ∧ some a ≠ u638004.ownBlock)) (by refine vR_ ?_; exact rm_ HO_638005.out (fun _ hk => ⟨⟨hk.2.1, ⟨hk.2.2.1, hk.2.2.2⟩⟩, hk.1⟩)) hg hat); replace c := a_ (blk_grown (bk_ c.out) hg (nebox hvm (bk_ HO_7.out.1) HO_7.out.2 (bk_ c.out))); replace HB := a_ (mbelow bel_ hg hvm hmw.out); have M := a_ (And.intro ho hmo); clear HO_7; clear ho hmo hg hat))
      go_roundg k4
      case measure => have := ar.out; have := au.out; have := ay.out; have := aH.out; omega
      exact ⟨(ac), (o25), (wrap64 (q + 1)), (v), (u), (s), (u638003), (u638004), (u638005), eq_, H', ⟨by have := ar.out; have := au.out; have := ay.out; have := aH.out; omega⟩, ⟨by refine vN_ ?_; exact nm_ HO_4.out (fun _ hk => ⟨hk.2, ⟨hk.1.1, ⟨hk.1.2.1, ⟨hk.1.2.2.1, ⟨hk.1.2.2.2.1, hk.1.2.2.2.2⟩⟩⟩⟩⟩)⟩, ⟨⟨bk_ M.out.1, M.out.2⟩⟩, ⟨by refine vV_ ?_; exact vm_ HO_40.out (fun _ hk => ⟨hk.2, ⟨hk.1.1, ⟨hk.1.2.1, ⟨hk.1.2.2.1, ⟨hk.1.2.2.2.1, hk.1.2.2.2.2⟩⟩⟩⟩⟩)⟩, ⟨by refine vR_ ?_; exact rm_ HO_638001.out (fun _ hk => ⟨hk.2, ⟨hk.1.1, ⟨hk.1.2.1, hk.1.2.2⟩⟩⟩)⟩, ⟨by refine vR_ ?_; exact rm_ HO_638003.out (fun _ hk => ⟨hk.2, ⟨hk.1.1, ⟨hk.1.2.1, hk.1.2.2⟩⟩⟩)⟩, ⟨by refine vR_ ?_; exact rm_ HO_638004.out (fun _ hk => ⟨hk.2, ⟨hk.1.1, ⟨hk.1.2.1, hk.1.2.2⟩⟩⟩)⟩, ⟨by refine vR_ ?_; exact rm_ HO_638005.out (fun _ hk => ⟨hk.2, ⟨hk.1.1, ⟨hk.1.2.1, hk.1.2.2⟩⟩⟩)⟩, ⟨bk_ c.out⟩, ⟨bel_⟩⟩
     replace H := ga_ H
     obtain ⟨LMc28, H⟩ := H
     obtain ⟨B, am⟩ : ∃ y_ : List Int, y_ = (v ++ [rd (rd_L7 d l) q]) := ⟨_, rfl⟩
     replace H : (if u.length < 17592186044416 then (if s.length < 17592186044416 then (jigsawlaw20_GccAll.l2 k4 d ac d (d.length : Int) l (rd_L7 d l) ((rd_L7 d l).length : Int) (wrap64 (q + 1)) 21 p B (u ++ [1]) (s ++ [1]) 0) else (none)) else (none)) = some r := h2_ H am
     have bV := a_ am
     clear am
     replace H := ga_ H
     obtain ⟨LMc29, H⟩ := H
     obtain ⟨U, an⟩ : ∃ y_ : List Int, y_ = (u ++ [1]) := ⟨_, rfl⟩
     replace H : (if s.length < 17592186044416 then (jigsawlaw20_GccAll.l2 k4 d ac d (d.length : Int) l (rd_L7 d l) ((rd_L7 d l).length : Int) (wrap64 (q + 1)) 21 p B U (s ++ [1]) 0) else (none)) = some r := h2_ H an
     have bW := a_ an
     clear an
     replace H := ga_ H
     obtain ⟨LMc30, H⟩ := H
     obtain ⟨aY, ao⟩ : ∃ y_ : List Int, y_ = (s ++ [1]) := ⟨_, rfl⟩
     replace H : (jigsawlaw20_GccAll.l2 k4 d ac d (d.length : Int) l (rd_L7 d l) ((rd_L7 d l).length : Int) (wrap64 (q + 1)) 21 p B U aY 0) = some r := h2_ H ao
     have bX := a_ ao
     clear ao
     have H' := a_ H
     clear H
     obtain ⟨bU, aX, P, p642, aj⟩ := ak_ (a_ (Kd.V_reads' HO_40.out).2.2) q
     cases aX
     go_wp2_with (first | (at_lookup; first | refine mo_look (bk_ M.out.1) M.out.2 (rd (rd_L7 d l) q) hwf rfl _ _ rfl rfl rfl ?_ | refine mo_look (bk_ HO_7.out.1) HO_7.out.2 (rd (rd_L7 d l) q) hwf rfl _ _ rfl rfl rfl ?_) | (at_mapUpdate; refine mo_put (bk_ HO_7.out.1) HO_7.out.2 (rd (rd_L7 d l) q) hwf LMc24.out rfl _ _ _ rfl rfl rfl rfl ?_; intro w25 o25 ho hmo hg; rw [← bh.out] at hmo; rw [← hvm] at hg; have hat := vat_ vm wr; replace HO_4 := a_ (Kd.N_afterv (ok := (fun a => some a ≠ u638001.ownBlock ∧ some a ≠ u638003.ownBlock ∧ some a ≠ u638004.ownBlock ∧ some a ≠ u638005.ownBlock ∧ a ≠ m)) (by refine vN_ ?_; exact nm_ HO_4.out (fun _ hk => ⟨⟨hk.2.1, ⟨hk.2.2.1, ⟨hk.2.2.2.1, ⟨hk.2.2.2.2.1, hk.2.2.2.2.2⟩⟩⟩⟩, hk.1⟩)) hg hat); replace HO_40 := a_ (Kd.V_afterv (ok := (fun a => some a ≠ u638001.ownBlock ∧ some a ≠ u638003.ownBlock ∧ some a ≠ u638004.ownBlock ∧ some a ≠ u638005.ownBlock ∧ a ≠ m)) (by refine vV_ ?_; exact vm_ HO_40.out (fun _ hk => ⟨⟨hk.2.1, ⟨hk.2.2.1, ⟨hk.2.2.2.1, ⟨hk.2.2.2.2.1, hk.2.2.2.2.2⟩⟩⟩⟩, hk.1⟩)) hg hat); replace HO_638001 := a_ (Kd.R_after (ok := (fun a => some a ≠ u638003.ownBlock ∧ some a ≠ u638004.ownBlock ∧ some a ≠ u638005.ownBlock)) (by refine vR_ ?_; exact rm_ HO_638001.out (fun _ hk => ⟨⟨hk.2.1, ⟨hk.2.2.1, hk.2.2.2⟩⟩, hk.1⟩)) hg hat); replace HO_638003 := a_ (Kd.R_after (ok := (fun a => some a ≠ u638001.ownBlock ∧ some a ≠ u638004.ownBlock ∧ some a ≠ u638005.ownBlock)) (by refine vR_ ?_; exact rm_ HO_638003.out (fun _ hk => ⟨⟨hk.2.1, ⟨hk.2.2.1, hk.2.2.2⟩⟩, hk.1⟩)) hg hat); replace HO_638004 := a_ (Kd.R_after (ok := (fun a => some a ≠ u638001.ownBlock ∧ some a ≠ u638003.ownBlock ∧ some a ≠ u638005.ownBlock)) (by refine vR_ ?_; exact rm_ HO_638004.out (fun _ hk => ⟨⟨hk.2.1, ⟨hk.2.2.1, hk.2.2.2⟩⟩, hk.1⟩)) hg hat); replace HO_638005 := a_ (Kd.R_after (ok := (fun a => some a ≠ u638001.ownBlock ∧ some a ≠ u638003.ownBlock ∧ some a ≠ u638004.ownBlock)) (by refine vR_ ?_; exact rm_ HO_638005.out (fun _ hk => ⟨⟨hk.2.1, ⟨hk.2.2.1, hk.2.2.2⟩⟩, hk.1⟩)) hg hat); replace c := a_ (blk_grown (bk_ c.out) hg (nebox hvm (bk_ HO_7.out.1) HO_7.out.2 (bk_ c.out))); replace HB := a_ (mbelow bel_ hg hvm hmw.out); have M := a_ (And.intro ho hmo); clear HO_7; clear ho hmo hg hat))
     have S0 : St w w25 m mb vm (.slice (some aw) d.length G) (.slice (some bU) (rd_L7 d l).length c641_0) u638001 u638003 u638004 u638005 u638003 u638004 u638005 o25 d (rd_L7 d l) ac p v u s := ⟨by refine vN_ ?_; exact nm_ HO_4.out (fun _ hk => ⟨hk.2, ⟨hk.1.1, ⟨hk.1.2.1, ⟨hk.1.2.2.1, ⟨hk.1.2.2.2.1, hk.1.2.2.2.2⟩⟩⟩⟩⟩), by refine vV_ ?_; exact vm_ HO_40.out (fun _ hk => ⟨hk.2, ⟨hk.1.1, ⟨hk.1.2.1, ⟨hk.1.2.2.1, ⟨hk.1.2.2.2.1, hk.1.2.2.2.2⟩⟩⟩⟩⟩), ⟨bk_ M.out.1, M.out.2⟩, by refine vR_ ?_; exact rm_ HO_638001.out (fun _ hk => ⟨hk.2, ⟨hk.1.1, ⟨hk.1.2.1, hk.1.2.2⟩⟩⟩), by refine vR_ ?_; exact rm_ HO_638003.out (fun _ hk => ⟨hk.2, ⟨hk.1.1, ⟨hk.1.2.1, hk.1.2.2⟩⟩⟩), by refine vR_ ?_; exact rm_ HO_638004.out (fun _ hk => ⟨hk.2, ⟨hk.1.1, ⟨hk.1.2.1, hk.1.2.2⟩⟩⟩), by refine vR_ ?_; exact rm_ HO_638005.out (fun _ hk => ⟨hk.2, ⟨hk.1.1, ⟨hk.1.2.1, hk.1.2.2⟩⟩⟩), bk_ c.out, HB.out⟩
     replace S0 := S0.drew
     clear HO_4 HO_40 HO_638001 HO_638003 HO_638004 HO_638005 M c
     refine start_ (n := 19) (S := fun w' => w'.cell? ⟨m, 0, none⟩ = some (.int .i64 21) ∧ w'.cell? ⟨m, 1, none⟩ = some (u638001) ∧ w'.cell? ⟨m, 2, none⟩ = some (.slice none 0 0) ∧ w'.cell? ⟨m, 3, none⟩ = some (u638003) ∧ w'.cell? ⟨m, 4, none⟩ = some (u638004) ∧ w'.cell? ⟨m, 5, none⟩ = some (u638005) ∧ w'.cell? ⟨m, 6, none⟩ = some (.int .i64 0) ∧ w'.cell? ⟨m, 7, none⟩ = some (.slice none 0 0)) (ds := [14, 16, 18]) #[false, false, false, false, false, false, false, false, false, false, false, false, false, false, false, false, false, false, false] kr_ rfl rfl (ca8_ S0.b) (fun hHeld => ?_)
     generalize w25.drew = w0 at S0 hHeld ⊢
     refine pn_ 0 60 kr_ ?_
     refine tn_ 1 61 kr_ hHeld ?_
     refine pn_ 2 62 kr_ ?_
     refine pn_ 5 65 kr_ ?_
     refine tn_ 6 66 kr_ hHeld ?_
     refine pn_ 9 69 kr_ ?_
     refine tn_ 10 70 kr_ hHeld ?_
     refine wpAnyLast_ready (rs := [3, 7, 11]) (by kernel_rfl) (by simp) ?_
     refine AllReadyL.cons rfl (by decide) (fun K hK => ?_) ?_
     ·
      refine val_step (v := .slice (some ⟨w0.heap.size, 0, none⟩) 1 1) (w1 := w0.alloc (.cells #[.int .i64 (rd (rd_L7 d l) q)] 3 (0, 0))) rfl (by first | (go_simp; done) | (go_simp; rfl)) ?_
      have T1_ := S0.new (rd (rd_L7 d l) q)
      have S1 := S0.alloc (.cells #[.int .i64 (rd (rd_L7 d l) q)] 3 (0, 0))
      obtain ⟨d1, ed1⟩ : ∃ d_, d_ = w0.heap.size := ⟨_, rfl⟩
      rw [← ed1] at T1_ ⊢
      obtain ⟨W1, eW1⟩ : ∃ W_, W_ = w0.alloc (.cells #[.int .i64 (rd (rd_L7 d l) q)] 3 (0, 0)) := ⟨_, rfl⟩
      rw [← eW1] at T1_ S1 ⊢
      clear ed1 eW1
      refine hK.out _ _ (ca8_ S1.b) (fun hHeld => ?_)
      clear hK K
      refine nor_ (N := some 63) ?_
      refine wpAnyLast_ready (rs := [4, 7, 11]) (by kernel_rfl) (by simp) ?_
      refine AllReadyL.cons rfl (by decide) (fun K hK => ?_) ?_
      ·
       refine app_step rfl (.tmp 61) (.tmp 63) rfl u638003 v d1 _ _ rfl rfl S1.c T1_ (S1.freshC hvm) S1.hb LMc28.out ?_
       intro F2 W2 ho hb hg hat
       rw [← bV.out] at ho
       have S2 := S1.appC ho hb hg hat
       clear ho hb hg hat
       refine hK.out _ _ (ca8_ S2.b) (fun hHeld => ?_)
       clear hK K
       refine nor_ (N := some 64) ?_
       refine pn_ 13 73 kr_ ?_
       refine wpAnyLast_ready (rs := [7, 11]) (by kernel_rfl) (by simp) ?_
       refine AllReadyL.cons rfl (by decide) (fun K hK => ?_) ?_
       ·
        refine val_step (v := .slice (some ⟨W2.heap.size, 0, none⟩) 1 1) (w1 := W2.alloc (.cells #[.int .i64 1] 3 (0, 0))) rfl (by first | (go_simp; done) | (go_simp; rfl)) ?_
        have T3_ := S2.new 1
        have S3 := S2.alloc (.cells #[.int .i64 1] 3 (0, 0))
        obtain ⟨d3, ed3⟩ : ∃ d_, d_ = W2.heap.size := ⟨_, rfl⟩
        rw [← ed3] at T3_ ⊢
        obtain ⟨W3, eW3⟩ : ∃ W_, W_ = W2.alloc (.cells #[.int .i64 1] 3 (0, 0)) := ⟨_, rfl⟩
        rw [← eW3] at T3_ S3 ⊢
        clear ed3 eW3
        refine hK.out _ _ (ca8_ S3.b) (fun hHeld => ?_)
        clear hK K
        refine nor_ (N := some 67) ?_
        refine wpAnyLast_ready (rs := [8, 11]) (by kernel_rfl) (by simp) ?_
        refine AllReadyL.cons rfl (by decide) (fun K hK => ?_) ?_
        ·
         refine app_step rfl (.tmp 66) (.tmp 67) rfl u638004 u d3 _ _ rfl rfl S3.dd T3_ (S3.freshD hvm) S3.hb LMc29.out ?_
         intro F4 W4 ho hb hg hat
         rw [← bW.out] at ho
         have S4 := S3.appD ho hb hg hat
         clear ho hb hg hat
         refine hK.out _ _ (ca8_ S4.b) (fun hHeld => ?_)
         clear hK K
         refine nor_ (N := some 68) ?_
         refine wpAnyLast_ready (rs := [11]) (by kernel_rfl) (by simp) ?_
         refine AllReadyL.cons rfl (by decide) (fun K hK => ?_) ?_
         ·
          refine val_step (v := .slice (some ⟨W4.heap.size, 0, none⟩) 1 1) (w1 := W4.alloc (.cells #[.int .i64 1] 3 (0, 0))) rfl (by first | (go_simp; done) | (go_simp; rfl)) ?_
          have T5_ := S4.new 1
          have S5 := S4.alloc (.cells #[.int .i64 1] 3 (0, 0))
          obtain ⟨d5, ed5⟩ : ∃ d_, d_ = W4.heap.size := ⟨_, rfl⟩
          rw [← ed5] at T5_ ⊢
          obtain ⟨W5, eW5⟩ : ∃ W_, W_ = W4.alloc (.cells #[.int .i64 1] 3 (0, 0)) := ⟨_, rfl⟩
          rw [← eW5] at T5_ S5 ⊢
          clear ed5 eW5
          refine hK.out _ _ (ca8_ S5.b) (fun hHeld => ?_)
          clear hK K
          refine nor_ (N := some 71) ?_
          refine wpAnyLast_ready (rs := [12]) (by kernel_rfl) (by simp) ?_
          refine AllReadyL.cons rfl (by decide) (fun K hK => ?_) ?_
          ·
           refine app_step rfl (.tmp 70) (.tmp 71) rfl u638005 s d5 _ _ rfl rfl S5.e T5_ (S5.freshE hvm) S5.hb LMc30.out ?_
           intro F6 W6 ho hb hg hat
           rw [← bX.out] at ho
           have S6 := S5.appE ho hb hg hat
           clear ho hb hg hat
           refine hK.out _ _ (ca8_ S6.b) (fun hHeld => ?_)
           clear hK K
           refine nor_ (N := some 72) ?_
           obtain ⟨p0_, q0_, e0_⟩ := Kd.R_slice S6.c
           subst e0_
           obtain ⟨p1_, q1_, e1_⟩ := Kd.R_slice S6.dd
           subst e1_
           obtain ⟨p2_, q2_, e2_⟩ := Kd.R_slice S6.e
           subst e2_
           refine last_ (i := 14) (N := none) #[true, true, true, true, true, true, true, true, true, true, true, true, true, true, true, false, false, false, false] rfl rfl kr_ (by decide) (fun K hK => ?_)
           have hc_ := (blk_cell S6.b 3).trans rfl
           have hf_ := blk_frozen S6.b 3
           refine skip_ (w1 := ?_) (by rfl) rfl ?_ ?_
           rotate_left
           ·
            go_simp
            rfl
           clear hc_ hf_
           refine hK.out _ _ ?_
           clear hK K
           replace S6 := S6.set (Aside0.out (by assumption)) 3 (.slice p0_ B.length q0_) rfl
           refine pn_ 15 74 kr_ ?_
           refine last_ (i := 16) (N := none) #[true, true, true, true, true, true, true, true, true, true, true, true, true, true, true, true, true, false, false] rfl rfl kr_ (by decide) (fun K hK => ?_)
           have hc_ := (blk_cell S6.b 4).trans rfl
           have hf_ := blk_frozen S6.b 4
           refine skip_ (w1 := ?_) (by rfl) rfl ?_ ?_
           rotate_left
           ·
            go_simp
            rfl
           clear hc_ hf_
           refine hK.out _ _ ?_
           clear hK K
           replace S6 := S6.set (Aside0.out (by assumption)) 4 (.slice p1_ U.length q1_) rfl
           refine pn_ 17 75 kr_ ?_
           refine last_ (i := 18) (N := none) #[true, true, true, true, true, true, true, true, true, true, true, true, true, true, true, true, true, true, true] rfl rfl kr_ (by decide) (fun K hK => ?_)
           have hc_ := (blk_cell S6.b 5).trans rfl
           have hf_ := blk_frozen S6.b 5
           refine skip_ (w1 := ?_) (by rfl) rfl ?_ ?_
           rotate_left
           ·
            go_simp
            rfl
           clear hc_ hf_
           refine hK.out _ _ ?_
           clear hK K
           replace S6 := S6.set (Aside0.out (by assumption)) 5 (.slice p2_ aY.length q2_) rfl
           refine done_ kr_ ?_
           try go_wp2
           go_roundg k4
           case measure => have := ar.out; have := au.out; have := ay.out; have := aH.out; omega
           exact ⟨(ac), (o25), (wrap64 (q + 1)), (B), (U), (aY), (.slice p0_ B.length q0_), (.slice p1_ U.length q1_), (.slice p2_ aY.length q2_), eq_, H', ⟨by have := ar.out; have := au.out; have := ay.out; have := aH.out; omega⟩, ⟨S6.n⟩, ⟨S6.mp⟩, ⟨S6.l⟩, ⟨S6.a⟩, ⟨S6.c⟩, ⟨S6.dd⟩, ⟨S6.e⟩, ⟨S6.b⟩, ⟨S6.hb⟩⟩
          exact AllReadyL.nil
         exact AllReadyL.nil
        refine AllReadyL.cons rfl (by decide) (fun K hK => ?_) ?_
        ·
         refine val_step (v := .slice (some ⟨W3.heap.size, 0, none⟩) 1 1) (w1 := W3.alloc (.cells #[.int .i64 1] 3 (0, 0))) rfl (by first | (go_simp; done) | (go_simp; rfl)) ?_
         have T7_ := S3.new 1
         have S7 := S3.alloc (.cells #[.int .i64 1] 3 (0, 0))
         have T7_7 := T3_.alloc (.cells #[.int .i64 1] 3 (0, 0))
         obtain ⟨d7, ed7⟩ : ∃ d_, d_ = W3.heap.size := ⟨_, rfl⟩
         rw [← ed7] at T7_ ⊢
         obtain ⟨W7, eW7⟩ : ∃ W_, W_ = W3.alloc (.cells #[.int .i64 1] 3 (0, 0)) := ⟨_, rfl⟩
         rw [← eW7] at T7_ S7 T7_7 ⊢
         clear ed7 eW7
         refine hK.out _ _ (ca8_ S7.b) (fun hHeld => ?_)
         clear hK K
         refine nor_ (N := some 71) ?_
         refine wpAnyLast_ready (rs := [8]) (by kernel_rfl) (by simp) ?_
         refine AllReadyL.cons rfl (by decide) (fun K hK => ?_) ?_
         ·
          refine app_step rfl (.tmp 66) (.tmp 67) rfl u638004 u d3 _ _ rfl rfl S7.dd T7_7 (S7.freshD hvm) S7.hb LMc29.out ?_
          intro F8 W8 ho hb hg hat
          rw [← bW.out] at ho
          have S8 := S7.appD ho hb hg hat
          have T8_11 := T7_.appD hg hat
          clear ho hb hg hat
          refine hK.out _ _ (ca8_ S8.b) (fun hHeld => ?_)
          clear hK K
          refine nor_ (N := some 68) ?_
          refine wpAnyLast_ready (rs := [12]) (by kernel_rfl) (by simp) ?_
          refine AllReadyL.cons rfl (by decide) (fun K hK => ?_) ?_
          ·
           refine app_step rfl (.tmp 70) (.tmp 71) rfl u638005 s d7 _ _ rfl rfl S8.e T8_11 (S8.freshE hvm) S8.hb LMc30.out ?_
           intro F9 W9 ho hb hg hat
           rw [← bX.out] at ho
           have S9 := S8.appE ho hb hg hat
           clear ho hb hg hat
           refine hK.out _ _ (ca8_ S9.b) (fun hHeld => ?_)
           clear hK K
           refine nor_ (N := some 72) ?_
           obtain ⟨p0_, q0_, e0_⟩ := Kd.R_slice S9.c
           subst e0_
           obtain ⟨p1_, q1_, e1_⟩ := Kd.R_slice S9.dd
           subst e1_
           obtain ⟨p2_, q2_, e2_⟩ := Kd.R_slice S9.e
           subst e2_
           refine last_ (i := 14) (N := none) #[true, true, true, true, true, true, true, true, true, true, true, true, true, true, true, false, false, false, false] rfl rfl kr_ (by decide) (fun K hK => ?_)
           have hc_ := (blk_cell S9.b 3).trans rfl
           have hf_ := blk_frozen S9.b 3
           refine skip_ (w1 := ?_) (by rfl) rfl ?_ ?_
           rotate_left
           ·
            go_simp
            rfl
           clear hc_ hf_
           refine hK.out _ _ ?_
           clear hK K
           replace S9 := S9.set (Aside0.out (by assumption)) 3 (.slice p0_ B.length q0_) rfl
           refine pn_ 15 74 kr_ ?_
           refine last_ (i := 16) (N := none) #[true, true, true, true, true, true, true, true, true, true, true, true, true, true, true, true, true, false, false] rfl rfl kr_ (by decide) (fun K hK => ?_)
           have hc_ := (blk_cell S9.b 4).trans rfl
           have hf_ := blk_frozen S9.b 4
           refine skip_ (w1 := ?_) (by rfl) rfl ?_ ?_
           rotate_left
           ·
            go_simp
            rfl
           clear hc_ hf_
           refine hK.out _ _ ?_
           clear hK K
           replace S9 := S9.set (Aside0.out (by assumption)) 4 (.slice p1_ U.length q1_) rfl
           refine pn_ 17 75 kr_ ?_
           refine last_ (i := 18) (N := none) #[true, true, true, true, true, true, true, true, true, true, true, true, true, true, true, true, true, true, true] rfl rfl kr_ (by decide) (fun K hK => ?_)
           have hc_ := (blk_cell S9.b 5).trans rfl
           have hf_ := blk_frozen S9.b 5
           refine skip_ (w1 := ?_) (by rfl) rfl ?_ ?_
           rotate_left
           ·
            go_simp
            rfl
           clear hc_ hf_
           refine hK.out _ _ ?_
           clear hK K
           replace S9 := S9.set (Aside0.out (by assumption)) 5 (.slice p2_ aY.length q2_) rfl
           refine done_ kr_ ?_
           try go_wp2
           go_roundg k4
           case measure => have := ar.out; have := au.out; have := ay.out; have := aH.out; omega
           exact ⟨(ac), (o25), (wrap64 (q + 1)), (B), (U), (aY), (.slice p0_ B.length q0_), (.slice p1_ U.length q1_), (.slice p2_ aY.length q2_), eq_, H', ⟨by have := ar.out; have := au.out; have := ay.out; have := aH.out; omega⟩, ⟨S9.n⟩, ⟨S9.mp⟩, ⟨S9.l⟩, ⟨S9.a⟩, ⟨S9.c⟩, ⟨S9.dd⟩, ⟨S9.e⟩, ⟨S9.b⟩, ⟨S9.hb⟩⟩
          exact AllReadyL.nil
         exact AllReadyL.nil
        exact AllReadyL.nil
       refine AllReadyL.cons rfl (by decide) (fun K hK => ?_) ?_
       ·
        refine val_step (v := .slice (some ⟨W2.heap.size, 0, none⟩) 1 1) (w1 := W2.alloc (.cells #[.int .i64 1] 3 (0, 0))) rfl (by first | (go_simp; done) | (go_simp; rfl)) ?_
        have T10_ := S2.new 1
        have S10 := S2.alloc (.cells #[.int .i64 1] 3 (0, 0))
        obtain ⟨d10, ed10⟩ : ∃ d_, d_ = W2.heap.size := ⟨_, rfl⟩
        rw [← ed10] at T10_ ⊢
        obtain ⟨W10, eW10⟩ : ∃ W_, W_ = W2.alloc (.cells #[.int .i64 1] 3 (0, 0)) := ⟨_, rfl⟩
        rw [← eW10] at T10_ S10 ⊢
        clear ed10 eW10
        refine hK.out _ _ (ca8_ S10.b) (fun hHeld => ?_)
        clear hK K
        refine nor_ (N := some 71) ?_
        refine wpAnyLast_ready (rs := [7]) (by kernel_rfl) (by simp) ?_
        refine AllReadyL.cons rfl (by decide) (fun K hK => ?_) ?_
        ·
         refine val_step (v := .slice (some ⟨W10.heap.size, 0, none⟩) 1 1) (w1 := W10.alloc (.cells #[.int .i64 1] 3 (0, 0))) rfl (by first | (go_simp; done) | (go_simp; rfl)) ?_
         have T11_ := S10.new 1
         have S11 := S10.alloc (.cells #[.int .i64 1] 3 (0, 0))
         have T11_11 := T10_.alloc (.cells #[.int .i64 1] 3 (0, 0))
         obtain ⟨d11, ed11⟩ : ∃ d_, d_ = W10.heap.size := ⟨_, rfl⟩
         rw [← ed11] at T11_ ⊢
         obtain ⟨W11, eW11⟩ : ∃ W_, W_ = W10.alloc (.cells #[.int .i64 1] 3 (0, 0)) := ⟨_, rfl⟩
         rw [← eW11] at T11_ S11 T11_11 ⊢
         clear ed11 eW11
         refine hK.out _ _ (ca8_ S11.b) (fun hHeld => ?_)
         clear hK K
         refine nor_ (N := some 67) ?_
         refine wpAnyLast_ready (rs := [8]) (by kernel_rfl) (by simp) ?_
         refine AllReadyL.cons rfl (by decide) (fun K hK => ?_) ?_
         ·
          refine app_step rfl (.tmp 66) (.tmp 67) rfl u638004 u d11 _ _ rfl rfl S11.dd T11_ (S11.freshD hvm) S11.hb LMc29.out ?_
          intro F12 W12 ho hb hg hat
          rw [← bW.out] at ho
          have S12 := S11.appD ho hb hg hat
          have T12_11 := T11_11.appD hg hat
          clear ho hb hg hat
          refine hK.out _ _ (ca8_ S12.b) (fun hHeld => ?_)
          clear hK K
          refine nor_ (N := some 68) ?_
          refine wpAnyLast_ready (rs := [12]) (by kernel_rfl) (by simp) ?_
          refine AllReadyL.cons rfl (by decide) (fun K hK => ?_) ?_
          ·
           refine app_step rfl (.tmp 70) (.tmp 71) rfl u638005 s d10 _ _ rfl rfl S12.e T12_11 (S12.freshE hvm) S12.hb LMc30.out ?_
           intro F13 W13 ho hb hg hat
           rw [← bX.out] at ho
           have S13 := S12.appE ho hb hg hat
           clear ho hb hg hat
           refine hK.out _ _ (ca8_ S13.b) (fun hHeld => ?_)
           clear hK K
           refine nor_ (N := some 72) ?_
           obtain ⟨p0_, q0_, e0_⟩ := Kd.R_slice S13.c
           subst e0_
           obtain ⟨p1_, q1_, e1_⟩ := Kd.R_slice S13.dd
           subst e1_
           obtain ⟨p2_, q2_, e2_⟩ := Kd.R_slice S13.e
           subst e2_
           refine last_ (i := 14) (N := none) #[true, true, true, true, true, true, true, true, true, true, true, true, true, true, true, false, false, false, false] rfl rfl kr_ (by decide) (fun K hK => ?_)
           have hc_ := (blk_cell S13.b 3).trans rfl
           have hf_ := blk_frozen S13.b 3
           refine skip_ (w1 := ?_) (by rfl) rfl ?_ ?_
           rotate_left
           ·
            go_simp
            rfl
           clear hc_ hf_
           refine hK.out _ _ ?_
           clear hK K
           replace S13 := S13.set (Aside0.out (by assumption)) 3 (.slice p0_ B.length q0_) rfl
           refine pn_ 15 74 kr_ ?_
           refine last_ (i := 16) (N := none) #[true, true, true, true, true, true, true, true, true, true, true, true, true, true, true, true, true, false, false] rfl rfl kr_ (by decide) (fun K hK => ?_)
           have hc_ := (blk_cell S13.b 4).trans rfl
           have hf_ := blk_frozen S13.b 4
           refine skip_ (w1 := ?_) (by rfl) rfl ?_ ?_
           rotate_left
           ·
            go_simp
            rfl
           clear hc_ hf_
           refine hK.out _ _ ?_
           clear hK K
           replace S13 := S13.set (Aside0.out (by assumption)) 4 (.slice p1_ U.length q1_) rfl
           refine pn_ 17 75 kr_ ?_
           refine last_ (i := 18) (N := none) #[true, true, true, true, true, true, true, true, true, true, true, true, true, true, true, true, true, true, true] rfl rfl kr_ (by decide) (fun K hK => ?_)
           have hc_ := (blk_cell S13.b 5).trans rfl
           have hf_ := blk_frozen S13.b 5
           refine skip_ (w1 := ?_) (by rfl) rfl ?_ ?_
           rotate_left
           ·
            go_simp
            rfl
           clear hc_ hf_
           refine hK.out _ _ ?_
           clear hK K
           replace S13 := S13.set (Aside0.out (by assumption)) 5 (.slice p2_ aY.length q2_) rfl
           refine done_ kr_ ?_
           try go_wp2
           go_roundg k4
           case measure => have := ar.out; have := au.out; have := ay.out; have := aH.out; omega
           exact ⟨(ac), (o25), (wrap64 (q + 1)), (B), (U), (aY), (.slice p0_ B.length q0_), (.slice p1_ U.length q1_), (.slice p2_ aY.length q2_), eq_, H', ⟨by have := ar.out; have := au.out; have := ay.out; have := aH.out; omega⟩, ⟨S13.n⟩, ⟨S13.mp⟩, ⟨S13.l⟩, ⟨S13.a⟩, ⟨S13.c⟩, ⟨S13.dd⟩, ⟨S13.e⟩, ⟨S13.b⟩, ⟨S13.hb⟩⟩
          exact AllReadyL.nil
         exact AllReadyL.nil
        exact AllReadyL.nil
       exact AllReadyL.nil
      refine AllReadyL.cons rfl (by decide) (fun K hK => ?_) ?_
      ·
       refine val_step (v := .slice (some ⟨W1.heap.size, 0, none⟩) 1 1) (w1 := W1.alloc (.cells #[.int .i64 1] 3 (0, 0))) rfl (by first | (go_simp; done) | (go_simp; rfl)) ?_
       have T14_ := S1.new 1
       have S14 := S1.alloc (.cells #[.int .i64 1] 3 (0, 0))
       have T14_3 := T1_.alloc (.cells #[.int .i64 1] 3 (0, 0))
       obtain ⟨d14, ed14⟩ : ∃ d_, d_ = W1.heap.size := ⟨_, rfl⟩
       rw [← ed14] at T14_ ⊢
       obtain ⟨W14, eW14⟩ : ∃ W_, W_ = W1.alloc (.cells #[.int .i64 1] 3 (0, 0)) := ⟨_, rfl⟩
       rw [← eW14] at T14_ S14 T14_3 ⊢
       clear ed14 eW14
       refine hK.out _ _ (ca8_ S14.b) (fun hHeld => ?_)
       clear hK K
       refine nor_ (N := some 67) ?_
       refine wpAnyLast_ready (rs := [4, 11]) (by kernel_rfl) (by simp) ?_
       refine AllReadyL.cons rfl (by decide) (fun K hK => ?_) ?_
       ·
        refine app_step rfl (.tmp 61) (.tmp 63) rfl u638003 v d1 _ _ rfl rfl S14.c T14_3 (S14.freshC hvm) S14.hb LMc28.out ?_
        intro F15 W15 ho hb hg hat
        rw [← bV.out] at ho
        have S15 := S14.appC ho hb hg hat
        have T15_7 := T14_.appC hg hat
        clear ho hb hg hat
        refine hK.out _ _ (ca8_ S15.b) (fun hHeld => ?_)
        clear hK K
        refine nor_ (N := some 64) ?_
        refine pn_ 13 73 kr_ ?_
        refine wpAnyLast_ready (rs := [8, 11]) (by kernel_rfl) (by simp) ?_
        refine AllReadyL.cons rfl (by decide) (fun K hK => ?_) ?_
        ·
         refine app_step rfl (.tmp 66) (.tmp 67) rfl u638004 u d14 _ _ rfl rfl S15.dd T15_7 (S15.freshD hvm) S15.hb LMc29.out ?_
         intro F16 W16 ho hb hg hat
         rw [← bW.out] at ho
         have S16 := S15.appD ho hb hg hat
         clear ho hb hg hat
         refine hK.out _ _ (ca8_ S16.b) (fun hHeld => ?_)
         clear hK K
         refine nor_ (N := some 68) ?_
         refine wpAnyLast_ready (rs := [11]) (by kernel_rfl) (by simp) ?_
         refine AllReadyL.cons rfl (by decide) (fun K hK => ?_) ?_
         ·
          refine val_step (v := .slice (some ⟨W16.heap.size, 0, none⟩) 1 1) (w1 := W16.alloc (.cells #[.int .i64 1] 3 (0, 0))) rfl (by first | (go_simp; done) | (go_simp; rfl)) ?_
          have T17_ := S16.new 1
          have S17 := S16.alloc (.cells #[.int .i64 1] 3 (0, 0))
          obtain ⟨d17, ed17⟩ : ∃ d_, d_ = W16.heap.size := ⟨_, rfl⟩
          rw [← ed17] at T17_ ⊢
          obtain ⟨W17, eW17⟩ : ∃ W_, W_ = W16.alloc (.cells #[.int .i64 1] 3 (0, 0)) := ⟨_, rfl⟩
          rw [← eW17] at T17_ S17 ⊢
          clear ed17 eW17
          refine hK.out _ _ (ca8_ S17.b) (fun hHeld => ?_)
          clear hK K
          refine nor_ (N := some 71) ?_
          refine wpAnyLast_ready (rs := [12]) (by kernel_rfl) (by simp) ?_
          refine AllReadyL.cons rfl (by decide) (fun K hK => ?_) ?_
          ·
           refine app_step rfl (.tmp 70) (.tmp 71) rfl u638005 s d17 _ _ rfl rfl S17.e T17_ (S17.freshE hvm) S17.hb LMc30.out ?_
           intro F18 W18 ho hb hg hat
           rw [← bX.out] at ho
           have S18 := S17.appE ho hb hg hat
           clear ho hb hg hat
           refine hK.out _ _ (ca8_ S18.b) (fun hHeld => ?_)
           clear hK K
           refine nor_ (N := some 72) ?_
           obtain ⟨p0_, q0_, e0_⟩ := Kd.R_slice S18.c
           subst e0_
           obtain ⟨p1_, q1_, e1_⟩ := Kd.R_slice S18.dd
           subst e1_
           obtain ⟨p2_, q2_, e2_⟩ := Kd.R_slice S18.e
           subst e2_
           refine last_ (i := 14) (N := none) #[true, true, true, true, true, true, true, true, true, true, true, true, true, true, true, false, false, false, false] rfl rfl kr_ (by decide) (fun K hK => ?_)
           have hc_ := (blk_cell S18.b 3).trans rfl
           have hf_ := blk_frozen S18.b 3
           refine skip_ (w1 := ?_) (by rfl) rfl ?_ ?_
           rotate_left
           ·
            go_simp
            rfl
           clear hc_ hf_
           refine hK.out _ _ ?_
           clear hK K
           replace S18 := S18.set (Aside0.out (by assumption)) 3 (.slice p0_ B.length q0_) rfl
           refine pn_ 15 74 kr_ ?_
           refine last_ (i := 16) (N := none) #[true, true, true, true, true, true, true, true, true, true, true, true, true, true, true, true, true, false, false] rfl rfl kr_ (by decide) (fun K hK => ?_)
           have hc_ := (blk_cell S18.b 4).trans rfl
           have hf_ := blk_frozen S18.b 4
           refine skip_ (w1 := ?_) (by rfl) rfl ?_ ?_
           rotate_left
           ·
            go_simp
            rfl
           clear hc_ hf_
           refine hK.out _ _ ?_
           clear hK K
           replace S18 := S18.set (Aside0.out (by assumption)) 4 (.slice p1_ U.length q1_) rfl
           refine pn_ 17 75 kr_ ?_
           refine last_ (i := 18) (N := none) #[true, true, true, true, true, true, true, true, true, true, true, true, true, true, true, true, true, true, true] rfl rfl kr_ (by decide) (fun K hK => ?_)
           have hc_ := (blk_cell S18.b 5).trans rfl
           have hf_ := blk_frozen S18.b 5
           refine skip_ (w1 := ?_) (by rfl) rfl ?_ ?_
           rotate_left
           ·
            go_simp
            rfl
           clear hc_ hf_
           refine hK.out _ _ ?_
           clear hK K
           replace S18 := S18.set (Aside0.out (by assumption)) 5 (.slice p2_ aY.length q2_) rfl
           refine done_ kr_ ?_
           try go_wp2
           go_roundg k4
           case measure => have := ar.out; have := au.out; have := ay.out; have := aH.out; omega
           exact ⟨(ac), (o25), (wrap64 (q + 1)), (B), (U), (aY), (.slice p0_ B.length q0_), (.slice p1_ U.length q1_), (.slice p2_ aY.length q2_), eq_, H', ⟨by have := ar.out; have := au.out; have := ay.out; have := aH.out; omega⟩, ⟨S18.n⟩, ⟨S18.mp⟩, ⟨S18.l⟩, ⟨S18.a⟩, ⟨S18.c⟩, ⟨S18.dd⟩, ⟨S18.e⟩, ⟨S18.b⟩, ⟨S18.hb⟩⟩
          exact AllReadyL.nil
         exact AllReadyL.nil
        refine AllReadyL.cons rfl (by decide) (fun K hK => ?_) ?_
        ·
         refine val_step (v := .slice (some ⟨W15.heap.size, 0, none⟩) 1 1) (w1 := W15.alloc (.cells #[.int .i64 1] 3 (0, 0))) rfl (by first | (go_simp; done) | (go_simp; rfl)) ?_
         have T19_ := S15.new 1
         have S19 := S15.alloc (.cells #[.int .i64 1] 3 (0, 0))
         have T19_7 := T15_7.alloc (.cells #[.int .i64 1] 3 (0, 0))
         obtain ⟨d19, ed19⟩ : ∃ d_, d_ = W15.heap.size := ⟨_, rfl⟩
         rw [← ed19] at T19_ ⊢
         obtain ⟨W19, eW19⟩ : ∃ W_, W_ = W15.alloc (.cells #[.int .i64 1] 3 (0, 0)) := ⟨_, rfl⟩
         rw [← eW19] at T19_ S19 T19_7 ⊢
         clear ed19 eW19
         refine hK.out _ _ (ca8_ S19.b) (fun hHeld => ?_)
         clear hK K
         refine nor_ (N := some 71) ?_
         refine wpAnyLast_ready (rs := [8]) (by kernel_rfl) (by simp) ?_
         refine AllReadyL.cons rfl (by decide) (fun K hK => ?_) ?_
         ·
          refine app_step rfl (.tmp 66) (.tmp 67) rfl u638004 u d14 _ _ rfl rfl S19.dd T19_7 (S19.freshD hvm) S19.hb LMc29.out ?_
          intro F20 W20 ho hb hg hat
          rw [← bW.out] at ho
          have S20 := S19.appD ho hb hg hat
          have T20_11 := T19_.appD hg hat
          clear ho hb hg hat
          refine hK.out _ _ (ca8_ S20.b) (fun hHeld => ?_)
          clear hK K
          refine nor_ (N := some 68) ?_
          refine wpAnyLast_ready (rs := [12]) (by kernel_rfl) (by simp) ?_
          refine AllReadyL.cons rfl (by decide) (fun K hK => ?_) ?_
          ·
           refine app_step rfl (.tmp 70) (.tmp 71) rfl u638005 s d19 _ _ rfl rfl S20.e T20_11 (S20.freshE hvm) S20.hb LMc30.out ?_
           intro F21 W21 ho hb hg hat
           rw [← bX.out] at ho
           have S21 := S20.appE ho hb hg hat
           clear ho hb hg hat
           refine hK.out _ _ (ca8_ S21.b) (fun hHeld => ?_)
           clear hK K
           refine nor_ (N := some 72) ?_
           obtain ⟨p0_, q0_, e0_⟩ := Kd.R_slice S21.c
           subst e0_
           obtain ⟨p1_, q1_, e1_⟩ := Kd.R_slice S21.dd
           subst e1_
           obtain ⟨p2_, q2_, e2_⟩ := Kd.R_slice S21.e
           subst e2_
           refine last_ (i := 14) (N := none) #[true, true, true, true, true, true, true, true, true, true, true, true, true, true, true, false, false, false, false] rfl rfl kr_ (by decide) (fun K hK => ?_)
           have hc_ := (blk_cell S21.b 3).trans rfl
           have hf_ := blk_frozen S21.b 3
           refine skip_ (w1 := ?_) (by rfl) rfl ?_ ?_
           rotate_left
           ·
            go_simp
            rfl
           clear hc_ hf_
           refine hK.out _ _ ?_
           clear hK K
           replace S21 := S21.set (Aside0.out (by assumption)) 3 (.slice p0_ B.length q0_) rfl
           refine pn_ 15 74 kr_ ?_
           refine last_ (i := 16) (N := none) #[true, true, true, true, true, true, true, true, true, true, true, true, true, true, true, true, true, false, false] rfl rfl kr_ (by decide) (fun K hK => ?_)
           have hc_ := (blk_cell S21.b 4).trans rfl
           have hf_ := blk_frozen S21.b 4
           refine skip_ (w1 := ?_) (by rfl) rfl ?_ ?_
           rotate_left
           ·
            go_simp
            rfl
           clear hc_ hf_
           refine hK.out _ _ ?_
           clear hK K
           replace S21 := S21.set (Aside0.out (by assumption)) 4 (.slice p1_ U.length q1_) rfl
           refine pn_ 17 75 kr_ ?_
           refine last_ (i := 18) (N := none) #[true, true, true, true, true, true, true, true, true, true, true, true, true, true, true, true, true, true, true] rfl rfl kr_ (by decide) (fun K hK => ?_)
           have hc_ := (blk_cell S21.b 5).trans rfl
           have hf_ := blk_frozen S21.b 5
           refine skip_ (w1 := ?_) (by rfl) rfl ?_ ?_
           rotate_left
           ·
            go_simp
            rfl
           clear hc_ hf_
           refine hK.out _ _ ?_
           clear hK K
           replace S21 := S21.set (Aside0.out (by assumption)) 5 (.slice p2_ aY.length q2_) rfl
           refine done_ kr_ ?_
           try go_wp2
           go_roundg k4
           case measure => have := ar.out; have := au.out; have := ay.out; have := aH.out; omega
           exact ⟨(ac), (o25), (wrap64 (q + 1)), (B), (U), (aY), (.slice p0_ B.length q0_), (.slice p1_ U.length q1_), (.slice p2_ aY.length q2_), eq_, H', ⟨by have := ar.out; have := au.out; have := ay.out; have := aH.out; omega⟩, ⟨S21.n⟩, ⟨S21.mp⟩, ⟨S21.l⟩, ⟨S21.a⟩, ⟨S21.c⟩, ⟨S21.dd⟩, ⟨S21.e⟩, ⟨S21.b⟩, ⟨S21.hb⟩⟩
          exact AllReadyL.nil
         exact AllReadyL.nil
        exact AllReadyL.nil
       refine AllReadyL.cons rfl (by decide) (fun K hK => ?_) ?_
       ·
        refine val_step (v := .slice (some ⟨W14.heap.size, 0, none⟩) 1 1) (w1 := W14.alloc (.cells #[.int .i64 1] 3 (0, 0))) rfl (by first | (go_simp; done) | (go_simp; rfl)) ?_
        have T22_ := S14.new 1
        have S22 := S14.alloc (.cells #[.int .i64 1] 3 (0, 0))
        have T22_3 := T14_3.alloc (.cells #[.int .i64 1] 3 (0, 0))
        have T22_7 := T14_.alloc (.cells #[.int .i64 1] 3 (0, 0))
        obtain ⟨d22, ed22⟩ : ∃ d_, d_ = W14.heap.size := ⟨_, rfl⟩
        rw [← ed22] at T22_ ⊢
        obtain ⟨W22, eW22⟩ : ∃ W_, W_ = W14.alloc (.cells #[.int .i64 1] 3 (0, 0)) := ⟨_, rfl⟩
        rw [← eW22] at T22_ S22 T22_3 T22_7 ⊢
        clear ed22 eW22
        refine hK.out _ _ (ca8_ S22.b) (fun hHeld => ?_)
        clear hK K
        refine nor_ (N := some 71) ?_
        refine wpAnyLast_ready (rs := [4]) (by kernel_rfl) (by simp) ?_
        refine AllReadyL.cons rfl (by decide) (fun K hK => ?_) ?_
        ·
         refine app_step rfl (.tmp 61) (.tmp 63) rfl u638003 v d1 _ _ rfl rfl S22.c T22_3 (S22.freshC hvm) S22.hb LMc28.out ?_
         intro F23 W23 ho hb hg hat
         rw [← bV.out] at ho
         have S23 := S22.appC ho hb hg hat
         have T23_7 := T22_7.appC hg hat
         have T23_11 := T22_.appC hg hat
         clear ho hb hg hat
         refine hK.out _ _ (ca8_ S23.b) (fun hHeld => ?_)
         clear hK K
         refine nor_ (N := some 64) ?_
         refine pn_ 13 73 kr_ ?_
         refine wpAnyLast_ready (rs := [8]) (by kernel_rfl) (by simp) ?_
         refine AllReadyL.cons rfl (by decide) (fun K hK => ?_) ?_
         ·
          refine app_step rfl (.tmp 66) (.tmp 67) rfl u638004 u d14 _ _ rfl rfl S23.dd T23_7 (S23.freshD hvm) S23.hb LMc29.out ?_
          intro F24 W24 ho hb hg hat
          rw [← bW.out] at ho
          have S24 := S23.appD ho hb hg hat
          have T24_11 := T23_11.appD hg hat
          clear ho hb hg hat
          refine hK.out _ _ (ca8_ S24.b) (fun hHeld => ?_)
          clear hK K
          refine nor_ (N := some 68) ?_
          refine wpAnyLast_ready (rs := [12]) (by kernel_rfl) (by simp) ?_
          refine AllReadyL.cons rfl (by decide) (fun K hK => ?_) ?_
          ·
           refine app_step rfl (.tmp 70) (.tmp 71) rfl u638005 s d22 _ _ rfl rfl S24.e T24_11 (S24.freshE hvm) S24.hb LMc30.out ?_
           intro F25 W25 ho hb hg hat
           rw [← bX.out] at ho
           have S25 := S24.appE ho hb hg hat
           clear ho hb hg hat
           refine hK.out _ _ (ca8_ S25.b) (fun hHeld => ?_)
           clear hK K
           refine nor_ (N := some 72) ?_
           obtain ⟨p0_, q0_, e0_⟩ := Kd.R_slice S25.c
           subst e0_
           obtain ⟨p1_, q1_, e1_⟩ := Kd.R_slice S25.dd
           subst e1_
           obtain ⟨p2_, q2_, e2_⟩ := Kd.R_slice S25.e
           subst e2_
           refine last_ (i := 14) (N := none) #[true, true, true, true, true, true, true, true, true, true, true, true, true, true, true, false, false, false, false] rfl rfl kr_ (by decide) (fun K hK => ?_)
           have hc_ := (blk_cell S25.b 3).trans rfl
           have hf_ := blk_frozen S25.b 3
           refine skip_ (w1 := ?_) (by rfl) rfl ?_ ?_
           rotate_left
           ·
            go_simp
            rfl
           clear hc_ hf_
           refine hK.out _ _ ?_
           clear hK K
           replace S25 := S25.set (Aside0.out (by assumption)) 3 (.slice p0_ B.length q0_) rfl
           refine pn_ 15 74 kr_ ?_
           refine last_ (i := 16) (N := none) #[true, true, true, true, true, true, true, true, true, true, true, true, true, true, true, true, true, false, false] rfl rfl kr_ (by decide) (fun K hK => ?_)
           have hc_ := (blk_cell S25.b 4).trans rfl
           have hf_ := blk_frozen S25.b 4
           refine skip_ (w1 := ?_) (by rfl) rfl ?_ ?_
           rotate_left
           ·
            go_simp
            rfl
           clear hc_ hf_
           refine hK.out _ _ ?_
           clear hK K
           replace S25 := S25.set (Aside0.out (by assumption)) 4 (.slice p1_ U.length q1_) rfl
           refine pn_ 17 75 kr_ ?_
           refine last_ (i := 18) (N := none) #[true, true, true, true, true, true, true, true, true, true, true, true, true, true, true, true, true, true, true] rfl rfl kr_ (by decide) (fun K hK => ?_)
           have hc_ := (blk_cell S25.b 5).trans rfl
           have hf_ := blk_frozen S25.b 5
           refine skip_ (w1 := ?_) (by rfl) rfl ?_ ?_
           rotate_left
           ·
            go_simp
            rfl
           clear hc_ hf_
           refine hK.out _ _ ?_
           clear hK K
           replace S25 := S25.set (Aside0.out (by assumption)) 5 (.slice p2_ aY.length q2_) rfl
           refine done_ kr_ ?_
           try go_wp2
           go_roundg k4
           case measure => have := ar.out; have := au.out; have := ay.out; have := aH.out; omega
           exact ⟨(ac), (o25), (wrap64 (q + 1)), (B), (U), (aY), (.slice p0_ B.length q0_), (.slice p1_ U.length q1_), (.slice p2_ aY.length q2_), eq_, H', ⟨by have := ar.out; have := au.out; have := ay.out; have := aH.out; omega⟩, ⟨S25.n⟩, ⟨S25.mp⟩, ⟨S25.l⟩, ⟨S25.a⟩, ⟨S25.c⟩, ⟨S25.dd⟩, ⟨S25.e⟩, ⟨S25.b⟩, ⟨S25.hb⟩⟩
          exact AllReadyL.nil
         exact AllReadyL.nil
        exact AllReadyL.nil
       exact AllReadyL.nil
      refine AllReadyL.cons rfl (by decide) (fun K hK => ?_) ?_
      ·
       refine val_step (v := .slice (some ⟨W1.heap.size, 0, none⟩) 1 1) (w1 := W1.alloc (.cells #[.int .i64 1] 3 (0, 0))) rfl (by first | (go_simp; done) | (go_simp; rfl)) ?_
       have T26_ := S1.new 1
       have S26 := S1.alloc (.cells #[.int .i64 1] 3 (0, 0))
       have T26_3 := T1_.alloc (.cells #[.int .i64 1] 3 (0, 0))
       obtain ⟨d26, ed26⟩ : ∃ d_, d_ = W1.heap.size := ⟨_, rfl⟩
       rw [← ed26] at T26_ ⊢
       obtain ⟨W26, eW26⟩ : ∃ W_, W_ = W1.alloc (.cells #[.int .i64 1] 3 (0, 0)) := ⟨_, rfl⟩
       rw [← eW26] at T26_ S26 T26_3 ⊢
       clear ed26 eW26
       refine hK.out _ _ (ca8_ S26.b) (fun hHeld => ?_)
       clear hK K
       refine nor_ (N := some 71) ?_
       refine wpAnyLast_ready (rs := [4, 7]) (by kernel_rfl) (by simp) ?_
       refine AllReadyL.cons rfl (by decide) (fun K hK => ?_) ?_
       ·
        refine app_step rfl (.tmp 61) (.tmp 63) rfl u638003 v d1 _ _ rfl rfl S26.c T26_3 (S26.freshC hvm) S26.hb LMc28.out ?_
        intro F27 W27 ho hb hg hat
        rw [← bV.out] at ho
        have S27 := S26.appC ho hb hg hat
        have T27_11 := T26_.appC hg hat
        clear ho hb hg hat
        refine hK.out _ _ (ca8_ S27.b) (fun hHeld => ?_)
        clear hK K
        refine nor_ (N := some 64) ?_
        refine pn_ 13 73 kr_ ?_
        refine wpAnyLast_ready (rs := [7]) (by kernel_rfl) (by simp) ?_
        refine AllReadyL.cons rfl (by decide) (fun K hK => ?_) ?_
        ·
         refine val_step (v := .slice (some ⟨W27.heap.size, 0, none⟩) 1 1) (w1 := W27.alloc (.cells #[.int .i64 1] 3 (0, 0))) rfl (by first | (go_simp; done) | (go_simp; rfl)) ?_
         have T28_ := S27.new 1
         have S28 := S27.alloc (.cells #[.int .i64 1] 3 (0, 0))
         have T28_11 := T27_11.alloc (.cells #[.int .i64 1] 3 (0, 0))
         obtain ⟨d28, ed28⟩ : ∃ d_, d_ = W27.heap.size := ⟨_, rfl⟩
         rw [← ed28] at T28_ ⊢
         obtain ⟨W28, eW28⟩ : ∃ W_, W_ = W27.alloc (.cells #[.int .i64 1] 3 (0, 0)) := ⟨_, rfl⟩
         rw [← eW28] at T28_ S28 T28_11 ⊢
         clear ed28 eW28
         refine hK.out _ _ (ca8_ S28.b) (fun hHeld => ?_)
         clear hK K
         refine nor_ (N := some 67) ?_
         refine wpAnyLast_ready (rs := [8]) (by kernel_rfl) (by simp) ?_
         refine AllReadyL.cons rfl (by decide) (fun K hK => ?_) ?_
         ·
          refine app_step rfl (.tmp 66) (.tmp 67) rfl u638004 u d28 _ _ rfl rfl S28.dd T28_ (S28.freshD hvm) S28.hb LMc29.out ?_
          intro F29 W29 ho hb hg hat
          rw [← bW.out] at ho
          have S29 := S28.appD ho hb hg hat
          have T29_11 := T28_11.appD hg hat
          clear ho hb hg hat
          refine hK.out _ _ (ca8_ S29.b) (fun hHeld => ?_)
          clear hK K
          refine nor_ (N := some 68) ?_
          refine wpAnyLast_ready (rs := [12]) (by kernel_rfl) (by simp) ?_
          refine AllReadyL.cons rfl (by decide) (fun K hK => ?_) ?_
          ·
           refine app_step rfl (.tmp 70) (.tmp 71) rfl u638005 s d26 _ _ rfl rfl S29.e T29_11 (S29.freshE hvm) S29.hb LMc30.out ?_
           intro F30 W30 ho hb hg hat
           rw [← bX.out] at ho
           have S30 := S29.appE ho hb hg hat
           clear ho hb hg hat
           refine hK.out _ _ (ca8_ S30.b) (fun hHeld => ?_)
           clear hK K
           refine nor_ (N := some 72) ?_
           obtain ⟨p0_, q0_, e0_⟩ := Kd.R_slice S30.c
           subst e0_
           obtain ⟨p1_, q1_, e1_⟩ := Kd.R_slice S30.dd
           subst e1_
           obtain ⟨p2_, q2_, e2_⟩ := Kd.R_slice S30.e
           subst e2_
           refine last_ (i := 14) (N := none) #[true, true, true, true, true, true, true, true, true, true, true, true, true, true, true, false, false, false, false] rfl rfl kr_ (by decide) (fun K hK => ?_)
           have hc_ := (blk_cell S30.b 3).trans rfl
           have hf_ := blk_frozen S30.b 3
           refine skip_ (w1 := ?_) (by rfl) rfl ?_ ?_
           rotate_left
           ·
            go_simp
            rfl
           clear hc_ hf_
           refine hK.out _ _ ?_
           clear hK K
           replace S30 := S30.set (Aside0.out (by assumption)) 3 (.slice p0_ B.length q0_) rfl
           refine pn_ 15 74 kr_ ?_
           refine last_ (i := 16) (N := none) #[true, true, true, true, true, true, true, true, true, true, true, true, true, true, true, true, true, false, false] rfl rfl kr_ (by decide) (fun K hK => ?_)
           have hc_ := (blk_cell S30.b 4).trans rfl
           have hf_ := blk_frozen S30.b 4
           refine skip_ (w1 := ?_) (by rfl) rfl ?_ ?_
           rotate_left
           ·
            go_simp
            rfl
           clear hc_ hf_
           refine hK.out _ _ ?_
           clear hK K
           replace S30 := S30.set (Aside0.out (by assumption)) 4 (.slice p1_ U.length q1_) rfl
           refine pn_ 17 75 kr_ ?_
           refine last_ (i := 18) (N := none) #[true, true, true, true, true, true, true, true, true, true, true, true, true, true, true, true, true, true, true] rfl rfl kr_ (by decide) (fun K hK => ?_)
           have hc_ := (blk_cell S30.b 5).trans rfl
           have hf_ := blk_frozen S30.b 5
           refine skip_ (w1 := ?_) (by rfl) rfl ?_ ?_
           rotate_left
           ·
            go_simp
            rfl
           clear hc_ hf_
           refine hK.out _ _ ?_
           clear hK K
           replace S30 := S30.set (Aside0.out (by assumption)) 5 (.slice p2_ aY.length q2_) rfl
           refine done_ kr_ ?_
           try go_wp2
           go_roundg k4
           case measure => have := ar.out; have := au.out; have := ay.out; have := aH.out; omega
           exact ⟨(ac), (o25), (wrap64 (q + 1)), (B), (U), (aY), (.slice p0_ B.length q0_), (.slice p1_ U.length q1_), (.slice p2_ aY.length q2_), eq_, H', ⟨by have := ar.out; have := au.out; have := ay.out; have := aH.out; omega⟩, ⟨S30.n⟩, ⟨S30.mp⟩, ⟨S30.l⟩, ⟨S30.a⟩, ⟨S30.c⟩, ⟨S30.dd⟩, ⟨S30.e⟩, ⟨S30.b⟩, ⟨S30.hb⟩⟩
          exact AllReadyL.nil
         exact AllReadyL.nil
        exact AllReadyL.nil
       refine AllReadyL.cons rfl (by decide) (fun K hK => ?_) ?_
       ·
        refine val_step (v := .slice (some ⟨W26.heap.size, 0, none⟩) 1 1) (w1 := W26.alloc (.cells #[.int .i64 1] 3 (0, 0))) rfl (by first | (go_simp; done) | (go_simp; rfl)) ?_
        have T31_ := S26.new 1
        have S31 := S26.alloc (.cells #[.int .i64 1] 3 (0, 0))
        have T31_3 := T26_3.alloc (.cells #[.int .i64 1] 3 (0, 0))
        have T31_11 := T26_.alloc (.cells #[.int .i64 1] 3 (0, 0))
        obtain ⟨d31, ed31⟩ : ∃ d_, d_ = W26.heap.size := ⟨_, rfl⟩
        rw [← ed31] at T31_ ⊢
        obtain ⟨W31, eW31⟩ : ∃ W_, W_ = W26.alloc (.cells #[.int .i64 1] 3 (0, 0)) := ⟨_, rfl⟩
        rw [← eW31] at T31_ S31 T31_3 T31_11 ⊢
        clear ed31 eW31
        refine hK.out _ _ (ca8_ S31.b) (fun hHeld => ?_)
        clear hK K
        refine nor_ (N := some 67) ?_
        refine wpAnyLast_ready (rs := [4]) (by kernel_rfl) (by simp) ?_
        refine AllReadyL.cons rfl (by decide) (fun K hK => ?_) ?_
        ·
         refine app_step rfl (.tmp 61) (.tmp 63) rfl u638003 v d1 _ _ rfl rfl S31.c T31_3 (S31.freshC hvm) S31.hb LMc28.out ?_
         intro F32 W32 ho hb hg hat
         rw [← bV.out] at ho
         have S32 := S31.appC ho hb hg hat
         have T32_11 := T31_11.appC hg hat
         have T32_7 := T31_.appC hg hat
         clear ho hb hg hat
         refine hK.out _ _ (ca8_ S32.b) (fun hHeld => ?_)
         clear hK K
         refine nor_ (N := some 64) ?_
         refine pn_ 13 73 kr_ ?_
         refine wpAnyLast_ready (rs := [8]) (by kernel_rfl) (by simp) ?_
         refine AllReadyL.cons rfl (by decide) (fun K hK => ?_) ?_
         ·
          refine app_step rfl (.tmp 66) (.tmp 67) rfl u638004 u d31 _ _ rfl rfl S32.dd T32_7 (S32.freshD hvm) S32.hb LMc29.out ?_
          intro F33 W33 ho hb hg hat
          rw [← bW.out] at ho
          have S33 := S32.appD ho hb hg hat
          have T33_11 := T32_11.appD hg hat
          clear ho hb hg hat
          refine hK.out _ _ (ca8_ S33.b) (fun hHeld => ?_)
          clear hK K
          refine nor_ (N := some 68) ?_
          refine wpAnyLast_ready (rs := [12]) (by kernel_rfl) (by simp) ?_
          refine AllReadyL.cons rfl (by decide) (fun K hK => ?_) ?_
          ·
           refine app_step rfl (.tmp 70) (.tmp 71) rfl u638005 s d26 _ _ rfl rfl S33.e T33_11 (S33.freshE hvm) S33.hb LMc30.out ?_
           intro F34 W34 ho hb hg hat
           rw [← bX.out] at ho
           have S34 := S33.appE ho hb hg hat
           clear ho hb hg hat
           refine hK.out _ _ (ca8_ S34.b) (fun hHeld => ?_)
           clear hK K
           refine nor_ (N := some 72) ?_
           obtain ⟨p0_, q0_, e0_⟩ := Kd.R_slice S34.c
           subst e0_
           obtain ⟨p1_, q1_, e1_⟩ := Kd.R_slice S34.dd
           subst e1_
           obtain ⟨p2_, q2_, e2_⟩ := Kd.R_slice S34.e
           subst e2_
           refine last_ (i := 14) (N := none) #[true, true, true, true, true, true, true, true, true, true, true, true, true, true, true, false, false, false, false] rfl rfl kr_ (by decide) (fun K hK => ?_)
           have hc_ := (blk_cell S34.b 3).trans rfl
           have hf_ := blk_frozen S34.b 3
           refine skip_ (w1 := ?_) (by rfl) rfl ?_ ?_
           rotate_left
           ·
            go_simp
            rfl
           clear hc_ hf_
           refine hK.out _ _ ?_
           clear hK K
           replace S34 := S34.set (Aside0.out (by assumption)) 3 (.slice p0_ B.length q0_) rfl
           refine pn_ 15 74 kr_ ?_
           refine last_ (i := 16) (N := none) #[true, true, true, true, true, true, true, true, true, true, true, true, true, true, true, true, true, false, false] rfl rfl kr_ (by decide) (fun K hK => ?_)
           have hc_ := (blk_cell S34.b 4).trans rfl
           have hf_ := blk_frozen S34.b 4
           refine skip_ (w1 := ?_) (by rfl) rfl ?_ ?_
           rotate_left
           ·
            go_simp
            rfl
           clear hc_ hf_
           refine hK.out _ _ ?_
           clear hK K
           replace S34 := S34.set (Aside0.out (by assumption)) 4 (.slice p1_ U.length q1_) rfl
           refine pn_ 17 75 kr_ ?_
           refine last_ (i := 18) (N := none) #[true, true, true, true, true, true, true, true, true, true, true, true, true, true, true, true, true, true, true] rfl rfl kr_ (by decide) (fun K hK => ?_)
           have hc_ := (blk_cell S34.b 5).trans rfl
           have hf_ := blk_frozen S34.b 5
           refine skip_ (w1 := ?_) (by rfl) rfl ?_ ?_
           rotate_left
           ·
            go_simp
            rfl
           clear hc_ hf_
           refine hK.out _ _ ?_
           clear hK K
           replace S34 := S34.set (Aside0.out (by assumption)) 5 (.slice p2_ aY.length q2_) rfl
           refine done_ kr_ ?_
           try go_wp2
           go_roundg k4
           case measure => have := ar.out; have := au.out; have := ay.out; have := aH.out; omega
           exact ⟨(ac), (o25), (wrap64 (q + 1)), (B), (U), (aY), (.slice p0_ B.length q0_), (.slice p1_ U.length q1_), (.slice p2_ aY.length q2_), eq_, H', ⟨by have := ar.out; have := au.out; have := ay.out; have := aH.out; omega⟩, ⟨S34.n⟩, ⟨S34.mp⟩, ⟨S34.l⟩, ⟨S34.a⟩, ⟨S34.c⟩, ⟨S34.dd⟩, ⟨S34.e⟩, ⟨S34.b⟩, ⟨S34.hb⟩⟩
          exact AllReadyL.nil
         exact AllReadyL.nil
        exact AllReadyL.nil
       exact AllReadyL.nil
      exact AllReadyL.nil
     refine AllReadyL.cons rfl (by decide) (fun K hK => ?_) ?_
     ·
      refine val_step (v := .slice (some ⟨w0.heap.size, 0, none⟩) 1 1) (w1 := w0.alloc (.cells #[.int .i64 1] 3 (0, 0))) rfl (by first | (go_simp; done) | (go_simp; rfl)) ?_
      have T35_ := S0.new 1
      have S35 := S0.alloc (.cells #[.int .i64 1] 3 (0, 0))
      obtain ⟨d35, ed35⟩ : ∃ d_, d_ = w0.heap.size := ⟨_, rfl⟩
      rw [← ed35] at T35_ ⊢
      obtain ⟨W35, eW35⟩ : ∃ W_, W_ = w0.alloc (.cells #[.int .i64 1] 3 (0, 0)) := ⟨_, rfl⟩
      rw [← eW35] at T35_ S35 ⊢
      clear ed35 eW35
      refine hK.out _ _ (ca8_ S35.b) (fun hHeld => ?_)
      clear hK K
      refine nor_ (N := some 67) ?_
      refine wpAnyLast_ready (rs := [3, 11]) (by kernel_rfl) (by simp) ?_
      refine AllReadyL.cons rfl (by decide) (fun K hK => ?_) ?_
      ·
       refine val_step (v := .slice (some ⟨W35.heap.size, 0, none⟩) 1 1) (w1 := W35.alloc (.cells #[.int .i64 (rd (rd_L7 d l) q)] 3 (0, 0))) rfl (by first | (go_simp; done) | (go_simp; rfl)) ?_
       have T36_ := S35.new (rd (rd_L7 d l) q)
       have S36 := S35.alloc (.cells #[.int .i64 (rd (rd_L7 d l) q)] 3 (0, 0))
       have T36_7 := T35_.alloc (.cells #[.int .i64 (rd (rd_L7 d l) q)] 3 (0, 0))
       obtain ⟨d36, ed36⟩ : ∃ d_, d_ = W35.heap.size := ⟨_, rfl⟩
       rw [← ed36] at T36_ ⊢
       obtain ⟨W36, eW36⟩ : ∃ W_, W_ = W35.alloc (.cells #[.int .i64 (rd (rd_L7 d l) q)] 3 (0, 0)) := ⟨_, rfl⟩
       rw [← eW36] at T36_ S36 T36_7 ⊢
       clear ed36 eW36
       refine hK.out _ _ (ca8_ S36.b) (fun hHeld => ?_)
       clear hK K
       refine nor_ (N := some 63) ?_
       refine wpAnyLast_ready (rs := [4, 11]) (by kernel_rfl) (by simp) ?_
       refine AllReadyL.cons rfl (by decide) (fun K hK => ?_) ?_
       ·
        refine app_step rfl (.tmp 61) (.tmp 63) rfl u638003 v d36 _ _ rfl rfl S36.c T36_ (S36.freshC hvm) S36.hb LMc28.out ?_
        intro F37 W37 ho hb hg hat
        rw [← bV.out] at ho
        have S37 := S36.appC ho hb hg hat
        have T37_7 := T36_7.appC hg hat
        clear ho hb hg hat
        refine hK.out _ _ (ca8_ S37.b) (fun hHeld => ?_)
        clear hK K
        refine nor_ (N := some 64) ?_
        refine pn_ 13 73 kr_ ?_
        refine wpAnyLast_ready (rs := [8, 11]) (by kernel_rfl) (by simp) ?_
        refine AllReadyL.cons rfl (by decide) (fun K hK => ?_) ?_
        ·
         refine app_step rfl (.tmp 66) (.tmp 67) rfl u638004 u d35 _ _ rfl rfl S37.dd T37_7 (S37.freshD hvm) S37.hb LMc29.out ?_
         intro F38 W38 ho hb hg hat
         rw [← bW.out] at ho
         have S38 := S37.appD ho hb hg hat
         clear ho hb hg hat
         refine hK.out _ _ (ca8_ S38.b) (fun hHeld => ?_)
         clear hK K
         refine nor_ (N := some 68) ?_
         refine wpAnyLast_ready (rs := [11]) (by kernel_rfl) (by simp) ?_
         refine AllReadyL.cons rfl (by decide) (fun K hK => ?_) ?_
         ·
          refine val_step (v := .slice (some ⟨W38.heap.size, 0, none⟩) 1 1) (w1 := W38.alloc (.cells #[.int .i64 1] 3 (0, 0))) rfl (by first | (go_simp; done) | (go_simp; rfl)) ?_
          have T39_ := S38.new 1
          have S39 := S38.alloc (.cells #[.int .i64 1] 3 (0, 0))
          obtain ⟨d39, ed39⟩ : ∃ d_, d_ = W38.heap.size := ⟨_, rfl⟩
          rw [← ed39] at T39_ ⊢
          obtain ⟨W39, eW39⟩ : ∃ W_, W_ = W38.alloc (.cells #[.int .i64 1] 3 (0, 0)) := ⟨_, rfl⟩
          rw [← eW39] at T39_ S39 ⊢
          clear ed39 eW39
          refine hK.out _ _ (ca8_ S39.b) (fun hHeld => ?_)
          clear hK K
          refine nor_ (N := some 71) ?_
          refine wpAnyLast_ready (rs := [12]) (by kernel_rfl) (by simp) ?_
          refine AllReadyL.cons rfl (by decide) (fun K hK => ?_) ?_
          ·
           refine app_step rfl (.tmp 70) (.tmp 71) rfl u638005 s d39 _ _ rfl rfl S39.e T39_ (S39.freshE hvm) S39.hb LMc30.out ?_
           intro F40 W40 ho hb hg hat
           rw [← bX.out] at ho
           have S40 := S39.appE ho hb hg hat
           clear ho hb hg hat
           refine hK.out _ _ (ca8_ S40.b) (fun hHeld => ?_)
           clear hK K
           refine nor_ (N := some 72) ?_
           obtain ⟨p0_, q0_, e0_⟩ := Kd.R_slice S40.c
           subst e0_
           obtain ⟨p1_, q1_, e1_⟩ := Kd.R_slice S40.dd
           subst e1_
           obtain ⟨p2_, q2_, e2_⟩ := Kd.R_slice S40.e
           subst e2_
           refine last_ (i := 14) (N := none) #[true, true, true, true, true, true, true, true, true, true, true, true, true, true, true, false, false, false, false] rfl rfl kr_ (by decide) (fun K hK => ?_)
           have hc_ := (blk_cell S40.b 3).trans rfl
           have hf_ := blk_frozen S40.b 3
           refine skip_ (w1 := ?_) (by rfl) rfl ?_ ?_
           rotate_left
           ·
            go_simp
            rfl
           clear hc_ hf_
           refine hK.out _ _ ?_
           clear hK K
           replace S40 := S40.set (Aside0.out (by assumption)) 3 (.slice p0_ B.length q0_) rfl
           refine pn_ 15 74 kr_ ?_
           refine last_ (i := 16) (N := none) #[true, true, true, true, true, true, true, true, true, true, true, true, true, true, true, true, true, false, false] rfl rfl kr_ (by decide) (fun K hK => ?_)
           have hc_ := (blk_cell S40.b 4).trans rfl
           have hf_ := blk_frozen S40.b 4
           refine skip_ (w1 := ?_) (by rfl) rfl ?_ ?_
           rotate_left
           ·
            go_simp
            rfl
           clear hc_ hf_
           refine hK.out _ _ ?_
           clear hK K
           replace S40 := S40.set (Aside0.out (by assumption)) 4 (.slice p1_ U.length q1_) rfl
           refine pn_ 17 75 kr_ ?_
           refine last_ (i := 18) (N := none) #[true, true, true, true, true, true, true, true, true, true, true, true, true, true, true, true, true, true, true] rfl rfl kr_ (by decide) (fun K hK => ?_)
           have hc_ := (blk_cell S40.b 5).trans rfl
           have hf_ := blk_frozen S40.b 5
           refine skip_ (w1 := ?_) (by rfl) rfl ?_ ?_
           rotate_left
           ·
            go_simp
            rfl
           clear hc_ hf_
           refine hK.out _ _ ?_
           clear hK K
           replace S40 := S40.set (Aside0.out (by assumption)) 5 (.slice p2_ aY.length q2_) rfl
           refine done_ kr_ ?_
           try go_wp2
           go_roundg k4
           case measure => have := ar.out; have := au.out; have := ay.out; have := aH.out; omega
           exact ⟨(ac), (o25), (wrap64 (q + 1)), (B), (U), (aY), (.slice p0_ B.length q0_), (.slice p1_ U.length q1_), (.slice p2_ aY.length q2_), eq_, H', ⟨by have := ar.out; have := au.out; have := ay.out; have := aH.out; omega⟩, ⟨S40.n⟩, ⟨S40.mp⟩, ⟨S40.l⟩, ⟨S40.a⟩, ⟨S40.c⟩, ⟨S40.dd⟩, ⟨S40.e⟩, ⟨S40.b⟩, ⟨S40.hb⟩⟩
          exact AllReadyL.nil
         exact AllReadyL.nil
        refine AllReadyL.cons rfl (by decide) (fun K hK => ?_) ?_
        ·
         refine val_step (v := .slice (some ⟨W37.heap.size, 0, none⟩) 1 1) (w1 := W37.alloc (.cells #[.int .i64 1] 3 (0, 0))) rfl (by first | (go_simp; done) | (go_simp; rfl)) ?_
         have T41_ := S37.new 1
         have S41 := S37.alloc (.cells #[.int .i64 1] 3 (0, 0))
         have T41_7 := T37_7.alloc (.cells #[.int .i64 1] 3 (0, 0))
         obtain ⟨d41, ed41⟩ : ∃ d_, d_ = W37.heap.size := ⟨_, rfl⟩
         rw [← ed41] at T41_ ⊢
         obtain ⟨W41, eW41⟩ : ∃ W_, W_ = W37.alloc (.cells #[.int .i64 1] 3 (0, 0)) := ⟨_, rfl⟩
         rw [← eW41] at T41_ S41 T41_7 ⊢
         clear ed41 eW41
         refine hK.out _ _ (ca8_ S41.b) (fun hHeld => ?_)
         clear hK K
         refine nor_ (N := some 71) ?_
         refine wpAnyLast_ready (rs := [8]) (by kernel_rfl) (by simp) ?_
         refine AllReadyL.cons rfl (by decide) (fun K hK => ?_) ?_
         ·
          refine app_step rfl (.tmp 66) (.tmp 67) rfl u638004 u d35 _ _ rfl rfl S41.dd T41_7 (S41.freshD hvm) S41.hb LMc29.out ?_
          intro F42 W42 ho hb hg hat
          rw [← bW.out] at ho
          have S42 := S41.appD ho hb hg hat
          have T42_11 := T41_.appD hg hat
          clear ho hb hg hat
          refine hK.out _ _ (ca8_ S42.b) (fun hHeld => ?_)
          clear hK K
          refine nor_ (N := some 68) ?_
          refine wpAnyLast_ready (rs := [12]) (by kernel_rfl) (by simp) ?_
          refine AllReadyL.cons rfl (by decide) (fun K hK => ?_) ?_
          ·
           refine app_step rfl (.tmp 70) (.tmp 71) rfl u638005 s d41 _ _ rfl rfl S42.e T42_11 (S42.freshE hvm) S42.hb LMc30.out ?_
           intro F43 W43 ho hb hg hat
           rw [← bX.out] at ho
           have S43 := S42.appE ho hb hg hat
           clear ho hb hg hat
           refine hK.out _ _ (ca8_ S43.b) (fun hHeld => ?_)
           clear hK K
           refine nor_ (N := some 72) ?_
           obtain ⟨p0_, q0_, e0_⟩ := Kd.R_slice S43.c
           subst e0_
           obtain ⟨p1_, q1_, e1_⟩ := Kd.R_slice S43.dd
           subst e1_
           obtain ⟨p2_, q2_, e2_⟩ := Kd.R_slice S43.e
           subst e2_
           refine last_ (i := 14) (N := none) #[true, true, true, true, true, true, true, true, true, true, true, true, true, true, true, false, false, false, false] rfl rfl kr_ (by decide) (fun K hK => ?_)
           have hc_ := (blk_cell S43.b 3).trans rfl
           have hf_ := blk_frozen S43.b 3
           refine skip_ (w1 := ?_) (by rfl) rfl ?_ ?_
           rotate_left
           ·
            go_simp
            rfl
           clear hc_ hf_
           refine hK.out _ _ ?_
           clear hK K
           replace S43 := S43.set (Aside0.out (by assumption)) 3 (.slice p0_ B.length q0_) rfl
           refine pn_ 15 74 kr_ ?_
           refine last_ (i := 16) (N := none) #[true, true, true, true, true, true, true, true, true, true, true, true, true, true, true, true, true, false, false] rfl rfl kr_ (by decide) (fun K hK => ?_)
           have hc_ := (blk_cell S43.b 4).trans rfl
           have hf_ := blk_frozen S43.b 4
           refine skip_ (w1 := ?_) (by rfl) rfl ?_ ?_
           rotate_left
           ·
            go_simp
            rfl
           clear hc_ hf_
           refine hK.out _ _ ?_
           clear hK K
           replace S43 := S43.set (Aside0.out (by assumption)) 4 (.slice p1_ U.length q1_) rfl
           refine pn_ 17 75 kr_ ?_
           refine last_ (i := 18) (N := none) #[true, true, true, true, true, true, true, true, true, true, true, true, true, true, true, true, true, true, true] rfl rfl kr_ (by decide) (fun K hK => ?_)
           have hc_ := (blk_cell S43.b 5).trans rfl
           have hf_ := blk_frozen S43.b 5
           refine skip_ (w1 := ?_) (by rfl) rfl ?_ ?_
           rotate_left
           ·
            go_simp
            rfl
           clear hc_ hf_
           refine hK.out _ _ ?_
           clear hK K
           replace S43 := S43.set (Aside0.out (by assumption)) 5 (.slice p2_ aY.length q2_) rfl
           refine done_ kr_ ?_
           try go_wp2
           go_roundg k4
           case measure => have := ar.out; have := au.out; have := ay.out; have := aH.out; omega
           exact ⟨(ac), (o25), (wrap64 (q + 1)), (B), (U), (aY), (.slice p0_ B.length q0_), (.slice p1_ U.length q1_), (.slice p2_ aY.length q2_), eq_, H', ⟨by have := ar.out; have := au.out; have := ay.out; have := aH.out; omega⟩, ⟨S43.n⟩, ⟨S43.mp⟩, ⟨S43.l⟩, ⟨S43.a⟩, ⟨S43.c⟩, ⟨S43.dd⟩, ⟨S43.e⟩, ⟨S43.b⟩, ⟨S43.hb⟩⟩
          exact AllReadyL.nil
         exact AllReadyL.nil
        exact AllReadyL.nil
       refine AllReadyL.cons rfl (by decide) (fun K hK => ?_) ?_
       ·
        refine val_step (v := .slice (some ⟨W36.heap.size, 0, none⟩) 1 1) (w1 := W36.alloc (.cells #[.int .i64 1] 3 (0, 0))) rfl (by first | (go_simp; done) | (go_simp; rfl)) ?_
        have T44_ := S36.new 1
        have S44 := S36.alloc (.cells #[.int .i64 1] 3 (0, 0))
        have T44_7 := T36_7.alloc (.cells #[.int .i64 1] 3 (0, 0))
        have T44_3 := T36_.alloc (.cells #[.int .i64 1] 3 (0, 0))
        obtain ⟨d44, ed44⟩ : ∃ d_, d_ = W36.heap.size := ⟨_, rfl⟩
        rw [← ed44] at T44_ ⊢
        obtain ⟨W44, eW44⟩ : ∃ W_, W_ = W36.alloc (.cells #[.int .i64 1] 3 (0, 0)) := ⟨_, rfl⟩
        rw [← eW44] at T44_ S44 T44_7 T44_3 ⊢
        clear ed44 eW44
        refine hK.out _ _ (ca8_ S44.b) (fun hHeld => ?_)
        clear hK K
        refine nor_ (N := some 71) ?_
        refine wpAnyLast_ready (rs := [4]) (by kernel_rfl) (by simp) ?_
        refine AllReadyL.cons rfl (by decide) (fun K hK => ?_) ?_
        ·
         refine app_step rfl (.tmp 61) (.tmp 63) rfl u638003 v d36 _ _ rfl rfl S44.c T44_3 (S44.freshC hvm) S44.hb LMc28.out ?_
         intro F45 W45 ho hb hg hat
         rw [← bV.out] at ho
         have S45 := S44.appC ho hb hg hat
         have T45_7 := T44_7.appC hg hat
         have T45_11 := T44_.appC hg hat
         clear ho hb hg hat
         refine hK.out _ _ (ca8_ S45.b) (fun hHeld => ?_)
         clear hK K
         refine nor_ (N := some 64) ?_
         refine pn_ 13 73 kr_ ?_
         refine wpAnyLast_ready (rs := [8]) (by kernel_rfl) (by simp) ?_
         refine AllReadyL.cons rfl (by decide) (fun K hK => ?_) ?_
         ·
          refine app_step rfl (.tmp 66) (.tmp 67) rfl u638004 u d35 _ _ rfl rfl S45.dd T45_7 (S45.freshD hvm) S45.hb LMc29.out ?_
          intro F46 W46 ho hb hg hat
          rw [← bW.out] at ho
          have S46 := S45.appD ho hb hg hat
          have T46_11 := T45_11.appD hg hat
          clear ho hb hg hat
          refine hK.out _ _ (ca8_ S46.b) (fun hHeld => ?_)
          clear hK K
          refine nor_ (N := some 68) ?_
          refine wpAnyLast_ready (rs := [12]) (by kernel_rfl) (by simp) ?_
          refine AllReadyL.cons rfl (by decide) (fun K hK => ?_) ?_
          ·
           refine app_step rfl (.tmp 70) (.tmp 71) rfl u638005 s d44 _ _ rfl rfl S46.e T46_11 (S46.freshE hvm) S46.hb LMc30.out ?_
           intro F47 W47 ho hb hg hat
           rw [← bX.out] at ho
           have S47 := S46.appE ho hb hg hat
           clear ho hb hg hat
           refine hK.out _ _ (ca8_ S47.b) (fun hHeld => ?_)
           clear hK K
           refine nor_ (N := some 72) ?_
           obtain ⟨p0_, q0_, e0_⟩ := Kd.R_slice S47.c
           subst e0_
           obtain ⟨p1_, q1_, e1_⟩ := Kd.R_slice S47.dd
           subst e1_
           obtain ⟨p2_, q2_, e2_⟩ := Kd.R_slice S47.e
           subst e2_
           refine last_ (i := 14) (N := none) #[true, true, true, true, true, true, true, true, true, true, true, true, true, true, true, false, false, false, false] rfl rfl kr_ (by decide) (fun K hK => ?_)
           have hc_ := (blk_cell S47.b 3).trans rfl
           have hf_ := blk_frozen S47.b 3
           refine skip_ (w1 := ?_) (by rfl) rfl ?_ ?_
           rotate_left
           ·
            go_simp
            rfl
           clear hc_ hf_
           refine hK.out _ _ ?_
           clear hK K
           replace S47 := S47.set (Aside0.out (by assumption)) 3 (.slice p0_ B.length q0_) rfl
           refine pn_ 15 74 kr_ ?_
           refine last_ (i := 16) (N := none) #[true, true, true, true, true, true, true, true, true, true, true, true, true, true, true, true, true, false, false] rfl rfl kr_ (by decide) (fun K hK => ?_)
           have hc_ := (blk_cell S47.b 4).trans rfl
           have hf_ := blk_frozen S47.b 4
           refine skip_ (w1 := ?_) (by rfl) rfl ?_ ?_
           rotate_left
           ·
            go_simp
            rfl
           clear hc_ hf_
           refine hK.out _ _ ?_
           clear hK K
           replace S47 := S47.set (Aside0.out (by assumption)) 4 (.slice p1_ U.length q1_) rfl
           refine pn_ 17 75 kr_ ?_
           refine last_ (i := 18) (N := none) #[true, true, true, true, true, true, true, true, true, true, true, true, true, true, true, true, true, true, true] rfl rfl kr_ (by decide) (fun K hK => ?_)
           have hc_ := (blk_cell S47.b 5).trans rfl
           have hf_ := blk_frozen S47.b 5
           refine skip_ (w1 := ?_) (by rfl) rfl ?_ ?_
           rotate_left
           ·
            go_simp
            rfl
           clear hc_ hf_
           refine hK.out _ _ ?_
           clear hK K
           replace S47 := S47.set (Aside0.out (by assumption)) 5 (.slice p2_ aY.length q2_) rfl
           refine done_ kr_ ?_
           try go_wp2
           go_roundg k4
           case measure => have := ar.out; have := au.out; have := ay.out; have := aH.out; omega
           exact ⟨(ac), (o25), (wrap64 (q + 1)), (B), (U), (aY), (.slice p0_ B.length q0_), (.slice p1_ U.length q1_), (.slice p2_ aY.length q2_), eq_, H', ⟨by have := ar.out; have := au.out; have := ay.out; have := aH.out; omega⟩, ⟨S47.n⟩, ⟨S47.mp⟩, ⟨S47.l⟩, ⟨S47.a⟩, ⟨S47.c⟩, ⟨S47.dd⟩, ⟨S47.e⟩, ⟨S47.b⟩, ⟨S47.hb⟩⟩
          exact AllReadyL.nil
         exact AllReadyL.nil
        exact AllReadyL.nil
       exact AllReadyL.nil
      refine AllReadyL.cons rfl (by decide) (fun K hK => ?_) ?_
      ·
       refine val_step (v := .slice (some ⟨W35.heap.size, 0, none⟩) 1 1) (w1 := W35.alloc (.cells #[.int .i64 1] 3 (0, 0))) rfl (by first | (go_simp; done) | (go_simp; rfl)) ?_
       have T48_ := S35.new 1
       have S48 := S35.alloc (.cells #[.int .i64 1] 3 (0, 0))
       have T48_7 := T35_.alloc (.cells #[.int .i64 1] 3 (0, 0))
       obtain ⟨d48, ed48⟩ : ∃ d_, d_ = W35.heap.size := ⟨_, rfl⟩
       rw [← ed48] at T48_ ⊢
       obtain ⟨W48, eW48⟩ : ∃ W_, W_ = W35.alloc (.cells #[.int .i64 1] 3 (0, 0)) := ⟨_, rfl⟩
       rw [← eW48] at T48_ S48 T48_7 ⊢
       clear ed48 eW48
       refine hK.out _ _ (ca8_ S48.b) (fun hHeld => ?_)
       clear hK K
       refine nor_ (N := some 71) ?_
       refine wpAnyLast_ready (rs := [3]) (by kernel_rfl) (by simp) ?_
       refine AllReadyL.cons rfl (by decide) (fun K hK => ?_) ?_
       ·
        refine val_step (v := .slice (some ⟨W48.heap.size, 0, none⟩) 1 1) (w1 := W48.alloc (.cells #[.int .i64 (rd (rd_L7 d l) q)] 3 (0, 0))) rfl (by first | (go_simp; done) | (go_simp; rfl)) ?_
        have T49_ := S48.new (rd (rd_L7 d l) q)
        have S49 := S48.alloc (.cells #[.int .i64 (rd (rd_L7 d l) q)] 3 (0, 0))
        have T49_7 := T48_7.alloc (.cells #[.int .i64 (rd (rd_L7 d l) q)] 3 (0, 0))
        have T49_11 := T48_.alloc (.cells #[.int .i64 (rd (rd_L7 d l) q)] 3 (0, 0))
        obtain ⟨d49, ed49⟩ : ∃ d_, d_ = W48.heap.size := ⟨_, rfl⟩
        rw [← ed49] at T49_ ⊢
        obtain ⟨W49, eW49⟩ : ∃ W_, W_ = W48.alloc (.cells #[.int .i64 (rd (rd_L7 d l) q)] 3 (0, 0)) := ⟨_, rfl⟩
        rw [← eW49] at T49_ S49 T49_7 T49_11 ⊢
        clear ed49 eW49
        refine hK.out _ _ (ca8_ S49.b) (fun hHeld => ?_)
        clear hK K
        refine nor_ (N := some 63) ?_
        refine wpAnyLast_ready (rs := [4]) (by kernel_rfl) (by simp) ?_
        refine AllReadyL.cons rfl (by decide) (fun K hK => ?_) ?_
        ·
         refine app_step rfl (.tmp 61) (.tmp 63) rfl u638003 v d49 _ _ rfl rfl S49.c T49_ (S49.freshC hvm) S49.hb LMc28.out ?_
         intro F50 W50 ho hb hg hat
         rw [← bV.out] at ho
         have S50 := S49.appC ho hb hg hat
         have T50_7 := T49_7.appC hg hat
         have T50_11 := T49_11.appC hg hat
         clear ho hb hg hat
         refine hK.out _ _ (ca8_ S50.b) (fun hHeld => ?_)
         clear hK K
         refine nor_ (N := some 64) ?_
         refine pn_ 13 73 kr_ ?_
         refine wpAnyLast_ready (rs := [8]) (by kernel_rfl) (by simp) ?_
         refine AllReadyL.cons rfl (by decide) (fun K hK => ?_) ?_
         ·
          refine app_step rfl (.tmp 66) (.tmp 67) rfl u638004 u d35 _ _ rfl rfl S50.dd T50_7 (S50.freshD hvm) S50.hb LMc29.out ?_
          intro F51 W51 ho hb hg hat
          rw [← bW.out] at ho
          have S51 := S50.appD ho hb hg hat
          have T51_11 := T50_11.appD hg hat
          clear ho hb hg hat
          refine hK.out _ _ (ca8_ S51.b) (fun hHeld => ?_)
          clear hK K
          refine nor_ (N := some 68) ?_
          refine wpAnyLast_ready (rs := [12]) (by kernel_rfl) (by simp) ?_
          refine AllReadyL.cons rfl (by decide) (fun K hK => ?_) ?_
          ·
           refine app_step rfl (.tmp 70) (.tmp 71) rfl u638005 s d48 _ _ rfl rfl S51.e T51_11 (S51.freshE hvm) S51.hb LMc30.out ?_
           intro F52 W52 ho hb hg hat
           rw [← bX.out] at ho
           have S52 := S51.appE ho hb hg hat
           clear ho hb hg hat
           refine hK.out _ _ (ca8_ S52.b) (fun hHeld => ?_)
           clear hK K
           refine nor_ (N := some 72) ?_
           obtain ⟨p0_, q0_, e0_⟩ := Kd.R_slice S52.c
           subst e0_
           obtain ⟨p1_, q1_, e1_⟩ := Kd.R_slice S52.dd
           subst e1_
           obtain ⟨p2_, q2_, e2_⟩ := Kd.R_slice S52.e
           subst e2_
           refine last_ (i := 14) (N := none) #[true, true, true, true, true, true, true, true, true, true, true, true, true, true, true, false, false, false, false] rfl rfl kr_ (by decide) (fun K hK => ?_)
           have hc_ := (blk_cell S52.b 3).trans rfl
           have hf_ := blk_frozen S52.b 3
           refine skip_ (w1 := ?_) (by rfl) rfl ?_ ?_
           rotate_left
           ·
            go_simp
            rfl
           clear hc_ hf_
           refine hK.out _ _ ?_
           clear hK K
           replace S52 := S52.set (Aside0.out (by assumption)) 3 (.slice p0_ B.length q0_) rfl
           refine pn_ 15 74 kr_ ?_
           refine last_ (i := 16) (N := none) #[true, true, true, true, true, true, true, true, true, true, true, true, true, true, true, true, true, false, false] rfl rfl kr_ (by decide) (fun K hK => ?_)
           have hc_ := (blk_cell S52.b 4).trans rfl
           have hf_ := blk_frozen S52.b 4
           refine skip_ (w1 := ?_) (by rfl) rfl ?_ ?_
           rotate_left
           ·
            go_simp
            rfl
           clear hc_ hf_
           refine hK.out _ _ ?_
           clear hK K
           replace S52 := S52.set (Aside0.out (by assumption)) 4 (.slice p1_ U.length q1_) rfl
           refine pn_ 17 75 kr_ ?_
           refine last_ (i := 18) (N := none) #[true, true, true, true, true, true, true, true, true, true, true, true, true, true, true, true, true, true, true] rfl rfl kr_ (by decide) (fun K hK => ?_)
           have hc_ := (blk_cell S52.b 5).trans rfl
           have hf_ := blk_frozen S52.b 5
           refine skip_ (w1 := ?_) (by rfl) rfl ?_ ?_
           rotate_left
           ·
            go_simp
            rfl
           clear hc_ hf_
           refine hK.out _ _ ?_
           clear hK K
           replace S52 := S52.set (Aside0.out (by assumption)) 5 (.slice p2_ aY.length q2_) rfl
           refine done_ kr_ ?_
           try go_wp2
           go_roundg k4
           case measure => have := ar.out; have := au.out; have := ay.out; have := aH.out; omega
           exact ⟨(ac), (o25), (wrap64 (q + 1)), (B), (U), (aY), (.slice p0_ B.length q0_), (.slice p1_ U.length q1_), (.slice p2_ aY.length q2_), eq_, H', ⟨by have := ar.out; have := au.out; have := ay.out; have := aH.out; omega⟩, ⟨S52.n⟩, ⟨S52.mp⟩, ⟨S52.l⟩, ⟨S52.a⟩, ⟨S52.c⟩, ⟨S52.dd⟩, ⟨S52.e⟩, ⟨S52.b⟩, ⟨S52.hb⟩⟩
          exact AllReadyL.nil
         exact AllReadyL.nil
        exact AllReadyL.nil
       exact AllReadyL.nil
      exact AllReadyL.nil
     refine AllReadyL.cons rfl (by decide) (fun K hK => ?_) ?_
     ·
      refine val_step (v := .slice (some ⟨w0.heap.size, 0, none⟩) 1 1) (w1 := w0.alloc (.cells #[.int .i64 1] 3 (0, 0))) rfl (by first | (go_simp; done) | (go_simp; rfl)) ?_
      have T53_ := S0.new 1
      have S53 := S0.alloc (.cells #[.int .i64 1] 3 (0, 0))
      obtain ⟨d53, ed53⟩ : ∃ d_, d_ = w0.heap.size := ⟨_, rfl⟩
      rw [← ed53] at T53_ ⊢
      obtain ⟨W53, eW53⟩ : ∃ W_, W_ = w0.alloc (.cells #[.int .i64 1] 3 (0, 0)) := ⟨_, rfl⟩
      rw [← eW53] at T53_ S53 ⊢
      clear ed53 eW53
      refine hK.out _ _ (ca8_ S53.b) (fun hHeld => ?_)
      clear hK K
      refine nor_ (N := some 71) ?_
      refine wpAnyLast_ready (rs := [3, 7]) (by kernel_rfl) (by simp) ?_
      refine AllReadyL.cons rfl (by decide) (fun K hK => ?_) ?_
      ·
       refine val_step (v := .slice (some ⟨W53.heap.size, 0, none⟩) 1 1) (w1 := W53.alloc (.cells #[.int .i64 (rd (rd_L7 d l) q)] 3 (0, 0))) rfl (by first | (go_simp; done) | (go_simp; rfl)) ?_
       have T54_ := S53.new (rd (rd_L7 d l) q)
       have S54 := S53.alloc (.cells #[.int .i64 (rd (rd_L7 d l) q)] 3 (0, 0))
       have T54_11 := T53_.alloc (.cells #[.int .i64 (rd (rd_L7 d l) q)] 3 (0, 0))
       obtain ⟨d54, ed54⟩ : ∃ d_, d_ = W53.heap.size := ⟨_, rfl⟩
       rw [← ed54] at T54_ ⊢
       obtain ⟨W54, eW54⟩ : ∃ W_, W_ = W53.alloc (.cells #[.int .i64 (rd (rd_L7 d l) q)] 3 (0, 0)) := ⟨_, rfl⟩
       rw [← eW54] at T54_ S54 T54_11 ⊢
       clear ed54 eW54
       refine hK.out _ _ (ca8_ S54.b) (fun hHeld => ?_)
       clear hK K
       refine nor_ (N := some 63) ?_
       refine wpAnyLast_ready (rs := [4, 7]) (by kernel_rfl) (by simp) ?_
       refine AllReadyL.cons rfl (by decide) (fun K hK => ?_) ?_
       ·
        refine app_step rfl (.tmp 61) (.tmp 63) rfl u638003 v d54 _ _ rfl rfl S54.c T54_ (S54.freshC hvm) S54.hb LMc28.out ?_
        intro F55 W55 ho hb hg hat
        rw [← bV.out] at ho
        have S55 := S54.appC ho hb hg hat
        have T55_11 := T54_11.appC hg hat
        clear ho hb hg hat
        refine hK.out _ _ (ca8_ S55.b) (fun hHeld => ?_)
        clear hK K
        refine nor_ (N := some 64) ?_
        refine pn_ 13 73 kr_ ?_
        refine wpAnyLast_ready (rs := [7]) (by kernel_rfl) (by simp) ?_
        refine AllReadyL.cons rfl (by decide) (fun K hK => ?_) ?_
        ·
         refine val_step (v := .slice (some ⟨W55.heap.size, 0, none⟩) 1 1) (w1 := W55.alloc (.cells #[.int .i64 1] 3 (0, 0))) rfl (by first | (go_simp; done) | (go_simp; rfl)) ?_
         have T56_ := S55.new 1
         have S56 := S55.alloc (.cells #[.int .i64 1] 3 (0, 0))
         have T56_11 := T55_11.alloc (.cells #[.int .i64 1] 3 (0, 0))
         obtain ⟨d56, ed56⟩ : ∃ d_, d_ = W55.heap.size := ⟨_, rfl⟩
         rw [← ed56] at T56_ ⊢
         obtain ⟨W56, eW56⟩ : ∃ W_, W_ = W55.alloc (.cells #[.int .i64 1] 3 (0, 0)) := ⟨_, rfl⟩
         rw [← eW56] at T56_ S56 T56_11 ⊢
         clear ed56 eW56
         refine hK.out _ _ (ca8_ S56.b) (fun hHeld => ?_)
         clear hK K
         refine nor_ (N := some 67) ?_
         refine wpAnyLast_ready (rs := [8]) (by kernel_rfl) (by simp) ?_
         refine AllReadyL.cons rfl (by decide) (fun K hK => ?_) ?_
         ·
          refine app_step rfl (.tmp 66) (.tmp 67) rfl u638004 u d56 _ _ rfl rfl S56.dd T56_ (S56.freshD hvm) S56.hb LMc29.out ?_
          intro F57 W57 ho hb hg hat
          rw [← bW.out] at ho
          have S57 := S56.appD ho hb hg hat
          have T57_11 := T56_11.appD hg hat
          clear ho hb hg hat
          refine hK.out _ _ (ca8_ S57.b) (fun hHeld => ?_)
          clear hK K
          refine nor_ (N := some 68) ?_
          refine wpAnyLast_ready (rs := [12]) (by kernel_rfl) (by simp) ?_
          refine AllReadyL.cons rfl (by decide) (fun K hK => ?_) ?_
          ·
           refine app_step rfl (.tmp 70) (.tmp 71) rfl u638005 s d53 _ _ rfl rfl S57.e T57_11 (S57.freshE hvm) S57.hb LMc30.out ?_
           intro F58 W58 ho hb hg hat
           rw [← bX.out] at ho
           have S58 := S57.appE ho hb hg hat
           clear ho hb hg hat
           refine hK.out _ _ (ca8_ S58.b) (fun hHeld => ?_)
           clear hK K
           refine nor_ (N := some 72) ?_
           obtain ⟨p0_, q0_, e0_⟩ := Kd.R_slice S58.c
           subst e0_
           obtain ⟨p1_, q1_, e1_⟩ := Kd.R_slice S58.dd
           subst e1_
           obtain ⟨p2_, q2_, e2_⟩ := Kd.R_slice S58.e
           subst e2_
           refine last_ (i := 14) (N := none) #[true, true, true, true, true, true, true, true, true, true, true, true, true, true, true, false, false, false, false] rfl rfl kr_ (by decide) (fun K hK => ?_)
           have hc_ := (blk_cell S58.b 3).trans rfl
           have hf_ := blk_frozen S58.b 3
           refine skip_ (w1 := ?_) (by rfl) rfl ?_ ?_
           rotate_left
           ·
            go_simp
            rfl
           clear hc_ hf_
           refine hK.out _ _ ?_
           clear hK K
           replace S58 := S58.set (Aside0.out (by assumption)) 3 (.slice p0_ B.length q0_) rfl
           refine pn_ 15 74 kr_ ?_
           refine last_ (i := 16) (N := none) #[true, true, true, true, true, true, true, true, true, true, true, true, true, true, true, true, true, false, false] rfl rfl kr_ (by decide) (fun K hK => ?_)
           have hc_ := (blk_cell S58.b 4).trans rfl
           have hf_ := blk_frozen S58.b 4
           refine skip_ (w1 := ?_) (by rfl) rfl ?_ ?_
           rotate_left
           ·
            go_simp
            rfl
           clear hc_ hf_
           refine hK.out _ _ ?_
           clear hK K
           replace S58 := S58.set (Aside0.out (by assumption)) 4 (.slice p1_ U.length q1_) rfl
           refine pn_ 17 75 kr_ ?_
           refine last_ (i := 18) (N := none) #[true, true, true, true, true, true, true, true, true, true, true, true, true, true, true, true, true, true, true] rfl rfl kr_ (by decide) (fun K hK => ?_)
           have hc_ := (blk_cell S58.b 5).trans rfl
           have hf_ := blk_frozen S58.b 5
           refine skip_ (w1 := ?_) (by rfl) rfl ?_ ?_
           rotate_left
           ·
            go_simp
            rfl
           clear hc_ hf_
           refine hK.out _ _ ?_
           clear hK K
           replace S58 := S58.set (Aside0.out (by assumption)) 5 (.slice p2_ aY.length q2_) rfl
           refine done_ kr_ ?_
           try go_wp2
           go_roundg k4
           case measure => have := ar.out; have := au.out; have := ay.out; have := aH.out; omega
           exact ⟨(ac), (o25), (wrap64 (q + 1)), (B), (U), (aY), (.slice p0_ B.length q0_), (.slice p1_ U.length q1_), (.slice p2_ aY.length q2_), eq_, H', ⟨by have := ar.out; have := au.out; have := ay.out; have := aH.out; omega⟩, ⟨S58.n⟩, ⟨S58.mp⟩, ⟨S58.l⟩, ⟨S58.a⟩, ⟨S58.c⟩, ⟨S58.dd⟩, ⟨S58.e⟩, ⟨S58.b⟩, ⟨S58.hb⟩⟩
          exact AllReadyL.nil
         exact AllReadyL.nil
        exact AllReadyL.nil
       refine AllReadyL.cons rfl (by decide) (fun K hK => ?_) ?_
       ·
        refine val_step (v := .slice (some ⟨W54.heap.size, 0, none⟩) 1 1) (w1 := W54.alloc (.cells #[.int .i64 1] 3 (0, 0))) rfl (by first | (go_simp; done) | (go_simp; rfl)) ?_
        have T59_ := S54.new 1
        have S59 := S54.alloc (.cells #[.int .i64 1] 3 (0, 0))
        have T59_11 := T54_11.alloc (.cells #[.int .i64 1] 3 (0, 0))
        have T59_3 := T54_.alloc (.cells #[.int .i64 1] 3 (0, 0))
        obtain ⟨d59, ed59⟩ : ∃ d_, d_ = W54.heap.size := ⟨_, rfl⟩
        rw [← ed59] at T59_ ⊢
        obtain ⟨W59, eW59⟩ : ∃ W_, W_ = W54.alloc (.cells #[.int .i64 1] 3 (0, 0)) := ⟨_, rfl⟩
        rw [← eW59] at T59_ S59 T59_11 T59_3 ⊢
        clear ed59 eW59
        refine hK.out _ _ (ca8_ S59.b) (fun hHeld => ?_)
        clear hK K
        refine nor_ (N := some 67) ?_
        refine wpAnyLast_ready (rs := [4]) (by kernel_rfl) (by simp) ?_
        refine AllReadyL.cons rfl (by decide) (fun K hK => ?_) ?_
        ·
         refine app_step rfl (.tmp 61) (.tmp 63) rfl u638003 v d54 _ _ rfl rfl S59.c T59_3 (S59.freshC hvm) S59.hb LMc28.out ?_
         intro F60 W60 ho hb hg hat
         rw [← bV.out] at ho
         have S60 := S59.appC ho hb hg hat
         have T60_11 := T59_11.appC hg hat
         have T60_7 := T59_.appC hg hat
         clear ho hb hg hat
         refine hK.out _ _ (ca8_ S60.b) (fun hHeld => ?_)
         clear hK K
         refine nor_ (N := some 64) ?_
         refine pn_ 13 73 kr_ ?_
         refine wpAnyLast_ready (rs := [8]) (by kernel_rfl) (by simp) ?_
         refine AllReadyL.cons rfl (by decide) (fun K hK => ?_) ?_
         ·
          refine app_step rfl (.tmp 66) (.tmp 67) rfl u638004 u d59 _ _ rfl rfl S60.dd T60_7 (S60.freshD hvm) S60.hb LMc29.out ?_
          intro F61 W61 ho hb hg hat
          rw [← bW.out] at ho
          have S61 := S60.appD ho hb hg hat
          have T61_11 := T60_11.appD hg hat
          clear ho hb hg hat
          refine hK.out _ _ (ca8_ S61.b) (fun hHeld => ?_)
          clear hK K
          refine nor_ (N := some 68) ?_
          refine wpAnyLast_ready (rs := [12]) (by kernel_rfl) (by simp) ?_
          refine AllReadyL.cons rfl (by decide) (fun K hK => ?_) ?_
          ·
           refine app_step rfl (.tmp 70) (.tmp 71) rfl u638005 s d53 _ _ rfl rfl S61.e T61_11 (S61.freshE hvm) S61.hb LMc30.out ?_
           intro F62 W62 ho hb hg hat
           rw [← bX.out] at ho
           have S62 := S61.appE ho hb hg hat
           clear ho hb hg hat
           refine hK.out _ _ (ca8_ S62.b) (fun hHeld => ?_)
           clear hK K
           refine nor_ (N := some 72) ?_
           obtain ⟨p0_, q0_, e0_⟩ := Kd.R_slice S62.c
           subst e0_
           obtain ⟨p1_, q1_, e1_⟩ := Kd.R_slice S62.dd
           subst e1_
           obtain ⟨p2_, q2_, e2_⟩ := Kd.R_slice S62.e
           subst e2_
           refine last_ (i := 14) (N := none) #[true, true, true, true, true, true, true, true, true, true, true, true, true, true, true, false, false, false, false] rfl rfl kr_ (by decide) (fun K hK => ?_)
           have hc_ := (blk_cell S62.b 3).trans rfl
           have hf_ := blk_frozen S62.b 3
           refine skip_ (w1 := ?_) (by rfl) rfl ?_ ?_
           rotate_left
           ·
            go_simp
            rfl
           clear hc_ hf_
           refine hK.out _ _ ?_
           clear hK K
           replace S62 := S62.set (Aside0.out (by assumption)) 3 (.slice p0_ B.length q0_) rfl
           refine pn_ 15 74 kr_ ?_
           refine last_ (i := 16) (N := none) #[true, true, true, true, true, true, true, true, true, true, true, true, true, true, true, true, true, false, false] rfl rfl kr_ (by decide) (fun K hK => ?_)
           have hc_ := (blk_cell S62.b 4).trans rfl
           have hf_ := blk_frozen S62.b 4
           refine skip_ (w1 := ?_) (by rfl) rfl ?_ ?_
           rotate_left
           ·
            go_simp
            rfl
           clear hc_ hf_
           refine hK.out _ _ ?_
           clear hK K
           replace S62 := S62.set (Aside0.out (by assumption)) 4 (.slice p1_ U.length q1_) rfl
           refine pn_ 17 75 kr_ ?_
           refine last_ (i := 18) (N := none) #[true, true, true, true, true, true, true, true, true, true, true, true, true, true, true, true, true, true, true] rfl rfl kr_ (by decide) (fun K hK => ?_)
           have hc_ := (blk_cell S62.b 5).trans rfl
           have hf_ := blk_frozen S62.b 5
           refine skip_ (w1 := ?_) (by rfl) rfl ?_ ?_
           rotate_left
           ·
            go_simp
            rfl
           clear hc_ hf_
           refine hK.out _ _ ?_
           clear hK K
           replace S62 := S62.set (Aside0.out (by assumption)) 5 (.slice p2_ aY.length q2_) rfl
           refine done_ kr_ ?_
           try go_wp2
           go_roundg k4
           case measure => have := ar.out; have := au.out; have := ay.out; have := aH.out; omega
           exact ⟨(ac), (o25), (wrap64 (q + 1)), (B), (U), (aY), (.slice p0_ B.length q0_), (.slice p1_ U.length q1_), (.slice p2_ aY.length q2_), eq_, H', ⟨by have := ar.out; have := au.out; have := ay.out; have := aH.out; omega⟩, ⟨S62.n⟩, ⟨S62.mp⟩, ⟨S62.l⟩, ⟨S62.a⟩, ⟨S62.c⟩, ⟨S62.dd⟩, ⟨S62.e⟩, ⟨S62.b⟩, ⟨S62.hb⟩⟩
          exact AllReadyL.nil
         exact AllReadyL.nil
        exact AllReadyL.nil
       exact AllReadyL.nil
      refine AllReadyL.cons rfl (by decide) (fun K hK => ?_) ?_
      ·
       refine val_step (v := .slice (some ⟨W53.heap.size, 0, none⟩) 1 1) (w1 := W53.alloc (.cells #[.int .i64 1] 3 (0, 0))) rfl (by first | (go_simp; done) | (go_simp; rfl)) ?_
       have T63_ := S53.new 1
       have S63 := S53.alloc (.cells #[.int .i64 1] 3 (0, 0))
       have T63_11 := T53_.alloc (.cells #[.int .i64 1] 3 (0, 0))
       obtain ⟨d63, ed63⟩ : ∃ d_, d_ = W53.heap.size := ⟨_, rfl⟩
       rw [← ed63] at T63_ ⊢
       obtain ⟨W63, eW63⟩ : ∃ W_, W_ = W53.alloc (.cells #[.int .i64 1] 3 (0, 0)) := ⟨_, rfl⟩
       rw [← eW63] at T63_ S63 T63_11 ⊢
       clear ed63 eW63
       refine hK.out _ _ (ca8_ S63.b) (fun hHeld => ?_)
       clear hK K
       refine nor_ (N := some 67) ?_
       refine wpAnyLast_ready (rs := [3]) (by kernel_rfl) (by simp) ?_
       refine AllReadyL.cons rfl (by decide) (fun K hK => ?_) ?_
       ·
        refine val_step (v := .slice (some ⟨W63.heap.size, 0, none⟩) 1 1) (w1 := W63.alloc (.cells #[.int .i64 (rd (rd_L7 d l) q)] 3 (0, 0))) rfl (by first | (go_simp; done) | (go_simp; rfl)) ?_
        have T64_ := S63.new (rd (rd_L7 d l) q)
        have S64 := S63.alloc (.cells #[.int .i64 (rd (rd_L7 d l) q)] 3 (0, 0))
        have T64_11 := T63_11.alloc (.cells #[.int .i64 (rd (rd_L7 d l) q)] 3 (0, 0))
        have T64_7 := T63_.alloc (.cells #[.int .i64 (rd (rd_L7 d l) q)] 3 (0, 0))
        obtain ⟨d64, ed64⟩ : ∃ d_, d_ = W63.heap.size := ⟨_, rfl⟩
        rw [← ed64] at T64_ ⊢
        obtain ⟨W64, eW64⟩ : ∃ W_, W_ = W63.alloc (.cells #[.int .i64 (rd (rd_L7 d l) q)] 3 (0, 0)) := ⟨_, rfl⟩
        rw [← eW64] at T64_ S64 T64_11 T64_7 ⊢
        clear ed64 eW64
        refine hK.out _ _ (ca8_ S64.b) (fun hHeld => ?_)
        clear hK K
        refine nor_ (N := some 63) ?_
        refine wpAnyLast_ready (rs := [4]) (by kernel_rfl) (by simp) ?_
        refine AllReadyL.cons rfl (by decide) (fun K hK => ?_) ?_
        ·
         refine app_step rfl (.tmp 61) (.tmp 63) rfl u638003 v d64 _ _ rfl rfl S64.c T64_ (S64.freshC hvm) S64.hb LMc28.out ?_
         intro F65 W65 ho hb hg hat
         rw [← bV.out] at ho
         have S65 := S64.appC ho hb hg hat
         have T65_11 := T64_11.appC hg hat
         have T65_7 := T64_7.appC hg hat
         clear ho hb hg hat
         refine hK.out _ _ (ca8_ S65.b) (fun hHeld => ?_)
         clear hK K
         refine nor_ (N := some 64) ?_
         refine pn_ 13 73 kr_ ?_
         refine wpAnyLast_ready (rs := [8]) (by kernel_rfl) (by simp) ?_
         refine AllReadyL.cons rfl (by decide) (fun K hK => ?_) ?_
         ·
          refine app_step rfl (.tmp 66) (.tmp 67) rfl u638004 u d63 _ _ rfl rfl S65.dd T65_7 (S65.freshD hvm) S65.hb LMc29.out ?_
          intro F66 W66 ho hb hg hat
          rw [← bW.out] at ho
          have S66 := S65.appD ho hb hg hat
          have T66_11 := T65_11.appD hg hat
          clear ho hb hg hat
          refine hK.out _ _ (ca8_ S66.b) (fun hHeld => ?_)
          clear hK K
          refine nor_ (N := some 68) ?_
          refine wpAnyLast_ready (rs := [12]) (by kernel_rfl) (by simp) ?_
          refine AllReadyL.cons rfl (by decide) (fun K hK => ?_) ?_
          ·
           refine app_step rfl (.tmp 70) (.tmp 71) rfl u638005 s d53 _ _ rfl rfl S66.e T66_11 (S66.freshE hvm) S66.hb LMc30.out ?_
           intro F67 W67 ho hb hg hat
           rw [← bX.out] at ho
           have S67 := S66.appE ho hb hg hat
           clear ho hb hg hat
           refine hK.out _ _ (ca8_ S67.b) (fun hHeld => ?_)
           clear hK K
           refine nor_ (N := some 72) ?_
           obtain ⟨p0_, q0_, e0_⟩ := Kd.R_slice S67.c
           subst e0_
           obtain ⟨p1_, q1_, e1_⟩ := Kd.R_slice S67.dd
           subst e1_
           obtain ⟨p2_, q2_, e2_⟩ := Kd.R_slice S67.e
           subst e2_
           refine last_ (i := 14) (N := none) #[true, true, true, true, true, true, true, true, true, true, true, true, true, true, true, false, false, false, false] rfl rfl kr_ (by decide) (fun K hK => ?_)
           have hc_ := (blk_cell S67.b 3).trans rfl
           have hf_ := blk_frozen S67.b 3
           refine skip_ (w1 := ?_) (by rfl) rfl ?_ ?_
           rotate_left
           ·
            go_simp
            rfl
           clear hc_ hf_
           refine hK.out _ _ ?_
           clear hK K
           replace S67 := S67.set (Aside0.out (by assumption)) 3 (.slice p0_ B.length q0_) rfl
           refine pn_ 15 74 kr_ ?_
           refine last_ (i := 16) (N := none) #[true, true, true, true, true, true, true, true, true, true, true, true, true, true, true, true, true, false, false] rfl rfl kr_ (by decide) (fun K hK => ?_)
           have hc_ := (blk_cell S67.b 4).trans rfl
           have hf_ := blk_frozen S67.b 4
           refine skip_ (w1 := ?_) (by rfl) rfl ?_ ?_
           rotate_left
           ·
            go_simp
            rfl
           clear hc_ hf_
           refine hK.out _ _ ?_
           clear hK K
           replace S67 := S67.set (Aside0.out (by assumption)) 4 (.slice p1_ U.length q1_) rfl
           refine pn_ 17 75 kr_ ?_
           refine last_ (i := 18) (N := none) #[true, true, true, true, true, true, true, true, true, true, true, true, true, true, true, true, true, true, true] rfl rfl kr_ (by decide) (fun K hK => ?_)
           have hc_ := (blk_cell S67.b 5).trans rfl
           have hf_ := blk_frozen S67.b 5
           refine skip_ (w1 := ?_) (by rfl) rfl ?_ ?_
           rotate_left
           ·
            go_simp
            rfl
           clear hc_ hf_
           refine hK.out _ _ ?_
           clear hK K
           replace S67 := S67.set (Aside0.out (by assumption)) 5 (.slice p2_ aY.length q2_) rfl
           refine done_ kr_ ?_
           try go_wp2
           go_roundg k4
           case measure => have := ar.out; have := au.out; have := ay.out; have := aH.out; omega
           exact ⟨(ac), (o25), (wrap64 (q + 1)), (B), (U), (aY), (.slice p0_ B.length q0_), (.slice p1_ U.length q1_), (.slice p2_ aY.length q2_), eq_, H', ⟨by have := ar.out; have := au.out; have := ay.out; have := aH.out; omega⟩, ⟨S67.n⟩, ⟨S67.mp⟩, ⟨S67.l⟩, ⟨S67.a⟩, ⟨S67.c⟩, ⟨S67.dd⟩, ⟨S67.e⟩, ⟨S67.b⟩, ⟨S67.hb⟩⟩
          exact AllReadyL.nil
         exact AllReadyL.nil
        exact AllReadyL.nil
       exact AllReadyL.nil
      exact AllReadyL.nil
     exact AllReadyL.nil

end Go.Proofs.YtijjhobjmehhoaaGreatDoor.XGccAll
