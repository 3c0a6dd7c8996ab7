-- by xprint.py, a program of this session, over the kit's print
import Derived.Test.YtijjhobjmehhoaaGreatDoorXGAlx0
import Derived.Test.YtijjhobjmehhoaaGreatDoorXGAlx5
import Derived.Test.YtijjhobjmehhoaaGreatDoorXGAlx14
import Derived.Test.YtijjhobjmehhoaaGreatDoorSq
namespace Go.Proofs.YtijjhobjmehhoaaGreatDoor.XGccAll
open Go.RowKit Go.Proofs.YtijjhobjmehhoaaGreatDoor.Sq Go.Proofs.YtijjhobjmehhoaaGreatDoorW.PrintWords Go.Proofs.YtijjhobjmehhoaaGreatDoorW.PrintLast Go.Proofs.YtijjhobjmehhoaaGreatDoorW.PrintMore
attribute [local go_sem] max2_int min2_int max_two min_two max_three min_three max_four min_four   -- for this text's walks alone
set_option linter.unusedVariables false
set_option linter.unusedSimpArgs false

/-! ### jigsawlaw20_doms: function 11 -/
def jigsawlaw20_doms.l0 : Nat → List (S58) → List (List Int) → Int → Int → Option ((List (S58)))
 | 0, _, _, _, _ => none
 | k + 1, c, d, e, b => if b < e then (if 0 ≤ b then (if b < (d.length : Int) then ((dom_Of.f k (rd_L7 d b)).bind fun a => (if c.length < 2513169434916 then (jigsawlaw20_doms.l0 k (c ++ [(⟨a.1, a.2.1, a.2.2.1, a.2.2.2.1, a.2.2.2.2.1⟩ : S58)]) d e (wrap64 (b + 1))) else (none))) else (none)) else (none)) else (some c)
def jigsawlaw20_doms.f (k : Nat) (a : List (List Int)) : Option ((List (S58))) := jigsawlaw20_doms.l0 k ([] : List (S58)) a (a.length : Int) 0
theorem jigsawlaw20_doms.mono_l : ∀ k, (∀ a b c d, LeO (jigsawlaw20_doms.l0 k a b c d) (jigsawlaw20_doms.l0 (k + 1) a b c d))
 | 0 => by intros; exact LeO.none _
 | k + 1 => by
  have ih0 := jigsawlaw20_doms.mono_l k
  intro a b c d
  unfold jigsawlaw20_doms.l0
  have m0 := @dom_Of.mono
  exact leo_
theorem jigsawlaw20_doms.mono : ∀ a k, LeO (jigsawlaw20_doms.f k a) (jigsawlaw20_doms.f (k + 1) a) := by
 intro a k
 have ih0 := jigsawlaw20_doms.mono_l k
 unfold jigsawlaw20_doms.f
 have m0 := @dom_Of.mono
 exact leo_
set_option maxHeartbeats 8000000 in
set_option maxRecDepth 100000 in
theorem jigsawlaw20_doms.calls (k : Nat) (A0 : Option Addr) (c0 : Nat) (o : List (List Int)) (r : List (S58)) (w : World) (U : Kd.C (Kd.slice 3 (Kd.int .i64)) w A0 o.length o) (W : o.length ≤ c0) (hrtab : Kd.C (Kd.int .u8) w (some ⟨0, 0, none⟩) tabL.length tabL) (h : jigsawlaw20_doms.f k o = some r) :
  Calls Tryz.prog 11 #[.slice A0 o.length c0] w fun e w' => ∃ X : Value, e = .returned (X) ∧ Kd.N k58 58 w' w.heap.size (fun a => (w.heap.size ≤ a)) X r ∧ Below w.heap.size w w' := by
 have hu58 := Tryz.underlying58
 have af := a_ U
 have an := a_ W
 clear U W
 have HRtab := a_ hrtab
 clear hrtab
 have HB := a_ (Below.refl w.heap.size w)
 unfold jigsawlaw20_doms.f at h
 have H := h
 clear h
 have H' := a_ H
 clear H
 go_enter Tryz.func11, Tryz.ntmps11
 go_wp2
 go_loopg [3, 10] k (fun kq v3 ag w' => ∃ (s : List (S58)) (c : Int), ag = .int .i64 c ∧ Aside0 (jigsawlaw20_doms.l0 kq s o (o.length : Int) c = some r) ∧ Aside0 (kq ≤ k) ∧ Aside0 (Kd.N k58 58 w' w.heap.size (fun a => (w.heap.size ≤ a)) v3 s) ∧ Aside0 (Below w.heap.size w w'))
 case atStart => exact ⟨(([] : List (S58))), (0), eq_, H', ⟨lr_ _⟩, ⟨nil_⟩, ⟨bel_⟩⟩
 clear H'
 try clear c1
 obtain ⟨s, c, rfl, HA, Y, HO_3, HB⟩ := hrel
 cases gk with
 | zero => exact absurd HA.out (by simp [jigsawlaw20_doms.l0])
 | succ k1 =>
  have H := HA.out
  clear HA
  simp only [jigsawlaw20_doms.l0] at H
  replace H := cf_ H
  rcases H with ⟨c2b0, H⟩ | ⟨c2b0, H⟩
  ·
   obtain rfl := si_ H
   go_wp2
   go_ret
   exact ⟨_, er_, vN_ HO_3.out, bel_⟩
  replace H := gu_ H
  obtain ⟨c3b0, H⟩ := H
  replace H := gu_ H
  obtain ⟨c4b0, H⟩ := H
  replace H := bs_.mp H
  obtain ⟨⟨l, g, m, q, u, ab⟩, Z, H⟩ := H
  try dsimp only at H
  have A5 := a_ Z
  clear Z
  replace H := ga_ H
  obtain ⟨LMc6, H⟩ := H
  obtain ⟨K, z⟩ : ∃ y_ : List (S58), y_ = (s ++ [(⟨l, g, m, q, u⟩ : S58)]) := ⟨_, rfl⟩
  replace H : (jigsawlaw20_doms.l0 k1 K o (o.length : Int) (wrap64 (c + 1))) = some r := h2_ H z
  have O := a_ z
  clear z
  have H' := a_ H
  clear H
  have p601 : 0 ≤ (c : Int) := dq_
  have G : c < (o.length : Int) := dq_
  obtain ⟨ah, M, c601_0, ac, B, E, F⟩ := at_L7 af.out c p601 G
  cases ac
  replace B := hx_ HB B
  have I := a_ F
  have J := a_ E
  clear F E
  replace p601 := et_ p601
  replace G := et_ G
  go_wp2_with (first | ((with_reducible refine gate_callee (f := 30) rfl ?_); refine goesL_ (some 16) rfl rfl Tryz.func30 kr_ rfl #[.slice M (rd_L7 o c).length c601_0] rfl ar_ ?_; (with_reducible refine (dom_Of.calls k1 _ _ (rd_L7 o c) l g m q u ab _ ?_ ?_ ?_ A5.out).mono ?_); exact ca_ ((cb_ I.out HB.out)); exact J.out; exact ca_ ((cb_ HRtab.out HB.out)); rintro e w7 ⟨al, rfl, aa, hb⟩; refine ⟨_, rfl, ?_⟩; have n := a_ (Kd.V_lower (vm_ (ok' := fun a => (w.heap.size ≤ a) ∧ some a ≠ u3.ownBlock) aa (fun a hk_ => ⟨(Nat.le_trans (bz_ bel_) hk_), (fr_ (Kd.N_lt (vN_ HO_3.out)) a hk_)⟩)) (bz_ bel_)); replace HO_3 := a_ (Kd.N_below (vN_ HO_3.out) hb); replace HB := hq_ hb; clear hb aa) | ((with_reducible refine gate_dst (N := 6) rfl ?_); refine bxe_ (N := 6) (cs := #[.int .i64 0, .slice none 0 0, .int .i64 0, .int .i64 0, .int .i64 0]) (t := 58) ?_; intro d hg w8 hbox hb; replace HO_3 := a_ (Kd.N_below (Kd.N_elderB (vN_ HO_3.out) d (Nat.le_of_eq hg.symm)) hb); replace n := a_ (vb_ (Kd.V_elderB (vV_ n.out) d (Nat.le_of_eq hg.symm)) hb); have A := a_ (hbox); have P := a_ (by rw [hg]; exact (bz_ bel_) : w.heap.size ≤ d); have ai := P; replace HB := hq_ hb; clear hb hbox hg; obtain ⟨_, _, _, _, _, _, _, _, _, _⟩ := cel5_ A.out; obtain ⟨x, y, ad⟩ := Kd.V_slice n.out; subst ad) | ((with_reducible refine gate_store (t := 58) (p := 6) rfl ?_); refine store_event (t := 58) (p := 6) (v := ?vo_w11) (w1 := (((((w8.setCell ⟨d, 0, none⟩ (.int .i64 l)).setCell ⟨d, 1, none⟩ (.slice x g.length y)).setCell ⟨d, 2, none⟩ (.int .i64 m)).setCell ⟨d, 3, none⟩ (.int .i64 q)).setCell ⟨d, 4, none⟩ (.int .i64 u))) ?hg ?ho ?hn ?hr ?_; (case ho => rfl); (case hg => rfl); (case hn => rfl); (case hr => first | (go_simp; done) | (go_simp; rfl)); intro w11 hw; replace HO_3 : Aside0 (Kd.N k58 58 w11 w.heap.size (fun a => (w.heap.size ≤ a) ∧ a ≠ d) u3 s) := ⟨(by rw [hw]; exact (by refine vN_ ?_; exact nm_ (fN_ (fN_ (fN_ (fN_ (fN_ (nm_ HO_3.out (fun a hk => (⟨hk, hk.2⟩ : _ ∧ a ≠ d)))))))) (fun _ hk => ⟨hk.1.1, hk.1.2⟩)))⟩; replace n : Aside0 (Kd.V (Kd.int .u64) 84 w11 w.heap.size (fun a => (w.heap.size ≤ a) ∧ some a ≠ u3.ownBlock ∧ a ≠ d) (.slice x g.length y) g) := ⟨(by rw [hw]; exact (by refine vV_ ?_; exact vm_ (fV_ (fV_ (fV_ (fV_ (fV_ (vm_ n.out (fun a hk => (⟨hk, hk.2⟩ : _ ∧ a ≠ d)))))))) (fun _ hk => ⟨hk.1.1.1, ⟨hk.1.1.2, hk.1.2⟩⟩)))⟩; replace A : Aside0 (w11.heap[d]? = some (.cells #[.int .i64 l, .slice x g.length y, .int .i64 m, .int .i64 q, .int .i64 u] 58 (0, 0))) := ⟨(by rw [hw]; exact (by refine bk_ ?_; refine bu_ (cs := #[.int .i64 l, .slice x g.length y, .int .i64 m, .int .i64 q, .int .i64 0]) ?_ 4 _ rfl; refine bk_ ?_; refine bu_ (cs := #[.int .i64 l, .slice x g.length y, .int .i64 m, .int .i64 0, .int .i64 0]) ?_ 3 _ rfl; refine bk_ ?_; refine bu_ (cs := #[.int .i64 l, .slice x g.length y, .int .i64 0, .int .i64 0, .int .i64 0]) ?_ 2 _ rfl; refine bk_ ?_; refine bu_ (cs := #[.int .i64 l, .slice none 0 0, .int .i64 0, .int .i64 0, .int .i64 0]) ?_ 1 _ rfl; refine bk_ ?_; refine bu_ (cs := #[.int .i64 0, .slice none 0 0, .int .i64 0, .int .i64 0, .int .i64 0]) ?_ 0 _ rfl; refine bk_ ?_; exact A.out))⟩; replace HB : Aside0 (Below w.heap.size w w11) := ⟨(by rw [hw]; exact bel_)⟩; clear hw; obtain ⟨_, _, _, _, _, _, _, _, _, _⟩ := cel5_ A.out) | ((with_reducible refine gate_builtin (b := .append) (xs := #[.tmp 19, .tmp 21]) rfl ?_); at_builtin; refine Kd.N_append k58 (w0 := w) w.heap.size rfl (.tmp 19) (.tmp 21) 36 58 (.agg #[(.int .i64 0), (.slice none 0 0), (.int .i64 0), (.int .i64 0), (.int .i64 0)]) 56 rfl Tryz.underlying36 info58 rfl (by decide) (by omega) u3 s (⟨l, g, m, q, u⟩ : S58) [.int .i64 l, .slice x g.length y, .int .i64 m, .int .i64 q, .int .i64 u] (fun a => (w.heap.size ≤ a) ∧ a ≠ d) (fun a => ((fun a => (w.heap.size ≤ a) ∧ a ≠ d)) a ∧ some a ≠ u3.ownBlock) rfl rfl ?aP (fun _ hk => hk) ?aF ?aO ?aB ?aS ?aL ?_; (case aP => exact (k58_mkF _ _ (⟨l, g, m, q, u⟩ : S58) (Kd.V_reads' (vm_ (ok' := (fun a => ((fun a => (w.heap.size ≤ a) ∧ a ≠ d)) a ∧ some a ≠ u3.ownBlock)) (n.out) (fun a hk => ⟨⟨hk.1, hk.2.2⟩, hk.2.1⟩))).2.1 (Kd.V_F (vm_ (ok' := (fun a => ((fun a => (w.heap.size ≤ a) ∧ a ≠ d)) a ∧ some a ≠ u3.ownBlock)) (n.out) (fun a hk => ⟨⟨hk.1, hk.2.2⟩, hk.2.1⟩))))); (case aB => exact bel_); (case aF => exact (fun a hk => ⟨(Nat.le_trans (bz_ bel_) hk), Kd.freshB (bk_ A.out) a hk⟩)); (case aO => exact (vN_ HO_3.out)); (case aS => exact (bz_ bel_)); (case aL => have := LMc6.out; omega); intro am w13 ho hb hg hat; rw [← O.out] at ho; replace HB := a_ (hb); have Q := a_ (ho); clear HO_3; clear ho hb hg hat))
  go_roundg k1
  case measure => have := Y.out; omega
  exact ⟨(K), (wrap64 (c + 1)), eq_, H', ⟨by have := Y.out; omega⟩, ⟨by refine vN_ ?_; exact nm_ Q.out (fun _ hk => hk.1)⟩, ⟨bel_⟩⟩

end Go.Proofs.YtijjhobjmehhoaaGreatDoor.XGccAll
