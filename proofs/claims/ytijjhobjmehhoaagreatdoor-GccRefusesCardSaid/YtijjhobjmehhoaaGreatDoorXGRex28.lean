-- by xprint.py, a program of this session, over the kit's print
import Derived.Test.YtijjhobjmehhoaaGreatDoorXGRex0
import Derived.Test.YtijjhobjmehhoaaGreatDoorXGRex1
import Derived.Test.YtijjhobjmehhoaaGreatDoorXGRex25
import Derived.Test.YtijjhobjmehhoaaGreatDoorXGRex26
import Derived.Test.YtijjhobjmehhoaaGreatDoorXGRex27
import Derived.Test.YtijjhobjmehhoaaGreatDoorSq
namespace Go.Proofs.YtijjhobjmehhoaaGreatDoor.XGccRefuses
open Go.RowKit Go.Proofs.YtijjhobjmehhoaaGreatDoor.Sq Go.Proofs.YtijjhobjmehhoaaGreatDoorW.PrintWords Go.Proofs.YtijjhobjmehhoaaGreatDoorW.PrintLast Go.Proofs.YtijjhobjmehhoaaGreatDoorW.PrintMore
attribute [local go_sem] max2_int min2_int max_two min_two max_three min_three max_four min_four   -- for this text's walks alone
set_option linter.unusedVariables false
set_option linter.unusedSimpArgs false
def jigsawref06_Right.j0:Nat→Bool→Int→List Int→List Int→List Int→List Int→List Int→Int→List (List Int)→Option (Int)
 | 0,_,_,_,_,_,_,_,_,_=>none
 | k+1,o,a,b,c,d,e,g,l,m=>if o=true then (some 7) else ((jigsawref06_Coefs.f k a b c d e g l m).bind fun n=>(if n=true then (some 0) else (some 11)))
def jigsawref06_Right.f (k:Nat) (a:Int) (b:List Int) (c:List Int) (d:List Int) (e:List Int) (g:List Int) (l:Int) (m:List (List Int)) (o:Int):Option (Int):=if a<1 then (none) else (if a>23 then (none) else ((jigsawref06_Shapes.f).bind fun n=>(if 0≤a then (if a<(n.length:Int) then ((jigsawref06_Arity.f k a b c d e g l m (rdOf ByteArray.empty n a)).bind fun p=>(if p=true then (if o>0 then ((jigsawref06_in.f k b 0 (wrap64 (o - 1))).bind fun q=>((jigsawref06_in.f k c 0 (wrap64 (o - 1))).bind fun r=>(if q=true then (jigsawref06_Right.j0 k (!r) a b c d e g l m) else (jigsawref06_Right.j0 k true a b c d e g l m)))) else (none)) else (some 10))) else (none)) else (none))))
theorem jigsawref06_Right.mono_l:∀k,(∀a b c d e f g l m,LeO (jigsawref06_Right.j0 k a b c d e f g l m) (jigsawref06_Right.j0 (k+1) a b c d e f g l m))
 | 0=>by intros;exact LeO.none _
 | k+1=>by
  have ih0:=jigsawref06_Right.mono_l k
  intro a b c d e f g l m
  unfold jigsawref06_Right.j0
  have m0:=@jigsawref06_Arity.mono
  have m1:=@jigsawref06_Coefs.mono
  have m2:=@jigsawref06_in.mono
  exact leo_
theorem jigsawref06_Right.mono:∀a b c d e g l m n k,LeO (jigsawref06_Right.f k a b c d e g l m n) (jigsawref06_Right.f (k+1) a b c d e g l m n):=by
 intro a b c d e g l m n k
 have ih0:=jigsawref06_Right.mono_l k
 unfold jigsawref06_Right.f
 have m0:=@jigsawref06_Arity.mono
 have m1:=@jigsawref06_Coefs.mono
 have m2:=@jigsawref06_in.mono
 exact leo_
def jigsawref06_Right.T4:Bool×List (List Nat×List Nat):=(true,[([],[]),([],[]),([],[]),([2],[2]),([1,3],[1,3]),([4],[4]),([0,5],[0,5]),([6,6,0,1,2,3,4,5,6],[6])])
def jigsawref06_Right.B4:List Nat:=[0,0,0,4,14,30,63,127]
theorem jigsawref06_Right.tab4:rtab .any (opsOf Tryz.f35 4)=jigsawref06_Right.T4:=by kernel_rfl
theorem jigsawref06_Right.bits4:waitsOk jigsawref06_Right.T4.2 jigsawref06_Right.B4=true:=by kernel_rfl
set_option maxHeartbeats 8000000 in
set_option maxRecDepth 100000 in
theorem jigsawref06_Right.calls (k:Nat) (a:Int) (u:Option Addr) (c0_1:Nat) (d:List Int) (v:Option Addr) (c0_2:Nat) (g:List Int) (z:Option Addr) (c0_3:Nat) (l:List Int) (A:Option Addr) (c0_4:Nat) (m:List Int) (B:Option Addr) (c0_5:Nat) (o:List Int) (q:Int) (E:Option Addr) (c0_7:Nat) (p:List (List Int)) (a1:Int) (r:Int) (w:World) (ai:Kd.C (Kd.int .i64) w u d.length d) (aj:d.length≤c0_1) (ak:Kd.C (Kd.int .i64) w v g.length g) (al:g.length≤c0_2) (am:Kd.C (Kd.int .i64) w z l.length l) (an:l.length≤c0_3) (ao:Kd.C (Kd.int .i64) w A m.length m) (ap:m.length≤c0_4) (aq:Kd.C (Kd.int .i64) w B o.length o) (ar:o.length≤c0_5) (au:Kd.C (Kd.slice 3 (Kd.int .i64)) w E p.length p) (av:p.length≤c0_7) (h:jigsawref06_Right.f k a d g l m o q p a1=some r) :
  Calls Tryz.prog 35 #[.agg #[.int .i64 a,.slice u d.length c0_1,.slice v g.length c0_2,.slice z l.length c0_3,.slice A m.length c0_4,.slice B o.length c0_5,.int .i64 q,.slice E p.length c0_7],.int .i64 a1] w fun e w'=>e = .returned (.int .i64 r)∧Below w.heap.size w w':=by
 have hu32:=Tryz.underlying32
 have G:=a_ ai
 have I:=a_ aj
 clear ai aj
 have J:=a_ ak
 have M:=a_ al
 clear ak al
 have P:=a_ am
 have Q:=a_ an
 clear am an
 have U:=a_ ao
 have V:=a_ ap
 clear ao ap
 have W:=a_ aq
 have X:=a_ ar
 clear aq ar
 have Y:=a_ au
 have Z:=a_ av
 clear au av
 have HB:=a_ (Below.refl w.heap.size w)
 unfold jigsawref06_Right.f at h
 have H:=h
 clear h
 replace H:=gn_ H
 obtain ⟨c3,H⟩:=H
 have c3b0:decide (a<1)=false:=df_ c3
 clear c3
 replace H:=gn_ H
 obtain ⟨c4,H⟩:=H
 have c4b0:decide (23<a)=false:=df_ c4
 clear c4
 replace H:=bo_ H
 obtain ⟨x,A5,H⟩:=H
 try dsimp only at H
 replace H:=gu_ H
 obtain ⟨c6b0,H⟩:=H
 replace H:=gu_ H
 obtain ⟨c7b0,H⟩:=H
 replace H:=bo_ H
 obtain ⟨aC,A8,H⟩:=H
 try dsimp only at H
 replace H:=hf_ H
 rcases H with ⟨rfl,H⟩ | ⟨rfl,H⟩
 ·
  obtain rfl:=si_ H
  go_enter Tryz.func35,Tryz.ntmps35
  try go_wp2_with (first|((with_reducible refine gate_dst (N:=2) rfl ?_);refine bxe_ (N:=2) (cs:=#[.int .i64 a,.slice u d.length c0_1,.slice v g.length c0_2,.slice z l.length c0_3,.slice A m.length c0_4,.slice B o.length c0_5,.int .i64 q,.slice E p.length c0_7]) (t:=32) ?_;intro c hg w29 hbox hb;have b:=a_ (hbox);have aa:=a_ (by rw [hg];exact (bz_ bel_):w.heap.size≤c);have aA:=aa;replace HB:=hq_ hb;clear hb hbox hg;obtain ⟨_,_,_,_,_,_,_,_,_,_,_,_,_,_,_,_⟩:=cel8_ b.out)|((with_reducible refine gate_callee (f:=36) rfl ?_);refine goesL_ (some 18) rfl rfl Tryz.func36 kr_ rfl #[] rfl ar_ ?_;(with_reducible refine (jigsawref06_Shapes.calls x _ A5.out).mono ?_);rintro e w31 ⟨aD,rfl,ad,hb⟩;refine ⟨_,rfl,?_⟩;have s:=a_ (Kd.R_lower ad (bz_ bel_));replace b:=a_ (bq_ b.out hb);replace HB:=hq_ hb;clear hb ad))
  replace s:=a_ (Kd.R_drew s.out)
  replace b:=a_ (blk_drew b.out)
  replace HB:=a_ (below_drew1 HB.out)
  obtain ⟨aM,aN,az⟩:=Kd.R_slice s.out
  (first | subst az | (injection az with f1_ f2_ f3_;have f4_:=f1_.symm;have f5_:=f3_.symm;clear f1_ f2_ f3_;subst f4_;subst f5_))
  have p672:0≤(a:Int):=dq_
  have F:a<(x.length:Int):=dq_
  obtain ⟨ab,af,y⟩:=Kd.at_string (rr_ s.out).2.2 a p672 F
  cases af
  replace p672:=et_ p672
  replace F:=et_ F
  refine start_ (n:=8) (S:=fun w'=>w'.cell? ⟨c,0,none⟩=some (.int .i64 a)∧w'.cell? ⟨c,1,none⟩=some (.slice u d.length c0_1)∧w'.cell? ⟨c,2,none⟩=some (.slice v g.length c0_2)∧w'.cell? ⟨c,3,none⟩=some (.slice z l.length c0_3)∧w'.cell? ⟨c,4,none⟩=some (.slice A m.length c0_4)∧w'.cell? ⟨c,5,none⟩=some (.slice B o.length c0_5)∧w'.cell? ⟨c,6,none⟩=some (.int .i64 q)∧w'.cell? ⟨c,7,none⟩=some (.slice E p.length c0_7)∧w'.cell? (ab.add (a).toNat)=some (.string (rdOf ByteArray.empty x a))) (ds:=[]) #[false,false,false,false,false,false,false,false] kr_ rfl rfl (cb8_ b.out (y)) (fun hHeld=>?_);refine with_tabW jigsawref06_Right.tab4 jigsawref06_Right.bits4 (fun HT_ HW_=>?_)
  generalize w31.drew=w32 at s b HB y hHeld ⊢
  refine pn_ 1 20 ao_ ?_
  refine pn_ 2 21 ao_ ?_
  refine tn_ 0 19 tw_ hHeld ?_
  refine tn_ 3 22 tw_ hHeld ?_
  refine pn_ 4 23 ao_ ?_
  refine tn_ 5 24 tw_ hHeld ?_
  refine onn_ 6 25 #[true,true,true,true,true,true,true,false] rfl rfl on_ (by decide) (fun K hK=>?_)
  refine goes_ Tryz.func69 kr_ rfl #[.agg #[.int .i64 a,.slice u d.length c0_1,.slice v g.length c0_2,.slice z l.length c0_3,.slice A m.length c0_4,.slice B o.length c0_5,.int .i64 q,.slice E p.length c0_7],.string (rdOf ByteArray.empty x a)] (by rfl) rfl rfl ar_ ?_
  with_reducible refine (jigsawref06_Arity.calls k a _ _ d _ _ g _ _ l _ _ m _ _ o q _ _ p (rdOf ByteArray.empty x a) false _ ?_ ?_ ?_ ?_ ?_ ?_ ?_ ?_ ?_ ?_ ?_ ?_ A8.out).mono ?_
  exact ca_ ((cb_ G.out HB.out))
  exact I.out
  exact ca_ ((cb_ J.out HB.out))
  exact M.out
  exact ca_ ((cb_ P.out HB.out))
  exact Q.out
  exact ca_ ((cb_ U.out HB.out))
  exact V.out
  exact ca_ ((cb_ W.out HB.out))
  exact X.out
  exact ca_ ((cb_ Y.out HB.out))
  exact Z.out
  rintro e w34 ⟨rfl,hb⟩
  have ag:=(hb.cell (wl_ _ _ (hHeld.2.2.2.2.2.2.2.2))).trans (hHeld.2.2.2.2.2.2.2.2)
  refine ⟨_,rfl,?_⟩
  replace b:=a_ (bq_ b.out hb)
  replace HB:=hq_ hb
  clear hb
  refine hK.out _ _ (cb8_ b.out (ag)) (fun hHeld=>?_)
  clear hK K
  refine nor_ (N:=some 25) ?_
  refine pn_ 7 6 ao_ ?_
  refine done_ dn_ ?_
  try go_wp2
  go_ret
  exact ⟨er_,bel_⟩
 replace H:=gp_ H
 obtain ⟨c10,H⟩:=H
 have c10b0:decide (0<a1)=true:=dt_ c10
 clear c10
 replace H:=bo_ H
 obtain ⟨aw,aG,H⟩:=H
 try dsimp only at H
 replace H:=bo_ H
 obtain ⟨ax,aH,H⟩:=H
 try dsimp only at H
 have ae:=a_ H
 clear H
 go_enter Tryz.func35,Tryz.ntmps35
 try go_wp2_with (first|((with_reducible refine gate_dst (N:=2) rfl ?_);refine bxe_ (N:=2) (cs:=#[.int .i64 a,.slice u d.length c0_1,.slice v g.length c0_2,.slice z l.length c0_3,.slice A m.length c0_4,.slice B o.length c0_5,.int .i64 q,.slice E p.length c0_7]) (t:=32) ?_;intro c hg w14 hbox hb;have b:=a_ (hbox);have aa:=a_ (by rw [hg];exact (bz_ bel_):w.heap.size≤c);have aA:=aa;replace HB:=hq_ hb;clear hb hbox hg;obtain ⟨_,_,_,_,_,_,_,_,_,_,_,_,_,_,_,_⟩:=cel8_ b.out)|((with_reducible refine gate_callee (f:=36) rfl ?_);refine goesL_ (some 18) rfl rfl Tryz.func36 kr_ rfl #[] rfl ar_ ?_;(with_reducible refine (jigsawref06_Shapes.calls x _ A5.out).mono ?_);rintro e w16 ⟨aD,rfl,ad,hb⟩;refine ⟨_,rfl,?_⟩;have s:=a_ (Kd.R_lower ad (bz_ bel_));replace b:=a_ (bq_ b.out hb);replace HB:=hq_ hb;clear hb ad))
 replace s:=a_ (Kd.R_drew s.out)
 replace b:=a_ (blk_drew b.out)
 replace HB:=a_ (below_drew1 HB.out)
 obtain ⟨aJ,aK,ay⟩:=Kd.R_slice s.out
 (first | subst ay | (injection ay with f1_ f2_ f3_;have f4_:=f1_.symm;have f5_:=f3_.symm;clear f1_ f2_ f3_;subst f4_;subst f5_))
 have p672:0≤(a:Int):=dq_
 have F:a<(x.length:Int):=dq_
 obtain ⟨ab,af,y⟩:=Kd.at_string (rr_ s.out).2.2 a p672 F
 cases af
 replace p672:=et_ p672
 replace F:=et_ F
 refine start_ (n:=8) (S:=fun w'=>w'.cell? ⟨c,0,none⟩=some (.int .i64 a)∧w'.cell? ⟨c,1,none⟩=some (.slice u d.length c0_1)∧w'.cell? ⟨c,2,none⟩=some (.slice v g.length c0_2)∧w'.cell? ⟨c,3,none⟩=some (.slice z l.length c0_3)∧w'.cell? ⟨c,4,none⟩=some (.slice A m.length c0_4)∧w'.cell? ⟨c,5,none⟩=some (.slice B o.length c0_5)∧w'.cell? ⟨c,6,none⟩=some (.int .i64 q)∧w'.cell? ⟨c,7,none⟩=some (.slice E p.length c0_7)∧w'.cell? (ab.add (a).toNat)=some (.string (rdOf ByteArray.empty x a))) (ds:=[]) #[false,false,false,false,false,false,false,false] kr_ rfl rfl (cb8_ b.out (y)) (fun hHeld=>?_);refine with_tabW jigsawref06_Right.tab4 jigsawref06_Right.bits4 (fun HT_ HW_=>?_)
 generalize w16.drew=w17 at s b HB y hHeld ⊢
 refine pn_ 1 20 ao_ ?_
 refine pn_ 2 21 ao_ ?_
 refine tn_ 0 19 tw_ hHeld ?_
 refine tn_ 3 22 tw_ hHeld ?_
 refine pn_ 4 23 ao_ ?_
 refine tn_ 5 24 tw_ hHeld ?_
 refine onn_ 6 25 #[true,true,true,true,true,true,true,false] rfl rfl on_ (by decide) (fun K hK=>?_)
 refine goes_ Tryz.func69 kr_ rfl #[.agg #[.int .i64 a,.slice u d.length c0_1,.slice v g.length c0_2,.slice z l.length c0_3,.slice A m.length c0_4,.slice B o.length c0_5,.int .i64 q,.slice E p.length c0_7],.string (rdOf ByteArray.empty x a)] (by rfl) rfl rfl ar_ ?_
 with_reducible refine (jigsawref06_Arity.calls k a _ _ d _ _ g _ _ l _ _ m _ _ o q _ _ p (rdOf ByteArray.empty x a) true _ ?_ ?_ ?_ ?_ ?_ ?_ ?_ ?_ ?_ ?_ ?_ ?_ A8.out).mono ?_
 exact ca_ ((cb_ G.out HB.out))
 exact I.out
 exact ca_ ((cb_ J.out HB.out))
 exact M.out
 exact ca_ ((cb_ P.out HB.out))
 exact Q.out
 exact ca_ ((cb_ U.out HB.out))
 exact V.out
 exact ca_ ((cb_ W.out HB.out))
 exact X.out
 exact ca_ ((cb_ Y.out HB.out))
 exact Z.out
 rintro e w19 ⟨rfl,hb⟩
 have ag:=(hb.cell (wl_ _ _ (hHeld.2.2.2.2.2.2.2.2))).trans (hHeld.2.2.2.2.2.2.2.2)
 refine ⟨_,rfl,?_⟩
 replace b:=a_ (bq_ b.out hb)
 replace HB:=hq_ hb
 clear hb
 refine hK.out _ _ (cb8_ b.out (ag)) (fun hHeld=>?_)
 clear hK K
 refine nor_ (N:=some 25) ?_
 refine pn_ 7 6 ao_ ?_
 refine done_ dn_ ?_
 obtain ⟨_,_,_,_,_,_,_,_,_,_,_,_,_,_,_,_⟩:=cel8_ b.out
 go_upto_region 12 with (first|((with_reducible refine gate_callee (f:=70) rfl ?_);refine goesL_ (some 35) rfl rfl Tryz.func70 kr_ rfl #[.slice u d.length c0_1,.int .i64 0,.int .i64 (wrap64 (a1 - 1))] rfl ar_ ?_;(with_reducible refine (jigsawref06_in.calls k _ _ d 0 (wrap64 (a1 - 1)) aw _ ?_ ?_ aG.out).mono ?_);exact ca_ ((cb_ G.out HB.out));exact I.out;rintro e w' ⟨rfl,⟨nd,rfl⟩⟩;refine ⟨_,rfl,?_⟩)|((with_reducible refine gate_callee (f:=70) rfl ?_);refine goesL_ (some 39) rfl rfl Tryz.func70 kr_ rfl #[.slice v g.length c0_2,.int .i64 0,.int .i64 (wrap64 (a1 - 1))] rfl ar_ ?_;(with_reducible refine (jigsawref06_in.calls k _ _ g 0 (wrap64 (a1 - 1)) ax _ ?side1 ?side2 aH.out).mono ?_);(case side1=>repeat (first | exact (cb_ J.out bel_)|(with_reducible refine Kd.C_alloc ?_ _)|(with_reducible refine Kd.C_drewN ?_ _)|(with_reducible refine Kd.C_drew ?_)));(case side2=>exact M.out);rintro e w' ⟨rfl,⟨nd,rfl⟩⟩;refine ⟨_,rfl,?_⟩))
 (try simp only [Act.put,List.setIfInBounds_toArray,List.set_cons_zero,List.set_cons_succ])
 go_cut [45] (fun aI wc=>∃(kq:Nat) (O:Bool),aI = .bool O∧Aside0 (jigsawref06_Right.j0 kq O a d g l m o q p=some r)∧Aside0 (kq≤k)∧Aside0 (wc.heap[c]? = some (.cells #[.int .i64 a,(.slice u d.length c0_1),(.slice v g.length c0_2),(.slice z l.length c0_3),(.slice A m.length c0_4),(.slice B o.length c0_5),.int .i64 q,(.slice E p.length c0_7)] 32 (0,0)))∧Aside0 (Below w.heap.size w wc))
 case first =>
  have H:=ae.out
  clear ae
  replace H:=ht_ H
  rcases H with ⟨rfl,H⟩ | ⟨rfl,H⟩
  ·
   have H':=a_ H
   clear H
   go_wp2
   go_meet
   exact ⟨_,(!ax),eq_,H',⟨by first | omega | exact lr_ _⟩,⟨bk_ b.out⟩,⟨bel_⟩⟩
  have H':=a_ H
  clear H
  go_wp2
  go_meet
  exact ⟨_,(true),eq_,H',⟨by first | omega | exact lr_ _⟩,⟨bk_ b.out⟩,⟨bel_⟩⟩
 clear ae
 try clear c1
 try clear c2
 try clear p2
 try clear c3
 try clear c3b0
 try clear c4
 try clear c4b0
 try clear c6
 try clear c6b0
 try clear p6
 try clear q6
 try clear aO
 try clear c7
 try clear c7b0
 try clear c9
 try clear c10
 try clear c10b0
 try clear c21
 try clear y
 try clear p672
 try clear F
 obtain ⟨kq,O,rfl,HA,aL,b,HB⟩:=hcut
 cases kq with
 | zero=>exact absurd HA.out (by simp [jigsawref06_Right.j0])
 | succ kj12 =>
  have H:=HA.out
  clear HA
  simp only [jigsawref06_Right.j0] at H
  replace H:=ht_ H
  rcases H with ⟨rfl,H⟩ | ⟨rfl,H⟩
  ·
   obtain rfl:=si_ H
   go_wp2
   go_ret
   exact ⟨er_,bel_⟩
  replace H:=bo_ H
  obtain ⟨ah,aB,H⟩:=H
  try dsimp only at H
  replace H:=ht_ H
  rcases H with ⟨rfl,H⟩ | ⟨rfl,H⟩
  ·
   obtain rfl:=si_ H
   obtain ⟨_,_,_,_,_,_,_,_,_,_,_,_,_,_,_,_⟩:=cel8_ b.out
   go_wp2_with (first|((with_reducible refine gate_callee (f:=71) rfl ?_);refine goesL_ (some 47) rfl rfl Tryz.func71 kr_ rfl #[.agg #[.int .i64 a,.slice u d.length c0_1,.slice v g.length c0_2,.slice z l.length c0_3,.slice A m.length c0_4,.slice B o.length c0_5,.int .i64 q,.slice E p.length c0_7]] rfl ar_ ?_;(with_reducible refine (jigsawref06_Coefs.calls kj12 a _ _ d _ _ g _ _ l _ _ m _ _ o q _ _ p true _ ?_ ?_ ?_ ?_ ?_ ?_ ?_ ?_ ?_ ?_ ?_ ?_ aB.out).mono ?_);exact ca_ ((cb_ G.out HB.out));exact I.out;exact ca_ ((cb_ J.out HB.out));exact M.out;exact ca_ ((cb_ P.out HB.out));exact Q.out;exact ca_ ((cb_ U.out HB.out));exact V.out;exact ca_ ((cb_ W.out HB.out));exact X.out;exact ca_ ((cb_ Y.out HB.out));exact Z.out;rintro e w26 ⟨rfl,hb⟩;refine ⟨_,rfl,?_⟩;replace b:=a_ (bq_ b.out hb);replace HB:=hq_ hb;clear hb))
   go_ret
   exact ⟨er_,bel_⟩
  obtain rfl:=si_ H
  obtain ⟨_,_,_,_,_,_,_,_,_,_,_,_,_,_,_,_⟩:=cel8_ b.out
  go_wp2_with (first|((with_reducible refine gate_callee (f:=71) rfl ?_);refine goesL_ (some 47) rfl rfl Tryz.func71 kr_ rfl #[.agg #[.int .i64 a,.slice u d.length c0_1,.slice v g.length c0_2,.slice z l.length c0_3,.slice A m.length c0_4,.slice B o.length c0_5,.int .i64 q,.slice E p.length c0_7]] rfl ar_ ?_;(with_reducible refine (jigsawref06_Coefs.calls kj12 a _ _ d _ _ g _ _ l _ _ m _ _ o q _ _ p false _ ?_ ?_ ?_ ?_ ?_ ?_ ?_ ?_ ?_ ?_ ?_ ?_ aB.out).mono ?_);exact ca_ ((cb_ G.out HB.out));exact I.out;exact ca_ ((cb_ J.out HB.out));exact M.out;exact ca_ ((cb_ P.out HB.out));exact Q.out;exact ca_ ((cb_ U.out HB.out));exact V.out;exact ca_ ((cb_ W.out HB.out));exact X.out;exact ca_ ((cb_ Y.out HB.out));exact Z.out;rintro e w28 ⟨rfl,hb⟩;refine ⟨_,rfl,?_⟩;replace HB:=hq_ hb;clear hb))
  go_ret
  exact ⟨er_,bel_⟩
end Go.Proofs.YtijjhobjmehhoaaGreatDoor.XGccRefuses
