-- by xprint.py, a program of this session, over the kit's print
import Derived.Test.YtijjhobjmehhoaaGreatDoorXGRex0
import Derived.Test.YtijjhobjmehhoaaGreatDoorXGRex7
import Derived.Test.YtijjhobjmehhoaaGreatDoorXGRex8
import Derived.Test.YtijjhobjmehhoaaGreatDoorXGRex9
import Derived.Test.YtijjhobjmehhoaaGreatDoorSq
namespace Go.Proofs.YtijjhobjmehhoaaGreatDoor.XGccRefuses
open Go.RowKit Go.Proofs.YtijjhobjmehhoaaGreatDoor.Sq Go.Proofs.YtijjhobjmehhoaaGreatDoorW.PrintWords Go.Proofs.YtijjhobjmehhoaaGreatDoorW.PrintLast Go.Proofs.YtijjhobjmehhoaaGreatDoorW.PrintMore
attribute [local go_sem] max2_int min2_int max_two min_two max_three min_three max_four min_four   -- for this text's walks alone
set_option linter.unusedVariables false
set_option linter.unusedSimpArgs false
def model_Right.j0:Nat→Bool→Int→List Int→List Int→List Int→List Int→List Int→Int→List (List Int)→Int→Option (Int)
 | 0,_,_,_,_,_,_,_,_,_,_=>none
 | k+1,s,a,b,c,d,e,g,l,m,n=>if s=true then (some 10) else ((model_Vars.f k a b c d e g l m).bind fun o=>((slices_ContainsFunc_int_int_61_at_model_Right_1.f k o n).bind fun p=>(if p=true then (some 7) else ((model_numbers.f k a b c d e g l m).bind fun q=>(if q=true then ((model_counts.f k a b c d e g l m).bind fun r=>(if r=true then (some 0) else (some 11))) else (some 11))))))
def model_Right.f (k:Nat) (a:Int) (c:List Int) (d:List Int) (e:List Int) (g:List Int) (l:List Int) (b:Int) (m:List (List Int)) (o:Int):Option (Int):=(model_Shape.f a).bind fun n=>(if n.toList=([]:List UInt8) then (none) else ((model_counted.f a c d e g l b m n).bind fun p=>(if p=true then ((model_alike.f a c d e g l b m).bind fun q=>(if q=true then (if b=0 then (model_Right.j0 k false a c d e g l b m o) else ((strings_Contains.f n (⟨#[107]⟩:ByteArray)).bind fun r=>(model_Right.j0 k (!r) a c d e g l b m o))) else (model_Right.j0 k true a c d e g l b m o))) else (model_Right.j0 k true a c d e g l b m o))))
theorem model_Right.mono_l:∀k,(∀a b c d e f g l m n,LeO (model_Right.j0 k a b c d e f g l m n) (model_Right.j0 (k+1) a b c d e f g l m n))
 | 0=>by intros;exact LeO.none _
 | k+1=>by
  have ih0:=model_Right.mono_l k
  intro a b c d e f g l m n
  unfold model_Right.j0
  have m0:=@model_Vars.mono
  have m1:=@model_counts.mono
  have m2:=@model_numbers.mono
  have m3:=@slices_ContainsFunc_int_int_61_at_model_Right_1.mono
  exact leo_
theorem model_Right.mono:∀a b c d e g l m n k,LeO (model_Right.f k a b c d e g l m n) (model_Right.f (k+1) a b c d e g l m n):=by
 intro a b c d e g l m n k
 have ih0:=model_Right.mono_l k
 unfold model_Right.f
 have m0:=@model_Vars.mono
 have m1:=@model_counts.mono
 have m2:=@model_numbers.mono
 have m3:=@slices_ContainsFunc_int_int_61_at_model_Right_1.mono
 exact leo_
set_option maxHeartbeats 8000000 in
set_option maxRecDepth 100000 in
theorem model_Right.calls (k:Nat) (p:Int) (O:Option Addr) (c0_1:Nat) (d:List Int) (P:Option Addr) (c0_2:Nat) (g:List Int) (Q:Option Addr) (c0_3:Nat) (l:List Int) (U:Option Addr) (c0_4:Nat) (m:List Int) (V:Option Addr) (c0_5:Nat) (n:List Int) (c:Int) (W:Option Addr) (c0_7:Nat) (o:List (List Int)) (a1:Int) (r:Int) (w:World) (ai:Kd.C (Kd.int .i64) w O d.length d) (aj:d.length≤c0_1) (ak:Kd.C (Kd.int .i64) w P g.length g) (al:g.length≤c0_2) (am:Kd.C (Kd.int .i64) w Q l.length l) (an:l.length≤c0_3) (ao:Kd.C (Kd.int .i64) w U m.length m) (ap:m.length≤c0_4) (aq:Kd.C (Kd.int .i64) w V n.length n) (ar:n.length≤c0_5) (au:Kd.C (Kd.slice 3 (Kd.int .i64)) w W o.length o) (av:o.length≤c0_7) (h:model_Right.f k p d g l m n c o a1=some r) :
  Calls Tryz.prog 57 #[.agg #[.int .i64 p,.slice O d.length c0_1,.slice P g.length c0_2,.slice Q l.length c0_3,.slice U m.length c0_4,.slice V n.length c0_5,.int .i64 c,.slice W o.length c0_7],.int .i64 a1] w fun e w'=>e = .returned (.int .i64 r)∧Below w.heap.size w w':=by
 have hu32:=Tryz.underlying32
 have v:=a_ ai
 have x:=a_ aj
 clear ai aj
 have y:=a_ ak
 have z:=a_ al
 clear ak al
 have A:=a_ am
 have B:=a_ an
 clear am an
 have E:=a_ ao
 have F:=a_ ap
 clear ao ap
 have G:=a_ aq
 have I:=a_ ar
 clear aq ar
 have J:=a_ au
 have K:=a_ av
 clear au av
 have HB:=a_ (Below.refl w.heap.size w)
 unfold model_Right.f at h
 have H:=h
 clear h
 replace H:=bo_ H
 obtain ⟨Y,A3,H⟩:=H
 try dsimp only at H
 replace H:=gz_ H
 obtain ⟨c4,c4b0,c4b1,H⟩:=H
 have az:=a_ H
 clear H
 go_enter Tryz.func57,Tryz.ntmps57
 go_upto_region 4 with (first|((with_reducible refine gate_dst (N:=2) rfl ?_);refine bxe_ (N:=2) (cs:=#[.int .i64 p,.slice O d.length c0_1,.slice P g.length c0_2,.slice Q l.length c0_3,.slice U m.length c0_4,.slice V n.length c0_5,.int .i64 c,.slice W o.length c0_7]) (t:=32) ?_;intro ac hg w6 hbox hb;have a:=a_ (hbox);have aD:=a_ (by rw [hg];exact (bz_ bel_):w.heap.size≤ac);have aW:=aD;replace HB:=hq_ hb;clear hb hbox hg)|((with_reducible refine gate_dst (N:=3) rfl ?_);refine bxe_ (N:=3) (cs:=#[.int .i64 a1]) (t:=3) ?_;intro M hg w7 hbox hb;have b:=a_ (hbox);have aE:=a_ (by rw [hg];exact (bz_ bel_):w.heap.size≤M);have aX:=aE;replace HB:=hq_ hb;have s:=a_ ((by rw [hg];exact Nat.ne_of_lt (blk_lt (bk_ a.out)):ac≠M));have u:=a_ ((by rw [hg];exact Nat.ne_of_gt (blk_lt (bk_ a.out)):M≠ac));replace a:=a_ (bq_ a.out hb);clear hb hbox hg;have bg:=s.out;have bh:=u.out;obtain ⟨_,_,_,_,_,_,_,_,_,_,_,_,_,_,_,_⟩:=cel8_ a.out)|((with_reducible refine gate_callee (f:=76) rfl ?_);refine goesL_ (some 8) rfl rfl Tryz.func76 kr_ rfl #[.int .i64 p] rfl ar_ ?_;(with_reducible refine (model_Shape.calls p Y _ A3.out).mono ?_);rintro e w10 ⟨rfl,hb⟩;refine ⟨_,rfl,?_⟩;replace a:=a_ (bq_ a.out hb);replace b:=a_ (bq_ b.out hb);replace HB:=hq_ hb;clear hb))
 (try simp only [Act.put,List.setIfInBounds_toArray,List.set_cons_zero,List.set_cons_succ])
 go_cut [12] (fun aU wc=>∃(kq:Nat) (ad:Bool),aU = .bool ad∧Aside0 (model_Right.j0 kq ad p d g l m n c o a1=some r)∧Aside0 (kq≤k)∧Aside0 (wc.heap[ac]? = some (.cells #[.int .i64 p,(.slice O d.length c0_1),(.slice P g.length c0_2),(.slice Q l.length c0_3),(.slice U m.length c0_4),(.slice V n.length c0_5),.int .i64 c,(.slice W o.length c0_7)] 32 (0,0)))∧Aside0 (wc.heap[M]? = some (.cells #[.int .i64 a1] 3 (0,0)))∧Aside0 (Below w.heap.size w wc))
 case first =>
  have H:=az.out
  clear az
  replace H:=bo_ H
  obtain ⟨aG,aw,H⟩:=H
  try dsimp only at H
  replace H:=hf_ H
  rcases H with ⟨rfl,H⟩ | ⟨rfl,H⟩
  ·
   have H':=a_ H
   clear H
   have a5:=s.out
   have a6:=u.out
   obtain ⟨_,_,_,_,_,_,_,_,_,_,_,_,_,_,_,_⟩:=cel8_ a.out
   go_wp2_with (first|((with_reducible refine gate_callee (f:=77) rfl ?_);refine goesL_ (some 15) rfl rfl Tryz.func77 kr_ rfl #[.agg #[.int .i64 p,.slice O d.length c0_1,.slice P g.length c0_2,.slice Q l.length c0_3,.slice U m.length c0_4,.slice V n.length c0_5,.int .i64 c,.slice W o.length c0_7],.string Y] rfl ar_ ?_;(with_reducible refine (model_counted.calls p _ _ d _ _ g _ _ l _ _ m _ _ n c _ _ o Y false _ ?_ ?_ ?_ ?_ ?_ ?_ ?_ ?_ ?_ ?_ ?_ ?_ aw.out).mono ?_);exact ca_ ((cb_ v.out HB.out));exact x.out;exact ca_ ((cb_ y.out HB.out));exact z.out;exact ca_ ((cb_ A.out HB.out));exact B.out;exact ca_ ((cb_ E.out HB.out));exact F.out;exact ca_ ((cb_ G.out HB.out));exact I.out;exact ca_ ((cb_ J.out HB.out));exact K.out;rintro e w36 ⟨rfl,hb⟩;refine ⟨_,rfl,?_⟩;replace a:=a_ (bq_ a.out hb);replace b:=a_ (bq_ b.out hb);replace HB:=hq_ hb;clear hb))
   go_meet
   exact ⟨_,(true),eq_,H',⟨by first | omega | exact lr_ _⟩,⟨bk_ a.out⟩,⟨bk_ b.out⟩,⟨bel_⟩⟩
  replace H:=bo_ H
  obtain ⟨aH,aA,H⟩:=H
  try dsimp only at H
  replace H:=hf_ H
  rcases H with ⟨rfl,H⟩ | ⟨rfl,H⟩
  ·
   have H':=a_ H
   clear H
   have a3:=s.out
   have a4:=u.out
   obtain ⟨_,_,_,_,_,_,_,_,_,_,_,_,_,_,_,_⟩:=cel8_ a.out
   go_wp2_with (first|((with_reducible refine gate_callee (f:=77) rfl ?_);refine goesL_ (some 15) rfl rfl Tryz.func77 kr_ rfl #[.agg #[.int .i64 p,.slice O d.length c0_1,.slice P g.length c0_2,.slice Q l.length c0_3,.slice U m.length c0_4,.slice V n.length c0_5,.int .i64 c,.slice W o.length c0_7],.string Y] rfl ar_ ?_;(with_reducible refine (model_counted.calls p _ _ d _ _ g _ _ l _ _ m _ _ n c _ _ o Y true _ ?_ ?_ ?_ ?_ ?_ ?_ ?_ ?_ ?_ ?_ ?_ ?_ aw.out).mono ?_);exact ca_ ((cb_ v.out HB.out));exact x.out;exact ca_ ((cb_ y.out HB.out));exact z.out;exact ca_ ((cb_ A.out HB.out));exact B.out;exact ca_ ((cb_ E.out HB.out));exact F.out;exact ca_ ((cb_ G.out HB.out));exact I.out;exact ca_ ((cb_ J.out HB.out));exact K.out;rintro e w31 ⟨rfl,hb⟩;refine ⟨_,rfl,?_⟩;replace a:=a_ (bq_ a.out hb);replace b:=a_ (bq_ b.out hb);replace HB:=hq_ hb;clear hb;obtain ⟨_,_,_,_,_,_,_,_,_,_,_,_,_,_,_,_⟩:=cel8_ a.out)|(go_at_call 78;(with_reducible refine (model_alike.calls p _ _ d _ _ g _ _ l _ _ m _ _ n c _ _ o false _ ?_ ?_ ?_ ?_ ?_ ?_ ?_ ?_ ?_ ?_ ?_ ?_ aA.out).mono ?_);exact ca_ ((cb_ v.out HB.out));exact x.out;exact ca_ ((cb_ y.out HB.out));exact z.out;exact ca_ ((cb_ A.out HB.out));exact B.out;exact ca_ ((cb_ E.out HB.out));exact F.out;exact ca_ ((cb_ G.out HB.out));exact I.out;exact ca_ ((cb_ J.out HB.out));exact K.out;rintro e w33 ⟨rfl,hb⟩;replace a:=a_ (bq_ a.out hb);replace b:=a_ (bq_ b.out hb);replace HB:=hq_ hb;clear hb))
   go_meet
   exact ⟨_,(true),eq_,H',⟨by first | omega | exact lr_ _⟩,⟨bk_ a.out⟩,⟨bk_ b.out⟩,⟨bel_⟩⟩
  replace H:=eg_ H
  rcases H with ⟨-,c15b0,c15b1,H⟩ | ⟨c15,c15b0,c15b1,H⟩
  ·
   (first | rw [c15b0]|(simp only [i64_w,i32_w];rw [c15b0]) | skip)
   have H':=a_ H
   clear H
   have aY:=s.out
   have aZ:=u.out
   obtain ⟨_,_,_,_,_,_,_,_,_,_,_,_,_,_,_,_⟩:=cel8_ a.out
   go_wp2_with (first|((with_reducible refine gate_callee (f:=77) rfl ?_);refine goesL_ (some 15) rfl rfl Tryz.func77 kr_ rfl #[.agg #[.int .i64 p,.slice O d.length c0_1,.slice P g.length c0_2,.slice Q l.length c0_3,.slice U m.length c0_4,.slice V n.length c0_5,.int .i64 c,.slice W o.length c0_7],.string Y] rfl ar_ ?_;(with_reducible refine (model_counted.calls p _ _ d _ _ g _ _ l _ _ m _ _ n c _ _ o Y true _ ?_ ?_ ?_ ?_ ?_ ?_ ?_ ?_ ?_ ?_ ?_ ?_ aw.out).mono ?_);exact ca_ ((cb_ v.out HB.out));exact x.out;exact ca_ ((cb_ y.out HB.out));exact z.out;exact ca_ ((cb_ A.out HB.out));exact B.out;exact ca_ ((cb_ E.out HB.out));exact F.out;exact ca_ ((cb_ G.out HB.out));exact I.out;exact ca_ ((cb_ J.out HB.out));exact K.out;rintro e w18 ⟨rfl,hb⟩;refine ⟨_,rfl,?_⟩;replace a:=a_ (bq_ a.out hb);replace b:=a_ (bq_ b.out hb);replace HB:=hq_ hb;clear hb;obtain ⟨_,_,_,_,_,_,_,_,_,_,_,_,_,_,_,_⟩:=cel8_ a.out)|(go_at_call 78;(with_reducible refine (model_alike.calls p _ _ d _ _ g _ _ l _ _ m _ _ n c _ _ o true _ ?_ ?_ ?_ ?_ ?_ ?_ ?_ ?_ ?_ ?_ ?_ ?_ aA.out).mono ?_);exact ca_ ((cb_ v.out HB.out));exact x.out;exact ca_ ((cb_ y.out HB.out));exact z.out;exact ca_ ((cb_ A.out HB.out));exact B.out;exact ca_ ((cb_ E.out HB.out));exact F.out;exact ca_ ((cb_ G.out HB.out));exact I.out;exact ca_ ((cb_ J.out HB.out));exact K.out;rintro e w20 ⟨rfl,hb⟩;replace a:=a_ (bq_ a.out hb);replace b:=a_ (bq_ b.out hb);replace HB:=hq_ hb;clear hb;obtain ⟨_,_,_,_,_,_,_,_,_,_,_,_,_,_,_,_⟩:=cel8_ a.out))
   go_meet
   exact ⟨_,(false),eq_,H',⟨by first | omega | exact lr_ _⟩,⟨bk_ a.out⟩,⟨bk_ b.out⟩,⟨bel_⟩⟩
  (first | rw [c15b0]|(simp only [i64_w,i32_w];rw [c15b0]) | skip)
  replace H:=bo_ H
  obtain ⟨aB,aV,H⟩:=H
  try dsimp only at H
  have H':=a_ H
  clear H
  have a0:=s.out
  have a2:=u.out
  obtain ⟨_,_,_,_,_,_,_,_,_,_,_,_,_,_,_,_⟩:=cel8_ a.out
  go_wp2_with (first|((with_reducible refine gate_callee (f:=77) rfl ?_);refine goesL_ (some 15) rfl rfl Tryz.func77 kr_ rfl #[.agg #[.int .i64 p,.slice O d.length c0_1,.slice P g.length c0_2,.slice Q l.length c0_3,.slice U m.length c0_4,.slice V n.length c0_5,.int .i64 c,.slice W o.length c0_7],.string Y] rfl ar_ ?_;(with_reducible refine (model_counted.calls p _ _ d _ _ g _ _ l _ _ m _ _ n c _ _ o Y true _ ?_ ?_ ?_ ?_ ?_ ?_ ?_ ?_ ?_ ?_ ?_ ?_ aw.out).mono ?_);exact ca_ ((cb_ v.out HB.out));exact x.out;exact ca_ ((cb_ y.out HB.out));exact z.out;exact ca_ ((cb_ A.out HB.out));exact B.out;exact ca_ ((cb_ E.out HB.out));exact F.out;exact ca_ ((cb_ G.out HB.out));exact I.out;exact ca_ ((cb_ J.out HB.out));exact K.out;rintro e w25 ⟨rfl,hb⟩;refine ⟨_,rfl,?_⟩;replace a:=a_ (bq_ a.out hb);replace b:=a_ (bq_ b.out hb);replace HB:=hq_ hb;clear hb;obtain ⟨_,_,_,_,_,_,_,_,_,_,_,_,_,_,_,_⟩:=cel8_ a.out)|(go_at_call 78;(with_reducible refine (model_alike.calls p _ _ d _ _ g _ _ l _ _ m _ _ n c _ _ o true _ ?_ ?_ ?_ ?_ ?_ ?_ ?_ ?_ ?_ ?_ ?_ ?_ aA.out).mono ?_);exact ca_ ((cb_ v.out HB.out));exact x.out;exact ca_ ((cb_ y.out HB.out));exact z.out;exact ca_ ((cb_ A.out HB.out));exact B.out;exact ca_ ((cb_ E.out HB.out));exact F.out;exact ca_ ((cb_ G.out HB.out));exact I.out;exact ca_ ((cb_ J.out HB.out));exact K.out;rintro e w27 ⟨rfl,hb⟩;replace a:=a_ (bq_ a.out hb);replace b:=a_ (bq_ b.out hb);replace HB:=hq_ hb;clear hb;obtain ⟨_,_,_,_,_,_,_,_,_,_,_,_,_,_,_,_⟩:=cel8_ a.out)|(go_at_call 79;(with_reducible refine (strings_Contains.calls Y (⟨#[107]⟩:ByteArray) aB _ aV.out).mono ?_);rintro e w' ⟨rfl,⟨nd,rfl⟩⟩))
  go_meet
  exact ⟨_,(!aB),eq_,H',⟨by first | omega | exact lr_ _⟩,⟨bk_ a.out⟩,⟨bk_ b.out⟩,⟨bel_⟩⟩
 clear az
 try clear c1
 try clear c2
 try clear p2
 try clear c3
 try clear c4
 try clear c4b0
 try clear c4b1
 try clear c5
 try clear c7
 try clear c8
 try clear c12
 try clear c14
 try clear c15
 try clear c15b0
 try clear c15b1
 try clear c16
 try clear c23
 try clear c29
 try clear c34
 obtain ⟨kq,ad,rfl,HA,bi,a,b,HB⟩:=hcut
 cases kq with
 | zero=>exact absurd HA.out (by simp [model_Right.j0])
 | succ kj4 =>
  have H:=HA.out
  clear HA
  simp only [model_Right.j0] at H
  replace H:=ht_ H
  rcases H with ⟨rfl,H⟩ | ⟨rfl,H⟩
  ·
   obtain rfl:=si_ H
   go_wp2
   go_ret
   exact ⟨er_,bel_⟩
  replace H:=bo_ H
  obtain ⟨X,ax,H⟩:=H
  try dsimp only at H
  replace H:=bo_ H
  obtain ⟨ag,ay,H⟩:=H
  try dsimp only at H
  replace H:=ht_ H
  rcases H with ⟨rfl,H⟩ | ⟨rfl,H⟩
  ·
   obtain rfl:=si_ H
   have a7:=s.out
   have a8:=u.out
   obtain ⟨_,_,_,_,_,_,_,_,_,_,_,_,_,_,_,_⟩:=cel8_ a.out
   go_wp2_with (first|((with_reducible refine gate_callee (f:=80) rfl ?_);refine goesL_ (some 34) rfl rfl Tryz.func80 kr_ rfl #[.agg #[.int .i64 p,.slice O d.length c0_1,.slice P g.length c0_2,.slice Q l.length c0_3,.slice U m.length c0_4,.slice V n.length c0_5,.int .i64 c,.slice W o.length c0_7]] rfl ar_ ?_;(with_reducible refine (model_Vars.calls kj4 p (fun Z=>Z<w.heap.size) _ _ d (fun Z=>Z<w.heap.size) _ _ g _ _ l _ _ m _ _ n c _ _ o X _ ?_ ?_ ?_ ?_ ?_ ?_ ?_ ?_ ?_ ?_ ax.out).mono ?_);exact Kd.V_mk x.out (Kd.F_below (Kd.C_F (Kd.heap_int .i64) v.out) bel_);exact Kd.V_mk z.out (Kd.F_below (Kd.C_F (Kd.heap_int .i64) y.out) bel_);exact ca_ ((cb_ A.out HB.out));exact B.out;exact ca_ ((cb_ E.out HB.out));exact F.out;exact ca_ ((cb_ G.out HB.out));exact I.out;exact ca_ ((cb_ J.out HB.out));exact K.out;rintro e w43 ⟨ah,rfl,aa,hb⟩;refine ⟨_,rfl,?_⟩;have q:=a_ (Kd.R_lower (Kd.R_newB (rm_ (ok':=fun Z=>True) aa (fun _ hk_=>trivial)) (bk_ b.out)) (bz_ bel_));replace a:=a_ (bq_ a.out hb);replace b:=a_ (bq_ b.out hb);replace HB:=hq_ hb;clear hb aa;obtain ⟨aI,aJ,aK⟩:=Kd.R_slice q.out;subst aK)|((with_reducible refine gate_callee (f:=61) rfl ?_);refine goesL_ (some 36) rfl rfl Tryz.func61 kr_ rfl #[.slice aI X.length aJ,.func (.func 81) #[] #[.pointer (some ⟨M,0,none⟩)]] rfl ar_ ?_;(with_reducible refine (slices_ContainsFunc_int_int_61_at_model_Right_1.calls kj4 _ _ X M a1 true _ ?side1 ?side2 ?side3 ay.out).mono ?_);(case side1=>exact ca_ ((rr_ q.out).2.2));(case side2=>exact (rr_ q.out).2.1);(case side3=>exact bk_ b.out);rintro e w' ⟨rfl,⟨nd,rfl⟩⟩;refine ⟨_,rfl,?_⟩))
   go_ret
   exact ⟨er_,bel_⟩
  replace H:=bo_ H
  obtain ⟨ae,aC,H⟩:=H
  try dsimp only at H
  replace H:=hf_ H
  rcases H with ⟨rfl,H⟩ | ⟨rfl,H⟩
  ·
   obtain rfl:=si_ H
   have bd:=s.out
   have be:=u.out
   obtain ⟨_,_,_,_,_,_,_,_,_,_,_,_,_,_,_,_⟩:=cel8_ a.out
   go_wp2_with (first|((with_reducible refine gate_callee (f:=80) rfl ?_);refine goesL_ (some 34) rfl rfl Tryz.func80 kr_ rfl #[.agg #[.int .i64 p,.slice O d.length c0_1,.slice P g.length c0_2,.slice Q l.length c0_3,.slice U m.length c0_4,.slice V n.length c0_5,.int .i64 c,.slice W o.length c0_7]] rfl ar_ ?_;(with_reducible refine (model_Vars.calls kj4 p (fun Z=>Z<w.heap.size) _ _ d (fun Z=>Z<w.heap.size) _ _ g _ _ l _ _ m _ _ n c _ _ o X _ ?_ ?_ ?_ ?_ ?_ ?_ ?_ ?_ ?_ ?_ ax.out).mono ?_);exact Kd.V_mk x.out (Kd.F_below (Kd.C_F (Kd.heap_int .i64) v.out) bel_);exact Kd.V_mk z.out (Kd.F_below (Kd.C_F (Kd.heap_int .i64) y.out) bel_);exact ca_ ((cb_ A.out HB.out));exact B.out;exact ca_ ((cb_ E.out HB.out));exact F.out;exact ca_ ((cb_ G.out HB.out));exact I.out;exact ca_ ((cb_ J.out HB.out));exact K.out;rintro e w67 ⟨ah,rfl,aa,hb⟩;refine ⟨_,rfl,?_⟩;have q:=a_ (Kd.R_lower (Kd.R_newB (rm_ (ok':=fun Z=>True) aa (fun _ hk_=>trivial)) (bk_ b.out)) (bz_ bel_));replace a:=a_ (bq_ a.out hb);replace b:=a_ (bq_ b.out hb);replace HB:=hq_ hb;clear hb aa;obtain ⟨aR,aS,aT⟩:=Kd.R_slice q.out;subst aT)|((with_reducible refine gate_callee (f:=61) rfl ?_);refine goesL_ (some 36) rfl rfl Tryz.func61 kr_ rfl #[.slice aR X.length aS,.func (.func 81) #[] #[.pointer (some ⟨M,0,none⟩)]] rfl ar_ ?_;(with_reducible refine (slices_ContainsFunc_int_int_61_at_model_Right_1.calls kj4 _ _ X M a1 false _ ?side1 ?side2 ?side3 ay.out).mono ?_);(case side1=>exact ca_ ((rr_ q.out).2.2));(case side2=>exact (rr_ q.out).2.1);(case side3=>exact bk_ b.out);rintro e w' ⟨rfl,⟨nd,rfl⟩⟩;refine ⟨_,rfl,?_⟩;obtain ⟨_,_,_,_,_,_,_,_,_,_,_,_,_,_,_,_⟩:=cel8_ a.out)|((with_reducible refine gate_callee (f:=82) rfl ?_);refine goesL_ (some 39) rfl rfl Tryz.func82 kr_ rfl #[.agg #[.int .i64 p,.slice O d.length c0_1,.slice P g.length c0_2,.slice Q l.length c0_3,.slice U m.length c0_4,.slice V n.length c0_5,.int .i64 c,.slice W o.length c0_7]] rfl ar_ ?_;(with_reducible refine (model_numbers.calls kj4 p _ _ d _ _ g _ _ l _ _ m _ _ n c _ _ o false _ ?side1 ?side2 ?side3 ?side4 ?side5 ?side6 ?side7 ?side8 ?side9 ?side10 ?side11 ?side12 aC.out).mono ?_);(case side1=>repeat (first | exact (cb_ v.out bel_)|(with_reducible refine Kd.C_alloc ?_ _)|(with_reducible refine Kd.C_drewN ?_ _)|(with_reducible refine Kd.C_drew ?_)));(case side2=>exact x.out);(case side3=>repeat (first | exact (cb_ y.out bel_)|(with_reducible refine Kd.C_alloc ?_ _)|(with_reducible refine Kd.C_drewN ?_ _)|(with_reducible refine Kd.C_drew ?_)));(case side4=>exact z.out);(case side5=>repeat (first | exact (cb_ A.out bel_)|(with_reducible refine Kd.C_alloc ?_ _)|(with_reducible refine Kd.C_drewN ?_ _)|(with_reducible refine Kd.C_drew ?_)));(case side6=>exact B.out);(case side7=>repeat (first | exact (cb_ E.out bel_)|(with_reducible refine Kd.C_alloc ?_ _)|(with_reducible refine Kd.C_drewN ?_ _)|(with_reducible refine Kd.C_drew ?_)));(case side8=>exact F.out);(case side9=>repeat (first | exact (cb_ G.out bel_)|(with_reducible refine Kd.C_alloc ?_ _)|(with_reducible refine Kd.C_drewN ?_ _)|(with_reducible refine Kd.C_drew ?_)));(case side10=>exact I.out);(case side11=>repeat (first | exact (cb_ J.out bel_)|(with_reducible refine Kd.C_alloc ?_ _)|(with_reducible refine Kd.C_drewN ?_ _)|(with_reducible refine Kd.C_drew ?_)));(case side12=>exact K.out);rintro e w70 ⟨rfl,hb⟩;refine ⟨_,rfl,?_⟩;replace HB:=hq_ hb;clear hb))
   go_ret
   exact ⟨er_,bel_⟩
  replace H:=bo_ H
  obtain ⟨af,aF,H⟩:=H
  try dsimp only at H
  replace H:=hf_ H
  rcases H with ⟨rfl,H⟩ | ⟨rfl,H⟩
  ·
   obtain rfl:=si_ H
   have bb:=s.out
   have bc:=u.out
   obtain ⟨_,_,_,_,_,_,_,_,_,_,_,_,_,_,_,_⟩:=cel8_ a.out
   go_wp2_with (first|((with_reducible refine gate_callee (f:=80) rfl ?_);refine goesL_ (some 34) rfl rfl Tryz.func80 kr_ rfl #[.agg #[.int .i64 p,.slice O d.length c0_1,.slice P g.length c0_2,.slice Q l.length c0_3,.slice U m.length c0_4,.slice V n.length c0_5,.int .i64 c,.slice W o.length c0_7]] rfl ar_ ?_;(with_reducible refine (model_Vars.calls kj4 p (fun Z=>Z<w.heap.size) _ _ d (fun Z=>Z<w.heap.size) _ _ g _ _ l _ _ m _ _ n c _ _ o X _ ?_ ?_ ?_ ?_ ?_ ?_ ?_ ?_ ?_ ?_ ax.out).mono ?_);exact Kd.V_mk x.out (Kd.F_below (Kd.C_F (Kd.heap_int .i64) v.out) bel_);exact Kd.V_mk z.out (Kd.F_below (Kd.C_F (Kd.heap_int .i64) y.out) bel_);exact ca_ ((cb_ A.out HB.out));exact B.out;exact ca_ ((cb_ E.out HB.out));exact F.out;exact ca_ ((cb_ G.out HB.out));exact I.out;exact ca_ ((cb_ J.out HB.out));exact K.out;rintro e w59 ⟨ah,rfl,aa,hb⟩;refine ⟨_,rfl,?_⟩;have q:=a_ (Kd.R_lower (Kd.R_newB (rm_ (ok':=fun Z=>True) aa (fun _ hk_=>trivial)) (bk_ b.out)) (bz_ bel_));replace a:=a_ (bq_ a.out hb);replace b:=a_ (bq_ b.out hb);replace HB:=hq_ hb;clear hb aa;obtain ⟨aO,aP,aQ⟩:=Kd.R_slice q.out;subst aQ)|((with_reducible refine gate_callee (f:=61) rfl ?_);refine goesL_ (some 36) rfl rfl Tryz.func61 kr_ rfl #[.slice aO X.length aP,.func (.func 81) #[] #[.pointer (some ⟨M,0,none⟩)]] rfl ar_ ?_;(with_reducible refine (slices_ContainsFunc_int_int_61_at_model_Right_1.calls kj4 _ _ X M a1 false _ ?side1 ?side2 ?side3 ay.out).mono ?_);(case side1=>exact ca_ ((rr_ q.out).2.2));(case side2=>exact (rr_ q.out).2.1);(case side3=>exact bk_ b.out);rintro e w' ⟨rfl,⟨nd,rfl⟩⟩;refine ⟨_,rfl,?_⟩;obtain ⟨_,_,_,_,_,_,_,_,_,_,_,_,_,_,_,_⟩:=cel8_ a.out)|((with_reducible refine gate_callee (f:=82) rfl ?_);refine goesL_ (some 39) rfl rfl Tryz.func82 kr_ rfl #[.agg #[.int .i64 p,.slice O d.length c0_1,.slice P g.length c0_2,.slice Q l.length c0_3,.slice U m.length c0_4,.slice V n.length c0_5,.int .i64 c,.slice W o.length c0_7]] rfl ar_ ?_;(with_reducible refine (model_numbers.calls kj4 p _ _ d _ _ g _ _ l _ _ m _ _ n c _ _ o true _ ?side1 ?side2 ?side3 ?side4 ?side5 ?side6 ?side7 ?side8 ?side9 ?side10 ?side11 ?side12 aC.out).mono ?_);(case side1=>repeat (first | exact (cb_ v.out bel_)|(with_reducible refine Kd.C_alloc ?_ _)|(with_reducible refine Kd.C_drewN ?_ _)|(with_reducible refine Kd.C_drew ?_)));(case side2=>exact x.out);(case side3=>repeat (first | exact (cb_ y.out bel_)|(with_reducible refine Kd.C_alloc ?_ _)|(with_reducible refine Kd.C_drewN ?_ _)|(with_reducible refine Kd.C_drew ?_)));(case side4=>exact z.out);(case side5=>repeat (first | exact (cb_ A.out bel_)|(with_reducible refine Kd.C_alloc ?_ _)|(with_reducible refine Kd.C_drewN ?_ _)|(with_reducible refine Kd.C_drew ?_)));(case side6=>exact B.out);(case side7=>repeat (first | exact (cb_ E.out bel_)|(with_reducible refine Kd.C_alloc ?_ _)|(with_reducible refine Kd.C_drewN ?_ _)|(with_reducible refine Kd.C_drew ?_)));(case side8=>exact F.out);(case side9=>repeat (first | exact (cb_ G.out bel_)|(with_reducible refine Kd.C_alloc ?_ _)|(with_reducible refine Kd.C_drewN ?_ _)|(with_reducible refine Kd.C_drew ?_)));(case side10=>exact I.out);(case side11=>repeat (first | exact (cb_ J.out bel_)|(with_reducible refine Kd.C_alloc ?_ _)|(with_reducible refine Kd.C_drewN ?_ _)|(with_reducible refine Kd.C_drew ?_)));(case side12=>exact K.out);rintro e w62 ⟨rfl,hb⟩;refine ⟨_,rfl,?_⟩;replace a:=a_ (bq_ a.out hb);replace HB:=hq_ hb;clear hb;obtain ⟨_,_,_,_,_,_,_,_,_,_,_,_,_,_,_,_⟩:=cel8_ a.out)|(go_at_call 83;(with_reducible refine (model_counts.calls kj4 p _ _ d _ _ g _ _ l _ _ m _ _ n c _ _ o false _ ?_ ?_ ?_ ?_ ?_ ?_ ?_ ?_ ?_ ?_ ?_ ?_ aF.out).mono ?_);exact ca_ ((cb_ v.out HB.out));exact x.out;exact ca_ ((cb_ y.out HB.out));exact z.out;exact ca_ ((cb_ A.out HB.out));exact B.out;exact ca_ ((cb_ E.out HB.out));exact F.out;exact ca_ ((cb_ G.out HB.out));exact I.out;exact ca_ ((cb_ J.out HB.out));exact K.out;rintro e w64 ⟨rfl,hb⟩;replace HB:=hq_ hb;clear hb))
   go_ret
   exact ⟨er_,bel_⟩
  obtain rfl:=si_ H
  have a9:=s.out
  have ba:=u.out
  obtain ⟨_,_,_,_,_,_,_,_,_,_,_,_,_,_,_,_⟩:=cel8_ a.out
  go_wp2_with (first|((with_reducible refine gate_callee (f:=80) rfl ?_);refine goesL_ (some 34) rfl rfl Tryz.func80 kr_ rfl #[.agg #[.int .i64 p,.slice O d.length c0_1,.slice P g.length c0_2,.slice Q l.length c0_3,.slice U m.length c0_4,.slice V n.length c0_5,.int .i64 c,.slice W o.length c0_7]] rfl ar_ ?_;(with_reducible refine (model_Vars.calls kj4 p (fun Z=>Z<w.heap.size) _ _ d (fun Z=>Z<w.heap.size) _ _ g _ _ l _ _ m _ _ n c _ _ o X _ ?_ ?_ ?_ ?_ ?_ ?_ ?_ ?_ ?_ ?_ ax.out).mono ?_);exact Kd.V_mk x.out (Kd.F_below (Kd.C_F (Kd.heap_int .i64) v.out) bel_);exact Kd.V_mk z.out (Kd.F_below (Kd.C_F (Kd.heap_int .i64) y.out) bel_);exact ca_ ((cb_ A.out HB.out));exact B.out;exact ca_ ((cb_ E.out HB.out));exact F.out;exact ca_ ((cb_ G.out HB.out));exact I.out;exact ca_ ((cb_ J.out HB.out));exact K.out;rintro e w51 ⟨ah,rfl,aa,hb⟩;refine ⟨_,rfl,?_⟩;have q:=a_ (Kd.R_lower (Kd.R_newB (rm_ (ok':=fun Z=>True) aa (fun _ hk_=>trivial)) (bk_ b.out)) (bz_ bel_));replace a:=a_ (bq_ a.out hb);replace b:=a_ (bq_ b.out hb);replace HB:=hq_ hb;clear hb aa;obtain ⟨aL,aM,aN⟩:=Kd.R_slice q.out;subst aN)|((with_reducible refine gate_callee (f:=61) rfl ?_);refine goesL_ (some 36) rfl rfl Tryz.func61 kr_ rfl #[.slice aL X.length aM,.func (.func 81) #[] #[.pointer (some ⟨M,0,none⟩)]] rfl ar_ ?_;(with_reducible refine (slices_ContainsFunc_int_int_61_at_model_Right_1.calls kj4 _ _ X M a1 false _ ?side1 ?side2 ?side3 ay.out).mono ?_);(case side1=>exact ca_ ((rr_ q.out).2.2));(case side2=>exact (rr_ q.out).2.1);(case side3=>exact bk_ b.out);rintro e w' ⟨rfl,⟨nd,rfl⟩⟩;refine ⟨_,rfl,?_⟩;obtain ⟨_,_,_,_,_,_,_,_,_,_,_,_,_,_,_,_⟩:=cel8_ a.out)|((with_reducible refine gate_callee (f:=82) rfl ?_);refine goesL_ (some 39) rfl rfl Tryz.func82 kr_ rfl #[.agg #[.int .i64 p,.slice O d.length c0_1,.slice P g.length c0_2,.slice Q l.length c0_3,.slice U m.length c0_4,.slice V n.length c0_5,.int .i64 c,.slice W o.length c0_7]] rfl ar_ ?_;(with_reducible refine (model_numbers.calls kj4 p _ _ d _ _ g _ _ l _ _ m _ _ n c _ _ o true _ ?side1 ?side2 ?side3 ?side4 ?side5 ?side6 ?side7 ?side8 ?side9 ?side10 ?side11 ?side12 aC.out).mono ?_);(case side1=>repeat (first | exact (cb_ v.out bel_)|(with_reducible refine Kd.C_alloc ?_ _)|(with_reducible refine Kd.C_drewN ?_ _)|(with_reducible refine Kd.C_drew ?_)));(case side2=>exact x.out);(case side3=>repeat (first | exact (cb_ y.out bel_)|(with_reducible refine Kd.C_alloc ?_ _)|(with_reducible refine Kd.C_drewN ?_ _)|(with_reducible refine Kd.C_drew ?_)));(case side4=>exact z.out);(case side5=>repeat (first | exact (cb_ A.out bel_)|(with_reducible refine Kd.C_alloc ?_ _)|(with_reducible refine Kd.C_drewN ?_ _)|(with_reducible refine Kd.C_drew ?_)));(case side6=>exact B.out);(case side7=>repeat (first | exact (cb_ E.out bel_)|(with_reducible refine Kd.C_alloc ?_ _)|(with_reducible refine Kd.C_drewN ?_ _)|(with_reducible refine Kd.C_drew ?_)));(case side8=>exact F.out);(case side9=>repeat (first | exact (cb_ G.out bel_)|(with_reducible refine Kd.C_alloc ?_ _)|(with_reducible refine Kd.C_drewN ?_ _)|(with_reducible refine Kd.C_drew ?_)));(case side10=>exact I.out);(case side11=>repeat (first | exact (cb_ J.out bel_)|(with_reducible refine Kd.C_alloc ?_ _)|(with_reducible refine Kd.C_drewN ?_ _)|(with_reducible refine Kd.C_drew ?_)));(case side12=>exact K.out);rintro e w54 ⟨rfl,hb⟩;refine ⟨_,rfl,?_⟩;replace q:=a_ (rb_ (vR_ q.out) hb);replace a:=a_ (bq_ a.out hb);replace b:=a_ (bq_ b.out hb);replace HB:=hq_ hb;clear hb;obtain ⟨_,_,_,_,_,_,_,_,_,_,_,_,_,_,_,_⟩:=cel8_ a.out)|(go_at_call 83;(with_reducible refine (model_counts.calls kj4 p _ _ d _ _ g _ _ l _ _ m _ _ n c _ _ o true _ ?_ ?_ ?_ ?_ ?_ ?_ ?_ ?_ ?_ ?_ ?_ ?_ aF.out).mono ?_);exact ca_ ((cb_ v.out HB.out));exact x.out;exact ca_ ((cb_ y.out HB.out));exact z.out;exact ca_ ((cb_ A.out HB.out));exact B.out;exact ca_ ((cb_ E.out HB.out));exact F.out;exact ca_ ((cb_ G.out HB.out));exact I.out;exact ca_ ((cb_ J.out HB.out));exact K.out;rintro e w56 ⟨rfl,hb⟩;replace q:=a_ (rb_ (vR_ q.out) hb);replace a:=a_ (bq_ a.out hb);replace b:=a_ (bq_ b.out hb);replace HB:=hq_ hb;clear hb))
  go_ret
  exact ⟨er_,bel_⟩
end Go.Proofs.YtijjhobjmehhoaaGreatDoor.XGccRefuses
