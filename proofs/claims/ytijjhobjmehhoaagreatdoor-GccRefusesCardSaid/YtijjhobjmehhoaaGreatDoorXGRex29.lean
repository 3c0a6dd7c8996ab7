-- by xprint.py, a program of this session, over the kit's print
import Derived.Test.YtijjhobjmehhoaaGreatDoorXGRex0
import Derived.Test.YtijjhobjmehhoaaGreatDoorXGRex28
import Derived.Test.YtijjhobjmehhoaaGreatDoorSq
namespace Go.Proofs.YtijjhobjmehhoaaGreatDoor.XGccRefuses
open Go.RowKit Go.Proofs.YtijjhobjmehhoaaGreatDoor.Sq Go.Proofs.YtijjhobjmehhoaaGreatDoorW.PrintWords Go.Proofs.YtijjhobjmehhoaaGreatDoorW.PrintLast Go.Proofs.YtijjhobjmehhoaaGreatDoorW.PrintMore
attribute [local go_sem] max2_int min2_int max_two min_two max_three min_three max_four min_four   -- for this text's walks alone
set_option linter.unusedVariables false
set_option linter.unusedSimpArgs false
mutual
def jigsawref10_Fits.j0:Nat→List (List Int)→Bool→Int→List Int→List Int→List Int→List Int→List Int→Int→List (List Int)→Option (Bool)
 | 0,_,_,_,_,_,_,_,_,_,_=>none
 | k+1,p,o,a,b,c,d,e,g,l,m=>if o=true then (some false) else ((jigsawref06_Right.f k a b c d e g l m 256).bind fun n=>(if n=0 then (jigsawref10_Fits.l0 k p 0) else (some false)))
def jigsawref10_Fits.l0:Nat→List (List Int)→Int→Option (Bool)
 | 0,_,_=>none
 | k+1,b,a=>if a<(b.length:Int) then (if 0≤a then (if ((rd_L7 b a).length:Int)=0 then (some false) else (jigsawref10_Fits.l0 k b (wrap64 (a+1)))) else (none)) else (some true)
end
def jigsawref10_Fits.f (k:Nat) (a:Int) (b:List Int) (c:List Int) (d:List Int) (e:List Int) (g:List Int) (l:Int) (m:List (List Int)) (n:List (List Int)) (o:Int) (p:Int):Option (Bool):=if a<o then (jigsawref10_Fits.j0 k n true a b c d e g l m) else (if a>p then (jigsawref10_Fits.j0 k n true a b c d e g l m) else (jigsawref10_Fits.j0 k n ((n.length:Int) != (wrap64 ((b.length:Int)+(c.length:Int)))) a b c d e g l m))
theorem jigsawref10_Fits.mono_l:∀k,(∀a b c d e f g l m n,LeO (jigsawref10_Fits.j0 k a b c d e f g l m n) (jigsawref10_Fits.j0 (k+1) a b c d e f g l m n))∧(∀a b,LeO (jigsawref10_Fits.l0 k a b) (jigsawref10_Fits.l0 (k+1) a b))
 | 0=>by refine ⟨?_,?_⟩ <;> (intros;exact LeO.none _)
 | k+1=>by
  obtain ⟨ih0,ih1⟩:=jigsawref10_Fits.mono_l k
  have m0:=@jigsawref06_Right.mono
  refine ⟨?_,?_⟩ <;> intros
  all_goals first | unfold jigsawref10_Fits.j0 | unfold jigsawref10_Fits.l0
  all_goals exact leo_
theorem jigsawref10_Fits.mono:∀b c d e g l m n o p a k,LeO (jigsawref10_Fits.f k b c d e g l m n o p a) (jigsawref10_Fits.f (k+1) b c d e g l m n o p a):=by
 intro b c d e g l m n o p a k
 obtain ⟨ih0,ih1⟩:=jigsawref10_Fits.mono_l k
 unfold jigsawref10_Fits.f
 have m0:=@jigsawref06_Right.mono
 exact leo_
set_option maxHeartbeats 8000000 in
set_option maxRecDepth 100000 in
theorem jigsawref10_Fits.calls (k:Nat) (c:Int) (x:Option Addr) (c0_1:Nat) (d:List Int) (y:Option Addr) (c0_2:Nat) (g:List Int) (z:Option Addr) (c0_3:Nat) (l:List Int) (A:Option Addr) (c0_4:Nat) (m:List Int) (B:Option Addr) (c0_5:Nat) (n:List Int) (q:Int) (E:Option Addr) (c0_7:Nat) (o:List (List Int)) (A1:Option Addr) (c1:Nat) (s:List (List Int)) (a2:Int) (a3:Int) (r:Bool) (w:World) (M:Kd.C (Kd.int .i64) w x d.length d) (O:d.length≤c0_1) (P:Kd.C (Kd.int .i64) w y g.length g) (Q:g.length≤c0_2) (U:Kd.C (Kd.int .i64) w z l.length l) (V:l.length≤c0_3) (W:Kd.C (Kd.int .i64) w A m.length m) (X:m.length≤c0_4) (Y:Kd.C (Kd.int .i64) w B n.length n) (Z:n.length≤c0_5) (aa:Kd.C (Kd.slice 3 (Kd.int .i64)) w E o.length o) (ab:o.length≤c0_7) (ax:Kd.C (Kd.slice 3 (Kd.int .i64)) w A1 s.length s) (ay:s.length≤c1) (h:jigsawref10_Fits.f k c d g l m n q o s a2 a3=some r) :
  Calls Tryz.prog 17 #[.agg #[.int .i64 c,.slice x d.length c0_1,.slice y g.length c0_2,.slice z l.length c0_3,.slice A m.length c0_4,.slice B n.length c0_5,.int .i64 q,.slice E o.length c0_7],.slice A1 s.length c1,.int .i64 a2,.int .i64 a3] w fun e w'=>e = .returned (.bool r)∧Below w.heap.size w w':=by
 have hu32:=Tryz.underlying32
 have ac:=a_ M
 have ad:=a_ O
 clear M O
 have ae:=a_ P
 have af:=a_ Q
 clear P Q
 have ag:=a_ U
 have ah:=a_ V
 clear U V
 have ai:=a_ W
 have aj:=a_ X
 clear W X
 have ak:=a_ Y
 have al:=a_ Z
 clear Y Z
 have am:=a_ aa
 have an:=a_ ab
 clear aa ab
 have az:=a_ ax
 have aH:=a_ ay
 clear ax ay
 have HB:=a_ (Below.refl w.heap.size w)
 unfold jigsawref10_Fits.f at h
 have H:=h
 clear h
 have ar:=a_ H
 clear H
 go_enter Tryz.func17,Tryz.ntmps17
 go_upto_region 1 with (first|((with_reducible refine gate_dst (N:=4) rfl ?_);(try (refine gate_guard (by rfl) ?_;dsimp only));refine bxe_ (N:=4) (cs:=#[.int .i64 c,.slice x d.length c0_1,.slice y g.length c0_2,.slice z l.length c0_3,.slice A m.length c0_4,.slice B n.length c0_5,.int .i64 q,.slice E o.length c0_7]) (t:=32) ?_;intro J hg w6 hbox hb;have b:=a_ (hbox);have av:=a_ (by rw [hg];exact (bz_ bel_):w.heap.size≤J);have aG:=av;replace HB:=hq_ hb;clear hb hbox hg))
 (try simp only [Act.put,List.setIfInBounds_toArray,List.set_cons_zero,List.set_cons_succ])
 go_cut [32] (fun aE wc=>∃(kq:Nat) (I:Bool),aE = .bool I∧Aside0 (jigsawref10_Fits.j0 kq s I c d g l m n q o=some r)∧Aside0 (kq≤k)∧Aside0 (wc.heap[J]? = some (.cells #[.int .i64 c,(.slice x d.length c0_1),(.slice y g.length c0_2),(.slice z l.length c0_3),(.slice A m.length c0_4),(.slice B n.length c0_5),.int .i64 q,(.slice E o.length c0_7)] 32 (0,0)))∧Aside0 (Below w.heap.size w wc))
 case first =>
  have H:=ar.out
  clear ar
  replace H:=ct_ H
  rcases H with ⟨c7b0,H⟩ | ⟨c7b0,H⟩
  ·
   (first | rw [c7b0]|(simp only [i64_w,i32_w];rw [c7b0]) | skip)
   have H':=a_ H
   clear H
   obtain ⟨_,_,_,_,_,_,_,_,_,_,_,_,_,_,_,_⟩:=cel8_ b.out
   go_wp2
   go_meet
   exact ⟨_,(true),eq_,H',⟨by first | omega | exact lr_ _⟩,⟨bk_ b.out⟩,⟨bel_⟩⟩
  (first | rw [c7b0]|(simp only [i64_w,i32_w];rw [c7b0]) | skip)
  by_cases c9:c>a3
  ·
   rw [ip_ c9] at H
   have c9b0:decide (a3<c)=true:=dt_ c9
   clear c9
   have H':=a_ H
   clear H
   obtain ⟨_,_,_,_,_,_,_,_,_,_,_,_,_,_,_,_⟩:=cel8_ b.out
   go_wp2
   go_meet
   exact ⟨_,(true),eq_,H',⟨by first | omega | exact lr_ _⟩,⟨bk_ b.out⟩,⟨bel_⟩⟩
  rw [ig_ c9] at H
  have c9b0:decide (a3<c)=false:=df_ c9
  clear c9
  have H':=a_ H
  clear H
  obtain ⟨_,_,_,_,_,_,_,_,_,_,_,_,_,_,_,_⟩:=cel8_ b.out
  go_wp2
  go_meet
  exact ⟨_,(((s.length:Int) != (wrap64 ((d.length:Int)+(g.length:Int))))),eq_,H',⟨by first | omega | exact lr_ _⟩,⟨bk_ b.out⟩,⟨bel_⟩⟩
 clear ar
 try clear c1
 try clear p2
 try clear p6
 try clear c7
 try clear c7b0
 try clear c9
 try clear c9b0
 obtain ⟨kq,I,rfl,HA,aA,b,HB⟩:=hcut
 cases kq with
 | zero=>exact absurd HA.out (by simp [jigsawref10_Fits.j0])
 | succ kj4 =>
  have H:=HA.out
  clear HA
  simp only [jigsawref10_Fits.j0] at H
  replace H:=ht_ H
  rcases H with ⟨rfl,H⟩ | ⟨rfl,H⟩
  ·
   obtain rfl:=si_ H
   go_wp2
   go_ret
   exact ⟨er_,bel_⟩
  replace H:=bo_ H
  obtain ⟨v,aB,H⟩:=H
  try dsimp only at H
  replace H:=ef_ H
  rcases H with ⟨c14,c14b0,c14b1,H⟩ | ⟨-,c14b0,c14b1,H⟩
  ·
   obtain rfl:=si_ H
   obtain ⟨_,_,_,_,_,_,_,_,_,_,_,_,_,_,_,_⟩:=cel8_ b.out
   go_wp2_with (first|((with_reducible refine gate_callee (f:=35) rfl ?_);refine goesL_ (some 34) rfl rfl Tryz.func35 kr_ rfl #[.agg #[.int .i64 c,.slice x d.length c0_1,.slice y g.length c0_2,.slice z l.length c0_3,.slice A m.length c0_4,.slice B n.length c0_5,.int .i64 q,.slice E o.length c0_7],.int .i64 256] rfl ar_ ?_;(with_reducible refine (jigsawref06_Right.calls kj4 c _ _ d _ _ g _ _ l _ _ m _ _ n q _ _ o 256 v _ ?_ ?_ ?_ ?_ ?_ ?_ ?_ ?_ ?_ ?_ ?_ ?_ aB.out).mono ?_);exact ca_ ((cb_ ac.out HB.out));exact ad.out;exact ca_ ((cb_ ae.out HB.out));exact af.out;exact ca_ ((cb_ ag.out HB.out));exact ah.out;exact ca_ ((cb_ ai.out HB.out));exact aj.out;exact ca_ ((cb_ ak.out HB.out));exact al.out;exact ca_ ((cb_ am.out HB.out));exact an.out;rintro e w21 ⟨rfl,hb⟩;refine ⟨_,rfl,?_⟩;replace HB:=hq_ hb;clear hb))
   go_ret
   exact ⟨er_,bel_⟩
  have H':=a_ H
  clear H
  obtain ⟨_,_,_,_,_,_,_,_,_,_,_,_,_,_,_,_⟩:=cel8_ b.out
  go_wp2_with (first|((with_reducible refine gate_callee (f:=35) rfl ?_);refine goesL_ (some 34) rfl rfl Tryz.func35 kr_ rfl #[.agg #[.int .i64 c,.slice x d.length c0_1,.slice y g.length c0_2,.slice z l.length c0_3,.slice A m.length c0_4,.slice B n.length c0_5,.int .i64 q,.slice E o.length c0_7],.int .i64 256] rfl ar_ ?_;(with_reducible refine (jigsawref06_Right.calls kj4 c _ _ d _ _ g _ _ l _ _ m _ _ n q _ _ o 256 v _ ?_ ?_ ?_ ?_ ?_ ?_ ?_ ?_ ?_ ?_ ?_ ?_ aB.out).mono ?_);exact ca_ ((cb_ ac.out HB.out));exact ad.out;exact ca_ ((cb_ ae.out HB.out));exact af.out;exact ca_ ((cb_ ag.out HB.out));exact ah.out;exact ca_ ((cb_ ai.out HB.out));exact aj.out;exact ca_ ((cb_ ak.out HB.out));exact al.out;exact ca_ ((cb_ am.out HB.out));exact an.out;rintro e w16 ⟨rfl,hb⟩;refine ⟨_,rfl,?_⟩;replace b:=a_ (bq_ b.out hb);replace HB:=hq_ hb;clear hb))
  go_loopg [10] kj4 (fun kq aF w'=>∃(a:Int),aF = .int .i64 a∧Aside0 (jigsawref10_Fits.l0 kq s a=some r)∧Aside0 (kq≤kj4)∧Aside0 (w'.heap[J]? = some (.cells #[.int .i64 c,(.slice x d.length c0_1),(.slice y g.length c0_2),(.slice z l.length c0_3),(.slice A m.length c0_4),(.slice B n.length c0_5),.int .i64 q,(.slice E o.length c0_7)] 32 (0,0)))∧Aside0 (Below w.heap.size w w'))
  case atStart=>exact ⟨(0),eq_,H',⟨lr_ _⟩,⟨bk_ b.out⟩,⟨bel_⟩⟩
  clear H'
  try clear c1
  try clear p2
  try clear c3
  try clear p6
  try clear c7
  try clear c7b0
  try clear c9
  try clear c9b0
  try clear c12
  try clear c14
  try clear c14b0
  try clear c14b1
  try clear p2
  try clear p6
  obtain ⟨a,rfl,HA,aC,b,HB⟩:=hrel
  cases gk with
  | zero=>exact absurd HA.out (by simp [jigsawref10_Fits.l0])
  | succ k2 =>
   have H:=HA.out
   clear HA
   simp only [jigsawref10_Fits.l0] at H
   replace H:=cf_ H
   rcases H with ⟨c17b0,H⟩ | ⟨c17b0,H⟩
   ·
    obtain rfl:=si_ H
    go_wp2
    go_ret
    exact ⟨er_,bel_⟩
   replace H:=gu_ H
   obtain ⟨c18b0,H⟩:=H
   replace H:=eg_ H
   rcases H with ⟨-,c19b0,c19b1,H⟩ | ⟨c19,c19b0,c19b1,H⟩
   ·
    obtain rfl:=si_ H
    have p679:0≤(a:Int):=dq_
    have F:a<(s.length:Int):=dq_
    obtain ⟨aw,au,c679_0,K,p,u,G⟩:=at_L7 az.out a p679 F
    cases K
    replace p:=hx_ HB p
    have ao:=a_ u
    clear G u
    replace p679:=et_ p679
    replace F:=et_ F
    go_wp2
    go_ret
    exact ⟨er_,bel_⟩
   have c19b2:¬((rd_L7 s a)=[]):=fun h_=>c19 (by rw [h_];rfl)
   have H':=a_ H
   clear H
   have p679:0≤(a:Int):=dq_
   have F:a<(s.length:Int):=dq_
   obtain ⟨aw,au,c679_0,K,p,u,G⟩:=at_L7 az.out a p679 F
   cases K
   replace p:=hx_ HB p
   have ao:=a_ u
   clear G u
   replace p679:=et_ p679
   replace F:=et_ F
   go_wp2
   go_roundg k2
   case measure=>have:=aA.out;have:=aC.out;omega
   exact ⟨(wrap64 (a+1)),eq_,H',⟨by have:=aA.out;have:=aC.out;omega⟩,⟨bk_ b.out⟩,⟨bel_⟩⟩
end Go.Proofs.YtijjhobjmehhoaaGreatDoor.XGccRefuses
