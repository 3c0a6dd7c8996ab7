-- by xprint.py, a program of this session, over the kit's print
import Derived.Test.YtijjhobjmehhoaaGreatDoorXGRex0
import Derived.Test.YtijjhobjmehhoaaGreatDoorXGRex26
import Derived.Test.YtijjhobjmehhoaaGreatDoorSq
namespace Go.Proofs.YtijjhobjmehhoaaGreatDoor.XGccRefuses
open Go.RowKit Go.Proofs.YtijjhobjmehhoaaGreatDoor.Sq Go.Proofs.YtijjhobjmehhoaaGreatDoorW.PrintWords Go.Proofs.YtijjhobjmehhoaaGreatDoorW.PrintLast Go.Proofs.YtijjhobjmehhoaaGreatDoorW.PrintMore
attribute [local go_sem] max2_int min2_int max_two min_two max_three min_three max_four min_four   -- for this text's walks alone
set_option linter.unusedVariables false
set_option linter.unusedSimpArgs false
mutual
def jigsawref06_Coefs.j0:Nat→Bool→Int→List Int→List Int→List Int→List Int→List Int→Int→List (List Int)→Option (Bool)
 | 0,_,_,_,_,_,_,_,_,_=>none
 | k+1,m,a,b,c,d,e,f,g,l=>if m=true then (some false) else (jigsawref06_Coefs.l0 k 0 a b c d e f g l)
def jigsawref06_Coefs.l0:Nat→Int→Int→List Int→List Int→List Int→List Int→List Int→Int→List (List Int)→Option (Bool)
 | 0,_,_,_,_,_,_,_,_,_=>none
 | k+1,m,b,c,d,e,f,g,l,a=>if m<(a.length:Int) then (none) else (jigsawref06_Coefs.l1 k 0 b c d e f g l a)
def jigsawref06_Coefs.l1:Nat→Int→Int→List Int→List Int→List Int→List Int→List Int→Int→List (List Int)→Option (Bool)
 | 0,_,_,_,_,_,_,_,_,_=>none
 | k+1,c,d,f,g,e,a,b,l,m=>if d=21 then (if c<(e.length:Int) then (if 0≤c then (if c<(a.length:Int) then (if c<(b.length:Int) then (if (rd a c)>(rd b c) then (some false) else (jigsawref06_Coefs.l2 k c 0 d f g e a b l m)) else (none)) else (none)) else (none)) else (some true)) else (none)
def jigsawref06_Coefs.l2:Nat→Int→Int→Int→List Int→List Int→List Int→List Int→List Int→Int→List (List Int)→Option (Bool)
 | 0,_,_,_,_,_,_,_,_,_,_=>none
 | k+1,b,n,c,d,e,a,f,g,l,m=>if n<b then (if 0≤b then (if b<(a.length:Int) then (if 0≤n then (if n<(a.length:Int) then (if (rd a b)=(rd a n) then (some false) else (jigsawref06_Coefs.l2 k b (wrap64 (n+1)) c d e a f g l m)) else (none)) else (none)) else (none)) else (none)) else (jigsawref06_Coefs.l1 k (wrap64 (b+1)) c d e a f g l m)
end
def jigsawref06_Coefs.f (k:Nat) (a:Int) (g:List Int) (l:List Int) (c:List Int) (d:List Int) (e:List Int) (b:Int) (m:List (List Int)):Option (Bool):=if a=19 then (none) else (if a=21 then ((jigsawref06_in.f k c (-1000000) 1000000).bind fun n=>((jigsawref06_in.f k d 0 1000000).bind fun o=>((jigsawref06_in.f k e 0 1000000).bind fun p=>(if n=true then (if o=true then (if p=true then (if b<(-9999999999) then (none) else (jigsawref06_Coefs.j0 k (decide (b>9999999999)) a g l c d e b m)) else (jigsawref06_Coefs.j0 k true a g l c d e b m)) else (jigsawref06_Coefs.j0 k true a g l c d e b m)) else (jigsawref06_Coefs.j0 k true a g l c d e b m))))) else (none))
theorem jigsawref06_Coefs.mono_l:∀k,(∀a b c d e f g l m,LeO (jigsawref06_Coefs.j0 k a b c d e f g l m) (jigsawref06_Coefs.j0 (k+1) a b c d e f g l m))∧(∀a b c d e f g l m,LeO (jigsawref06_Coefs.l0 k a b c d e f g l m) (jigsawref06_Coefs.l0 (k+1) a b c d e f g l m))∧(∀a b c d e f g l m,LeO (jigsawref06_Coefs.l1 k a b c d e f g l m) (jigsawref06_Coefs.l1 (k+1) a b c d e f g l m))∧(∀a b c d e f g l m n,LeO (jigsawref06_Coefs.l2 k a b c d e f g l m n) (jigsawref06_Coefs.l2 (k+1) a b c d e f g l m n))
 | 0=>by refine ⟨?_,?_,?_,?_⟩ <;> (intros;exact LeO.none _)
 | k+1=>by
  obtain ⟨ih0,ih1,ih2,ih3⟩:=jigsawref06_Coefs.mono_l k
  have m0:=@jigsawref06_in.mono
  refine ⟨?_,?_,?_,?_⟩ <;> intros
  all_goals first | unfold jigsawref06_Coefs.j0 | unfold jigsawref06_Coefs.l0 | unfold jigsawref06_Coefs.l1 | unfold jigsawref06_Coefs.l2
  all_goals exact leo_
theorem jigsawref06_Coefs.mono:∀a b c d e g l m k,LeO (jigsawref06_Coefs.f k a b c d e g l m) (jigsawref06_Coefs.f (k+1) a b c d e g l m):=by
 intro a b c d e g l m k
 obtain ⟨ih0,ih1,ih2,ih3⟩:=jigsawref06_Coefs.mono_l k
 unfold jigsawref06_Coefs.f
 have m0:=@jigsawref06_in.mono
 exact leo_
set_option maxHeartbeats 8000000 in
set_option maxRecDepth 100000 in
theorem jigsawref06_Coefs.calls (k:Nat) (m:Int) (z:Option Addr) (c0_1:Nat) (o:List Int) (A:Option Addr) (c0_2:Nat) (p:List Int) (B:Option Addr) (c0_3:Nat) (b:List Int) (G:Option Addr) (c0_4:Nat) (d:List Int) (I:Option Addr) (c0_5:Nat) (g:List Int) (q:Int) (E:Option Addr) (c0_7:Nat) (n:List (List Int)) (r:Bool) (w:World) (aC:Kd.C (Kd.int .i64) w z o.length o) (aj:o.length≤c0_1) (aD:Kd.C (Kd.int .i64) w A p.length p) (ak:p.length≤c0_2) (al:Kd.C (Kd.int .i64) w B b.length b) (am:b.length≤c0_3) (an:Kd.C (Kd.int .i64) w G d.length d) (ao:d.length≤c0_4) (ap:Kd.C (Kd.int .i64) w I g.length g) (aq:g.length≤c0_5) (aE:Kd.C (Kd.slice 3 (Kd.int .i64)) w E n.length n) (ar:n.length≤c0_7) (h:jigsawref06_Coefs.f k m o p b d g q n=some r) :
  Calls Tryz.prog 71 #[.agg #[.int .i64 m,.slice z o.length c0_1,.slice A p.length c0_2,.slice B b.length c0_3,.slice G d.length c0_4,.slice I g.length c0_5,.int .i64 q,.slice E n.length c0_7]] w fun e w'=>e = .returned (.bool r)∧Below w.heap.size w w':=by
 have hu32:=Tryz.underlying32
 have aL:=a_ aj
 clear aC aj
 have aM:=a_ ak
 clear aD ak
 have F:=a_ al
 have X:=a_ am
 clear al am
 have P:=a_ an
 have Y:=a_ ao
 clear an ao
 have Q:=a_ ap
 have Z:=a_ aq
 clear ap aq
 have aN:=a_ ar
 clear aE ar
 have HB:=a_ (Below.refl w.heap.size w)
 unfold jigsawref06_Coefs.f at h
 have H:=h
 clear h
 replace H:=gz_ H
 obtain ⟨c2,c2b0,c2b1,H⟩:=H
 replace H:=gq_ H
 obtain ⟨c3b0,c3b1,H⟩:=H
 replace H:=bo_ H
 obtain ⟨aa,A4,H⟩:=H
 try dsimp only at H
 replace H:=bo_ H
 obtain ⟨ab,A5,H⟩:=H
 try dsimp only at H
 replace H:=bo_ H
 obtain ⟨ac,A6,H⟩:=H
 try dsimp only at H
 have aB:=a_ H
 clear H
 go_enter Tryz.func71,Tryz.ntmps71
 go_upto_region 13 with (first|((with_reducible refine gate_dst (N:=1) rfl ?_);(try (refine gate_guard (by rfl) ?_;dsimp only));refine bxe_ (N:=1) (cs:=#[.int .i64 m,.slice z o.length c0_1,.slice A p.length c0_2,.slice B b.length c0_3,.slice G d.length c0_4,.slice I g.length c0_5,.int .i64 q,.slice E n.length c0_7]) (t:=32) ?_;intro y hg w8 hbox hb;have c:=a_ (hbox);have U:=a_ (by rw [hg];exact (bz_ bel_):w.heap.size≤y);have au:=U;replace HB:=hq_ hb;clear hb hbox hg;obtain ⟨_,_,_,_,_,_,_,_,_,_,_,_,_,_,_,_⟩:=cel8_ c.out)|(go_at_call 70;(with_reducible refine (jigsawref06_in.calls k _ _ b (-1000000) 1000000 aa _ ?_ ?_ A4.out).mono ?_);exact ca_ ((cb_ F.out HB.out));exact X.out;rintro e w' ⟨rfl,⟨nd,rfl⟩⟩;(try first | exact ⟨rfl,_,World.drewN_drewN _ _ _⟩ | exact ⟨rfl,_,Eq.trans (World.drewN_drewN _ _ _) (congrArg (World.drewN _) (Nat.add_assoc _ _ _))⟩))|(go_at_call 70;(with_reducible refine (jigsawref06_in.calls k _ _ d 0 1000000 ab _ ?side1 ?side2 A5.out).mono ?_);(case side1=>repeat (first | exact (cb_ P.out bel_)|(with_reducible refine Kd.C_alloc ?_ _)|(with_reducible refine Kd.C_drewN ?_ _)|(with_reducible refine Kd.C_drew ?_)));(case side2=>exact Y.out);rintro e w' ⟨rfl,⟨nd,rfl⟩⟩;(try first | exact ⟨rfl,_,World.drewN_drewN _ _ _⟩ | exact ⟨rfl,_,Eq.trans (World.drewN_drewN _ _ _) (congrArg (World.drewN _) (Nat.add_assoc _ _ _))⟩))|(go_at_call 70;(with_reducible refine (jigsawref06_in.calls k _ _ g 0 1000000 ac _ ?side1 ?side2 A6.out).mono ?_);(case side1=>repeat (first | exact (cb_ Q.out bel_)|(with_reducible refine Kd.C_alloc ?_ _)|(with_reducible refine Kd.C_drewN ?_ _)|(with_reducible refine Kd.C_drew ?_)));(case side2=>exact Z.out);rintro e w' ⟨rfl,⟨nd,rfl⟩⟩;(try first | exact ⟨rfl,_,World.drewN_drewN _ _ _⟩ | exact ⟨rfl,_,Eq.trans (World.drewN_drewN _ _ _) (congrArg (World.drewN _) (Nat.add_assoc _ _ _))⟩)))
 repeat (go_quiet (first|((with_reducible refine gate_dst (N:=1) rfl ?_);(try (refine gate_guard (by rfl) ?_;dsimp only));refine bxe_ (N:=1) (cs:=#[.int .i64 m,.slice z o.length c0_1,.slice A p.length c0_2,.slice B b.length c0_3,.slice G d.length c0_4,.slice I g.length c0_5,.int .i64 q,.slice E n.length c0_7]) (t:=32) ?_;intro y hg w8 hbox hb;have c:=a_ (hbox);have U:=a_ (by rw [hg];exact (bz_ bel_):w.heap.size≤y);have au:=U;replace HB:=hq_ hb;clear hb hbox hg;obtain ⟨_,_,_,_,_,_,_,_,_,_,_,_,_,_,_,_⟩:=cel8_ c.out)|(go_at_call 70;(with_reducible refine (jigsawref06_in.calls k _ _ b (-1000000) 1000000 aa _ ?_ ?_ A4.out).mono ?_);exact ca_ ((cb_ F.out HB.out));exact X.out;rintro e w' ⟨rfl,⟨nd,rfl⟩⟩;(try first | exact ⟨rfl,_,World.drewN_drewN _ _ _⟩ | exact ⟨rfl,_,Eq.trans (World.drewN_drewN _ _ _) (congrArg (World.drewN _) (Nat.add_assoc _ _ _))⟩))|(go_at_call 70;(with_reducible refine (jigsawref06_in.calls k _ _ d 0 1000000 ab _ ?side1 ?side2 A5.out).mono ?_);(case side1=>repeat (first | exact (cb_ P.out bel_)|(with_reducible refine Kd.C_alloc ?_ _)|(with_reducible refine Kd.C_drewN ?_ _)|(with_reducible refine Kd.C_drew ?_)));(case side2=>exact Y.out);rintro e w' ⟨rfl,⟨nd,rfl⟩⟩;(try first | exact ⟨rfl,_,World.drewN_drewN _ _ _⟩ | exact ⟨rfl,_,Eq.trans (World.drewN_drewN _ _ _) (congrArg (World.drewN _) (Nat.add_assoc _ _ _))⟩))|(go_at_call 70;(with_reducible refine (jigsawref06_in.calls k _ _ g 0 1000000 ac _ ?side1 ?side2 A6.out).mono ?_);(case side1=>repeat (first | exact (cb_ Q.out bel_)|(with_reducible refine Kd.C_alloc ?_ _)|(with_reducible refine Kd.C_drewN ?_ _)|(with_reducible refine Kd.C_drew ?_)));(case side2=>exact Z.out);rintro e w' ⟨rfl,⟨nd,rfl⟩⟩;(try first | exact ⟨rfl,_,World.drewN_drewN _ _ _⟩ | exact ⟨rfl,_,Eq.trans (World.drewN_drewN _ _ _) (congrArg (World.drewN _) (Nat.add_assoc _ _ _))⟩)));go_upto_region 13 with (first|((with_reducible refine gate_dst (N:=1) rfl ?_);(try (refine gate_guard (by rfl) ?_;dsimp only));refine bxe_ (N:=1) (cs:=#[.int .i64 m,.slice z o.length c0_1,.slice A p.length c0_2,.slice B b.length c0_3,.slice G d.length c0_4,.slice I g.length c0_5,.int .i64 q,.slice E n.length c0_7]) (t:=32) ?_;intro y hg w8 hbox hb;have c:=a_ (hbox);have U:=a_ (by rw [hg];exact (bz_ bel_):w.heap.size≤y);have au:=U;replace HB:=hq_ hb;clear hb hbox hg;obtain ⟨_,_,_,_,_,_,_,_,_,_,_,_,_,_,_,_⟩:=cel8_ c.out)|(go_at_call 70;(with_reducible refine (jigsawref06_in.calls k _ _ b (-1000000) 1000000 aa _ ?_ ?_ A4.out).mono ?_);exact ca_ ((cb_ F.out HB.out));exact X.out;rintro e w' ⟨rfl,⟨nd,rfl⟩⟩;(try first | exact ⟨rfl,_,World.drewN_drewN _ _ _⟩ | exact ⟨rfl,_,Eq.trans (World.drewN_drewN _ _ _) (congrArg (World.drewN _) (Nat.add_assoc _ _ _))⟩))|(go_at_call 70;(with_reducible refine (jigsawref06_in.calls k _ _ d 0 1000000 ab _ ?side1 ?side2 A5.out).mono ?_);(case side1=>repeat (first | exact (cb_ P.out bel_)|(with_reducible refine Kd.C_alloc ?_ _)|(with_reducible refine Kd.C_drewN ?_ _)|(with_reducible refine Kd.C_drew ?_)));(case side2=>exact Y.out);rintro e w' ⟨rfl,⟨nd,rfl⟩⟩;(try first | exact ⟨rfl,_,World.drewN_drewN _ _ _⟩ | exact ⟨rfl,_,Eq.trans (World.drewN_drewN _ _ _) (congrArg (World.drewN _) (Nat.add_assoc _ _ _))⟩))|(go_at_call 70;(with_reducible refine (jigsawref06_in.calls k _ _ g 0 1000000 ac _ ?side1 ?side2 A6.out).mono ?_);(case side1=>repeat (first | exact (cb_ Q.out bel_)|(with_reducible refine Kd.C_alloc ?_ _)|(with_reducible refine Kd.C_drewN ?_ _)|(with_reducible refine Kd.C_drew ?_)));(case side2=>exact Z.out);rintro e w' ⟨rfl,⟨nd,rfl⟩⟩;(try first | exact ⟨rfl,_,World.drewN_drewN _ _ _⟩ | exact ⟨rfl,_,Eq.trans (World.drewN_drewN _ _ _) (congrArg (World.drewN _) (Nat.add_assoc _ _ _))⟩))))
 (try simp only [Act.put,List.setIfInBounds_toArray,List.set_cons_zero,List.set_cons_succ])
 go_cut [51] (fun aI wc=>∃(kq:Nat) (V:Bool),aI = .bool V∧Aside0 (jigsawref06_Coefs.j0 kq V m o p b d g q n=some r)∧Aside0 (kq≤k)∧Aside0 (wc.heap[y]? = some (.cells #[.int .i64 m,(.slice z o.length c0_1),(.slice A p.length c0_2),(.slice B b.length c0_3),(.slice G d.length c0_4),(.slice I g.length c0_5),.int .i64 q,(.slice E n.length c0_7)] 32 (0,0)))∧Aside0 (Below w.heap.size w wc))
 case first =>
  have H:=aB.out
  clear aB
  replace H:=hf_ H
  rcases H with ⟨rfl,H⟩ | ⟨rfl,H⟩
  ·
   have H':=a_ H
   clear H
   go_wp2
   repeat (go_quiet (fail);try go_wp2)
   go_meet
   exact ⟨_,(true),eq_,H',⟨by first | omega | exact lr_ _⟩,⟨bk_ c.out⟩,⟨bel_⟩⟩
  replace H:=hf_ H
  rcases H with ⟨rfl,H⟩ | ⟨rfl,H⟩
  ·
   have H':=a_ H
   clear H
   go_wp2
   repeat (go_quiet (fail);try go_wp2)
   go_meet
   exact ⟨_,(true),eq_,H',⟨by first | omega | exact lr_ _⟩,⟨bk_ c.out⟩,⟨bel_⟩⟩
  replace H:=hf_ H
  rcases H with ⟨rfl,H⟩ | ⟨rfl,H⟩
  ·
   have H':=a_ H
   clear H
   go_wp2
   repeat (go_quiet (fail);try go_wp2)
   go_meet
   exact ⟨_,(true),eq_,H',⟨by first | omega | exact lr_ _⟩,⟨bk_ c.out⟩,⟨bel_⟩⟩
  replace H:=gn_ H
  obtain ⟨c13,H⟩:=H
  have c13b0:decide (q<(-9999999999))=false:=df_ c13
  clear c13
  (first | rw [c13b0]|(simp only [i64_w,i32_w];rw [c13b0]) | skip)
  have H':=a_ H
  clear H
  obtain ⟨_,_,_,_,_,_,_,_,_,_,_,_,_,_,_,_⟩:=cel8_ c.out
  go_wp2
  repeat (go_quiet (fail);try go_wp2)
  go_meet
  exact ⟨_,(decide (q>9999999999)),eq_,H',⟨by first | omega | exact lr_ _⟩,⟨bk_ c.out⟩,⟨bel_⟩⟩
 clear aB
 try clear c1
 try clear c2
 try clear c2b0
 try clear c2b1
 try clear p2
 try clear c3
 try clear c3b0
 try clear c3b1
 try clear c7
 try clear c10
 try clear c11
 try clear c12
 try clear c13
 try clear c13b0
 obtain ⟨kq,V,rfl,HA,av,c,HB⟩:=hcut
 cases kq with
 | zero=>exact absurd HA.out (by simp [jigsawref06_Coefs.j0])
 | succ kj6 =>
  have H:=HA.out
  clear HA
  simp only [jigsawref06_Coefs.j0] at H
  replace H:=ht_ H
  rcases H with ⟨rfl,H⟩ | ⟨rfl,H⟩
  ·
   obtain rfl:=si_ H
   go_wp2
   repeat (go_quiet (fail);try go_wp2)
   go_ret
   exact ⟨er_,bel_⟩
  have H':=a_ H
  clear H
  go_wp2
  repeat (go_quiet (fail);try go_wp2)
  go_loopg [9] kj6 (fun kq v9 w'=>∃(W:Int),v9 = .int .i64 W∧Aside0 (jigsawref06_Coefs.l0 kq W m o p b d g q n=some r)∧Aside0 (kq≤kj6)∧Aside0 (w'.heap[y]? = some (.cells #[.int .i64 m,(.slice z o.length c0_1),(.slice A p.length c0_2),(.slice B b.length c0_3),(.slice G d.length c0_4),(.slice I g.length c0_5),.int .i64 q,(.slice E n.length c0_7)] 32 (0,0)))∧Aside0 (Below w.heap.size w w'))
  case atStart=>exact ⟨(0),eq_,H',⟨lr_ _⟩,⟨bk_ c.out⟩,⟨bel_⟩⟩
  clear H'
  try clear c1
  try clear c2
  try clear c2b0
  try clear c2b1
  try clear p2
  try clear c3
  try clear c3b0
  try clear c3b1
  try clear c7
  try clear c10
  try clear c11
  try clear c12
  try clear c13
  try clear c13b0
  try clear c15
  try clear p2
  obtain ⟨W,rfl,HA,aw,c,HB⟩:=hrel
  cases gk with
  | zero=>exact absurd HA.out (by simp [jigsawref06_Coefs.l0])
  | succ k2 =>
   have H:=HA.out
   clear HA
   simp only [jigsawref06_Coefs.l0] at H
   replace H:=gn_ H
   obtain ⟨c16,H⟩:=H
   have c16b0:decide (W<(n.length:Int))=false:=df_ c16
   clear c16
   have H':=a_ H
   clear H
   obtain ⟨_,_,_,_,_,_,_,_,_,_,_,_,_,_,_,_⟩:=cel8_ c.out
   go_wp2
   repeat (go_quiet (fail);try go_wp2)
   go_loopg [11] k2 (fun kq aJ w'=>∃(a:Int),aJ = .int .i64 a∧Aside0 (jigsawref06_Coefs.l1 kq a m o p b d g q n=some r)∧Aside0 (kq≤k2)∧Aside0 (w'.heap[y]? = some (.cells #[.int .i64 m,(.slice z o.length c0_1),(.slice A p.length c0_2),(.slice B b.length c0_3),(.slice G d.length c0_4),(.slice I g.length c0_5),.int .i64 q,(.slice E n.length c0_7)] 32 (0,0)))∧Aside0 (Below w.heap.size w w'))
   case atStart=>exact ⟨(0),eq_,H',⟨lr_ _⟩,⟨bk_ c.out⟩,⟨bel_⟩⟩
   clear H'
   try clear c1
   try clear c2
   try clear c2b0
   try clear c2b1
   try clear p2
   try clear c3
   try clear c3b0
   try clear c3b1
   try clear c7
   try clear c10
   try clear c11
   try clear c12
   try clear c13
   try clear c13b0
   try clear c15
   try clear c16
   try clear c16b0
   try clear p2
   obtain ⟨a,rfl,HA,ax,c,HB⟩:=hrel
   cases gk with
   | zero=>exact absurd HA.out (by simp [jigsawref06_Coefs.l1])
   | succ k3 =>
    have H:=HA.out
    clear HA
    simp only [jigsawref06_Coefs.l1] at H
    replace H:=gq_ H
    obtain ⟨c18b0,c18b1,H⟩:=H
    replace H:=cf_ H
    rcases H with ⟨c19b0,H⟩ | ⟨c19b0,H⟩
    ·
     obtain rfl:=si_ H
     obtain ⟨_,_,_,_,_,_,_,_,_,_,_,_,_,_,_,_⟩:=cel8_ c.out
     go_wp2
     repeat (go_quiet (fail);try go_wp2)
     go_ret
     exact ⟨er_,bel_⟩
    replace H:=gu_ H
    obtain ⟨c20b0,H⟩:=H
    replace H:=gu_ H
    obtain ⟨c21b0,H⟩:=H
    replace H:=gu_ H
    obtain ⟨c22b0,H⟩:=H
    by_cases c23:(rd d a)>(rd g a)
    ·
     rw [ip_ c23] at H
     have c23b0:decide ((rd g a)<(rd d a))=true:=dt_ c23
     clear c23
     obtain rfl:=si_ H
     obtain ⟨_,_,_,_,_,_,_,_,_,_,_,_,_,_,_,_⟩:=cel8_ c.out
     obtain ⟨ay,af,s,p664,J⟩:=aj_ P HB a
     cases af
     obtain ⟨az,ag,u,p665,K⟩:=aj_ Q HB a
     cases ag
     go_wp2
     repeat (go_quiet (fail);try go_wp2)
     go_ret
     exact ⟨er_,bel_⟩
    rw [ig_ c23] at H
    have c23b0:decide ((rd g a)<(rd d a))=false:=df_ c23
    clear c23
    have H':=a_ H
    clear H
    obtain ⟨_,_,_,_,_,_,_,_,_,_,_,_,_,_,_,_⟩:=cel8_ c.out
    obtain ⟨ay,af,s,p664,J⟩:=aj_ P HB a
    cases af
    obtain ⟨az,ag,u,p665,K⟩:=aj_ Q HB a
    cases ag
    go_wp2
    repeat (go_quiet (fail);try go_wp2)
    go_loopg [12] k3 (fun kq aK w'=>∃(l:Int),aK = .int .i64 l∧Aside0 (jigsawref06_Coefs.l2 kq a l m o p b d g q n=some r)∧Aside0 (kq≤k3)∧Aside0 (w'.heap[y]? = some (.cells #[.int .i64 m,(.slice z o.length c0_1),(.slice A p.length c0_2),(.slice B b.length c0_3),(.slice (some ay) d.length c0_4),(.slice (some az) g.length c0_5),.int .i64 q,(.slice E n.length c0_7)] 32 (0,0)))∧Aside0 (Below w.heap.size w w'))
    case atStart=>exact ⟨(0),eq_,H',⟨lr_ _⟩,⟨bk_ c.out⟩,⟨bel_⟩⟩
    clear H'
    try clear c1
    try clear c2
    try clear c2b0
    try clear c2b1
    try clear p2
    try clear c3
    try clear c3b0
    try clear c3b1
    try clear p6
    try clear q6
    try clear aP
    try clear c7
    try clear c10
    try clear c11
    try clear c12
    try clear c13
    try clear c13b0
    try clear c15
    try clear c16
    try clear c16b0
    try clear c18
    try clear c18b0
    try clear c18b1
    try clear c19
    try clear c19b0
    try clear c20
    try clear c20b0
    try clear c21
    try clear c21b0
    try clear c22
    try clear c22b0
    try clear c23
    try clear c23b0
    try clear s
    try clear u
    try clear p2
    try clear p664
    try clear p665
    try clear J
    try clear K
    obtain ⟨l,rfl,HA,aA,c,HB⟩:=hrel
    cases gk with
    | zero=>exact absurd HA.out (by simp [jigsawref06_Coefs.l2])
    | succ k4 =>
     have H:=HA.out
     clear HA
     simp only [jigsawref06_Coefs.l2] at H
     replace H:=cf_ H
     rcases H with ⟨c26b0,H⟩ | ⟨c26b0,H⟩
     ·
      have H':=a_ H
      clear H
      go_wp2
      repeat (go_quiet (fail);try go_wp2)
      go_roundg k4
      case measure=>have:=av.out;have:=aw.out;have:=ax.out;have:=aA.out;omega
      exact ⟨(wrap64 (a+1)),eq_,H',⟨by have:=av.out;have:=aw.out;have:=ax.out;have:=aA.out;omega⟩,⟨bk_ c.out⟩,⟨bel_⟩⟩
     replace H:=gu_ H
     obtain ⟨c27b0,H⟩:=H
     replace H:=gu_ H
     obtain ⟨c28b0,H⟩:=H
     replace H:=gu_ H
     obtain ⟨c29b0,H⟩:=H
     replace H:=gu_ H
     obtain ⟨c30b0,H⟩:=H
     replace H:=eg_ H
     rcases H with ⟨-,c31b0,c31b1,H⟩ | ⟨c31,c31b0,c31b1,H⟩
     ·
      obtain rfl:=si_ H
      obtain ⟨_,_,_,_,_,_,_,_,_,_,_,_,_,_,_,_⟩:=cel8_ c.out
      obtain ⟨ad,ah,v,p666,M⟩:=aj_ F HB a
      cases ah
      have p667:0≤(l:Int):=dq_
      have O:l<(b.length:Int):=dq_
      obtain ⟨ae,ai,x⟩:=ai_ F.out l p667 O
      obtain rfl:ad=ae:=(by injection ai)
      replace x:=hx_ HB x
      replace p667:=et_ p667
      replace O:=et_ O
      go_wp2
      repeat (go_quiet (fail);try go_wp2)
      go_ret
      exact ⟨er_,bel_⟩
     have H':=a_ H
     clear H
     obtain ⟨_,_,_,_,_,_,_,_,_,_,_,_,_,_,_,_⟩:=cel8_ c.out
     obtain ⟨ad,ah,v,p666,M⟩:=aj_ F HB a
     cases ah
     have p667:0≤(l:Int):=dq_
     have O:l<(b.length:Int):=dq_
     obtain ⟨ae,ai,x⟩:=ai_ F.out l p667 O
     obtain rfl:ad=ae:=(by injection ai)
     replace x:=hx_ HB x
     replace p667:=et_ p667
     replace O:=et_ O
     go_wp2
     repeat (go_quiet (fail);try go_wp2)
     go_roundg k4
     case measure=>have:=av.out;have:=aw.out;have:=ax.out;have:=aA.out;omega
     exact ⟨(wrap64 (l+1)),eq_,H',⟨by have:=av.out;have:=aw.out;have:=ax.out;have:=aA.out;omega⟩,⟨bk_ c.out⟩,⟨bel_⟩⟩
end Go.Proofs.YtijjhobjmehhoaaGreatDoor.XGccRefuses
