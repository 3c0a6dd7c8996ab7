-- by xprint.py, a program of this session, over the kit's print
import Derived.Test.YtijjhobjmehhoaaGreatDoorXGRex0
import Derived.Test.YtijjhobjmehhoaaGreatDoorXGRex1
import Derived.Test.YtijjhobjmehhoaaGreatDoorXGRex24
import Derived.Test.YtijjhobjmehhoaaGreatDoorSq
namespace Go.Proofs.YtijjhobjmehhoaaGreatDoor.XGccRefuses
open Go.RowKit Go.Proofs.YtijjhobjmehhoaaGreatDoor.Sq Go.Proofs.YtijjhobjmehhoaaGreatDoorW.PrintWords Go.Proofs.YtijjhobjmehhoaaGreatDoorW.PrintLast Go.Proofs.YtijjhobjmehhoaaGreatDoorW.PrintMore
attribute [local go_sem] max2_int min2_int max_two min_two max_three min_three max_four min_four   -- for this text's walks alone
set_option linter.unusedVariables false
set_option linter.unusedSimpArgs false
mutual
def jigsawref06_Arity.j0:Nat→ByteArray→Int→Int→Bool→Int→List Int→List Int→List Int→List Int→List Int→Int→List (List Int)→Option (Bool)
 | 0,_,_,_,_,_,_,_,_,_,_,_,_=>none
 | k+1,n,C,E,B,a,e,g,b,c,d,l,m=>if B=true then (some false) else (if a=12 then (none) else ((jigsawref06_has.f k n 118).bind fun o=>((jigsawref06_has.f k n 86).bind fun p=>((jigsawref06_list.f C o p).bind fun q=>((jigsawref06_has.f k n 119).bind fun r=>((jigsawref06_has.f k n 87).bind fun s=>((jigsawref06_list.f E r s).bind fun t=>((jigsawref06_has.f k n 99).bind fun u=>((jigsawref06_list.f (b.length:Int) 0 u).bind fun v=>((jigsawref06_has.f k n 100).bind fun x=>((jigsawref06_list.f (c.length:Int) 0 x).bind fun y=>((jigsawref06_has.f k n 101).bind fun z=>((jigsawref06_list.f (d.length:Int) 0 z).bind fun A=>(if q=true then (if t=true then (if v=true then (if y=true then (jigsawref06_Arity.j1 k n (!A) a e g b c d l m) else (jigsawref06_Arity.j1 k n true a e g b c d l m)) else (jigsawref06_Arity.j1 k n true a e g b c d l m)) else (jigsawref06_Arity.j1 k n true a e g b c d l m)) else (jigsawref06_Arity.j1 k n true a e g b c d l m)))))))))))))))
def jigsawref06_Arity.j1:Nat→ByteArray→Bool→Int→List Int→List Int→List Int→List Int→List Int→Int→List (List Int)→Option (Bool)
 | 0,_,_,_,_,_,_,_,_,_,_=>none
 | k+1,q,n,a,g,l,b,c,d,m,e=>if n=true then (some false) else ((jigsawref06_has.f k q 114).bind fun o=>(if o=0 then (if (e.length:Int)>0 then (none) else ((jigsawref06_has.f k q 114).bind fun p=>(if p>0 then (none) else (if a≤4 then (none) else (if a=19 then (none) else (if a=21 then (if (c.length:Int)=(b.length:Int) then (if (d.length:Int)=(b.length:Int) then (if a≥22 then (none) else (jigsawref06_Arity.j2 k false a g l b c d m e)) else (jigsawref06_Arity.j2 k true a g l b c d m e)) else (jigsawref06_Arity.j2 k true a g l b c d m e)) else (none))))))) else (none)))
def jigsawref06_Arity.j2:Nat→Bool→Int→List Int→List Int→List Int→List Int→List Int→Int→List (List Int)→Option (Bool)
 | 0,_,_,_,_,_,_,_,_,_=>none
 | k+1,m,a,b,c,d,e,f,g,l=>if m=true then (some false) else (jigsawref06_Arity.l0 k 0 a b c d e f g l)
def jigsawref06_Arity.l0:Nat→Int→Int→List Int→List Int→List Int→List Int→List Int→Int→List (List Int)→Option (Bool)
 | 0,_,_,_,_,_,_,_,_,_=>none
 | k+1,m,b,c,d,e,f,g,l,a=>if m<(a.length:Int) then (none) else (some true)
end
def jigsawref06_Arity.f (k:Nat) (d:Int) (a:List Int) (b:List Int) (e:List Int) (g:List Int) (l:List Int) (c:Int) (m:List (List Int)) (n:ByteArray):Option (Bool):=if c=0 then (jigsawref06_Arity.j0 k n (a.length:Int) (b.length:Int) false d a b e g l c m) else ((jigsawref06_has.f k n 107).bind fun o=>(jigsawref06_Arity.j0 k n (a.length:Int) (b.length:Int) (o==0) d a b e g l c m))
theorem jigsawref06_Arity.mono_l:∀k,(∀a b c d e f g l m n o p,LeO (jigsawref06_Arity.j0 k a b c d e f g l m n o p) (jigsawref06_Arity.j0 (k+1) a b c d e f g l m n o p))∧(∀a b c d e f g l m n,LeO (jigsawref06_Arity.j1 k a b c d e f g l m n) (jigsawref06_Arity.j1 (k+1) a b c d e f g l m n))∧(∀a b c d e f g l m,LeO (jigsawref06_Arity.j2 k a b c d e f g l m) (jigsawref06_Arity.j2 (k+1) a b c d e f g l m))∧(∀a b c d e f g l m,LeO (jigsawref06_Arity.l0 k a b c d e f g l m) (jigsawref06_Arity.l0 (k+1) a b c d e f g l m))
 | 0=>by refine ⟨?_,?_,?_,?_⟩ <;> (intros;exact LeO.none _)
 | k+1=>by
  obtain ⟨ih0,ih1,ih2,ih3⟩:=jigsawref06_Arity.mono_l k
  have m0:=@jigsawref06_has.mono
  refine ⟨?_,?_,?_,?_⟩ <;> intros
  all_goals first | unfold jigsawref06_Arity.j0 | unfold jigsawref06_Arity.j1 | unfold jigsawref06_Arity.j2 | unfold jigsawref06_Arity.l0
  all_goals exact leo_
theorem jigsawref06_Arity.mono:∀a b c d e g l m n k,LeO (jigsawref06_Arity.f k a b c d e g l m n) (jigsawref06_Arity.f (k+1) a b c d e g l m n):=by
 intro a b c d e g l m n k
 obtain ⟨ih0,ih1,ih2,ih3⟩:=jigsawref06_Arity.mono_l k
 unfold jigsawref06_Arity.f
 have m0:=@jigsawref06_has.mono
 exact leo_
set_option maxHeartbeats 8000000 in
set_option maxRecDepth 100000 in
theorem jigsawref06_Arity.calls (k:Nat) (b:Int) (s:Option Addr) (c0_1:Nat) (m:List Int) (u:Option Addr) (c0_2:Nat) (n:List Int) (v:Option Addr) (c0_3:Nat) (a:List Int) (x:Option Addr) (c0_4:Nat) (c:List Int) (y:Option Addr) (c0_5:Nat) (d:List Int) (o:Int) (z:Option Addr) (c0_7:Nat) (l:List (List Int)) (p:ByteArray) (r:Bool) (w:World) (aE:Kd.C (Kd.int .i64) w s m.length m) (ag:m.length≤c0_1) (aF:Kd.C (Kd.int .i64) w u n.length n) (ah:n.length≤c0_2) (aG:Kd.C (Kd.int .i64) w v a.length a) (ai:a.length≤c0_3) (aH:Kd.C (Kd.int .i64) w x c.length c) (aj:c.length≤c0_4) (aI:Kd.C (Kd.int .i64) w y d.length d) (ak:d.length≤c0_5) (aJ:Kd.C (Kd.slice 3 (Kd.int .i64)) w z l.length l) (al:l.length≤c0_7) (h:jigsawref06_Arity.f k b m n a c d o l p=some r) :
  Calls Tryz.prog 69 #[.agg #[.int .i64 b,.slice s m.length c0_1,.slice u n.length c0_2,.slice v a.length c0_3,.slice x c.length c0_4,.slice y d.length c0_5,.int .i64 o,.slice z l.length c0_7],.string p] w fun e w'=>e = .returned (.bool r)∧Below w.heap.size w w':=by
 have hu32:=Tryz.underlying32
 have aP:=a_ ag
 clear aE ag
 have aQ:=a_ ah
 clear aF ah
 have aR:=a_ ai
 clear aG ai
 have aS:=a_ aj
 clear aH aj
 have aT:=a_ ak
 clear aI ak
 have aU:=a_ al
 clear aJ al
 have HB:=a_ (Below.refl w.heap.size w)
 unfold jigsawref06_Arity.f at h
 have H:=h
 clear h
 have an:=a_ H
 clear H
 go_enter Tryz.func69,Tryz.ntmps69
 go_upto_region 3 with (first|((with_reducible refine gate_dst (N:=2) rfl ?_);(try (refine gate_guard (by rfl) ?_;dsimp only));refine bxe_ (N:=2) (cs:=#[.int .i64 b,.slice s m.length c0_1,.slice u n.length c0_2,.slice v a.length c0_3,.slice x c.length c0_4,.slice y d.length c0_5,.int .i64 o,.slice z l.length c0_7]) (t:=32) ?_;intro q hg w4 hbox hb;have g:=a_ (hbox);have Q:=a_ (by rw [hg];exact (bz_ bel_):w.heap.size≤q);have am:=Q;replace HB:=hq_ hb;clear hb hbox hg;obtain ⟨_,_,_,_,_,_,_,_,_,_,_,_,_,_,_,_⟩:=cel8_ g.out))
 repeat (go_quiet (first|((with_reducible refine gate_dst (N:=2) rfl ?_);(try (refine gate_guard (by rfl) ?_;dsimp only));refine bxe_ (N:=2) (cs:=#[.int .i64 b,.slice s m.length c0_1,.slice u n.length c0_2,.slice v a.length c0_3,.slice x c.length c0_4,.slice y d.length c0_5,.int .i64 o,.slice z l.length c0_7]) (t:=32) ?_;intro q hg w4 hbox hb;have g:=a_ (hbox);have Q:=a_ (by rw [hg];exact (bz_ bel_):w.heap.size≤q);have am:=Q;replace HB:=hq_ hb;clear hb hbox hg;obtain ⟨_,_,_,_,_,_,_,_,_,_,_,_,_,_,_,_⟩:=cel8_ g.out));go_upto_region 3 with (first|((with_reducible refine gate_dst (N:=2) rfl ?_);(try (refine gate_guard (by rfl) ?_;dsimp only));refine bxe_ (N:=2) (cs:=#[.int .i64 b,.slice s m.length c0_1,.slice u n.length c0_2,.slice v a.length c0_3,.slice x c.length c0_4,.slice y d.length c0_5,.int .i64 o,.slice z l.length c0_7]) (t:=32) ?_;intro q hg w4 hbox hb;have g:=a_ (hbox);have Q:=a_ (by rw [hg];exact (bz_ bel_):w.heap.size≤q);have am:=Q;replace HB:=hq_ hb;clear hb hbox hg;obtain ⟨_,_,_,_,_,_,_,_,_,_,_,_,_,_,_,_⟩:=cel8_ g.out)))
 (try simp only [Act.put,List.setIfInBounds_toArray,List.set_cons_zero,List.set_cons_succ])
 go_cut [26] (fun aN wc=>∃(kq:Nat) (ab:Bool),aN = .bool ab∧Aside0 (jigsawref06_Arity.j0 kq p (m.length:Int) (n.length:Int) ab b m n a c d o l=some r)∧Aside0 (kq≤k)∧Aside0 (wc.heap[q]? = some (.cells #[.int .i64 b,(.slice s m.length c0_1),(.slice u n.length c0_2),(.slice v a.length c0_3),(.slice x c.length c0_4),(.slice y d.length c0_5),.int .i64 o,(.slice z l.length c0_7)] 32 (0,0)))∧Aside0 (Below w.heap.size w wc))
 case first=>as_aux_lemma =>
  have H:=an.out
  clear an
  replace H:=eg_ H
  rcases H with ⟨-,c6b0,c6b1,H⟩ | ⟨c6,c6b0,c6b1,H⟩
  ·
   (first | rw [c6b0]|(simp only [i64_w,i32_w];rw [c6b0]) | skip)
   have H':=a_ H
   clear H
   obtain ⟨_,_,_,_,_,_,_,_,_,_,_,_,_,_,_,_⟩:=cel8_ g.out
   go_wp2
   repeat (go_quiet (fail);try go_wp2)
   go_meet
   exact ⟨_,(false),eq_,H',⟨by first | omega | exact lr_ _⟩,⟨bk_ g.out⟩,⟨bel_⟩⟩
  (first | rw [c6b0]|(simp only [i64_w,i32_w];rw [c6b0]) | skip)
  replace H:=bo_ H
  obtain ⟨ac,A8,H⟩:=H
  try dsimp only at H
  have H':=a_ H
  clear H
  obtain ⟨_,_,_,_,_,_,_,_,_,_,_,_,_,_,_,_⟩:=cel8_ g.out
  go_wp2_with (first|(go_at_call 37;(with_reducible refine (jigsawref06_has.calls k p 107 ac _ A8.out).mono ?_);rintro e w' ⟨rfl,⟨nd,rfl⟩⟩;(try first | exact ⟨rfl,_,World.drewN_drewN _ _ _⟩ | exact ⟨rfl,_,Eq.trans (World.drewN_drewN _ _ _) (congrArg (World.drewN _) (Nat.add_assoc _ _ _))⟩)))
  repeat (go_quiet (first|(go_at_call 37;(with_reducible refine (jigsawref06_has.calls k p 107 ac _ A8.out).mono ?_);rintro e w' ⟨rfl,⟨nd,rfl⟩⟩;(try first | exact ⟨rfl,_,World.drewN_drewN _ _ _⟩ | exact ⟨rfl,_,Eq.trans (World.drewN_drewN _ _ _) (congrArg (World.drewN _) (Nat.add_assoc _ _ _))⟩)));try go_wp2_with (first|(go_at_call 37;(with_reducible refine (jigsawref06_has.calls k p 107 ac _ A8.out).mono ?_);rintro e w' ⟨rfl,⟨nd,rfl⟩⟩;(try first | exact ⟨rfl,_,World.drewN_drewN _ _ _⟩ | exact ⟨rfl,_,Eq.trans (World.drewN_drewN _ _ _) (congrArg (World.drewN _) (Nat.add_assoc _ _ _))⟩))))
  go_meet
  exact ⟨_,((ac==0)),eq_,H',⟨by first | omega | exact lr_ _⟩,⟨bk_ g.out⟩,⟨bel_⟩⟩
 clear an
 try clear p2
 try clear c6
 try clear c6b0
 try clear c6b1
 obtain ⟨kq,ab,rfl,HA,aa,g,HB⟩:=hcut
 cases kq with
 | zero=>exact absurd HA.out (by simp [jigsawref06_Arity.j0])
 | succ kj2=>as_aux_lemma =>
  have H:=HA.out
  clear HA
  simp only [jigsawref06_Arity.j0] at H
  replace H:=ht_ H
  rcases H with ⟨rfl,H⟩ | ⟨rfl,H⟩
  ·
   obtain rfl:=si_ H
   go_wp2
   repeat (go_quiet (fail);try go_wp2)
   go_ret
   exact ⟨er_,bel_⟩
  replace H:=gz_ H
  obtain ⟨c11,c11b0,c11b1,H⟩:=H
  replace H:=bo_ H
  obtain ⟨B,ao,H⟩:=H
  try dsimp only at H
  replace H:=bo_ H
  obtain ⟨E,ap,H⟩:=H
  try dsimp only at H
  replace H:=bo_ H
  obtain ⟨V,aq,H⟩:=H
  try dsimp only at H
  replace H:=bo_ H
  obtain ⟨F,ar,H⟩:=H
  try dsimp only at H
  replace H:=bo_ H
  obtain ⟨G,au,H⟩:=H
  try dsimp only at H
  replace H:=bo_ H
  obtain ⟨W,av,H⟩:=H
  try dsimp only at H
  replace H:=bo_ H
  obtain ⟨I,aw,H⟩:=H
  try dsimp only at H
  replace H:=bo_ H
  obtain ⟨X,ax,H⟩:=H
  try dsimp only at H
  replace H:=bo_ H
  obtain ⟨J,ay,H⟩:=H
  try dsimp only at H
  replace H:=bo_ H
  obtain ⟨Y,az,H⟩:=H
  try dsimp only at H
  replace H:=bo_ H
  obtain ⟨K,aA,H⟩:=H
  try dsimp only at H
  replace H:=bo_ H
  obtain ⟨Z,aB,H⟩:=H
  try dsimp only at H
  have ad:=a_ H
  clear H
  obtain ⟨_,_,_,_,_,_,_,_,_,_,_,_,_,_,_,_⟩:=cel8_ g.out
  go_upto_region 12 with (first|(go_at_call 37;(with_reducible refine (jigsawref06_has.calls kj2 p 118 B _ ao.out).mono ?_);rintro e w' ⟨rfl,⟨nd,rfl⟩⟩;(try first | exact ⟨rfl,_,World.drewN_drewN _ _ _⟩ | exact ⟨rfl,_,Eq.trans (World.drewN_drewN _ _ _) (congrArg (World.drewN _) (Nat.add_assoc _ _ _))⟩))|(go_at_call 37;(with_reducible refine (jigsawref06_has.calls kj2 p 86 E _ ap.out).mono ?_);rintro e w' ⟨rfl,⟨nd,rfl⟩⟩;(try first | exact ⟨rfl,_,World.drewN_drewN _ _ _⟩ | exact ⟨rfl,_,Eq.trans (World.drewN_drewN _ _ _) (congrArg (World.drewN _) (Nat.add_assoc _ _ _))⟩))|(go_at_call 91;(with_reducible refine (jigsawref06_list.calls (m.length:Int) B E V _ aq.out).mono ?_);rintro e w' ⟨rfl,⟨nd,rfl⟩⟩;(try first | exact ⟨rfl,_,World.drewN_drewN _ _ _⟩ | exact ⟨rfl,_,Eq.trans (World.drewN_drewN _ _ _) (congrArg (World.drewN _) (Nat.add_assoc _ _ _))⟩))|(go_at_call 37;(with_reducible refine (jigsawref06_has.calls kj2 p 119 F _ ar.out).mono ?_);rintro e w' ⟨rfl,⟨nd,rfl⟩⟩;(try first | exact ⟨rfl,_,World.drewN_drewN _ _ _⟩ | exact ⟨rfl,_,Eq.trans (World.drewN_drewN _ _ _) (congrArg (World.drewN _) (Nat.add_assoc _ _ _))⟩))|(go_at_call 37;(with_reducible refine (jigsawref06_has.calls kj2 p 87 G _ au.out).mono ?_);rintro e w' ⟨rfl,⟨nd,rfl⟩⟩;(try first | exact ⟨rfl,_,World.drewN_drewN _ _ _⟩ | exact ⟨rfl,_,Eq.trans (World.drewN_drewN _ _ _) (congrArg (World.drewN _) (Nat.add_assoc _ _ _))⟩))|(go_at_call 91;(with_reducible refine (jigsawref06_list.calls (n.length:Int) F G W _ av.out).mono ?_);rintro e w' ⟨rfl,⟨nd,rfl⟩⟩;(try first | exact ⟨rfl,_,World.drewN_drewN _ _ _⟩ | exact ⟨rfl,_,Eq.trans (World.drewN_drewN _ _ _) (congrArg (World.drewN _) (Nat.add_assoc _ _ _))⟩))|(go_at_call 37;(with_reducible refine (jigsawref06_has.calls kj2 p 99 I _ aw.out).mono ?_);rintro e w' ⟨rfl,⟨nd,rfl⟩⟩;(try first | exact ⟨rfl,_,World.drewN_drewN _ _ _⟩ | exact ⟨rfl,_,Eq.trans (World.drewN_drewN _ _ _) (congrArg (World.drewN _) (Nat.add_assoc _ _ _))⟩))|(go_at_call 91;(with_reducible refine (jigsawref06_list.calls (a.length:Int) 0 I X _ ax.out).mono ?_);rintro e w' ⟨rfl,⟨nd,rfl⟩⟩;(try first | exact ⟨rfl,_,World.drewN_drewN _ _ _⟩ | exact ⟨rfl,_,Eq.trans (World.drewN_drewN _ _ _) (congrArg (World.drewN _) (Nat.add_assoc _ _ _))⟩))|(go_at_call 37;(with_reducible refine (jigsawref06_has.calls kj2 p 100 J _ ay.out).mono ?_);rintro e w' ⟨rfl,⟨nd,rfl⟩⟩;(try first | exact ⟨rfl,_,World.drewN_drewN _ _ _⟩ | exact ⟨rfl,_,Eq.trans (World.drewN_drewN _ _ _) (congrArg (World.drewN _) (Nat.add_assoc _ _ _))⟩))|(go_at_call 91;(with_reducible refine (jigsawref06_list.calls (c.length:Int) 0 J Y _ az.out).mono ?_);rintro e w' ⟨rfl,⟨nd,rfl⟩⟩;(try first | exact ⟨rfl,_,World.drewN_drewN _ _ _⟩ | exact ⟨rfl,_,Eq.trans (World.drewN_drewN _ _ _) (congrArg (World.drewN _) (Nat.add_assoc _ _ _))⟩))|(go_at_call 37;(with_reducible refine (jigsawref06_has.calls kj2 p 101 K _ aA.out).mono ?_);rintro e w' ⟨rfl,⟨nd,rfl⟩⟩;(try first | exact ⟨rfl,_,World.drewN_drewN _ _ _⟩ | exact ⟨rfl,_,Eq.trans (World.drewN_drewN _ _ _) (congrArg (World.drewN _) (Nat.add_assoc _ _ _))⟩))|(go_at_call 91;(with_reducible refine (jigsawref06_list.calls (d.length:Int) 0 K Z _ aB.out).mono ?_);rintro e w' ⟨rfl,⟨nd,rfl⟩⟩;(try first | exact ⟨rfl,_,World.drewN_drewN _ _ _⟩ | exact ⟨rfl,_,Eq.trans (World.drewN_drewN _ _ _) (congrArg (World.drewN _) (Nat.add_assoc _ _ _))⟩)))
  repeat (go_quiet (first|(go_at_call 37;(with_reducible refine (jigsawref06_has.calls kj2 p 118 B _ ao.out).mono ?_);rintro e w' ⟨rfl,⟨nd,rfl⟩⟩;(try first | exact ⟨rfl,_,World.drewN_drewN _ _ _⟩ | exact ⟨rfl,_,Eq.trans (World.drewN_drewN _ _ _) (congrArg (World.drewN _) (Nat.add_assoc _ _ _))⟩))|(go_at_call 37;(with_reducible refine (jigsawref06_has.calls kj2 p 86 E _ ap.out).mono ?_);rintro e w' ⟨rfl,⟨nd,rfl⟩⟩;(try first | exact ⟨rfl,_,World.drewN_drewN _ _ _⟩ | exact ⟨rfl,_,Eq.trans (World.drewN_drewN _ _ _) (congrArg (World.drewN _) (Nat.add_assoc _ _ _))⟩))|(go_at_call 91;(with_reducible refine (jigsawref06_list.calls (m.length:Int) B E V _ aq.out).mono ?_);rintro e w' ⟨rfl,⟨nd,rfl⟩⟩;(try first | exact ⟨rfl,_,World.drewN_drewN _ _ _⟩ | exact ⟨rfl,_,Eq.trans (World.drewN_drewN _ _ _) (congrArg (World.drewN _) (Nat.add_assoc _ _ _))⟩))|(go_at_call 37;(with_reducible refine (jigsawref06_has.calls kj2 p 119 F _ ar.out).mono ?_);rintro e w' ⟨rfl,⟨nd,rfl⟩⟩;(try first | exact ⟨rfl,_,World.drewN_drewN _ _ _⟩ | exact ⟨rfl,_,Eq.trans (World.drewN_drewN _ _ _) (congrArg (World.drewN _) (Nat.add_assoc _ _ _))⟩))|(go_at_call 37;(with_reducible refine (jigsawref06_has.calls kj2 p 87 G _ au.out).mono ?_);rintro e w' ⟨rfl,⟨nd,rfl⟩⟩;(try first | exact ⟨rfl,_,World.drewN_drewN _ _ _⟩ | exact ⟨rfl,_,Eq.trans (World.drewN_drewN _ _ _) (congrArg (World.drewN _) (Nat.add_assoc _ _ _))⟩))|(go_at_call 91;(with_reducible refine (jigsawref06_list.calls (n.length:Int) F G W _ av.out).mono ?_);rintro e w' ⟨rfl,⟨nd,rfl⟩⟩;(try first | exact ⟨rfl,_,World.drewN_drewN _ _ _⟩ | exact ⟨rfl,_,Eq.trans (World.drewN_drewN _ _ _) (congrArg (World.drewN _) (Nat.add_assoc _ _ _))⟩))|(go_at_call 37;(with_reducible refine (jigsawref06_has.calls kj2 p 99 I _ aw.out).mono ?_);rintro e w' ⟨rfl,⟨nd,rfl⟩⟩;(try first | exact ⟨rfl,_,World.drewN_drewN _ _ _⟩ | exact ⟨rfl,_,Eq.trans (World.drewN_drewN _ _ _) (congrArg (World.drewN _) (Nat.add_assoc _ _ _))⟩))|(go_at_call 91;(with_reducible refine (jigsawref06_list.calls (a.length:Int) 0 I X _ ax.out).mono ?_);rintro e w' ⟨rfl,⟨nd,rfl⟩⟩;(try first | exact ⟨rfl,_,World.drewN_drewN _ _ _⟩ | exact ⟨rfl,_,Eq.trans (World.drewN_drewN _ _ _) (congrArg (World.drewN _) (Nat.add_assoc _ _ _))⟩))|(go_at_call 37;(with_reducible refine (jigsawref06_has.calls kj2 p 100 J _ ay.out).mono ?_);rintro e w' ⟨rfl,⟨nd,rfl⟩⟩;(try first | exact ⟨rfl,_,World.drewN_drewN _ _ _⟩ | exact ⟨rfl,_,Eq.trans (World.drewN_drewN _ _ _) (congrArg (World.drewN _) (Nat.add_assoc _ _ _))⟩))|(go_at_call 91;(with_reducible refine (jigsawref06_list.calls (c.length:Int) 0 J Y _ az.out).mono ?_);rintro e w' ⟨rfl,⟨nd,rfl⟩⟩;(try first | exact ⟨rfl,_,World.drewN_drewN _ _ _⟩ | exact ⟨rfl,_,Eq.trans (World.drewN_drewN _ _ _) (congrArg (World.drewN _) (Nat.add_assoc _ _ _))⟩))|(go_at_call 37;(with_reducible refine (jigsawref06_has.calls kj2 p 101 K _ aA.out).mono ?_);rintro e w' ⟨rfl,⟨nd,rfl⟩⟩;(try first | exact ⟨rfl,_,World.drewN_drewN _ _ _⟩ | exact ⟨rfl,_,Eq.trans (World.drewN_drewN _ _ _) (congrArg (World.drewN _) (Nat.add_assoc _ _ _))⟩))|(go_at_call 91;(with_reducible refine (jigsawref06_list.calls (d.length:Int) 0 K Z _ aB.out).mono ?_);rintro e w' ⟨rfl,⟨nd,rfl⟩⟩;(try first | exact ⟨rfl,_,World.drewN_drewN _ _ _⟩ | exact ⟨rfl,_,Eq.trans (World.drewN_drewN _ _ _) (congrArg (World.drewN _) (Nat.add_assoc _ _ _))⟩)));go_upto_region 12 with (first|(go_at_call 37;(with_reducible refine (jigsawref06_has.calls kj2 p 118 B _ ao.out).mono ?_);rintro e w' ⟨rfl,⟨nd,rfl⟩⟩;(try first | exact ⟨rfl,_,World.drewN_drewN _ _ _⟩ | exact ⟨rfl,_,Eq.trans (World.drewN_drewN _ _ _) (congrArg (World.drewN _) (Nat.add_assoc _ _ _))⟩))|(go_at_call 37;(with_reducible refine (jigsawref06_has.calls kj2 p 86 E _ ap.out).mono ?_);rintro e w' ⟨rfl,⟨nd,rfl⟩⟩;(try first | exact ⟨rfl,_,World.drewN_drewN _ _ _⟩ | exact ⟨rfl,_,Eq.trans (World.drewN_drewN _ _ _) (congrArg (World.drewN _) (Nat.add_assoc _ _ _))⟩))|(go_at_call 91;(with_reducible refine (jigsawref06_list.calls (m.length:Int) B E V _ aq.out).mono ?_);rintro e w' ⟨rfl,⟨nd,rfl⟩⟩;(try first | exact ⟨rfl,_,World.drewN_drewN _ _ _⟩ | exact ⟨rfl,_,Eq.trans (World.drewN_drewN _ _ _) (congrArg (World.drewN _) (Nat.add_assoc _ _ _))⟩))|(go_at_call 37;(with_reducible refine (jigsawref06_has.calls kj2 p 119 F _ ar.out).mono ?_);rintro e w' ⟨rfl,⟨nd,rfl⟩⟩;(try first | exact ⟨rfl,_,World.drewN_drewN _ _ _⟩ | exact ⟨rfl,_,Eq.trans (World.drewN_drewN _ _ _) (congrArg (World.drewN _) (Nat.add_assoc _ _ _))⟩))|(go_at_call 37;(with_reducible refine (jigsawref06_has.calls kj2 p 87 G _ au.out).mono ?_);rintro e w' ⟨rfl,⟨nd,rfl⟩⟩;(try first | exact ⟨rfl,_,World.drewN_drewN _ _ _⟩ | exact ⟨rfl,_,Eq.trans (World.drewN_drewN _ _ _) (congrArg (World.drewN _) (Nat.add_assoc _ _ _))⟩))|(go_at_call 91;(with_reducible refine (jigsawref06_list.calls (n.length:Int) F G W _ av.out).mono ?_);rintro e w' ⟨rfl,⟨nd,rfl⟩⟩;(try first | exact ⟨rfl,_,World.drewN_drewN _ _ _⟩ | exact ⟨rfl,_,Eq.trans (World.drewN_drewN _ _ _) (congrArg (World.drewN _) (Nat.add_assoc _ _ _))⟩))|(go_at_call 37;(with_reducible refine (jigsawref06_has.calls kj2 p 99 I _ aw.out).mono ?_);rintro e w' ⟨rfl,⟨nd,rfl⟩⟩;(try first | exact ⟨rfl,_,World.drewN_drewN _ _ _⟩ | exact ⟨rfl,_,Eq.trans (World.drewN_drewN _ _ _) (congrArg (World.drewN _) (Nat.add_assoc _ _ _))⟩))|(go_at_call 91;(with_reducible refine (jigsawref06_list.calls (a.length:Int) 0 I X _ ax.out).mono ?_);rintro e w' ⟨rfl,⟨nd,rfl⟩⟩;(try first | exact ⟨rfl,_,World.drewN_drewN _ _ _⟩ | exact ⟨rfl,_,Eq.trans (World.drewN_drewN _ _ _) (congrArg (World.drewN _) (Nat.add_assoc _ _ _))⟩))|(go_at_call 37;(with_reducible refine (jigsawref06_has.calls kj2 p 100 J _ ay.out).mono ?_);rintro e w' ⟨rfl,⟨nd,rfl⟩⟩;(try first | exact ⟨rfl,_,World.drewN_drewN _ _ _⟩ | exact ⟨rfl,_,Eq.trans (World.drewN_drewN _ _ _) (congrArg (World.drewN _) (Nat.add_assoc _ _ _))⟩))|(go_at_call 91;(with_reducible refine (jigsawref06_list.calls (c.length:Int) 0 J Y _ az.out).mono ?_);rintro e w' ⟨rfl,⟨nd,rfl⟩⟩;(try first | exact ⟨rfl,_,World.drewN_drewN _ _ _⟩ | exact ⟨rfl,_,Eq.trans (World.drewN_drewN _ _ _) (congrArg (World.drewN _) (Nat.add_assoc _ _ _))⟩))|(go_at_call 37;(with_reducible refine (jigsawref06_has.calls kj2 p 101 K _ aA.out).mono ?_);rintro e w' ⟨rfl,⟨nd,rfl⟩⟩;(try first | exact ⟨rfl,_,World.drewN_drewN _ _ _⟩ | exact ⟨rfl,_,Eq.trans (World.drewN_drewN _ _ _) (congrArg (World.drewN _) (Nat.add_assoc _ _ _))⟩))|(go_at_call 91;(with_reducible refine (jigsawref06_list.calls (d.length:Int) 0 K Z _ aB.out).mono ?_);rintro e w' ⟨rfl,⟨nd,rfl⟩⟩;(try first | exact ⟨rfl,_,World.drewN_drewN _ _ _⟩ | exact ⟨rfl,_,Eq.trans (World.drewN_drewN _ _ _) (congrArg (World.drewN _) (Nat.add_assoc _ _ _))⟩))))
  (try simp only [Act.put,List.setIfInBounds_toArray,List.set_cons_zero,List.set_cons_succ])
  go_cut [113] (fun aL wc=>∃(kq:Nat) (M:Bool),aL = .bool M∧Aside0 (jigsawref06_Arity.j1 kq p M b m n a c d o l=some r)∧Aside0 (kq≤kj2)∧Aside0 (wc.heap[q]? = some (.cells #[.int .i64 b,(.slice s m.length c0_1),(.slice u n.length c0_2),(.slice v a.length c0_3),(.slice x c.length c0_4),(.slice y d.length c0_5),.int .i64 o,(.slice z l.length c0_7)] 32 (0,0)))∧Aside0 (Below w.heap.size w wc))
  case first=>as_aux_lemma =>
   have H:=ad.out
   clear ad
   replace H:=hf_ H
   rcases H with ⟨rfl,H⟩ | ⟨rfl,H⟩
   ·
    have H':=a_ H
    clear H
    go_wp2
    repeat (go_quiet (fail);try go_wp2)
    go_meet
    exact ⟨_,(true),eq_,H',⟨by have:=aa.out;first | omega | exact lr_ _⟩,⟨bk_ g.out⟩,⟨bel_⟩⟩
   replace H:=hf_ H
   rcases H with ⟨rfl,H⟩ | ⟨rfl,H⟩
   ·
    have H':=a_ H
    clear H
    go_wp2
    repeat (go_quiet (fail);try go_wp2)
    go_meet
    exact ⟨_,(true),eq_,H',⟨by have:=aa.out;first | omega | exact lr_ _⟩,⟨bk_ g.out⟩,⟨bel_⟩⟩
   replace H:=hf_ H
   rcases H with ⟨rfl,H⟩ | ⟨rfl,H⟩
   ·
    have H':=a_ H
    clear H
    go_wp2
    repeat (go_quiet (fail);try go_wp2)
    go_meet
    exact ⟨_,(true),eq_,H',⟨by have:=aa.out;first | omega | exact lr_ _⟩,⟨bk_ g.out⟩,⟨bel_⟩⟩
   replace H:=ht_ H
   rcases H with ⟨rfl,H⟩ | ⟨rfl,H⟩
   ·
    have H':=a_ H
    clear H
    go_wp2
    repeat (go_quiet (fail);try go_wp2)
    go_meet
    exact ⟨_,(!Z),eq_,H',⟨by have:=aa.out;first | omega | exact lr_ _⟩,⟨bk_ g.out⟩,⟨bel_⟩⟩
   have H':=a_ H
   clear H
   go_wp2
   repeat (go_quiet (fail);try go_wp2)
   go_meet
   exact ⟨_,(true),eq_,H',⟨by have:=aa.out;first | omega | exact lr_ _⟩,⟨bk_ g.out⟩,⟨bel_⟩⟩
  clear ad
  try clear c1
  try clear c2
  try clear p2
  try clear c6
  try clear c6b0
  try clear c6b1
  try clear c10
  try clear c11
  try clear c11b0
  try clear c11b1
  try clear c26
  try clear c27
  try clear c28
  try clear c29
  try clear p2
  obtain ⟨kq,M,rfl,HA,ae,g,HB⟩:=hcut
  cases kq with
  | zero=>exact absurd HA.out (by simp [jigsawref06_Arity.j1])
  | succ kj23=>as_aux_lemma =>
   have H:=HA.out
   clear HA
   simp only [jigsawref06_Arity.j1] at H
   replace H:=ht_ H
   rcases H with ⟨rfl,H⟩ | ⟨rfl,H⟩
   ·
    obtain rfl:=si_ H
    go_wp2
    repeat (go_quiet (fail);try go_wp2)
    go_ret
    exact ⟨er_,bel_⟩
   replace H:=bo_ H
   obtain ⟨A,aC,H⟩:=H
   try dsimp only at H
   replace H:=gp_ H
   obtain ⟨c32,H⟩:=H
   have c32b0:(A==0)=true:=beq_iff_eq.mpr c32
   have c32b1:(A != 0)=false:=bn_.mpr c32
   have c32b9:decide (0<A)=false:=df_ (by omega)
   clear c32
   replace H:=gn_ H
   obtain ⟨c33,H⟩:=H
   have c33b0:decide (0<(l.length:Int))=false:=df_ c33
   have c33b1:decide (0<l.length)=false:=df_ (by omega)
   clear c33
   replace H:=bo_ H
   obtain ⟨P,aD,H⟩:=H
   try dsimp only at H
   replace H:=gn_ H
   obtain ⟨c35,H⟩:=H
   have c35b0:decide (0<P)=false:=df_ c35
   clear c35
   replace H:=gn_ H
   obtain ⟨c36,H⟩:=H
   have c36b0:decide (b≤4)=false:=df_ c36
   clear c36
   have af:=a_ H
   clear H
   go_upto_region 18 with (first|(go_at_call 37;(with_reducible refine (jigsawref06_has.calls kj23 p 114 A _ aC.out).mono ?_);rintro e w' ⟨rfl,⟨nd,rfl⟩⟩;(try first | exact ⟨rfl,_,World.drewN_drewN _ _ _⟩ | exact ⟨rfl,_,Eq.trans (World.drewN_drewN _ _ _) (congrArg (World.drewN _) (Nat.add_assoc _ _ _))⟩);obtain ⟨_,_,_,_,_,_,_,_,_,_,_,_,_,_,_,_⟩:=cel8_ g.out)|(go_at_call 37;(with_reducible refine (jigsawref06_has.calls kj23 p 114 P _ aD.out).mono ?_);rintro e w' ⟨rfl,⟨nd,rfl⟩⟩;(try first | exact ⟨rfl,_,World.drewN_drewN _ _ _⟩ | exact ⟨rfl,_,Eq.trans (World.drewN_drewN _ _ _) (congrArg (World.drewN _) (Nat.add_assoc _ _ _))⟩)))
   repeat (go_quiet (first|(go_at_call 37;(with_reducible refine (jigsawref06_has.calls kj23 p 114 A _ aC.out).mono ?_);rintro e w' ⟨rfl,⟨nd,rfl⟩⟩;(try first | exact ⟨rfl,_,World.drewN_drewN _ _ _⟩ | exact ⟨rfl,_,Eq.trans (World.drewN_drewN _ _ _) (congrArg (World.drewN _) (Nat.add_assoc _ _ _))⟩);obtain ⟨_,_,_,_,_,_,_,_,_,_,_,_,_,_,_,_⟩:=cel8_ g.out)|(go_at_call 37;(with_reducible refine (jigsawref06_has.calls kj23 p 114 P _ aD.out).mono ?_);rintro e w' ⟨rfl,⟨nd,rfl⟩⟩;(try first | exact ⟨rfl,_,World.drewN_drewN _ _ _⟩ | exact ⟨rfl,_,Eq.trans (World.drewN_drewN _ _ _) (congrArg (World.drewN _) (Nat.add_assoc _ _ _))⟩)));go_upto_region 18 with (first|(go_at_call 37;(with_reducible refine (jigsawref06_has.calls kj23 p 114 A _ aC.out).mono ?_);rintro e w' ⟨rfl,⟨nd,rfl⟩⟩;(try first | exact ⟨rfl,_,World.drewN_drewN _ _ _⟩ | exact ⟨rfl,_,Eq.trans (World.drewN_drewN _ _ _) (congrArg (World.drewN _) (Nat.add_assoc _ _ _))⟩);obtain ⟨_,_,_,_,_,_,_,_,_,_,_,_,_,_,_,_⟩:=cel8_ g.out)|(go_at_call 37;(with_reducible refine (jigsawref06_has.calls kj23 p 114 P _ aD.out).mono ?_);rintro e w' ⟨rfl,⟨nd,rfl⟩⟩;(try first | exact ⟨rfl,_,World.drewN_drewN _ _ _⟩ | exact ⟨rfl,_,Eq.trans (World.drewN_drewN _ _ _) (congrArg (World.drewN _) (Nat.add_assoc _ _ _))⟩))))
   (try simp only [Act.put,List.setIfInBounds_toArray,List.set_cons_zero,List.set_cons_succ])
   go_cut [199] (fun aM wc=>∃(kq:Nat) (O:Bool),aM = .bool O∧Aside0 (jigsawref06_Arity.j2 kq O b m n a c d o l=some r)∧Aside0 (kq≤kj23)∧Aside0 (wc.heap[q]? = some (.cells #[.int .i64 b,(.slice s m.length c0_1),(.slice u n.length c0_2),(.slice v a.length c0_3),(.slice x c.length c0_4),(.slice y d.length c0_5),.int .i64 o,(.slice z l.length c0_7)] 32 (0,0)))∧Aside0 (Below w.heap.size w wc))
   case first=>as_aux_lemma =>
    have H:=af.out
    clear af
    replace H:=gz_ H
    obtain ⟨c39,c39b0,c39b1,H⟩:=H
    (first | rw [c39b0]|(simp only [i64_w,i32_w];rw [c39b0]) | skip)
    replace H:=gq_ H
    obtain ⟨c40b0,c40b1,H⟩:=H
    replace H:=ef_ H
    rcases H with ⟨c41,c41b0,c41b1,H⟩ | ⟨c41,c41b0,c41b1,H⟩
    ·
     have c41b2:(c.length==a.length)=false:=by first | simpa using c41 | (simp at c41 ⊢;omega)
     have H':=a_ H
     clear H
     obtain ⟨_,_,_,_,_,_,_,_,_,_,_,_,_,_,_,_⟩:=cel8_ g.out
     go_wp2
     repeat (go_quiet (fail);try go_wp2)
     go_meet
     exact ⟨_,(true),eq_,H',⟨by have:=aa.out;have:=ae.out;first | omega | exact lr_ _⟩,⟨bk_ g.out⟩,⟨bel_⟩⟩
    have c41b2:(c.length==a.length)=true:=by first | simpa using c41 | (simp at c41 ⊢;omega)
    clear c41
    replace H:=ef_ H
    rcases H with ⟨c42,c42b0,c42b1,H⟩ | ⟨c42,c42b0,c42b1,H⟩
    ·
     have c42b2:(d.length==a.length)=false:=by first | simpa using c42 | (simp at c42 ⊢;omega)
     have H':=a_ H
     clear H
     obtain ⟨_,_,_,_,_,_,_,_,_,_,_,_,_,_,_,_⟩:=cel8_ g.out
     go_wp2
     repeat (go_quiet (fail);try go_wp2)
     go_meet
     exact ⟨_,(true),eq_,H',⟨by have:=aa.out;have:=ae.out;first | omega | exact lr_ _⟩,⟨bk_ g.out⟩,⟨bel_⟩⟩
    have c42b2:(d.length==a.length)=true:=by first | simpa using c42 | (simp at c42 ⊢;omega)
    clear c42
    replace H:=gn_ H
    obtain ⟨c43,H⟩:=H
    have c43b0:decide (22≤b)=false:=df_ c43
    clear c43
    have H':=a_ H
    clear H
    obtain ⟨_,_,_,_,_,_,_,_,_,_,_,_,_,_,_,_⟩:=cel8_ g.out
    go_wp2
    repeat (go_quiet (fail);try go_wp2)
    go_meet
    exact ⟨_,(false),eq_,H',⟨by have:=aa.out;have:=ae.out;first | omega | exact lr_ _⟩,⟨bk_ g.out⟩,⟨bel_⟩⟩
   clear af
   try clear c1
   try clear c2
   try clear p2
   try clear c3
   try clear c4
   try clear c6
   try clear c6b0
   try clear c6b1
   try clear c10
   try clear c11
   try clear c11b0
   try clear c11b1
   try clear c26
   try clear c27
   try clear c28
   try clear c29
   try clear c30
   try clear c32
   try clear c32b0
   try clear c32b1
   try clear c33
   try clear c33b0
   try clear c33b1
   try clear c35
   try clear c35b0
   try clear c36
   try clear c36b0
   try clear c39
   try clear c39b0
   try clear c39b1
   try clear c40
   try clear c40b0
   try clear c40b1
   try clear c41
   try clear c41b0
   try clear c41b1
   try clear c41b2
   try clear c42
   try clear c42b0
   try clear c42b1
   try clear c42b2
   try clear c43
   try clear c43b0
   try clear p2
   obtain ⟨kq,O,rfl,HA,aV,g,HB⟩:=hcut
   cases kq with
   | zero=>exact absurd HA.out (by simp [jigsawref06_Arity.j2])
   | succ kj36=>as_aux_lemma =>
    have H:=HA.out
    clear HA
    simp only [jigsawref06_Arity.j2] at H
    replace H:=ht_ H
    rcases H with ⟨rfl,H⟩ | ⟨rfl,H⟩
    ·
     obtain rfl:=si_ H
     go_wp2
     repeat (go_quiet (fail);try go_wp2)
     go_ret
     exact ⟨er_,bel_⟩
    have H':=a_ H
    clear H
    go_wp2
    repeat (go_quiet (fail);try go_wp2)
    go_loopg [12] kj36 (fun kq aO w'=>∃(U:Int),aO = .int .i64 U∧Aside0 (jigsawref06_Arity.l0 kq U b m n a c d o l=some r)∧Aside0 (kq≤kj36)∧Aside0 (w'.heap[q]? = some (.cells #[.int .i64 b,(.slice s m.length c0_1),(.slice u n.length c0_2),(.slice v a.length c0_3),(.slice x c.length c0_4),(.slice y d.length c0_5),.int .i64 o,(.slice z l.length c0_7)] 32 (0,0)))∧Aside0 (Below w.heap.size w w'))
    case atStart=>exact ⟨(0),eq_,H',⟨lr_ _⟩,⟨bk_ g.out⟩,⟨bel_⟩⟩
    clear H'
    try clear c1
    try clear c2
    try clear p2
    try clear c3
    try clear c4
    try clear c6
    try clear c6b0
    try clear c6b1
    try clear c10
    try clear c11
    try clear c11b0
    try clear c11b1
    try clear c26
    try clear c27
    try clear c28
    try clear c29
    try clear c30
    try clear c32
    try clear c32b0
    try clear c32b1
    try clear c33
    try clear c33b0
    try clear c33b1
    try clear c35
    try clear c35b0
    try clear c36
    try clear c36b0
    try clear c39
    try clear c39b0
    try clear c39b1
    try clear c40
    try clear c40b0
    try clear c40b1
    try clear c41
    try clear c41b0
    try clear c41b1
    try clear c41b2
    try clear c42
    try clear c42b0
    try clear c42b1
    try clear c42b2
    try clear c43
    try clear c43b0
    try clear c47
    try clear p2
    obtain ⟨U,rfl,HA,aW,g,HB⟩:=hrel
    cases gk with
    | zero=>exact absurd HA.out (by simp [jigsawref06_Arity.l0])
    | succ k4 =>
     have H:=HA.out
     clear HA
     simp only [jigsawref06_Arity.l0] at H
     replace H:=gn_ H
     obtain ⟨c48,H⟩:=H
     have c48b0:decide (U<(l.length:Int))=false:=df_ c48
     clear c48
     obtain rfl:=si_ H
     obtain ⟨_,_,_,_,_,_,_,_,_,_,_,_,_,_,_,_⟩:=cel8_ g.out
     go_wp2
     repeat (go_quiet (fail);try go_wp2)
     go_ret
     exact ⟨er_,bel_⟩
end Go.Proofs.YtijjhobjmehhoaaGreatDoor.XGccRefuses
