-- by xprint.py, a program of this session, over the kit's print
import Derived.Test.YtijjhobjmehhoaaGreatDoorXGRex0
import Derived.Test.YtijjhobjmehhoaaGreatDoorXGRex1
import Derived.Test.YtijjhobjmehhoaaGreatDoorSq
namespace Go.Proofs.YtijjhobjmehhoaaGreatDoor.XGccRefuses
open Go.RowKit Go.Proofs.YtijjhobjmehhoaaGreatDoor.Sq Go.Proofs.YtijjhobjmehhoaaGreatDoorW.PrintWords Go.Proofs.YtijjhobjmehhoaaGreatDoorW.PrintLast Go.Proofs.YtijjhobjmehhoaaGreatDoorW.PrintMore
attribute [local go_sem] max2_int min2_int max_two min_two max_three min_three max_four min_four   -- for this text's walks alone
set_option linter.unusedVariables false
set_option maxHeartbeats 8000000
set_option maxRecDepth 100000
set_option linter.unusedSimpArgs false
mutual
def jigsawref06_Make.j0:Nat→Int→ByteArray→Int→Int→List Int→List Int→List Int→Int→Int→Int→Int→Option (Int×List Int×List Int×List Int×List Int×List Int×Int×(List (List Int)))
 | 0,_,_,_,_,_,_,_,_,_,_,_=>none
 | k+1,m,n,o,a,b,c,d,e,f,g,l=>if o>4 then (jigsawref06_Make.j1 k m n 4 a b c d e f g l) else (jigsawref06_Make.j1 k m n o a b c d e f g l)
def jigsawref06_Make.j1:Nat→Int→ByteArray→Int→Int→List Int→List Int→List Int→Int→Int→Int→Int→Option (Int×List Int×List Int×List Int×List Int×List Int×Int×(List (List Int)))
 | 0,_,_,_,_,_,_,_,_,_,_,_=>none
 | k+1,q,n,r,a,b,c,d,e,g,l,m=>(jigsawref06_has.f k n 118).bind fun o=>(if o>0 then ((jigsawref06_has.f k n 118).bind fun p=>(jigsawref06_Make.j2 k q n p a b c d e g l m)) else (jigsawref06_Make.j2 k q n r a b c d e g l m))
def jigsawref06_Make.j2:Nat→Int→ByteArray→Int→Int→List Int→List Int→List Int→Int→Int→Int→Int→Option (Int×List Int×List Int×List Int×List Int×List Int×Int×(List (List Int)))
 | 0,_,_,_,_,_,_,_,_,_,_,_=>none
 | k+1,o,p,q,c,a,b,d,e,g,l,m=>(jigsawref06_places.f k a q o).bind fun n=>((jigsawref06_has.f k p 119).bind fun r=>(if r>0 then ((jigsawref06_places.f k b 1 o).bind fun s=>(jigsawref06_Make.j3 k o p q c a b d e g l n s m)) else (jigsawref06_Make.j3 k o p q c a b d e g l n ([]:List Int) m)))
def jigsawref06_Make.j3:Nat→Int→ByteArray→Int→Int→List Int→List Int→List Int→Int→Int→Int→List Int→List Int→Int→Option (Int×List Int×List Int×List Int×List Int×List Int×Int×(List (List Int)))
 | 0,_,_,_,_,_,_,_,_,_,_,_,_,_=>none
 | k+1,t,p,q,b,c,a,d,e,g,l,m,o,n=>(jigsawref06_has.f k p 87).bind fun r=>(if r>0 then ((jigsawref06_places.f k a q t).bind fun s=>(jigsawref06_Make.j4 k p q b c a d e g l m s n)) else (jigsawref06_Make.j4 k p q b c a d e g l m o n))
def jigsawref06_Make.j4:Nat→ByteArray→Int→Int→List Int→List Int→List Int→Int→Int→Int→List Int→List Int→Int→Option (Int×List Int×List Int×List Int×List Int×List Int×Int×(List (List Int)))
 | 0,_,_,_,_,_,_,_,_,_,_,_,_=>none
 | k+1,p,q,b,c,d,a,e,g,l,m,n,o=>(jigsawref06_has.f k p 99).bind fun r=>(if r>0 then ((jigsawref06_numbers.f k a 0 q (-1) 5).bind fun s=>(jigsawref06_Make.j5 k p q b c d a e g l m n s o)) else (jigsawref06_Make.j5 k p q b c d a e g l m n ([]:List Int) o))
def jigsawref06_Make.j5:Nat→ByteArray→Int→Int→List Int→List Int→List Int→Int→Int→Int→List Int→List Int→List Int→Int→Option (Int×List Int×List Int×List Int×List Int×List Int×Int×(List (List Int)))
 | 0,_,_,_,_,_,_,_,_,_,_,_,_,_=>none
 | k+1,r,s,c,d,e,a,g,l,b,m,n,p,o=>if b=11 then ((jigsawref06_numbers.f k a 0 (1+((a.length:Int)%5)) (-1) 5).bind fun q=>(jigsawref06_Make.j6 k r s c d e a g l b m n q o)) else (jigsawref06_Make.j6 k r s c d e a g l b m n p o)
def jigsawref06_Make.j6:Nat→ByteArray→Int→Int→List Int→List Int→List Int→Int→Int→Int→List Int→List Int→List Int→Int→Option (Int×List Int×List Int×List Int×List Int×List Int×Int×(List (List Int)))
 | 0,_,_,_,_,_,_,_,_,_,_,_,_,_=>none
 | k+1,s,r,b,c,d,e,a,g,l,m,n,o,p=>(jigsawref06_has.f k s 107).bind fun q=>(if q>0 then (jigsawref06_Make.j7 k r b c d e a g l m n o (Int.tmod (wrap64 (a)) 12)) else (jigsawref06_Make.j7 k r b c d e a g l m n o p))
def jigsawref06_Make.j7:Nat→Int→Int→List Int→List Int→List Int→Int→Int→Int→List Int→List Int→List Int→Int→Option (Int×List Int×List Int×List Int×List Int×List Int×Int×(List (List Int)))
 | 0,_,_,_,_,_,_,_,_,_,_,_,_=>none
 | k+1,p,d,e,g,a,l,m,b,n,o,q,c=>if b=19 then ((jigsawref06_numbers.f k a 0 p 0 4).bind fun r=>((jigsawref06_numbers.f k a p p 0 4).bind fun s=>(if c<0 then (jigsawref06_Make.j8 k p d e g a l m b n o r s (wrap64 (-c))) else (jigsawref06_Make.j8 k p d e g a l m b n o r s c)))) else (jigsawref06_Make.j8 k p d e g a l m b n o q ([]:List Int) c)
def jigsawref06_Make.j8:Nat→Int→Int→List Int→List Int→List Int→Int→Int→Int→List Int→List Int→List Int→List Int→Int→Option (Int×List Int×List Int×List Int×List Int×List Int×Int×(List (List Int)))
 | 0,_,_,_,_,_,_,_,_,_,_,_,_,_=>none
 | k+1,q,c,d,e,a,f,g,b,l,m,p,n,o=>if b=21 then (jigsawref06_Make.l0 k q (1+((a.length:Int)%3)) 0 c d e a f g b l m ([]:List Int) n o) else (jigsawref06_Make.j11 k q c d e a f g b l m p n ([]:List Int) o)
def jigsawref06_Make.j11:Nat→Int→Int→List Int→List Int→List Int→Int→Int→Int→List Int→List Int→List Int→List Int→List Int→Int→Option (Int×List Int×List Int×List Int×List Int×List Int×Int×(List (List Int)))
 | 0,_,_,_,_,_,_,_,_,_,_,_,_,_,_=>none
 | k+1,r,m,n,o,b,p,q,a,c,d,e,f,g,l=>if a=18 then (jigsawref06_Make.l2 k r (1+((b.length:Int)%6)) 0 m n o b p q a c d e f g l ([]:List (List Int))) else (some (a,c,d,e,f,g,l,([]:List (List Int))))
def jigsawref06_Make.l2:Nat→Int→Int→Int→Int→List Int→List Int→List Int→Int→Int→Int→List Int→List Int→List Int→List Int→List Int→Int→List (List Int)→Option (Int×List Int×List Int×List Int×List Int×List Int×Int×(List (List Int)))
 | 0,_,_,_,_,_,_,_,_,_,_,_,_,_,_,_,_,_=>none
 | k+1,v,u,t,o,p,q,b,r,s,c,d,e,g,l,m,n,a=>if t<u then ((jigsawref06_numbers.f k b (wrap64 (t * v)) v (-1) 4).bind fun x=>(if a.length<5864062014805 then (jigsawref06_Make.l2 k v u (wrap64 (t+1)) o p q b r s c d e g l m n (a++[x])) else (none))) else (some (c,d,e,g,l,m,n,a))
def jigsawref06_Make.l0:Nat→Int→Int→Int→Int→List Int→List Int→List Int→Int→Int→Int→List Int→List Int→List Int→List Int→Int→Option (Int×List Int×List Int×List Int×List Int×List Int×Int×(List (List Int)))
 | 0,_,_,_,_,_,_,_,_,_,_,_,_,_,_,_=>none
 | k+1,u,r,s,d,e,g,a,b,l,m,n,o,c,q,p=>if s<r then (if c.length<17592186044416 then (jigsawref06_Make.l0 k u r (wrap64 (s+1)) d e g a b l m n o (c++[wrap64 ((Int.tmod (wrap64 (b)) 3)+s)]) q p) else (none)) else ((jigsawref06_numbers.f k a 0 r 0 2).bind fun t=>(jigsawref06_Make.l1 k u r 0 d e g a b l m n o c t ([]:List Int) p))
def jigsawref06_Make.l1:Nat→Int→Int→Int→Int→List Int→List Int→List Int→Int→Int→Int→List Int→List Int→List Int→List Int→List Int→Int→Option (Int×List Int×List Int×List Int×List Int×List Int×Int×(List (List Int)))
 | 0,_,_,_,_,_,_,_,_,_,_,_,_,_,_,_,_=>none
 | k+1,s,t,d,e,f,g,l,m,b,n,o,p,q,a,c,r=>if d<t then (if 0≤d then (if d<(a.length:Int) then (if c.length<17592186044416 then (jigsawref06_Make.l1 k s t (wrap64 (d+1)) e f g l m b n o p q a (c++[wrap64 ((rd a d)+(Int.tmod (shr .i64 (wrap64 (b)) d) 3))]) r) else (none)) else (none)) else (none)) else (jigsawref06_Make.j11 k s e f g l m b n o p q a c r)
end
def jigsawref06_Make.f (k:Nat) (a:Int) (b:List Int) (d:List Int) (e:List Int) (g:Int) (l:Int) (m:Int):Option (Int×List Int×List Int×List Int×List Int×List Int×Int×(List (List Int))):=(jigsawref06_Shapes.f).bind fun c=>(if 0≤(wrap64 (1+(Int.tmod (wrap64 (a)) 23))) then (if (wrap64 (1+(Int.tmod (wrap64 (a)) 23)))<(c.length:Int) then (if (b.length:Int)<1 then (jigsawref06_Make.j0 k m (rdOf ByteArray.empty c (wrap64 (1+(Int.tmod (wrap64 (a)) 23)))) 1 a b d e g l (wrap64 (1+(Int.tmod (wrap64 (a)) 23))) 0) else (jigsawref06_Make.j0 k m (rdOf ByteArray.empty c (wrap64 (1+(Int.tmod (wrap64 (a)) 23)))) (b.length:Int) a b d e g l (wrap64 (1+(Int.tmod (wrap64 (a)) 23))) 0)) else (none)) else (none))
theorem jigsawref06_Make.mono_l:∀k,(∀c d e f g l m n o p a,LeO (jigsawref06_Make.j0 k c d e f g l m n o p a) (jigsawref06_Make.j0 (k+1) c d e f g l m n o p a))∧(∀c d e f g l m n o p a,LeO (jigsawref06_Make.j1 k c d e f g l m n o p a) (jigsawref06_Make.j1 (k+1) c d e f g l m n o p a))∧(∀c d e f g l m n o p a,LeO (jigsawref06_Make.j2 k c d e f g l m n o p a) (jigsawref06_Make.j2 (k+1) c d e f g l m n o p a))∧(∀c d e f g l m n o p a b q,LeO (jigsawref06_Make.j3 k c d e f g l m n o p a b q) (jigsawref06_Make.j3 (k+1) c d e f g l m n o p a b q))∧(∀c d e f g l m n o p a b,LeO (jigsawref06_Make.j4 k c d e f g l m n o p a b) (jigsawref06_Make.j4 (k+1) c d e f g l m n o p a b))∧(∀c d e f g l m n o p a b q,LeO (jigsawref06_Make.j5 k c d e f g l m n o p a b q) (jigsawref06_Make.j5 (k+1) c d e f g l m n o p a b q))∧(∀c d e f g l m n o p a b q,LeO (jigsawref06_Make.j6 k c d e f g l m n o p a b q) (jigsawref06_Make.j6 (k+1) c d e f g l m n o p a b q))∧(∀c d e f g l m n o p a b,LeO (jigsawref06_Make.j7 k c d e f g l m n o p a b) (jigsawref06_Make.j7 (k+1) c d e f g l m n o p a b))∧(∀c d e f g l m n o p a b q,LeO (jigsawref06_Make.j8 k c d e f g l m n o p a b q) (jigsawref06_Make.j8 (k+1) c d e f g l m n o p a b q))∧(∀c d e f g l m n o p a b q s,LeO (jigsawref06_Make.j11 k c d e f g l m n o p a b q s) (jigsawref06_Make.j11 (k+1) c d e f g l m n o p a b q s))∧(∀c d e f g l m n o p a b q s t u v,LeO (jigsawref06_Make.l2 k c d e f g l m n o p a b q s t u v) (jigsawref06_Make.l2 (k+1) c d e f g l m n o p a b q s t u v))∧(∀c d e f g l m n o p a b q s t,LeO (jigsawref06_Make.l0 k c d e f g l m n o p a b q s t) (jigsawref06_Make.l0 (k+1) c d e f g l m n o p a b q s t))∧(∀c d e f g l m n o p a b q s t u,LeO (jigsawref06_Make.l1 k c d e f g l m n o p a b q s t u) (jigsawref06_Make.l1 (k+1) c d e f g l m n o p a b q s t u))
 | 0=>by refine ⟨?_,?_,?_,?_,?_,?_,?_,?_,?_,?_,?_,?_,?_⟩ <;> (intros;exact LeO.none _)
 | k+1=>by
  obtain ⟨ih0,ih1,ih2,ih3,ih4,ih5,ih6,ih7,ih8,ih9,ih10,ih11,ih12⟩:=jigsawref06_Make.mono_l k
  refine ⟨?_,?_,?_,?_,?_,?_,?_,?_,?_,?_,?_,?_,?_⟩ <;> intros
  all_goals first | unfold jigsawref06_Make.j0 | unfold jigsawref06_Make.j1 | unfold jigsawref06_Make.j2 | unfold jigsawref06_Make.j3 | unfold jigsawref06_Make.j4 | unfold jigsawref06_Make.j5 | unfold jigsawref06_Make.j6 | unfold jigsawref06_Make.j7 | unfold jigsawref06_Make.j8 | unfold jigsawref06_Make.j11 | unfold jigsawref06_Make.l2 | unfold jigsawref06_Make.l0 | unfold jigsawref06_Make.l1
  all_goals repeat' first|(with_reducible first | exact LeO.refl _ | exact LeO.none _ | apply ih0 | apply ih1 | apply ih2 | apply ih3 | apply ih4 | apply ih5 | apply ih6 | apply ih7 | apply ih8 | apply ih9 | apply ih10 | apply ih11 | apply ih12 | apply jigsawref06_has.mono | apply jigsawref06_numbers.mono | apply jigsawref06_places.mono | refine LeO.ite ?_ ?_ | refine LeO.bind ?_ (fun _=>?_))
theorem jigsawref06_Make.mono:∀a b c d e g l k,LeO (jigsawref06_Make.f k a b c d e g l) (jigsawref06_Make.f (k+1) a b c d e g l):=by
 intro a b c d e g l k
 obtain ⟨ih0,ih1,ih2,ih3,ih4,ih5,ih6,ih7,ih8,ih9,ih10,ih11,ih12⟩:=jigsawref06_Make.mono_l k
 unfold jigsawref06_Make.f
 repeat' first|(with_reducible first | exact LeO.refl _ | exact LeO.none _ | apply ih0 | apply ih1 | apply ih2 | apply ih3 | apply ih4 | apply ih5 | apply ih6 | apply ih7 | apply ih8 | apply ih9 | apply ih10 | apply ih11 | apply ih12 | apply jigsawref06_has.mono | apply jigsawref06_numbers.mono | apply jigsawref06_places.mono | refine LeO.ite ?_ ?_ | refine LeO.bind ?_ (fun _=>?_))
def jigsawref06_Make.T37:Bool×List (List Nat×List Nat):=(true,[([],[]),([0],[0]),([],[]),([2],[2]),([],[]),([3,4],[3,4]),([5],[5]),([],[]),([7],[7]),([8],[8]),([],[]),([9,10],[9,10]),([11],[11]),([6,12],[6,12]),([13],[13]),([1,14],[1,14]),([0,1,2,3,4,5,6,7,8,9,10,11,12,13,14,15],[]),([16,15,15,0,1,2,3,4,5,6,7,8,9,10,11,12,13,14,15],[15,16])])
def jigsawref06_Make.B37:List Nat:=[0,1,0,4,0,28,60,0,128,384,0,1920,3968,8188,16380,32767,65535,131071]
theorem jigsawref06_Make.tab37:rtab .any (opsOf Tryz.f18 37)=jigsawref06_Make.T37:=by kernel_rfl
theorem jigsawref06_Make.bits37:waitsOk jigsawref06_Make.T37.2 jigsawref06_Make.B37=true:=by kernel_rfl
def jigsawref06_Make.T43:Bool×List (List Nat×List Nat):=(true,[([],[]),([0],[0]),([],[]),([2],[2]),([],[]),([],[]),([4,5],[4,5]),([],[]),([3,6,7],[3,6,7]),([8],[8]),([1,9,8],[1,9]),([0,1,2,3,4,5,6,7,8,9,10],[]),([11,10,10,0,1,2,3,4,5,6,7,8,9,10],[10,11])])
def jigsawref06_Make.B43:List Nat:=[0,1,0,4,0,0,48,0,252,508,1023,2047,4095]
theorem jigsawref06_Make.tab43:rtab .any (opsOf Tryz.f18 43)=jigsawref06_Make.T43:=by kernel_rfl
theorem jigsawref06_Make.bits43:waitsOk jigsawref06_Make.T43.2 jigsawref06_Make.B43=true:=by kernel_rfl
def leads (n:Nat):Code→Bool
 | .seq a _=>leads n a
 | .region m _ _=>m==n
 | .block _ c=>leads n c
 | _=>false
def sfx (n:Nat):Code→Code
 | .seq a b=>bif leads n b then b else sfx n b
 | c=>c
theorem jigsawref06_Make.part10 {K:Act→World→Prop} {C:Code} {k:Nat} {U:Int} {ak:Option Addr} {c0_1:Nat} {E:List Int} {ah:Option Addr} {c0_2:Nat} {I:List Int} {ad:Option Addr} {c0_3:Nat} {z:List Int} {P Q a1 r1:Int} {r2 r3 r4 r5 r6:List Int} {r7:Int} {r8:List (List Int)} {w:World} (cE:Aside0 ((Kd.int IntKind.u8).C w ak E.length E)) (cF:Aside0 (E.length≤c0_1)) (cf:Aside0 ((Kd.int IntKind.u8).C w ah I.length I)) (cg:Aside0 (I.length≤c0_2)) (aQ:Aside0 ((Kd.int IntKind.i8).C w ad z.length z)) (aR:Aside0 (z.length≤c0_3)) {ag:List ByteArray} (A3:Aside0 (jigsawref06_Shapes.f=some ag)) {r:Int} (aE:wrap64 (1+(wrap64 U).tmod 23)=r) {V:Nat} (cG eL:Aside0 (w.heap.size≤V)) {ac:Nat} (cH eM:Aside0 (w.heap.size≤ac)) (Z:Aside0 (V≠ac)) (aa:Aside0 (ac≠V)) {A:Nat} (cI eP:Aside0 (w.heap.size≤A)) (p:Aside0 (V≠A)) (J:Aside0 (A≠V)) (q:Aside0 (ac≠A)) (M:Aside0 (A≠ac)) {kj6:Nat} (ar:Aside0 (kj6+1≤k)) {kj21:Nat} (al:Aside0 (kj21+1≤kj6)) {G:Int} {kj24:Nat} (am:Aside0 (kj24+1≤kj21)) {m:List Int} (dO:Aside0 (jigsawref06_places.f kj24 E G a1=some m)) {s:Option Addr} {u kj29:Nat} (ao:Aside0 (kj29+1≤kj24)) {y:List Int} {u133002:Value} {kj47:Nat} (av:Aside0 (kj47+1≤kj29)) {kj58:Nat} (az:Aside0 (kj58+1≤kj47)) {kj68:Nat} (aD:Aside0 (kj68+1≤kj58)) {kj82:Nat} (aM:Aside0 (kj82+1≤kj68)) {B:Int} {kj89:Nat} (a5:Aside0 (kj89+1≤kj82)) {wc:World} {u8 u9 u10 u13 u14 u15 u16 u17 u18 u19 u20 u21 u22 u23 u24 u25 u26 u27 u28 u29 u30 u31 u32 u33 u34 u35 u36 u37 u38 u39 u40 u41 u42 u43 u44 u45 u46 u47 u48 u49 u50 u51 u52 u53 u54 u55 u56 u57 u58 u59 u60 u61 u62 u63 u64 u65 u66 u67 u68 u69 u70 u71 u72 u73 u74 u75 u76 u77 u78 u79 u80 u81 u82 u83 u84 u85 u86 u87 u88 u89 u90 u91 u92 u93 u94 u95 u96 u97 u98 u99 u100 u101 u102 u103 u104 u105 u106 u107 u108 u109 u110 u111 u112 u113 u114 u115 u116 u117 u118 u119 u120 u121 u122 u123 u124 u125 u126 u127 u128 u129 u130 u131 u132 u133 u134 u135 u136 u137 u138 u139 u140 u141 u142 u143 u144 u145 u146 u147 u148 u149 u150 u151 u152 u153 u154 u155 u156 u157 u158 u159 u160 u161 u162 u163 u164 u165 u166 u167 u168 u169 u170 u171 u172 u173 u174 u175 u176 u177 u178 u179 u180 u181 u182 u183 u184 u185:Value} {O Y ab:List Int} {u133003 u133004 u133005:Value} (HO_133001:Aside0 ((Kd.int IntKind.i64).R 3 wc w.heap.size (fun l=>some l≠u133002.ownBlock∧some l≠u133003.ownBlock∧some l≠u133004.ownBlock∧some l≠u133005.ownBlock) (Value.slice s m.length u) m)) (HO_133002:Aside0 ((Kd.int IntKind.i64).R 3 wc w.heap.size (fun l=>some l≠(Value.slice s m.length u).ownBlock∧some l≠u133003.ownBlock∧some l≠u133004.ownBlock∧some l≠u133005.ownBlock) u133002 y)) (HO_133003:Aside0 ((Kd.int IntKind.i64).R 3 wc w.heap.size (fun l=>some l≠(Value.slice s m.length u).ownBlock∧some l≠u133002.ownBlock∧some l≠u133004.ownBlock∧some l≠u133005.ownBlock) u133003 O)) (HO_133004:Aside0 ((Kd.int IntKind.i64).R 3 wc w.heap.size (fun l=>some l≠(Value.slice s m.length u).ownBlock∧some l≠u133002.ownBlock∧some l≠u133003.ownBlock∧some l≠u133005.ownBlock) u133004 Y)) (HO_133005:Aside0 ((Kd.int IntKind.i64).R 3 wc w.heap.size (fun l=>some l≠(Value.slice s m.length u).ownBlock∧some l≠u133002.ownBlock∧some l≠u133003.ownBlock∧some l≠u133004.ownBlock) u133005 ab)) (c:Aside0 (wc.heap[V]? = some (Obj.cells #[Value.int IntKind.u8 U,Value.slice ak E.length c0_1,Value.slice ah I.length c0_2,Value.slice ad z.length c0_3,Value.int IntKind.i16 P,Value.int IntKind.u8 Q] 26))) (d:Aside0 (wc.heap[ac]? = some (Obj.cells #[Value.int IntKind.i64 0,Value.slice none 0 0,Value.slice none 0 0,Value.slice none 0 0,Value.slice none 0 0,Value.slice none 0 0,Value.int IntKind.i64 0,Value.slice none 0 0] 32))) (a:Aside0 (wc.heap[A]? = some (Obj.cells #[Value.int IntKind.i64 r,Value.slice s m.length u,u133002,u133003,u133004,u133005,Value.int IntKind.i64 B,Value.slice none 0 0] 32))) (HB:Aside0 (Below w.heap.size w wc)) {kj119:Nat} (cu:Aside0 (kj119+1≤kj89)) (H:(if r=18 then l2 kj119 G (1+(↑z.length:Int)%6) 0 U E I z P Q r m y O Y ab B [] else some (r,m,y,O,Y,ab,B,[]))=some (r1,r2,r3,r4,r5,r6,r7,r8)) (hK:∀(aK_:Act) (wK_:World),Code.wp Tryz.prog C ( bodyPost Tryz.prog Tryz.f18 fun e w'=>∃bA bB bC bD bE dk,e=Ending.returned (Value.agg #[Value.int IntKind.i64 r1,bA,bB,bC,bD,bE,Value.int IntKind.i64 r7,dk])∧(Kd.int IntKind.i64).R 3 w' w.heap.size (fun l=>some l≠bB.ownBlock∧some l≠bC.ownBlock∧some l≠bD.ownBlock∧some l≠bE.ownBlock) bA r2∧(Kd.int IntKind.i64).R 3 w' w.heap.size (fun l=>some l≠bA.ownBlock∧some l≠bC.ownBlock∧some l≠bD.ownBlock∧some l≠bE.ownBlock) bB r3∧(Kd.int IntKind.i64).R 3 w' w.heap.size (fun l=>some l≠bA.ownBlock∧some l≠bB.ownBlock∧some l≠bD.ownBlock∧some l≠bE.ownBlock) bC r4∧(Kd.int IntKind.i64).R 3 w' w.heap.size (fun l=>some l≠bA.ownBlock∧some l≠bB.ownBlock∧some l≠bC.ownBlock∧some l≠bE.ownBlock) bD r5∧(Kd.int IntKind.i64).R 3 w' w.heap.size (fun l=>some l≠bA.ownBlock∧some l≠bB.ownBlock∧some l≠bC.ownBlock∧some l≠bD.ownBlock) bE r6∧(Kd.slice 3 (Kd.int IntKind.i64)).S 30 w' w.heap.size (fun l=>some l≠bA.ownBlock∧some l≠bB.ownBlock∧some l≠bC.ownBlock∧some l≠bD.ownBlock∧some l≠bE.ownBlock) dk r8∧Below w.heap.size w w') aK_ wK_→K aK_ wK_) (hC:C=sfx 38 (Tryz.f18.body.getD .ret)):K { tmps:=#[Value.agg #[Value.int IntKind.u8 U,Value.slice ak E.length c0_1,Value.slice ah I.length c0_2,Value.slice ad z.length c0_3,Value.int IntKind.i16 P,Value.int IntKind.u8 Q],Value.int IntKind.i64 a1,Value.pointer (some { block:=V,off:=0 }),undef,Value.pointer (some { block:=ac,off:=0 }),Value.pointer (some { block:=A,off:=0 }),Value.string (rdOf ByteArray.empty ag r),Value.int IntKind.i64 G,u8,u9,u10,undef,undef,u13,u14,u15,u16,u17,u18,u19,u20,u21,u22,u23,u24,u25,u26,u27,u28,u29,u30,u31,u32,u33,u34,u35,u36,u37,u38,u39,u40,u41,u42,u43,u44,u45,u46,u47,u48,u49,u50,u51,u52,u53,u54,u55,u56,u57,u58,u59,u60,u61,u62,u63,u64,u65,u66,u67,u68,u69,u70,u71,u72,u73,u74,u75,u76,u77,u78,u79,u80,u81,u82,u83,u84,u85,u86,u87,u88,u89,u90,u91,u92,u93,u94,u95,u96,u97,u98,u99,u100,u101,u102,u103,u104,u105,u106,u107,u108,u109,u110,u111,u112,u113,u114,u115,u116,u117,u118,u119,u120,u121,u122,u123,u124,u125,u126,u127,u128,u129,u130,u131,u132,u133,u134,u135,u136,u137,u138,u139,u140,u141,u142,u143,u144,u145,u146,u147,u148,u149,u150,u151,u152,u153,u154,u155,u156,u157,u158,u159,u160,u161,u162,u163,u164,u165,u166,u167,u168,u169,u170,u171,u172,u173,u174,u175,u176,u177,u178,u179,u180,u181,u182,u183,u184,u185],defers:=[] } wc:=by
 unfold Tryz.f18 at hC
 dsimp only [sfx,leads,Option.getD_some,Nat.reduceBEq,cond_true,cond_false] at hC
 subst hC
 replace H:=ef_ H
 rcases H with ⟨c158,c158b0,c158b1,H⟩ | ⟨-,c158b0,c158b1,H⟩
 ·
  simp only [Option.some.injEq,Prod.mk.injEq] at H
  obtain ⟨rfl,rfl,rfl,rfl,rfl,rfl,rfl,rfl⟩:=H
  have eF:=J.out
  have eG:=p.out
  have eH:=M.out
  have eI:=q.out
  obtain ⟨_,_,_,_,_,_,_,_,_,_,_,_,_,_,_,_⟩:=cel8_ a.out
  have eJ:=aa.out
  have eK:=Z.out
  obtain ⟨_,_,_,_,_,_,_,_,_,_,_,_,_,_,_,_⟩:=cel8_ d.out
  obtain ⟨bb,bc,dg⟩:=Kd.R_slice HO_133002.out
  subst dg
  obtain ⟨bn,bo,dh⟩:=Kd.R_slice HO_133003.out
  subst dh
  obtain ⟨bx,bz,di⟩:=Kd.R_slice HO_133004.out
  subst di
  obtain ⟨bS,bT,dj⟩:=Kd.R_slice HO_133005.out
  subst dj
  go_wp2
  refine bodyPost_ret (results_cell_row rfl _ _ ac 32 #[.int .i64 r,.slice s m.length u,.slice bb y.length bc,.slice bn O.length bo,.slice bx Y.length bz,.slice bS ab.length bT,.int .i64 B,.slice none 0 0] (0,0) _ rfl (by refine bk_ ?_;refine bu_ (cs:=#[.int .i64 r,.slice s m.length u,.slice bb y.length bc,.slice bn O.length bo,.slice bx Y.length bz,.slice bS ab.length bT,.int .i64 B,.slice none 0 0]) ?_ 7 _ rfl;refine bk_ ?_;refine bu_ (cs:=#[.int .i64 r,.slice s m.length u,.slice bb y.length bc,.slice bn O.length bo,.slice bx Y.length bz,.slice bS ab.length bT,.int .i64 0,.slice none 0 0]) ?_ 6 _ rfl;refine bk_ ?_;refine bu_ (cs:=#[.int .i64 r,.slice s m.length u,.slice bb y.length bc,.slice bn O.length bo,.slice bx Y.length bz,.slice none 0 0,.int .i64 0,.slice none 0 0]) ?_ 5 _ rfl;refine bk_ ?_;refine bu_ (cs:=#[.int .i64 r,.slice s m.length u,.slice bb y.length bc,.slice bn O.length bo,.slice none 0 0,.slice none 0 0,.int .i64 0,.slice none 0 0]) ?_ 4 _ rfl;refine bk_ ?_;refine bu_ (cs:=#[.int .i64 r,.slice s m.length u,.slice bb y.length bc,.slice none 0 0,.slice none 0 0,.slice none 0 0,.int .i64 0,.slice none 0 0]) ?_ 3 _ rfl;refine bk_ ?_;refine bu_ (cs:=#[.int .i64 r,.slice s m.length u,.slice none 0 0,.slice none 0 0,.slice none 0 0,.slice none 0 0,.int .i64 0,.slice none 0 0]) ?_ 2 _ rfl;refine bk_ ?_;refine bu_ (cs:=#[.int .i64 r,.slice none 0 0,.slice none 0 0,.slice none 0 0,.slice none 0 0,.slice none 0 0,.int .i64 0,.slice none 0 0]) ?_ 1 _ rfl;refine bk_ ?_;refine bu_ (cs:=#[.int .i64 0,.slice none 0 0,.slice none 0 0,.slice none 0 0,.slice none 0 0,.slice none 0 0,.int .i64 0,.slice none 0 0]) ?_ 0 _ rfl;refine bk_ ?_;exact d.out) Tryz.underlying32 rfl kr_) rfl ?_
  exact ⟨_,_,_,_,_,_,by first | rfl | (simp [errW_none,errW_some] <;> rfl)|(simp only [←aE];first | rfl | (simp [errW_none,errW_some] <;> rfl))|(simp [*,errW_none,errW_some] <;> rfl),by refine vR_ ?_;exact rm_ (fR_ (fR_ (fR_ (fR_ (fR_ (fR_ (fR_ (fR_ (rt_ HO_133001.out d.out (by decide)))))))))) (fun _ hk=>⟨hk.1.1,⟨hk.1.2.1,⟨hk.1.2.2.1,hk.1.2.2.2⟩⟩⟩),by refine vR_ ?_;exact rm_ (fR_ (fR_ (fR_ (fR_ (fR_ (fR_ (fR_ (fR_ (rt_ HO_133002.out d.out (by decide)))))))))) (fun _ hk=>⟨hk.1.1,⟨hk.1.2.1,⟨hk.1.2.2.1,hk.1.2.2.2⟩⟩⟩),by refine vR_ ?_;exact rm_ (fR_ (fR_ (fR_ (fR_ (fR_ (fR_ (fR_ (fR_ (rt_ HO_133003.out d.out (by decide)))))))))) (fun _ hk=>⟨hk.1.1,⟨hk.1.2.1,⟨hk.1.2.2.1,hk.1.2.2.2⟩⟩⟩),by refine vR_ ?_;exact rm_ (fR_ (fR_ (fR_ (fR_ (fR_ (fR_ (fR_ (fR_ (rt_ HO_133004.out d.out (by decide)))))))))) (fun _ hk=>⟨hk.1.1,⟨hk.1.2.1,⟨hk.1.2.2.1,hk.1.2.2.2⟩⟩⟩),by refine vR_ ?_;exact rm_ (fR_ (fR_ (fR_ (fR_ (fR_ (fR_ (fR_ (fR_ (rt_ HO_133005.out d.out (by decide)))))))))) (fun _ hk=>⟨hk.1.1,⟨hk.1.2.1,⟨hk.1.2.2.1,hk.1.2.2.2⟩⟩⟩),by first | exact Kd.S_nil _ _ _ _ _ | exact Kd.N_nil _ _ _ _ _ | exact Kd.V_nil _ _ _ _ _ | exact Kd.Q_nil _ _ _ _ _ | exact Kd.R_nil _ _ _ _ _,bel_⟩
 have H':=a_ H
 clear H
 have es:=J.out
 have et:=p.out
 have eu:=M.out
 have ev:=q.out
 obtain ⟨_,_,_,_,_,_,_,_,_,_,_,_,_,_,_,_⟩:=cel8_ a.out
 have ew:=Z.out
 have ex:=aa.out
 obtain ⟨_,_,_,_,_,_,_,_,_,_,_,_⟩:=cel6_ c.out
 go_wp2
 go_loopg [12] kj119 (fun kq ey w'=>∃(ay:Int) (aq:List (List Int)) (u133007:Value),ey = .int .i64 ay∧Aside0 (jigsawref06_Make.l2 kq G (1+((z.length:Int)%6)) ay U E I z P Q r m y O Y ab B aq=some (r1,r2,r3,r4,r5,r6,r7,r8))∧Aside0 (kq≤kj119)∧Aside0 (Kd.R (Kd.int .i64) 3 w' w.heap.size (fun l=>some l≠u133002.ownBlock∧some l≠u133003.ownBlock∧some l≠u133004.ownBlock∧some l≠u133005.ownBlock) (.slice s m.length u) m)∧Aside0 (Kd.R (Kd.int .i64) 3 w' w.heap.size (fun l=>some l≠((.slice s m.length u):Value).ownBlock∧some l≠u133003.ownBlock∧some l≠u133004.ownBlock∧some l≠u133005.ownBlock) u133002 y)∧Aside0 (Kd.R (Kd.int .i64) 3 w' w.heap.size (fun l=>some l≠((.slice s m.length u):Value).ownBlock∧some l≠u133002.ownBlock∧some l≠u133004.ownBlock∧some l≠u133005.ownBlock) u133003 O)∧Aside0 (Kd.R (Kd.int .i64) 3 w' w.heap.size (fun l=>some l≠((.slice s m.length u):Value).ownBlock∧some l≠u133002.ownBlock∧some l≠u133003.ownBlock∧some l≠u133005.ownBlock) u133004 Y)∧Aside0 (Kd.R (Kd.int .i64) 3 w' w.heap.size (fun l=>some l≠((.slice s m.length u):Value).ownBlock∧some l≠u133002.ownBlock∧some l≠u133003.ownBlock∧some l≠u133004.ownBlock) u133005 ab)∧Aside0 (Kd.S (Kd.slice 3 (Kd.int .i64)) 30 w' w.heap.size (fun l=>some l≠((.slice s m.length u):Value).ownBlock∧some l≠u133002.ownBlock∧some l≠u133003.ownBlock∧some l≠u133004.ownBlock∧some l≠u133005.ownBlock) u133007 aq)∧Aside0 (w'.heap[V]? = some (.cells #[.int .u8 U,(.slice ak E.length c0_1),(.slice ah I.length c0_2),(.slice ad z.length c0_3),.int .i16 P,.int .u8 Q] 26 (0,0)))∧Aside0 (w'.heap[ac]? = some (.cells #[.int .i64 0,(.slice none 0 0),(.slice none 0 0),(.slice none 0 0),(.slice none 0 0),(.slice none 0 0),.int .i64 0,(.slice none 0 0)] 32 (0,0)))∧Aside0 (w'.heap[A]? = some (.cells #[.int .i64 r,(.slice s m.length u),u133002,u133003,u133004,u133005,.int .i64 B,u133007] 32 (0,0)))∧Aside0 (Below w.heap.size w w'))
 case atStart=>exact ⟨(0),(([]:List (List Int))),(.slice none 0 0),eq_,H',⟨lr_ _⟩,⟨vR_ HO_133001.out⟩,⟨vR_ HO_133002.out⟩,⟨vR_ HO_133003.out⟩,⟨vR_ HO_133004.out⟩,⟨vR_ HO_133005.out⟩,⟨nil_⟩,⟨bk_ c.out⟩,⟨bk_ d.out⟩,⟨bk_ a.out⟩,⟨bel_⟩⟩
 clear H'
 try clear c1
 try clear p1
 try clear q1
 try clear a4
 try clear p2
 try clear p6
 try clear c12
 try clear p13
 try clear au
 try clear aG
 try clear c14
 try clear c15
 try clear c16
 try clear p17
 try clear dn
 try clear dI
 try clear p64
 try clear c124
 try clear c124b0
 try clear c124b1
 try clear p136
 try clear an
 try clear cq
 try clear c148
 try clear c148b0
 try clear c149
 try clear c149b0
 try clear c150
 try clear c150b0
 try clear c151
 try clear c151b0
 try clear c153
 try clear c158
 try clear c158b0
 try clear c158b1
 try clear c159
 try clear c160
 try clear c162
 try clear aj
 try clear a8
 try clear p1
 try clear p13
 try clear p136
 try clear p17
 try clear p170
 try clear p2
 try clear p6
 try clear p64
 try clear q1
 try clear au
 try clear an
 try clear dn
 try clear bG
 obtain ⟨ay,aq,u133007,rfl,HA,bp,HO_133001,HO_133002,HO_133003,HO_133004,HO_133005,HO_133007,c,d,a,HB⟩:=hrel
 cases gk with
 | zero=>exact absurd HA.out (by simp [jigsawref06_Make.l2])
 | succ k11 =>
  have H:=HA.out
  clear HA
  simp only [jigsawref06_Make.l2] at H
  replace H:=cf_ H
  rcases H with ⟨c164b0,H⟩ | ⟨c164b0,H⟩
  ·
   simp only [Option.some.injEq,Prod.mk.injEq] at H
   obtain ⟨rfl,rfl,rfl,rfl,rfl,rfl,rfl,rfl⟩:=H
   have ez:=J.out
   have eA:=p.out
   have eB:=M.out
   have eC:=q.out
   obtain ⟨_,_,_,_,_,_,_,_,_,_,_,_,_,_,_,_⟩:=cel8_ a.out
   have eD:=aa.out
   have eE:=Z.out
   obtain ⟨_,_,_,_,_,_,_,_,_,_,_,_,_,_,_,_⟩:=cel8_ d.out
   obtain ⟨a9,ba,c0⟩:=Kd.R_slice HO_133002.out
   subst c0
   obtain ⟨bl,bm,da⟩:=Kd.R_slice HO_133003.out
   subst da
   obtain ⟨bv,bw,db⟩:=Kd.R_slice HO_133004.out
   subst db
   obtain ⟨bQ,bR,dc⟩:=Kd.R_slice HO_133005.out
   subst dc
   obtain ⟨dd,de,df⟩:=Kd.S_slice HO_133007.out
   subst df
   go_wp2
   refine bodyPost_ret (results_cell_row rfl _ _ ac 32 #[.int .i64 r,.slice s m.length u,.slice a9 y.length ba,.slice bl O.length bm,.slice bv Y.length bw,.slice bQ ab.length bR,.int .i64 B,.slice dd aq.length de] (0,0) _ rfl (by refine bk_ ?_;refine bu_ (cs:=#[.int .i64 r,.slice s m.length u,.slice a9 y.length ba,.slice bl O.length bm,.slice bv Y.length bw,.slice bQ ab.length bR,.int .i64 B,.slice none 0 0]) ?_ 7 _ rfl;refine bk_ ?_;refine bu_ (cs:=#[.int .i64 r,.slice s m.length u,.slice a9 y.length ba,.slice bl O.length bm,.slice bv Y.length bw,.slice bQ ab.length bR,.int .i64 0,.slice none 0 0]) ?_ 6 _ rfl;refine bk_ ?_;refine bu_ (cs:=#[.int .i64 r,.slice s m.length u,.slice a9 y.length ba,.slice bl O.length bm,.slice bv Y.length bw,.slice none 0 0,.int .i64 0,.slice none 0 0]) ?_ 5 _ rfl;refine bk_ ?_;refine bu_ (cs:=#[.int .i64 r,.slice s m.length u,.slice a9 y.length ba,.slice bl O.length bm,.slice none 0 0,.slice none 0 0,.int .i64 0,.slice none 0 0]) ?_ 4 _ rfl;refine bk_ ?_;refine bu_ (cs:=#[.int .i64 r,.slice s m.length u,.slice a9 y.length ba,.slice none 0 0,.slice none 0 0,.slice none 0 0,.int .i64 0,.slice none 0 0]) ?_ 3 _ rfl;refine bk_ ?_;refine bu_ (cs:=#[.int .i64 r,.slice s m.length u,.slice none 0 0,.slice none 0 0,.slice none 0 0,.slice none 0 0,.int .i64 0,.slice none 0 0]) ?_ 2 _ rfl;refine bk_ ?_;refine bu_ (cs:=#[.int .i64 r,.slice none 0 0,.slice none 0 0,.slice none 0 0,.slice none 0 0,.slice none 0 0,.int .i64 0,.slice none 0 0]) ?_ 1 _ rfl;refine bk_ ?_;refine bu_ (cs:=#[.int .i64 0,.slice none 0 0,.slice none 0 0,.slice none 0 0,.slice none 0 0,.slice none 0 0,.int .i64 0,.slice none 0 0]) ?_ 0 _ rfl;refine bk_ ?_;exact d.out) Tryz.underlying32 rfl kr_) rfl ?_
   exact ⟨_,_,_,_,_,_,by first | rfl | (simp [errW_none,errW_some] <;> rfl)|(simp only [←aE];first | rfl | (simp [errW_none,errW_some] <;> rfl))|(simp [*,errW_none,errW_some] <;> rfl),by refine vR_ ?_;exact rm_ (fR_ (fR_ (fR_ (fR_ (fR_ (fR_ (fR_ (fR_ (rt_ HO_133001.out d.out (by decide)))))))))) (fun _ hk=>⟨hk.1.1,⟨hk.1.2.1,⟨hk.1.2.2.1,hk.1.2.2.2⟩⟩⟩),by refine vR_ ?_;exact rm_ (fR_ (fR_ (fR_ (fR_ (fR_ (fR_ (fR_ (fR_ (rt_ HO_133002.out d.out (by decide)))))))))) (fun _ hk=>⟨hk.1.1,⟨hk.1.2.1,⟨hk.1.2.2.1,hk.1.2.2.2⟩⟩⟩),by refine vR_ ?_;exact rm_ (fR_ (fR_ (fR_ (fR_ (fR_ (fR_ (fR_ (fR_ (rt_ HO_133003.out d.out (by decide)))))))))) (fun _ hk=>⟨hk.1.1,⟨hk.1.2.1,⟨hk.1.2.2.1,hk.1.2.2.2⟩⟩⟩),by refine vR_ ?_;exact rm_ (fR_ (fR_ (fR_ (fR_ (fR_ (fR_ (fR_ (fR_ (rt_ HO_133004.out d.out (by decide)))))))))) (fun _ hk=>⟨hk.1.1,⟨hk.1.2.1,⟨hk.1.2.2.1,hk.1.2.2.2⟩⟩⟩),by refine vR_ ?_;exact rm_ (fR_ (fR_ (fR_ (fR_ (fR_ (fR_ (fR_ (fR_ (rt_ HO_133005.out d.out (by decide)))))))))) (fun _ hk=>⟨hk.1.1,⟨hk.1.2.1,⟨hk.1.2.2.1,hk.1.2.2.2⟩⟩⟩),by refine vS_ ?_;exact Kd.S_mono (fS_ (fS_ (fS_ (fS_ (fS_ (fS_ (fS_ (fS_ (Kd.S_types HO_133007.out d.out (by decide)))))))))) (fun _ hk=>⟨hk.1.1,⟨hk.1.2.1,⟨hk.1.2.2.1,⟨hk.1.2.2.2.1,hk.1.2.2.2.2⟩⟩⟩⟩),bel_⟩
  replace H:=bo_ H
  obtain ⟨bH,dJ,H⟩:=H
  try dsimp only at H
  replace H:=ga_ H
  obtain ⟨LMc166,H⟩:=H
  obtain ⟨b8,bk⟩:∃y_:List (List Int),y_=(aq++[bH]):=⟨_,rfl⟩
  replace H:(jigsawref06_Make.l2 k11 G (1+((z.length:Int)%6)) (wrap64 (ay+1)) U E I z P Q r m y O Y ab B b8)=some (r1,r2,r3,r4,r5,r6,r7,r8):=h2_ H bk
  have cX:=a_ bk
  clear bk
  have H':=a_ H
  clear H
  try go_wp2
  replace HO_133001:=a_ (Kd.R_drew HO_133001.out)
  replace HO_133002:=a_ (Kd.R_drew HO_133002.out)
  replace HO_133003:=a_ (Kd.R_drew HO_133003.out)
  replace HO_133004:=a_ (Kd.R_drew HO_133004.out)
  replace HO_133005:=a_ (Kd.R_drew HO_133005.out)
  replace HO_133007:=a_ (Kd.S_drew HO_133007.out)
  replace c:=a_ (blk_drew c.out)
  replace d:=a_ (blk_drew d.out)
  replace a:=a_ (blk_drew a.out)
  replace HB:=a_ (below_drew1 HB.out)
  refine start_ (n:=13) (S:=fun w'=>w'.cell? ⟨A,0,none⟩=some (.int .i64 r)∧w'.cell? ⟨A,1,none⟩=some (.slice s m.length u)∧w'.cell? ⟨A,2,none⟩=some (u133002)∧w'.cell? ⟨A,3,none⟩=some (u133003)∧w'.cell? ⟨A,4,none⟩=some (u133004)∧w'.cell? ⟨A,5,none⟩=some (u133005)∧w'.cell? ⟨A,6,none⟩=some (.int .i64 B)∧w'.cell? ⟨A,7,none⟩=some (u133007)∧w'.cell? ⟨V,0,none⟩=some (.int .u8 U)∧w'.cell? ⟨V,1,none⟩=some (.slice ak E.length c0_1)∧w'.cell? ⟨V,2,none⟩=some (.slice ah I.length c0_2)∧w'.cell? ⟨V,3,none⟩=some (.slice ad z.length c0_3)∧w'.cell? ⟨V,4,none⟩=some (.int .i16 P)∧w'.cell? ⟨V,5,none⟩=some (.int .u8 Q)) (ds:=[12]) #[false,false,false,false,false,false,false,false,false,false,false,false,false] kr_ rfl rfl (cb8_ a.out (ca6_ c.out)) (fun hHeld=>?_);refine with_tabW jigsawref06_Make.tab43 jigsawref06_Make.bits43 (fun HT_ HW_=>?_)
  generalize wr.drew=w167 at HO_133001 HO_133002 HO_133003 HO_133004 HO_133005 HO_133007 c d a HB hHeld ⊢
  refine pn_ 0 173 ao_ ?_
  refine pn_ 2 175 ao_ ?_
  refine pn_ 4 177 ao_ ?_
  refine pn_ 5 178 ao_ ?_
  refine pn_ 6 179 ao_ ?_
  refine pn_ 7 180 ao_ ?_
  refine tn_ 1 174 tw_ hHeld ?_
  refine tn_ 3 176 tw_ hHeld ?_
  refine onn_ 8 181 #[true,true,true,true,true,true,true,true,true,false,false,false,false] rfl rfl on_ (by decide) (fun K hK=>?_)
  refine goes_ Tryz.func39 kr_ rfl #[.slice ad z.length c0_3,.int .i64 (wrap64 (ay * G)),.int .i64 G,.int .i64 (-1),.int .i64 4] (by rfl) rfl rfl ar_ ?_
  with_reducible refine (jigsawref06_numbers.calls k11 _ _ z (wrap64 (ay * G)) G (-1) 4 bH _ ?_ ?_ dJ.out).mono ?_
  exact ca_ ((cb_ aQ.out HB.out))
  exact aR.out
  rintro e w168 ⟨fV,rfl,F,hb⟩
  refine ⟨_,rfl,?_⟩
  replace HO_133007:=a_ (Kd.S_elder' (vS_ HO_133007.out) (rs_ F) hb)
  have bu:=a_ (Kd.R_lower (Kd.R_new' (Kd.R_new' (Kd.R_new' (Kd.R_new' (Kd.R_new' F (rl_ (vR_ HO_133001.out))) (rl_ (vR_ HO_133002.out))) (rl_ (vR_ HO_133003.out))) (rl_ (vR_ HO_133004.out))) (rl_ (vR_ HO_133005.out))) (bz_ bel_))
  replace HO_133001:=a_ (Kd.R_elder' (vR_ HO_133001.out) (rs_ F) hb)
  replace HO_133002:=a_ (Kd.R_elder' (vR_ HO_133002.out) (rs_ F) hb)
  replace HO_133003:=a_ (Kd.R_elder' (vR_ HO_133003.out) (rs_ F) hb)
  replace HO_133004:=a_ (Kd.R_elder' (vR_ HO_133004.out) (rs_ F) hb)
  replace HO_133005:=a_ (Kd.R_elder' (vR_ HO_133005.out) (rs_ F) hb)
  replace c:=a_ (bq_ c.out hb)
  replace d:=a_ (bq_ d.out hb)
  replace a:=a_ (bq_ a.out hb)
  replace HB:=hq_ hb
  clear hb F
  obtain ⟨cv,cw,cx⟩:=Kd.R_slice bu.out
  (first | subst cx | (injection cx with f1_ f2_ f3_;have f4_:=f1_.symm;have f5_:=f3_.symm;clear f1_ f2_ f3_;subst f4_;subst f5_))
  refine hK.out _ _ (cb8_ a.out (ca6_ c.out)) (fun hHeld=>?_)
  clear hK K
  refine nor_ (N:=some 181) ?_
  refine onn_ 9 182 #[true,true,true,true,true,true,true,true,true,true,false,false,false] rfl rfl on_ (by decide) (fun K hK=>?_)
  refine value_ (w1:=?_) (v:=?_) (by rfl) rfl ?_ ?_
  rotate_left 2
  ·
   go_simp
   constructor
   · rfl
   rfl
  refine hK.out _ _ ⟨(blk_cell (blk_alloc a.out _) 0).trans rfl,(blk_cell (blk_alloc a.out _) 1).trans rfl,(blk_cell (blk_alloc a.out _) 2).trans rfl,(blk_cell (blk_alloc a.out _) 3).trans rfl,(blk_cell (blk_alloc a.out _) 4).trans rfl,(blk_cell (blk_alloc a.out _) 5).trans rfl,(blk_cell (blk_alloc a.out _) 6).trans rfl,(blk_cell (blk_alloc a.out _) 7).trans rfl,(blk_cell (blk_alloc c.out _) 0).trans rfl,(blk_cell (blk_alloc c.out _) 1).trans rfl,(blk_cell (blk_alloc c.out _) 2).trans rfl,(blk_cell (blk_alloc c.out _) 3).trans rfl,(blk_cell (blk_alloc c.out _) 4).trans rfl,(blk_cell (blk_alloc c.out _) 5).trans rfl⟩ (fun hHeld=>?_)
  clear hK K
  refine nor_ (N:=some 182) ?_
  refine onn_ 10 183 #[true,true,true,true,true,true,true,true,true,true,true,false,false] rfl rfl on_ (by decide) (fun K hK=>?_)
  refine Kd.S_append_step (Kd.slice 3 (Kd.int .i64)) (w0:=w) w.heap.size (by rfl) (.tmp 174) (.tmp 182) 27 30 (.slice none 0 0) 24 rfl Tryz.underlying27 info30 rfl (by decide) (by omega) u133007 aq bH [.slice cv bH.length cw] (fun l=>some l≠(.slice s m.length u:Value).ownBlock∧some l≠u133002.ownBlock∧some l≠u133003.ownBlock∧some l≠u133004.ownBlock∧some l≠u133005.ownBlock) (fun l=>some l=(.slice cv bH.length cw:Value).ownBlock) rfl rfl ?aP (fun l hk_=>((rm_ (ok':=fun l=>((fun l=>some l≠(.slice s m.length u:Value).ownBlock∧some l≠u133002.ownBlock∧some l≠u133003.ownBlock∧some l≠u133004.ownBlock∧some l≠u133005.ownBlock)) l∧some l≠u133007.ownBlock) (Kd.R_apart' (bu.out) (Kd.S_typed HO_133007.out) (by decide)) (fun l hk=>⟨⟨hk.1.1.1.1.1.2,⟨hk.1.1.1.1.2,⟨hk.1.1.1.2,⟨hk.1.1.2,hk.1.2⟩⟩⟩⟩,hk.2⟩))).1 l hk_.symm) ?aF ?aO ?aB ?aS ?aL ?_
  (case aP=>exact Kd.M_row (rm_ (Kd.R_tight rfl (rm_ (ok':=fun l=>((fun l=>some l≠(.slice s m.length u:Value).ownBlock∧some l≠u133002.ownBlock∧some l≠u133003.ownBlock∧some l≠u133004.ownBlock∧some l≠u133005.ownBlock)) l∧some l≠u133007.ownBlock) (Kd.R_apart' (bu.out) (Kd.S_typed HO_133007.out) (by decide)) (fun l hk=>⟨⟨hk.1.1.1.1.1.2,⟨hk.1.1.1.1.2,⟨hk.1.1.1.2,⟨hk.1.1.2,hk.1.2⟩⟩⟩⟩,hk.2⟩))) (fun _ h_=>h_)))
  (case aB=>exact bel_)
  (case aF=>exact (fun l hk=>⟨fr_ (rl_ (vR_ HO_133001.out)) l hk,fr_ (rl_ (vR_ HO_133002.out)) l hk,fr_ (rl_ (vR_ HO_133003.out)) l hk,fr_ (rl_ (vR_ HO_133004.out)) l hk,fr_ (rl_ (vR_ HO_133005.out)) l hk⟩))
  (case aO=>exact (by refine vS_ ?_;exact Kd.S_mono HO_133007.out (fun l hk=>⟨⟨hk.1.1,⟨hk.1.2.1,⟨hk.1.2.2.1,⟨hk.1.2.2.2.1,hk.1.2.2.2.2⟩⟩⟩⟩,fun e_=>hk.2 e_⟩)))
  (case aS=>exact (bz_ bel_))
  (case aL=>have:=LMc166.out;omega)
  intro fW w169 ho hb hg hat
  rw [←cX.out] at ho
  replace HO_133001:=a_ (Kd.R_over' (vR_ HO_133001.out) (Kd.S_typed (vS_ HO_133007.out)) (by decide) hg)
  replace HO_133002:=a_ (Kd.R_over' (vR_ HO_133002.out) (Kd.S_typed (vS_ HO_133007.out)) (by decide) hg)
  replace HO_133003:=a_ (Kd.R_over' (vR_ HO_133003.out) (Kd.S_typed (vS_ HO_133007.out)) (by decide) hg)
  replace HO_133004:=a_ (Kd.R_over' (vR_ HO_133004.out) (Kd.S_typed (vS_ HO_133007.out)) (by decide) hg)
  replace HO_133005:=a_ (Kd.R_over' (vR_ HO_133005.out) (Kd.S_typed (vS_ HO_133007.out)) (by decide) hg)
  replace c:=a_ (blk_grown (bk_ c.out) hg (Kd.S_ne HO_133007.out c.out (by decide)))
  replace d:=a_ (blk_grown (bk_ d.out) hg (Kd.S_ne HO_133007.out d.out (by decide)))
  replace a:=a_ (blk_grown (bk_ a.out) hg (Kd.S_ne HO_133007.out a.out (by decide)))
  replace HB:=a_ (hb)
  have cy:=a_ (ho)
  clear HO_133007 bu ho hb hg hat
  obtain ⟨cY,cZ,cz⟩:=Kd.S_slice cy.out
  (first | subst cz | (injection cz with f1_ f2_ f3_;have f4_:=f1_.symm;have f5_:=f3_.symm;clear f1_ f2_ f3_;subst f4_;subst f5_))
  refine hK.out _ _ (cb8_ a.out (ca6_ c.out)) (fun hHeld=>?_)
  clear hK K
  refine nor_ (N:=some 183) ?_
  refine pn_ 11 184 ao_ ?_
  refine last_ (i:=12) (N:=none) #[true,true,true,true,true,true,true,true,true,true,true,true,true] rfl rfl on_ (by decide) (fun K hK=>?_)
  have fI:w169.cell? ⟨A,7,none⟩=some (u133007):=(blk_cell a.out 7).trans rfl
  have hfs172:=blk_frozen a.out 7
  have hns172_0:=p.out
  have hns172_1:=q.out
  have hms172_0:=J.out
  have hms172_1:=M.out
  refine skip_ (w1:=?_) (by rfl) rfl ?_ ?_
  rotate_left
  ·
   go_simp
   rfl
  refine hK.out _ _ ?_
  clear hK K
  refine done_ dn_ ?_
  try go_wp2
  go_roundg k11
  case measure=>have:=ar.out;have:=al.out;have:=am.out;have:=ao.out;have:=av.out;have:=az.out;have:=aD.out;have:=aM.out;have:=a5.out;have:=cu.out;have:=bp.out;omega
  exact ⟨(wrap64 (ay+1)),(b8),(.slice cY b8.length cZ),eq_,H',⟨by have:=ar.out;have:=al.out;have:=am.out;have:=ao.out;have:=av.out;have:=az.out;have:=aD.out;have:=aM.out;have:=a5.out;have:=cu.out;have:=bp.out;omega⟩,⟨by refine vR_ ?_;exact rm_ (fR_ (rt_ HO_133001.out a.out (by decide))) (fun _ hk=>⟨hk.1.1.1,⟨hk.1.1.2.1,⟨hk.1.1.2.2.1,hk.1.1.2.2.2⟩⟩⟩)⟩,⟨by refine vR_ ?_;exact rm_ (fR_ (rt_ HO_133002.out a.out (by decide))) (fun _ hk=>⟨hk.1.1.1,⟨hk.1.1.2.1,⟨hk.1.1.2.2.1,hk.1.1.2.2.2⟩⟩⟩)⟩,⟨by refine vR_ ?_;exact rm_ (fR_ (rt_ HO_133003.out a.out (by decide))) (fun _ hk=>⟨hk.1.1.1,⟨hk.1.1.2.1,⟨hk.1.1.2.2.1,hk.1.1.2.2.2⟩⟩⟩)⟩,⟨by refine vR_ ?_;exact rm_ (fR_ (rt_ HO_133004.out a.out (by decide))) (fun _ hk=>⟨hk.1.1.1,⟨hk.1.1.2.1,⟨hk.1.1.2.2.1,hk.1.1.2.2.2⟩⟩⟩)⟩,⟨by refine vR_ ?_;exact rm_ (fR_ (rt_ HO_133005.out a.out (by decide))) (fun _ hk=>⟨hk.1.1.1,⟨hk.1.1.2.1,⟨hk.1.1.2.2.1,hk.1.1.2.2.2⟩⟩⟩)⟩,⟨by refine vS_ ?_;exact Kd.S_mono (fS_ (Kd.S_types cy.out a.out (by decide))) (fun _ hk=>⟨hk.1.1,⟨hk.1.2.1,⟨hk.1.2.2.1,⟨hk.1.2.2.2.1,hk.1.2.2.2.2⟩⟩⟩⟩)⟩,⟨by refine bk_ ?_;refine blk_far ?_ p.out _;refine bk_ ?_;exact c.out⟩,⟨by refine bk_ ?_;refine blk_far ?_ q.out _;refine bk_ ?_;exact d.out⟩,⟨by refine bk_ ?_;refine bu_ (cs:=#[.int .i64 r,.slice s m.length u,u133002,u133003,u133004,u133005,.int .i64 B,u133007]) ?_ 7 _ rfl;refine bk_ ?_;exact a.out⟩,⟨bel_⟩⟩
theorem jigsawref06_Make.part9 {K:Act→World→Prop} {C:Code} {k:Nat} {U:Int} {ak:Option Addr} {c0_1:Nat} {E:List Int} {ah:Option Addr} {c0_2:Nat} {I:List Int} {ad:Option Addr} {c0_3:Nat} {z:List Int} {P Q a1 r1:Int} {r2 r3 r4 r5 r6:List Int} {r7:Int} {r8:List (List Int)} {w:World} (cE:Aside0 ((Kd.int IntKind.u8).C w ak E.length E)) (cF:Aside0 (E.length≤c0_1)) (cf:Aside0 ((Kd.int IntKind.u8).C w ah I.length I)) (cg:Aside0 (I.length≤c0_2)) (aQ:Aside0 ((Kd.int IntKind.i8).C w ad z.length z)) (aR:Aside0 (z.length≤c0_3)) {ag:List ByteArray} (A3:Aside0 (jigsawref06_Shapes.f=some ag)) {r:Int} (aE:wrap64 (1+(wrap64 U).tmod 23)=r) {V:Nat} (cG eL:Aside0 (w.heap.size≤V)) {ac:Nat} (cH eM:Aside0 (w.heap.size≤ac)) (Z:Aside0 (V≠ac)) (aa:Aside0 (ac≠V)) {A:Nat} (cI eP:Aside0 (w.heap.size≤A)) (p:Aside0 (V≠A)) (J:Aside0 (A≠V)) (q:Aside0 (ac≠A)) (M:Aside0 (A≠ac)) {kj6:Nat} (ar:Aside0 (kj6+1≤k)) {kj21:Nat} (al:Aside0 (kj21+1≤kj6)) {G:Int} {kj24:Nat} (am:Aside0 (kj24+1≤kj21)) {m:List Int} (dO:Aside0 (jigsawref06_places.f kj24 E G a1=some m)) {s:Option Addr} {u kj29:Nat} (ao:Aside0 (kj29+1≤kj24)) {y:List Int} {u133002:Value} {kj47:Nat} (av:Aside0 (kj47+1≤kj29)) {kj58:Nat} (az:Aside0 (kj58+1≤kj47)) {kj68:Nat} (aD:Aside0 (kj68+1≤kj58)) {kj82:Nat} (aM:Aside0 (kj82+1≤kj68)) {wc:World} {u13 u14 u15 u16 u17 u18 u19 u20 u21 u22 u23 u24 u25 u26 u27 u28 u29 u30 u31 u32 u33 u34 u35 u36 u37 u38 u39 u40 u41 u42 u43 u44 u45 u46 u47 u48 u49 u50 u51 u52 u53 u54 u55 u56 u57 u58 u59 u60 u61 u62 u63 u64 u65 u66 u67 u68 u69 u70 u71 u72 u73 u74 u75 u76 u77 u78 u79 u80 u81 u82 u83 u84 u85 u86 u87 u88 u89 u90 u91 u92 u93 u94 u95 u96 u97 u98 u99 u100 u101 u102 u103 u104 u105 u106 u107 u108 u109 u110 u111 u112 u113 u114 u115 u116 u117 u118 u119 u120 u121 u122 u123 u124 u125 u126 u127 u128 u129 u130 u131 u132 u133 u134 u135 u136 u137 u138 u139 u140 u141 u142 u143 u144 u145 u146 u147 u148 u149 u150 u151 u152 u153 u154 u155 u156 u157 u158 u159 u160 u161 u162 u163 u164 u165 u166 u167 u168 u169 u170 u171 u172 u173 u174 u175 u176 u177 u178 u179 u180 u181 u182 u183 u184 u185:Value} {aK ap:List Int} {B:Int} {u133003 u133004:Value} (HO_133001:Aside0 ((Kd.int IntKind.i64).R 3 wc w.heap.size (fun l=>some l≠u133002.ownBlock∧some l≠u133003.ownBlock∧some l≠u133004.ownBlock) (Value.slice s m.length u) m)) (HO_133002:Aside0 ((Kd.int IntKind.i64).R 3 wc w.heap.size (fun l=>some l≠(Value.slice s m.length u).ownBlock∧some l≠u133003.ownBlock∧some l≠u133004.ownBlock) u133002 y)) (HO_133003:Aside0 ((Kd.int IntKind.i64).R 3 wc w.heap.size (fun l=>some l≠(Value.slice s m.length u).ownBlock∧some l≠u133002.ownBlock∧some l≠u133004.ownBlock) u133003 aK)) (HO_133004:Aside0 ((Kd.int IntKind.i64).R 3 wc w.heap.size (fun l=>some l≠(Value.slice s m.length u).ownBlock∧some l≠u133002.ownBlock∧some l≠u133003.ownBlock) u133004 ap)) (c:Aside0 (wc.heap[V]? = some (Obj.cells #[Value.int IntKind.u8 U,Value.slice ak E.length c0_1,Value.slice ah I.length c0_2,Value.slice ad z.length c0_3,Value.int IntKind.i16 P,Value.int IntKind.u8 Q] 26))) (d:Aside0 (wc.heap[ac]? = some (Obj.cells #[Value.int IntKind.i64 0,Value.slice none 0 0,Value.slice none 0 0,Value.slice none 0 0,Value.slice none 0 0,Value.slice none 0 0,Value.int IntKind.i64 0,Value.slice none 0 0] 32))) (a:Aside0 (wc.heap[A]? = some (Obj.cells #[Value.int IntKind.i64 r,Value.slice s m.length u,u133002,u133003,u133004,Value.slice none 0 0,Value.int IntKind.i64 B,Value.slice none 0 0] 32))) (HB:Aside0 (Below w.heap.size w wc)) {kj89:Nat} (a5:Aside0 (kj89+1≤kj82)) (H:(if r=21 then l0 kj89 G (1+(↑z.length:Int)%3) 0 U E I z P Q r m y [] ap B else j11 kj89 G U E I z P Q r m y aK ap [] B)=some (r1,r2,r3,r4,r5,r6,r7,r8)) (hK:∀(aK_:Act) (wK_:World),Code.wp Tryz.prog C ( bodyPost Tryz.prog Tryz.f18 fun e w'=>∃bA bB bC bD bE dk,e=Ending.returned (Value.agg #[Value.int IntKind.i64 r1,bA,bB,bC,bD,bE,Value.int IntKind.i64 r7,dk])∧(Kd.int IntKind.i64).R 3 w' w.heap.size (fun l=>some l≠bB.ownBlock∧some l≠bC.ownBlock∧some l≠bD.ownBlock∧some l≠bE.ownBlock) bA r2∧(Kd.int IntKind.i64).R 3 w' w.heap.size (fun l=>some l≠bA.ownBlock∧some l≠bC.ownBlock∧some l≠bD.ownBlock∧some l≠bE.ownBlock) bB r3∧(Kd.int IntKind.i64).R 3 w' w.heap.size (fun l=>some l≠bA.ownBlock∧some l≠bB.ownBlock∧some l≠bD.ownBlock∧some l≠bE.ownBlock) bC r4∧(Kd.int IntKind.i64).R 3 w' w.heap.size (fun l=>some l≠bA.ownBlock∧some l≠bB.ownBlock∧some l≠bC.ownBlock∧some l≠bE.ownBlock) bD r5∧(Kd.int IntKind.i64).R 3 w' w.heap.size (fun l=>some l≠bA.ownBlock∧some l≠bB.ownBlock∧some l≠bC.ownBlock∧some l≠bD.ownBlock) bE r6∧(Kd.slice 3 (Kd.int IntKind.i64)).S 30 w' w.heap.size (fun l=>some l≠bA.ownBlock∧some l≠bB.ownBlock∧some l≠bC.ownBlock∧some l≠bD.ownBlock∧some l≠bE.ownBlock) dk r8∧Below w.heap.size w w') aK_ wK_→K aK_ wK_) (hC:C=sfx 26 (Tryz.f18.body.getD .ret)):K { tmps:=#[Value.agg #[Value.int IntKind.u8 U,Value.slice ak E.length c0_1,Value.slice ah I.length c0_2,Value.slice ad z.length c0_3,Value.int IntKind.i16 P,Value.int IntKind.u8 Q],Value.int IntKind.i64 a1,Value.pointer (some { block:=V,off:=0 }),undef,Value.pointer (some { block:=ac,off:=0 }),Value.pointer (some { block:=A,off:=0 }),Value.string (rdOf ByteArray.empty ag r),Value.int IntKind.i64 G,undef,undef,undef,undef,undef,u13,u14,u15,u16,u17,u18,u19,u20,u21,u22,u23,u24,u25,u26,u27,u28,u29,u30,u31,u32,u33,u34,u35,u36,u37,u38,u39,u40,u41,u42,u43,u44,u45,u46,u47,u48,u49,u50,u51,u52,u53,u54,u55,u56,u57,u58,u59,u60,u61,u62,u63,u64,u65,u66,u67,u68,u69,u70,u71,u72,u73,u74,u75,u76,u77,u78,u79,u80,u81,u82,u83,u84,u85,u86,u87,u88,u89,u90,u91,u92,u93,u94,u95,u96,u97,u98,u99,u100,u101,u102,u103,u104,u105,u106,u107,u108,u109,u110,u111,u112,u113,u114,u115,u116,u117,u118,u119,u120,u121,u122,u123,u124,u125,u126,u127,u128,u129,u130,u131,u132,u133,u134,u135,u136,u137,u138,u139,u140,u141,u142,u143,u144,u145,u146,u147,u148,u149,u150,u151,u152,u153,u154,u155,u156,u157,u158,u159,u160,u161,u162,u163,u164,u165,u166,u167,u168,u169,u170,u171,u172,u173,u174,u175,u176,u177,u178,u179,u180,u181,u182,u183,u184,u185],defers:=[] } wc:=by
 unfold Tryz.f18 at hC
 dsimp only [sfx,leads,Option.getD_some,Nat.reduceBEq,cond_true,cond_false] at hC
 subst hC
 have bP:=a_ H
 clear H
 have d5:=J.out
 have d6:=p.out
 have d7:=M.out
 have d8:=q.out
 obtain ⟨_,_,_,_,_,_,_,_,_,_,_,_,_,_,_,_⟩:=cel8_ a.out
 go_upto_if 110 with (fail)
 go_cut [] (fun wc=>∃(kq:Nat) (O:List Int) (Y:List Int) (ab:List Int) (u133003:Value) (u133004:Value) (u133005:Value),Aside0 (jigsawref06_Make.j11 kq G U E I z P Q r m y O Y ab B=some (r1,r2,r3,r4,r5,r6,r7,r8))∧Aside0 (kq≤kj89)∧Aside0 (Kd.R (Kd.int .i64) 3 wc w.heap.size (fun l=>some l≠u133002.ownBlock∧some l≠u133003.ownBlock∧some l≠u133004.ownBlock∧some l≠u133005.ownBlock) (.slice s m.length u) m)∧Aside0 (Kd.R (Kd.int .i64) 3 wc w.heap.size (fun l=>some l≠((.slice s m.length u):Value).ownBlock∧some l≠u133003.ownBlock∧some l≠u133004.ownBlock∧some l≠u133005.ownBlock) u133002 y)∧Aside0 (Kd.R (Kd.int .i64) 3 wc w.heap.size (fun l=>some l≠((.slice s m.length u):Value).ownBlock∧some l≠u133002.ownBlock∧some l≠u133004.ownBlock∧some l≠u133005.ownBlock) u133003 O)∧Aside0 (Kd.R (Kd.int .i64) 3 wc w.heap.size (fun l=>some l≠((.slice s m.length u):Value).ownBlock∧some l≠u133002.ownBlock∧some l≠u133003.ownBlock∧some l≠u133005.ownBlock) u133004 Y)∧Aside0 (Kd.R (Kd.int .i64) 3 wc w.heap.size (fun l=>some l≠((.slice s m.length u):Value).ownBlock∧some l≠u133002.ownBlock∧some l≠u133003.ownBlock∧some l≠u133004.ownBlock) u133005 ab)∧Aside0 (wc.heap[V]? = some (.cells #[.int .u8 U,(.slice ak E.length c0_1),(.slice ah I.length c0_2),(.slice ad z.length c0_3),.int .i16 P,.int .u8 Q] 26 (0,0)))∧Aside0 (wc.heap[ac]? = some (.cells #[.int .i64 0,(.slice none 0 0),(.slice none 0 0),(.slice none 0 0),(.slice none 0 0),(.slice none 0 0),.int .i64 0,(.slice none 0 0)] 32 (0,0)))∧Aside0 (wc.heap[A]? = some (.cells #[.int .i64 r,(.slice s m.length u),u133002,u133003,u133004,u133005,.int .i64 B,(.slice none 0 0)] 32 (0,0)))∧Aside0 (Below w.heap.size w wc))
 case first =>
  have H:=bP.out
  clear bP
  replace H:=ef_ H
  rcases H with ⟨c124,c124b0,c124b1,H⟩ | ⟨-,c124b0,c124b1,H⟩
  ·
   (first | rw [c124b0]|(simp only [i64_w,i32_w];rw [c124b0]) | skip)
   have H':=a_ H
   clear H
   go_wp2
   go_meet
   exact ⟨_,(aK),(ap),(([]:List Int)),(u133003),(u133004),(.slice none 0 0),H',⟨by have:=ar.out;have:=al.out;have:=am.out;have:=ao.out;have:=av.out;have:=az.out;have:=aD.out;have:=aM.out;have:=a5.out;first | omega | exact lr_ _⟩,⟨by refine vR_ ?_;exact rm_ HO_133001.out (fun _ hk=>⟨hk.1,⟨hk.2.1,⟨hk.2.2,(by simp [Value.ownBlock])⟩⟩⟩)⟩,⟨by refine vR_ ?_;exact rm_ HO_133002.out (fun _ hk=>⟨hk.1,⟨hk.2.1,⟨hk.2.2,(by simp [Value.ownBlock])⟩⟩⟩)⟩,⟨by refine vR_ ?_;exact rm_ HO_133003.out (fun _ hk=>⟨hk.1,⟨hk.2.1,⟨hk.2.2,(by simp [Value.ownBlock])⟩⟩⟩)⟩,⟨by refine vR_ ?_;exact rm_ HO_133004.out (fun _ hk=>⟨hk.1,⟨hk.2.1,⟨hk.2.2,(by simp [Value.ownBlock])⟩⟩⟩)⟩,⟨nil_⟩,⟨bk_ c.out⟩,⟨bk_ d.out⟩,⟨bk_ a.out⟩,⟨bel_⟩⟩
  (first | rw [c124b0]|(simp only [i64_w,i32_w];rw [c124b0]) | skip)
  have H':=a_ H
  clear H
  have d9:=J.out
  have ea:=p.out
  have eb:=M.out
  have ec:=q.out
  obtain ⟨_,_,_,_,_,_,_,_,_,_,_,_,_,_,_,_⟩:=cel8_ a.out
  have ed:=Z.out
  have ee:=aa.out
  obtain ⟨_,_,_,_,_,_,_,_,_,_,_,_⟩:=cel6_ c.out
  go_wp2
  go_loopg [9] kj89 (fun kq v9 w'=>∃(aC:Int) (ae:List Int) (u133003:Value),v9 = .int .i64 aC∧Aside0 (jigsawref06_Make.l0 kq G (1+((z.length:Int)%3)) aC U E I z P Q r m y ae ap B=some (r1,r2,r3,r4,r5,r6,r7,r8))∧Aside0 (kq≤kj89)∧Aside0 (Kd.R (Kd.int .i64) 3 w' w.heap.size (fun l=>some l≠u133002.ownBlock∧some l≠u133003.ownBlock∧some l≠u133004.ownBlock) (.slice s m.length u) m)∧Aside0 (Kd.R (Kd.int .i64) 3 w' w.heap.size (fun l=>some l≠((.slice s m.length u):Value).ownBlock∧some l≠u133003.ownBlock∧some l≠u133004.ownBlock) u133002 y)∧Aside0 (Kd.R (Kd.int .i64) 3 w' w.heap.size (fun l=>some l≠((.slice s m.length u):Value).ownBlock∧some l≠u133002.ownBlock∧some l≠u133004.ownBlock) u133003 ae)∧Aside0 (Kd.R (Kd.int .i64) 3 w' w.heap.size (fun l=>some l≠((.slice s m.length u):Value).ownBlock∧some l≠u133002.ownBlock∧some l≠u133003.ownBlock) u133004 ap)∧Aside0 (w'.heap[V]? = some (.cells #[.int .u8 U,(.slice ak E.length c0_1),(.slice ah I.length c0_2),(.slice ad z.length c0_3),.int .i16 P,.int .u8 Q] 26 (0,0)))∧Aside0 (w'.heap[ac]? = some (.cells #[.int .i64 0,(.slice none 0 0),(.slice none 0 0),(.slice none 0 0),(.slice none 0 0),(.slice none 0 0),.int .i64 0,(.slice none 0 0)] 32 (0,0)))∧Aside0 (w'.heap[A]? = some (.cells #[.int .i64 r,(.slice s m.length u),u133002,u133003,u133004,(.slice none 0 0),.int .i64 B,(.slice none 0 0)] 32 (0,0)))∧Aside0 (Below w.heap.size w w'))
  case atStart=>exact ⟨(0),(([]:List Int)),(.slice none 0 0),eq_,H',⟨lr_ _⟩,⟨by refine vR_ ?_;exact rm_ (fR_ (rt_ HO_133001.out a.out (by decide))) (fun _ hk=>⟨hk.1.1,⟨(by simp [Value.ownBlock]),hk.1.2.2⟩⟩)⟩,⟨by refine vR_ ?_;exact rm_ (fR_ (rt_ HO_133002.out a.out (by decide))) (fun _ hk=>⟨hk.1.1,⟨(by simp [Value.ownBlock]),hk.1.2.2⟩⟩)⟩,⟨nil_⟩,⟨by refine vR_ ?_;exact rm_ (fR_ (rt_ HO_133004.out a.out (by decide))) (fun _ hk=>⟨hk.1.1,⟨hk.1.2.1,(by simp [Value.ownBlock])⟩⟩)⟩,⟨by refine bk_ ?_;refine blk_far ?_ p.out _;refine bk_ ?_;exact c.out⟩,⟨by refine bk_ ?_;refine blk_far ?_ q.out _;refine bk_ ?_;exact d.out⟩,⟨by refine bk_ ?_;refine bu_ (cs:=#[.int .i64 r,.slice s m.length u,u133002,u133003,u133004,.slice none 0 0,.int .i64 B,.slice none 0 0]) ?_ 3 _ rfl;refine bk_ ?_;exact a.out⟩,⟨bel_⟩⟩
  clear H'
  try clear c1
  try clear p1
  try clear q1
  try clear a4
  try clear c2
  try clear p2
  try clear c3
  try clear c4
  try clear c5
  try clear c5b0
  try clear c6
  try clear c6b0
  try clear p6
  try clear c7
  try clear c8
  try clear c9
  try clear c10
  try clear c11
  try clear c12
  try clear c13
  try clear p13
  try clear au
  try clear aG
  try clear c14
  try clear c18
  try clear c21
  try clear c21b0
  try clear c21b1
  try clear c23
  try clear c23b0
  try clear c26
  try clear c26b0
  try clear c31
  try clear c32
  try clear c36
  try clear c37
  try clear c38
  try clear c38b0
  try clear c39
  try clear c40
  try clear c41
  try clear c45
  try clear c49
  try clear c49b0
  try clear c51
  try clear c52
  try clear c56
  try clear c60
  try clear c60b0
  try clear c62
  try clear c63
  try clear p64
  try clear c67
  try clear c70
  try clear c71
  try clear c73
  try clear c73b0
  try clear c73b1
  try clear c75
  try clear c76
  try clear c80
  try clear c84
  try clear c84b0
  try clear c85
  try clear c86
  try clear c88
  try clear c91
  try clear c92
  try clear c94
  try clear c94b0
  try clear c94b1
  try clear c97
  try clear c97b0
  try clear c98
  try clear c99
  try clear c103
  try clear c109
  try clear c110
  try clear c114
  try clear c121
  try clear c122
  try clear c124
  try clear c124b0
  try clear c124b1
  try clear c125
  try clear c126
  try clear c128
  try clear aj
  try clear p1
  try clear p13
  try clear p136
  try clear p2
  try clear p6
  try clear p64
  try clear q1
  try clear au
  try clear an
  obtain ⟨aC,ae,u133003,rfl,HA,bF,HO_133001,HO_133002,HO_133003,HO_133004,c,d,a,HB⟩:=hrel
  cases gk with
  | zero=>exact absurd HA.out (by simp [jigsawref06_Make.l0])
  | succ k10 =>
   have H:=HA.out
   clear HA
   simp only [jigsawref06_Make.l0] at H
   replace H:=ct_ H
   rcases H with ⟨c130b0,H⟩ | ⟨c130b0,H⟩
   ·
    replace H:=ga_ H
    obtain ⟨LMc131,H⟩:=H
    obtain ⟨b6,bh⟩:∃y_:List Int,y_=(ae++[wrap64 ((Int.tmod (wrap64 (P)) 3)+aC)]):=⟨_,rfl⟩
    replace H:(jigsawref06_Make.l0 k10 G (1+((z.length:Int)%3)) (wrap64 (aC+1)) U E I z P Q r m y b6 ap B)=some (r1,r2,r3,r4,r5,r6,r7,r8):=h2_ H bh
    have cP:=a_ bh
    clear bh
    have H':=a_ H
    clear H
    have ef:=J.out
    have eg:=p.out
    have eh:=M.out
    have ei:=q.out
    obtain ⟨_,_,_,_,_,_,_,_,_,_,_,_,_,_,_,_⟩:=cel8_ a.out
    have ej:=Z.out
    have ek:=aa.out
    obtain ⟨_,_,_,_,_,_,_,_,_,_,_,_⟩:=cel6_ c.out
    go_wp2_with (first|((with_reducible refine gate_builtin (b := .append) (xs:=#[.tmp 123,.tmp 130]) rfl ?_);at_builtin;refine Kd.R_append (Kd.int .i64) (w0:=w) w.heap.size rfl (.tmp 123) (.tmp 130) 30 3 (.int .i64 0) 8 rfl Tryz.underlying30 info3 rfl (by decide) (by omega) u133003 ae (wrap64 ((Int.tmod (wrap64 (P)) 3)+aC)) [.int .i64 (wrap64 ((Int.tmod (wrap64 (P)) 3)+aC))] (fun l=>some l≠(.slice s m.length u:Value).ownBlock∧some l≠u133002.ownBlock∧some l≠u133004.ownBlock) (fun _=>False) rfl rfl ?aP (fun _ hk=>hk.elim) ?aF ?aO ?aB ?aS ?aL ?_;(case aP=>exact rfl);(case aB=>exact bel_);(case aF=>exact (fun l hk=>⟨fr_ (rl_ (vR_ HO_133001.out)) l hk,fr_ (rl_ (vR_ HO_133002.out)) l hk,fr_ (rl_ (vR_ HO_133004.out)) l hk⟩));(case aO=>exact (vR_ HO_133003.out));(case aS=>exact (bz_ bel_));(case aL=>have:=LMc131.out;omega);intro fS w137 ho hb hg hat;rw [←cP.out] at ho;replace HO_133001:=a_ (Kd.R_after (ok:=(fun l=>some l≠u133002.ownBlock∧some l≠u133004.ownBlock)) (by refine vR_ ?_;exact rm_ HO_133001.out (fun _ hk=>⟨⟨hk.1,hk.2.2⟩,hk.2.1⟩)) hg hat);replace HO_133002:=a_ (Kd.R_after (ok:=(fun l=>some l≠(.slice s m.length u:Value).ownBlock∧some l≠u133004.ownBlock)) (by refine vR_ ?_;exact rm_ HO_133002.out (fun _ hk=>⟨⟨hk.1,hk.2.2⟩,hk.2.1⟩)) hg hat);replace HO_133004:=a_ (Kd.R_after (ok:=(fun l=>some l≠(.slice s m.length u:Value).ownBlock∧some l≠u133002.ownBlock)) (by refine vR_ ?_;exact rm_ HO_133004.out (fun _ hk=>⟨⟨hk.1,hk.2.1⟩,hk.2.2⟩)) hg hat);replace c:=a_ (blk_grown (bk_ c.out) hg (Kd.R_ne HO_133003.out c.out (by decide)));replace d:=a_ (blk_grown (bk_ d.out) hg (Kd.R_ne HO_133003.out d.out (by decide)));replace a:=a_ (blk_grown (bk_ a.out) hg (Kd.R_ne HO_133003.out a.out (by decide)));replace HB:=a_ (hb);have co:=a_ (ho);clear HO_133003;clear ho hb hg hat;obtain ⟨cQ,cR,cS⟩:=Kd.R_slice co.out;subst cS;obtain ⟨_,_,_,_,_,_,_,_,_,_,_,_,_,_,_,_⟩:=cel8_ a.out))
    go_roundg k10
    case measure=>have:=ar.out;have:=al.out;have:=am.out;have:=ao.out;have:=av.out;have:=az.out;have:=aD.out;have:=aM.out;have:=a5.out;have:=bF.out;omega
    exact ⟨(wrap64 (aC+1)),(b6),(.slice cQ b6.length cR),eq_,H',⟨by have:=ar.out;have:=al.out;have:=am.out;have:=ao.out;have:=av.out;have:=az.out;have:=aD.out;have:=aM.out;have:=a5.out;have:=bF.out;omega⟩,⟨by refine vR_ ?_;exact rm_ (fR_ (rt_ HO_133001.out a.out (by decide))) (fun _ hk=>⟨hk.1.1.1,⟨hk.1.2,hk.1.1.2⟩⟩)⟩,⟨by refine vR_ ?_;exact rm_ (fR_ (rt_ HO_133002.out a.out (by decide))) (fun _ hk=>⟨hk.1.1.1,⟨hk.1.2,hk.1.1.2⟩⟩)⟩,⟨by refine vR_ ?_;exact rm_ (fR_ (rt_ co.out a.out (by decide))) (fun _ hk=>⟨hk.1.1,⟨hk.1.2.1,hk.1.2.2⟩⟩)⟩,⟨by refine vR_ ?_;exact rm_ (fR_ (rt_ HO_133004.out a.out (by decide))) (fun _ hk=>⟨hk.1.1.1,⟨hk.1.1.2,hk.1.2⟩⟩)⟩,⟨by refine bk_ ?_;refine blk_far ?_ p.out _;refine bk_ ?_;exact c.out⟩,⟨by refine bk_ ?_;refine blk_far ?_ q.out _;refine bk_ ?_;exact d.out⟩,⟨by refine bk_ ?_;refine bu_ (cs:=#[.int .i64 r,.slice s m.length u,u133002,u133003,u133004,.slice none 0 0,.int .i64 B,.slice none 0 0]) ?_ 3 _ rfl;refine bk_ ?_;exact a.out⟩,⟨bel_⟩⟩
   replace H:=bo_ H
   obtain ⟨af,dG,H⟩:=H
   try dsimp only at H
   have H':=a_ H
   clear H
   have el:=Z.out
   have em:=aa.out
   have en:=p.out
   have eo:=J.out
   obtain ⟨_,_,_,_,_,_,_,_,_,_,_,_⟩:=cel6_ c.out
   go_wp2_with (first|((with_reducible refine gate_callee (f:=39) rfl ?_);refine goesL_ (some 136) rfl rfl Tryz.func39 kr_ rfl #[.slice ad z.length c0_3,.int .i64 0,.int .i64 (1+((z.length:Int)%3)),.int .i64 0,.int .i64 2] rfl ar_ ?_;(with_reducible refine (jigsawref06_numbers.calls k10 _ _ z 0 (1+((z.length:Int)%3)) 0 2 af _ ?_ ?_ dG.out).mono ?_);exact ca_ ((cb_ aQ.out HB.out));exact aR.out;rintro e w144 ⟨fT,rfl,F,hb⟩;refine ⟨_,rfl,?_⟩;have cp:=a_ (Kd.R_lower (Kd.R_new' (Kd.R_new' (Kd.R_new' (Kd.R_new' F (rl_ (vR_ HO_133001.out))) (rl_ (vR_ HO_133002.out))) (rl_ (vR_ HO_133003.out))) (rl_ (vR_ HO_133004.out))) (bz_ bel_));replace HO_133001:=a_ (Kd.R_elder' (vR_ HO_133001.out) (rs_ F) hb);replace HO_133002:=a_ (Kd.R_elder' (vR_ HO_133002.out) (rs_ F) hb);replace HO_133003:=a_ (Kd.R_elder' (vR_ HO_133003.out) (rs_ F) hb);replace HO_133004:=a_ (Kd.R_elder' (vR_ HO_133004.out) (rs_ F) hb);replace c:=a_ (bq_ c.out hb);replace d:=a_ (bq_ d.out hb);replace a:=a_ (bq_ a.out hb);replace HB:=hq_ hb;clear hb F;obtain ⟨a2,ax,cT⟩:=Kd.R_slice cp.out;subst cT;have ep:=M.out;have eq:=q.out;obtain ⟨_,_,_,_,_,_,_,_,_,_,_,_,_,_,_,_⟩:=cel8_ a.out))
   go_loopg [10] k10 (fun kq er w'=>∃(X:Int) (ai:List Int) (u133005:Value),er = .int .i64 X∧Aside0 (jigsawref06_Make.l1 kq G (1+((z.length:Int)%3)) X U E I z P Q r m y ae af ai B=some (r1,r2,r3,r4,r5,r6,r7,r8))∧Aside0 (kq≤k10)∧Aside0 (Kd.R (Kd.int .i64) 3 w' w.heap.size (fun l=>some l≠u133002.ownBlock∧some l≠u133003.ownBlock∧some l≠((.slice a2 af.length ax):Value).ownBlock∧some l≠u133005.ownBlock) (.slice s m.length u) m)∧Aside0 (Kd.R (Kd.int .i64) 3 w' w.heap.size (fun l=>some l≠((.slice s m.length u):Value).ownBlock∧some l≠u133003.ownBlock∧some l≠((.slice a2 af.length ax):Value).ownBlock∧some l≠u133005.ownBlock) u133002 y)∧Aside0 (Kd.R (Kd.int .i64) 3 w' w.heap.size (fun l=>some l≠((.slice s m.length u):Value).ownBlock∧some l≠u133002.ownBlock∧some l≠((.slice a2 af.length ax):Value).ownBlock∧some l≠u133005.ownBlock) u133003 ae)∧Aside0 (Kd.R (Kd.int .i64) 3 w' w.heap.size (fun l=>some l≠((.slice s m.length u):Value).ownBlock∧some l≠u133002.ownBlock∧some l≠u133003.ownBlock∧some l≠u133005.ownBlock) (.slice a2 af.length ax) af)∧Aside0 (Kd.R (Kd.int .i64) 3 w' w.heap.size (fun l=>some l≠((.slice s m.length u):Value).ownBlock∧some l≠u133002.ownBlock∧some l≠u133003.ownBlock∧some l≠((.slice a2 af.length ax):Value).ownBlock) u133005 ai)∧Aside0 (w'.heap[V]? = some (.cells #[.int .u8 U,(.slice ak E.length c0_1),(.slice ah I.length c0_2),(.slice ad z.length c0_3),.int .i16 P,.int .u8 Q] 26 (0,0)))∧Aside0 (w'.heap[ac]? = some (.cells #[.int .i64 0,(.slice none 0 0),(.slice none 0 0),(.slice none 0 0),(.slice none 0 0),(.slice none 0 0),.int .i64 0,(.slice none 0 0)] 32 (0,0)))∧Aside0 (w'.heap[A]? = some (.cells #[.int .i64 r,(.slice s m.length u),u133002,u133003,(.slice a2 af.length ax),u133005,.int .i64 B,(.slice none 0 0)] 32 (0,0)))∧Aside0 (Below w.heap.size w w'))
   case atStart=>exact ⟨(0),(([]:List Int)),(.slice none 0 0),eq_,H',⟨lr_ _⟩,⟨by refine vR_ ?_;exact rm_ (fR_ (rt_ HO_133001.out a.out (by decide))) (fun _ hk=>⟨hk.1.1.1,⟨hk.1.1.2.1,⟨hk.1.2,(by simp [Value.ownBlock])⟩⟩⟩)⟩,⟨by refine vR_ ?_;exact rm_ (fR_ (rt_ HO_133002.out a.out (by decide))) (fun _ hk=>⟨hk.1.1.1,⟨hk.1.1.2.1,⟨hk.1.2,(by simp [Value.ownBlock])⟩⟩⟩)⟩,⟨by refine vR_ ?_;exact rm_ (fR_ (rt_ HO_133003.out a.out (by decide))) (fun _ hk=>⟨hk.1.1.1,⟨hk.1.1.2.1,⟨hk.1.2,(by simp [Value.ownBlock])⟩⟩⟩)⟩,⟨by refine vR_ ?_;exact rm_ (fR_ (rt_ cp.out a.out (by decide))) (fun _ hk=>⟨hk.1.1.1.1.2,⟨hk.1.1.1.2,⟨hk.1.1.2,(by simp [Value.ownBlock])⟩⟩⟩)⟩,⟨nil_⟩,⟨by refine bk_ ?_;refine blk_far ?_ p.out _;refine bk_ ?_;exact c.out⟩,⟨by refine bk_ ?_;refine blk_far ?_ q.out _;refine bk_ ?_;exact d.out⟩,⟨by refine bk_ ?_;refine bu_ (cs:=#[.int .i64 r,.slice s m.length u,u133002,u133003,u133004,.slice none 0 0,.int .i64 B,.slice none 0 0]) ?_ 4 _ rfl;refine bk_ ?_;exact a.out⟩,⟨bel_⟩⟩
   clear H'
   try clear c1
   try clear p1
   try clear q1
   try clear a4
   try clear c2
   try clear p2
   try clear c3
   try clear c4
   try clear c5
   try clear c5b0
   try clear c6
   try clear c6b0
   try clear p6
   try clear c7
   try clear c8
   try clear c9
   try clear c10
   try clear c11
   try clear c12
   try clear c13
   try clear p13
   try clear au
   try clear aG
   try clear c14
   try clear c18
   try clear c21
   try clear c21b0
   try clear c21b1
   try clear c23
   try clear c23b0
   try clear c26
   try clear c26b0
   try clear c31
   try clear c32
   try clear c36
   try clear c37
   try clear c38
   try clear c38b0
   try clear c39
   try clear c40
   try clear c41
   try clear c45
   try clear c49
   try clear c49b0
   try clear c51
   try clear c52
   try clear c56
   try clear c60
   try clear c60b0
   try clear c62
   try clear c63
   try clear p64
   try clear c67
   try clear c70
   try clear c71
   try clear c73
   try clear c73b0
   try clear c73b1
   try clear c75
   try clear c76
   try clear c80
   try clear c84
   try clear c84b0
   try clear c85
   try clear c86
   try clear c88
   try clear c91
   try clear c92
   try clear c94
   try clear c94b0
   try clear c94b1
   try clear c97
   try clear c97b0
   try clear c98
   try clear c99
   try clear c103
   try clear c109
   try clear c110
   try clear c114
   try clear c121
   try clear c122
   try clear c124
   try clear c124b0
   try clear c124b1
   try clear c125
   try clear c126
   try clear c128
   try clear c130
   try clear c130b0
   try clear c131
   try clear c132
   try clear c133
   try clear c135
   try clear p136
   try clear an
   try clear cq
   try clear c141
   try clear c142
   try clear c146
   try clear aj
   try clear p1
   try clear p13
   try clear p136
   try clear p2
   try clear p6
   try clear p64
   try clear q1
   try clear au
   try clear an
   obtain ⟨X,ai,u133005,rfl,HA,bp,HO_133001,HO_133002,HO_133003,HO_133004,HO_133005,c,d,a,HB⟩:=hrel
   cases gk with
   | zero=>exact absurd HA.out (by simp [jigsawref06_Make.l1])
   | succ k11 =>
    have H:=HA.out
    clear HA
    simp only [jigsawref06_Make.l1] at H
    replace H:=cf_ H
    rcases H with ⟨c148b0,H⟩ | ⟨c148b0,H⟩
    ·
     have H':=a_ H
     clear H
     go_wp2
     go_meet
     exact ⟨_,(ae),(af),(ai),(u133003),(.slice a2 af.length ax),(u133005),H',⟨by have:=ar.out;have:=al.out;have:=am.out;have:=ao.out;have:=av.out;have:=az.out;have:=aD.out;have:=aM.out;have:=a5.out;have:=bF.out;have:=bp.out;first | omega | exact lr_ _⟩,⟨vR_ HO_133001.out⟩,⟨vR_ HO_133002.out⟩,⟨vR_ HO_133003.out⟩,⟨vR_ HO_133004.out⟩,⟨vR_ HO_133005.out⟩,⟨bk_ c.out⟩,⟨bk_ d.out⟩,⟨bk_ a.out⟩,⟨bel_⟩⟩
    replace H:=gu_ H
    obtain ⟨c149b0,H⟩:=H
    replace H:=gu_ H
    obtain ⟨c150b0,H⟩:=H
    have c151b0:=et_ (dq_:0≤X)
    obtain ⟨a7,bi⟩:∃j_:Int,(shr .i64 (wrap64 (Q)) X)=j_:=⟨_,rfl⟩
    replace H:(if ai.length<17592186044416 then (jigsawref06_Make.l1 k11 G (1+((z.length:Int)%3)) (wrap64 (X+1)) U E I z P Q r m y ae af (ai++[wrap64 ((rd af X)+(Int.tmod (a7) 3))]) B) else (none))=some (r1,r2,r3,r4,r5,r6,r7,r8):=by first|(rw [bi] at H;exact H)|(simp only [bi] at H ⊢;exact H)
    have dK:((wrap64 (Q)) / 2 ^ min X.toNat 64)=a7:=bi
    have hji152z:X≤64→((wrap64 (Q)) / 2 ^ X.toNat)=a7:=shr_small bi
    replace H:=ga_ H
    obtain ⟨LMc153,H⟩:=H
    obtain ⟨b7,bj⟩:∃y_:List Int,y_=(ai++[wrap64 ((rd af X)+(Int.tmod (a7) 3))]):=⟨_,rfl⟩
    replace H:(jigsawref06_Make.l1 k11 G (1+((z.length:Int)%3)) (wrap64 (X+1)) U E I z P Q r m y ae af b7 B)=some (r1,r2,r3,r4,r5,r6,r7,r8):=h2_ H bj
    have cU:=a_ bj
    clear bj
    have H':=a_ H
    clear H
    try go_wp2
    replace HO_133001:=a_ (Kd.R_drew HO_133001.out)
    replace HO_133002:=a_ (Kd.R_drew HO_133002.out)
    replace HO_133003:=a_ (Kd.R_drew HO_133003.out)
    replace HO_133004:=a_ (Kd.R_drew HO_133004.out)
    replace HO_133005:=a_ (Kd.R_drew HO_133005.out)
    replace c:=a_ (blk_drew c.out)
    replace d:=a_ (blk_drew d.out)
    replace a:=a_ (blk_drew a.out)
    replace HB:=a_ (below_drew1 HB.out)
    have p170:0≤(X:Int):=dq_
    have bG:X<(af.length:Int):=dq_
    obtain ⟨a3,dH,a8⟩:=ai_ (rr_ HO_133004.out).2.2 X p170 bG
    cases dH
    replace p170:=et_ p170
    replace bG:=et_ bG
    refine start_ (n:=18) (S:=fun w'=>w'.cell? ⟨A,0,none⟩=some (.int .i64 r)∧w'.cell? ⟨A,1,none⟩=some (.slice s m.length u)∧w'.cell? ⟨A,2,none⟩=some (u133002)∧w'.cell? ⟨A,3,none⟩=some (u133003)∧w'.cell? ⟨A,4,none⟩=some (.slice (some a3) af.length ax)∧w'.cell? ⟨A,5,none⟩=some (u133005)∧w'.cell? ⟨A,6,none⟩=some (.int .i64 B)∧w'.cell? ⟨A,7,none⟩=some (.slice none 0 0)∧w'.cell? ⟨V,0,none⟩=some (.int .u8 U)∧w'.cell? ⟨V,1,none⟩=some (.slice ak E.length c0_1)∧w'.cell? ⟨V,2,none⟩=some (.slice ah I.length c0_2)∧w'.cell? ⟨V,3,none⟩=some (.slice ad z.length c0_3)∧w'.cell? ⟨V,4,none⟩=some (.int .i16 P)∧w'.cell? ⟨V,5,none⟩=some (.int .u8 Q)∧w'.cell? (a3.add (X).toNat)=some (.int .i64 (rd af X))) (ds:=[15,17]) #[false,false,false,false,false,false,false,false,false,false,false,false,false,false,false,false,false,false] kr_ rfl rfl (cb8_ a.out (cb6_ c.out (a8))) (fun hHeld=>?_);refine with_tabW jigsawref06_Make.tab37 jigsawref06_Make.bits37 (fun HT_ HW_=>?_)
    generalize wr.drew=w154 at HO_133001 HO_133002 HO_133003 HO_133004 HO_133005 c d a HB a8 hHeld ⊢
    refine pn_ 0 143 ao_ ?_
    refine pn_ 2 145 ao_ ?_
    refine pn_ 4 147 ao_ ?_
    refine pn_ 7 150 ao_ ?_
    refine pn_ 10 153 ao_ ?_
    refine tn_ 1 144 tw_ hHeld ?_
    refine tn_ 3 146 tw_ hHeld ?_
    refine pn_ 5 148 ao_ ?_
    refine tn_ 6 149 tw_ hHeld ?_
    refine tn_ 8 151 tw_ hHeld ?_
    refine pn_ 9 152 ao_ ?_
    refine pn_ 11 154 ao_ ?_
    refine pn_ 12 155 ao_ ?_
    refine pn_ 13 156 ao_ ?_
    refine onn_ 14 157 #[true,true,true,true,true,true,true,true,true,true,true,true,true,true,true,false,false,false] rfl rfl on_ (by decide) (fun K hK=>?_)
    refine value_ (w1:=?_) (v:=?_) (by rfl) rfl ?_ ?_
    rotate_left 2
    ·
     go_simp
     constructor
     · rfl
     rfl
    refine hK.out _ _ ⟨(blk_cell (blk_alloc a.out _) 0).trans rfl,(blk_cell (blk_alloc a.out _) 1).trans rfl,(blk_cell (blk_alloc a.out _) 2).trans rfl,(blk_cell (blk_alloc a.out _) 3).trans rfl,(blk_cell (blk_alloc a.out _) 4).trans rfl,(blk_cell (blk_alloc a.out _) 5).trans rfl,(blk_cell (blk_alloc a.out _) 6).trans rfl,(blk_cell (blk_alloc a.out _) 7).trans rfl,(blk_cell (blk_alloc c.out _) 0).trans rfl,(blk_cell (blk_alloc c.out _) 1).trans rfl,(blk_cell (blk_alloc c.out _) 2).trans rfl,(blk_cell (blk_alloc c.out _) 3).trans rfl,(blk_cell (blk_alloc c.out _) 4).trans rfl,(blk_cell (blk_alloc c.out _) 5).trans rfl,(World.cell?_alloc_lt _ _ _ (wl_ _ _ (hHeld.2.2.2.2.2.2.2.2.2.2.2.2.2.2))).trans (hHeld.2.2.2.2.2.2.2.2.2.2.2.2.2.2)⟩ (fun hHeld=>?_)
    clear hK K
    refine nor_ (N:=some 157) ?_
    refine last_ (i:=15) (N:=some 158) #[true,true,true,true,true,true,true,true,true,true,true,true,true,true,true,true,false,false] rfl rfl on_ (by decide) (fun K hK=>?_)
    refine Kd.R_append_step (Kd.int .i64) (w0:=w) w.heap.size (by rfl) (.tmp 144) (.tmp 157) 30 3 (.int .i64 0) 8 rfl Tryz.underlying30 info3 rfl (by decide) (by omega) u133005 ai (wrap64 ((rd af X)+(Int.tmod (a7) 3))) [.int .i64 (wrap64 ((rd af X)+(Int.tmod (a7) 3)))] (fun l=>some l≠(.slice s m.length u:Value).ownBlock∧some l≠u133002.ownBlock∧some l≠u133003.ownBlock∧some l≠(.slice (some a3) af.length ax:Value).ownBlock) (fun _=>False) rfl rfl ?aP (fun _ hk=>hk.elim) ?aF ?aO ?aB ?aS ?aL ?_
    (case aP=>exact rfl)
    (case aB=>exact bel_)
    (case aF=>exact (fun l hk=>⟨fr_ (rl_ (vR_ HO_133001.out)) l hk,fr_ (rl_ (vR_ HO_133002.out)) l hk,fr_ (rl_ (vR_ HO_133003.out)) l hk,fr_ (rl_ (vR_ HO_133004.out)) l hk⟩))
    (case aO=>exact (vR_ HO_133005.out))
    (case aS=>exact (bz_ bel_))
    (case aL=>have:=LMc153.out;omega)
    intro fU w155 ho hb hg hat
    rw [←cU.out] at ho
    replace HO_133001:=a_ (Kd.R_after (ok:=(fun l=>some l≠u133002.ownBlock∧some l≠u133003.ownBlock∧some l≠(.slice (some a3) af.length ax:Value).ownBlock)) (by refine vR_ ?_;exact rm_ HO_133001.out (fun _ hk=>⟨⟨hk.1,⟨hk.2.1,hk.2.2.1⟩⟩,hk.2.2.2⟩)) hg hat)
    replace HO_133002:=a_ (Kd.R_after (ok:=(fun l=>some l≠(.slice s m.length u:Value).ownBlock∧some l≠u133003.ownBlock∧some l≠(.slice (some a3) af.length ax:Value).ownBlock)) (by refine vR_ ?_;exact rm_ HO_133002.out (fun _ hk=>⟨⟨hk.1,⟨hk.2.1,hk.2.2.1⟩⟩,hk.2.2.2⟩)) hg hat)
    replace HO_133003:=a_ (Kd.R_after (ok:=(fun l=>some l≠(.slice s m.length u:Value).ownBlock∧some l≠u133002.ownBlock∧some l≠(.slice (some a3) af.length ax:Value).ownBlock)) (by refine vR_ ?_;exact rm_ HO_133003.out (fun _ hk=>⟨⟨hk.1,⟨hk.2.1,hk.2.2.1⟩⟩,hk.2.2.2⟩)) hg hat)
    replace HO_133004:=a_ (Kd.R_after (ok:=(fun l=>some l≠(.slice s m.length u:Value).ownBlock∧some l≠u133002.ownBlock∧some l≠u133003.ownBlock)) (by refine vR_ ?_;exact rm_ HO_133004.out (fun _ hk=>⟨⟨hk.1,⟨hk.2.1,hk.2.2.1⟩⟩,hk.2.2.2⟩)) hg hat)
    replace c:=a_ (blk_grown (bk_ c.out) hg (Kd.R_ne HO_133005.out c.out (by decide)))
    replace d:=a_ (blk_grown (bk_ d.out) hg (Kd.R_ne HO_133005.out d.out (by decide)))
    replace a:=a_ (blk_grown (bk_ a.out) hg (Kd.R_ne HO_133005.out a.out (by decide)))
    replace HB:=a_ (hb)
    have cr:=a_ (ho)
    clear HO_133005 ho hb hg hat
    obtain ⟨cV,cW,ct⟩:=Kd.R_slice cr.out
    (first | subst ct | (injection ct with f1_ f2_ f3_;have f4_:=f1_.symm;have f5_:=f3_.symm;clear f1_ f2_ f3_;subst f4_;subst f5_))
    refine hK.out _ _ ?_
    clear hK K
    refine nor_ (N:=some 158) ?_
    refine pn_ 16 159 ao_ ?_
    refine last_ (i:=17) (N:=none) #[true,true,true,true,true,true,true,true,true,true,true,true,true,true,true,true,true,true] rfl rfl on_ (by decide) (fun K hK=>?_)
    have fH:w155.cell? ⟨A,5,none⟩=some (u133005):=(blk_cell a.out 5).trans rfl
    have hfs157:=blk_frozen a.out 5
    have hns157_0:=p.out
    have hns157_1:=q.out
    have hms157_0:=J.out
    have hms157_1:=M.out
    refine skip_ (w1:=?_) (by rfl) rfl ?_ ?_
    rotate_left
    ·
     go_simp
     rfl
    refine hK.out _ _ ?_
    clear hK K
    refine done_ dn_ ?_
    try go_wp2
    go_roundg k11
    case measure=>have:=ar.out;have:=al.out;have:=am.out;have:=ao.out;have:=av.out;have:=az.out;have:=aD.out;have:=aM.out;have:=a5.out;have:=bF.out;have:=bp.out;omega
    exact ⟨(wrap64 (X+1)),(b7),(.slice cV b7.length cW),eq_,H',⟨by have:=ar.out;have:=al.out;have:=am.out;have:=ao.out;have:=av.out;have:=az.out;have:=aD.out;have:=aM.out;have:=a5.out;have:=bF.out;have:=bp.out;omega⟩,⟨by refine vR_ ?_;exact rm_ (fR_ (rt_ HO_133001.out a.out (by decide))) (fun _ hk=>⟨hk.1.1.1,⟨hk.1.1.2.1,⟨hk.1.1.2.2,hk.1.2⟩⟩⟩)⟩,⟨by refine vR_ ?_;exact rm_ (fR_ (rt_ HO_133002.out a.out (by decide))) (fun _ hk=>⟨hk.1.1.1,⟨hk.1.1.2.1,⟨hk.1.1.2.2,hk.1.2⟩⟩⟩)⟩,⟨by refine vR_ ?_;exact rm_ (fR_ (rt_ HO_133003.out a.out (by decide))) (fun _ hk=>⟨hk.1.1.1,⟨hk.1.1.2.1,⟨hk.1.1.2.2,hk.1.2⟩⟩⟩)⟩,⟨by refine vR_ ?_;exact rm_ (fR_ (rt_ HO_133004.out a.out (by decide))) (fun _ hk=>⟨hk.1.1.1,⟨hk.1.1.2.1,⟨hk.1.1.2.2,hk.1.2⟩⟩⟩)⟩,⟨by refine vR_ ?_;exact rm_ (fR_ (rt_ cr.out a.out (by decide))) (fun _ hk=>⟨hk.1.1,⟨hk.1.2.1,⟨hk.1.2.2.1,hk.1.2.2.2⟩⟩⟩)⟩,⟨by refine bk_ ?_;refine blk_far ?_ p.out _;refine bk_ ?_;exact c.out⟩,⟨by refine bk_ ?_;refine blk_far ?_ q.out _;refine bk_ ?_;exact d.out⟩,⟨by refine bk_ ?_;refine bu_ (cs:=#[.int .i64 r,.slice s m.length u,u133002,u133003,.slice (some a3) af.length ax,u133005,.int .i64 B,.slice none 0 0]) ?_ 5 _ rfl;refine bk_ ?_;exact a.out⟩,⟨bel_⟩⟩
 clear bP
 try clear c1
 try clear p1
 try clear q1
 try clear a4
 try clear p2
 try clear p6
 try clear c12
 try clear p13
 try clear au
 try clear aG
 try clear c14
 try clear c15
 try clear p17
 try clear dn
 try clear dI
 try clear p64
 try clear c124
 try clear c124b0
 try clear c124b1
 try clear p136
 try clear an
 try clear cq
 try clear c148
 try clear c148b0
 try clear c149
 try clear c149b0
 try clear c150
 try clear c150b0
 try clear c151
 try clear c151b0
 try clear c153
 try clear aj
 try clear a8
 try clear p1
 try clear p13
 try clear p136
 try clear p170
 try clear p2
 try clear p6
 try clear p64
 try clear q1
 try clear au
 try clear an
 try clear bG
 obtain ⟨kq,O,Y,ab,u133003,u133004,u133005,HA,cu,HO_133001,HO_133002,HO_133003,HO_133004,HO_133005,c,d,a,HB⟩:=hcut
 cases kq with
 | zero=>exact absurd HA.out (by simp [jigsawref06_Make.j11])
 | succ kj119 =>
  have H:=HA.out
  clear HA
  simp only [jigsawref06_Make.j11] at H
  exact jigsawref06_Make.part10 cE cF cf cg aQ aR A3 aE cG eL cH eM Z aa cI eP p J q M ar al am dO ao av az aD aM a5 HO_133001 HO_133002 HO_133003 HO_133004 HO_133005 c d a HB cu H (by assumption) (by kernel_rfl)
theorem jigsawref06_Make.part5 {K:Act→World→Prop} {C:Code} {k:Nat} {U:Int} {ak:Option Addr} {c0_1:Nat} {E:List Int} {ah:Option Addr} {c0_2:Nat} {I:List Int} {ad:Option Addr} {c0_3:Nat} {z:List Int} {P Q a1 r1:Int} {r2 r3 r4 r5 r6:List Int} {r7:Int} {r8:List (List Int)} {w:World} (cE:Aside0 ((Kd.int IntKind.u8).C w ak E.length E)) (cF:Aside0 (E.length≤c0_1)) (cf:Aside0 ((Kd.int IntKind.u8).C w ah I.length I)) (cg:Aside0 (I.length≤c0_2)) (aQ:Aside0 ((Kd.int IntKind.i8).C w ad z.length z)) (aR:Aside0 (z.length≤c0_3)) {ag:List ByteArray} (A3:Aside0 (jigsawref06_Shapes.f=some ag)) {r:Int} (aE:wrap64 (1+(wrap64 U).tmod 23)=r) {V:Nat} (cG eL:Aside0 (w.heap.size≤V)) {ac:Nat} (cH eM:Aside0 (w.heap.size≤ac)) (Z:Aside0 (V≠ac)) (aa:Aside0 (ac≠V)) {A:Nat} (cI eP:Aside0 (w.heap.size≤A)) (p:Aside0 (V≠A)) (J:Aside0 (A≠V)) (q:Aside0 (ac≠A)) (M:Aside0 (A≠ac)) {kj6:Nat} (ar:Aside0 (kj6+1≤k)) {kj21:Nat} (al:Aside0 (kj21+1≤kj6)) {G:Int} {kj24:Nat} (am:Aside0 (kj24+1≤kj21)) {m:List Int} (dO:Aside0 (jigsawref06_places.f kj24 E G a1=some m)) {s:Option Addr} {u kj29:Nat} (ao:Aside0 (kj29+1≤kj24)) (nd:Nat) {wc:World} {u13 u14 u15 u16 u17 u18 u19 u20 u21 u22 u23 u24 u25 u26 u27 u28 u29 u30 u31 u32 u33 u34 u35 u36 u37 u38 u39 u40 u41 u42 u43 u44 u45 u46 u47 u48 u49 u50 u51 u52 u53 u54 u55 u56 u57 u58 u59 u60 u61 u62 u63 u64 u65 u66 u67 u68 u69 u70 u71 u72 u73 u74 u75 u76 u77 u78 u79 u80 u81 u82 u83 u84 u85 u86 u87 u88 u89 u90 u91 u92 u93 u94 u95 u96 u97 u98 u99 u100 u101 u102 u103 u104 u105 u106 u107 u108 u109 u110 u111 u112 u113 u114 u115 u116 u117 u118 u119 u120 u121 u122 u123 u124 u125 u126 u127 u128 u129 u130 u131 u132 u133 u134 u135 u136 u137 u138 u139 u140 u141 u142 u143 u144 u145 u146 u147 u148 u149 u150 u151 u152 u153 u154 u155 u156 u157 u158 u159 u160 u161 u162 u163 u164 u165 u166 u167 u168 u169 u170 u171 u172 u173 u174 u175 u176 u177 u178 u179 u180 u181 u182 u183 u184 u185:Value} {y:List Int} {u133002:Value} (HO_133001:Aside0 ((Kd.int IntKind.i64).R 3 wc w.heap.size (fun l=>some l≠u133002.ownBlock) (Value.slice s m.length u) m)) (HO_133002:Aside0 ((Kd.int IntKind.i64).R 3 wc w.heap.size (fun l=>some l≠(Value.slice s m.length u).ownBlock) u133002 y)) (c:Aside0 (wc.heap[V]? = some (Obj.cells #[Value.int IntKind.u8 U,Value.slice ak E.length c0_1,Value.slice ah I.length c0_2,Value.slice ad z.length c0_3,Value.int IntKind.i16 P,Value.int IntKind.u8 Q] 26))) (d:Aside0 (wc.heap[ac]? = some (Obj.cells #[Value.int IntKind.i64 0,Value.slice none 0 0,Value.slice none 0 0,Value.slice none 0 0,Value.slice none 0 0,Value.slice none 0 0,Value.int IntKind.i64 0,Value.slice none 0 0] 32))) (a:Aside0 (wc.heap[A]? = some (Obj.cells #[Value.int IntKind.i64 r,Value.slice s m.length u,u133002,Value.slice none 0 0,Value.slice none 0 0,Value.slice none 0 0,Value.int IntKind.i64 0,Value.slice none 0 0] 32))) (HB:Aside0 (Below w.heap.size w wc)) {kj47:Nat} (av:Aside0 (kj47+1≤kj29)) (H:((jigsawref06_has.f kj47 (rdOf ByteArray.empty ag r) 99).bind fun r_1=>if r_1>0 then (jigsawref06_numbers.f kj47 z 0 G (-1) 5).bind fun s=>j5 kj47 (rdOf ByteArray.empty ag r) G U E I z P Q r m y s 0 else j5 kj47 (rdOf ByteArray.empty ag r) G U E I z P Q r m y [] 0)=some (r1,r2,r3,r4,r5,r6,r7,r8)) (hK:∀(aK_:Act) (wK_:World),Code.wp Tryz.prog C ( bodyPost Tryz.prog Tryz.f18 fun e w'=>∃bA bB bC bD bE dk,e=Ending.returned (Value.agg #[Value.int IntKind.i64 r1,bA,bB,bC,bD,bE,Value.int IntKind.i64 r7,dk])∧(Kd.int IntKind.i64).R 3 w' w.heap.size (fun l=>some l≠bB.ownBlock∧some l≠bC.ownBlock∧some l≠bD.ownBlock∧some l≠bE.ownBlock) bA r2∧(Kd.int IntKind.i64).R 3 w' w.heap.size (fun l=>some l≠bA.ownBlock∧some l≠bC.ownBlock∧some l≠bD.ownBlock∧some l≠bE.ownBlock) bB r3∧(Kd.int IntKind.i64).R 3 w' w.heap.size (fun l=>some l≠bA.ownBlock∧some l≠bB.ownBlock∧some l≠bD.ownBlock∧some l≠bE.ownBlock) bC r4∧(Kd.int IntKind.i64).R 3 w' w.heap.size (fun l=>some l≠bA.ownBlock∧some l≠bB.ownBlock∧some l≠bC.ownBlock∧some l≠bE.ownBlock) bD r5∧(Kd.int IntKind.i64).R 3 w' w.heap.size (fun l=>some l≠bA.ownBlock∧some l≠bB.ownBlock∧some l≠bC.ownBlock∧some l≠bD.ownBlock) bE r6∧(Kd.slice 3 (Kd.int IntKind.i64)).S 30 w' w.heap.size (fun l=>some l≠bA.ownBlock∧some l≠bB.ownBlock∧some l≠bC.ownBlock∧some l≠bD.ownBlock∧some l≠bE.ownBlock) dk r8∧Below w.heap.size w w') aK_ wK_→K aK_ wK_) (hC:C=sfx 15 (Tryz.f18.body.getD .ret)):K { tmps:=#[Value.agg #[Value.int IntKind.u8 U,Value.slice ak E.length c0_1,Value.slice ah I.length c0_2,Value.slice ad z.length c0_3,Value.int IntKind.i16 P,Value.int IntKind.u8 Q],Value.int IntKind.i64 a1,Value.pointer (some { block:=V,off:=0 }),undef,Value.pointer (some { block:=ac,off:=0 }),Value.pointer (some { block:=A,off:=0 }),Value.string (rdOf ByteArray.empty ag r),Value.int IntKind.i64 G,undef,undef,undef,undef,undef,u13,u14,u15,u16,u17,u18,u19,u20,u21,u22,u23,u24,u25,u26,u27,u28,u29,u30,u31,u32,u33,u34,u35,u36,u37,u38,u39,u40,u41,u42,u43,u44,u45,u46,u47,u48,u49,u50,u51,u52,u53,u54,u55,u56,u57,u58,u59,u60,u61,u62,u63,u64,u65,u66,u67,u68,u69,u70,u71,u72,u73,u74,u75,u76,u77,u78,u79,u80,u81,u82,u83,u84,u85,u86,u87,u88,u89,u90,u91,u92,u93,u94,u95,u96,u97,u98,u99,u100,u101,u102,u103,u104,u105,u106,u107,u108,u109,u110,u111,u112,u113,u114,u115,u116,u117,u118,u119,u120,u121,u122,u123,u124,u125,u126,u127,u128,u129,u130,u131,u132,u133,u134,u135,u136,u137,u138,u139,u140,u141,u142,u143,u144,u145,u146,u147,u148,u149,u150,u151,u152,u153,u154,u155,u156,u157,u158,u159,u160,u161,u162,u163,u164,u165,u166,u167,u168,u169,u170,u171,u172,u173,u174,u175,u176,u177,u178,u179,u180,u181,u182,u183,u184,u185],defers:=[] } wc:=by
 unfold Tryz.f18 at hC
 dsimp only [sfx,leads,Option.getD_some,Nat.reduceBEq,cond_true,cond_false] at hC
 subst hC
 replace H:=bo_ H
 obtain ⟨bL,dT,H⟩:=H
 try dsimp only at H
 have b0:=a_ H
 clear H
 go_upto_if 61 with (first|((with_reducible refine gate_callee (f:=37) rfl ?_);refine goesL_ (some 60) rfl rfl Tryz.func37 kr_ rfl #[.string (rdOf ByteArray.empty ag (r)),.int .u8 99] rfl (by (try simp only [List.map_toArray,List.map_cons,List.map_nil]);first | done | (simp only [aE];rfl) | rfl | (simp only [List.length_drop,List.length_take];rfl)) ?_;(with_reducible refine (jigsawref06_has.calls kj47 (rdOf ByteArray.empty ag (r)) 99 bL _ dT.out).mono ?_);rintro e w' ⟨rfl,⟨nd,rfl⟩⟩;refine ⟨_,rfl,?_⟩))
 (try simp only [Act.put,List.setIfInBounds_toArray,List.set_cons_zero,List.set_cons_succ])
 go_cut [] (fun wc=>∃(kq:Nat) (aJ:List Int) (u133003:Value),Aside0 (jigsawref06_Make.j5 kq (rdOf ByteArray.empty ag (r)) G U E I z P Q r m y aJ 0=some (r1,r2,r3,r4,r5,r6,r7,r8))∧Aside0 (kq≤kj47)∧Aside0 (Kd.R (Kd.int .i64) 3 wc w.heap.size (fun l=>some l≠u133002.ownBlock∧some l≠u133003.ownBlock) (.slice s m.length u) m)∧Aside0 (Kd.R (Kd.int .i64) 3 wc w.heap.size (fun l=>some l≠((.slice s m.length u):Value).ownBlock∧some l≠u133003.ownBlock) u133002 y)∧Aside0 (Kd.R (Kd.int .i64) 3 wc w.heap.size (fun l=>some l≠((.slice s m.length u):Value).ownBlock∧some l≠u133002.ownBlock) u133003 aJ)∧Aside0 (wc.heap[V]? = some (.cells #[.int .u8 U,(.slice ak E.length c0_1),(.slice ah I.length c0_2),(.slice ad z.length c0_3),.int .i16 P,.int .u8 Q] 26 (0,0)))∧Aside0 (wc.heap[ac]? = some (.cells #[.int .i64 0,(.slice none 0 0),(.slice none 0 0),(.slice none 0 0),(.slice none 0 0),(.slice none 0 0),.int .i64 0,(.slice none 0 0)] 32 (0,0)))∧Aside0 (wc.heap[A]? = some (.cells #[.int .i64 r,(.slice s m.length u),u133002,u133003,(.slice none 0 0),(.slice none 0 0),.int .i64 0,(.slice none 0 0)] 32 (0,0)))∧Aside0 (Below w.heap.size w wc))
 case first =>
  have H:=b0.out
  clear b0
  by_cases c60:bL>0
  rotate_left
  ·
   rw [ig_ c60] at H
   have c60b0:decide (0<bL)=false:=df_ c60
   clear c60
   (first | rw [c60b0]|(simp only [i64_w,i32_w];rw [c60b0]) | skip)
   have H':=a_ H
   clear H
   go_wp2
   go_meet
   exact ⟨_,(([]:List Int)),(.slice none 0 0),H',⟨by have:=ar.out;have:=al.out;have:=am.out;have:=ao.out;have:=av.out;first | omega | exact lr_ _⟩,⟨by refine vR_ ?_;exact rm_ HO_133001.out (fun _ hk=>⟨hk,(by simp [Value.ownBlock])⟩)⟩,⟨by refine vR_ ?_;exact rm_ HO_133002.out (fun _ hk=>⟨hk,(by simp [Value.ownBlock])⟩)⟩,⟨nil_⟩,⟨bk_ c.out⟩,⟨bk_ d.out⟩,⟨bk_ a.out⟩,⟨bel_⟩⟩
  rw [ip_ c60] at H
  have c60b0:decide (0<bL)=true:=dt_ c60
  clear c60
  (first | rw [c60b0]|(simp only [i64_w,i32_w];rw [c60b0]) | skip)
  replace H:=bo_ H
  obtain ⟨b1,dU,H⟩:=H
  try dsimp only at H
  have H':=a_ H
  clear H
  have fd:=Z.out
  have fe:=aa.out
  have ff:=p.out
  have fg:=J.out
  obtain ⟨_,_,_,_,_,_,_,_,_,_,_,_⟩:=cel6_ c.out
  go_wp2_with (first|((with_reducible refine gate_callee (f:=39) rfl ?_);refine goesL_ (some 65) rfl rfl Tryz.func39 kr_ rfl #[.slice ad z.length c0_3,.int .i64 0,.int .i64 G,.int .i64 (-1),.int .i64 5] rfl ar_ ?_;(with_reducible refine (jigsawref06_numbers.calls kj47 _ _ z 0 G (-1) 5 b1 _ ?_ ?_ dU.out).mono ?_);exact ca_ ((cb_ aQ.out HB.out));exact aR.out;rintro e w65 ⟨fP,rfl,F,hb⟩;refine ⟨_,rfl,?_⟩;have ck:=a_ (Kd.R_lower (Kd.R_new' (Kd.R_new' F (rl_ (vR_ HO_133001.out))) (rl_ (vR_ HO_133002.out))) (bz_ bel_));replace HO_133001:=a_ (Kd.R_elder' (vR_ HO_133001.out) (rs_ F) hb);replace HO_133002:=a_ (Kd.R_elder' (vR_ HO_133002.out) (rs_ F) hb);replace c:=a_ (bq_ c.out hb);replace d:=a_ (bq_ d.out hb);replace a:=a_ (bq_ a.out hb);replace HB:=hq_ hb;clear hb F;obtain ⟨dy,dz,dA⟩:=Kd.R_slice ck.out;subst dA;have fh:=M.out;have fi:=q.out;obtain ⟨_,_,_,_,_,_,_,_,_,_,_,_,_,_,_,_⟩:=cel8_ a.out))
  go_meet
  exact ⟨_,(b1),(.slice dy b1.length dz),H',⟨by have:=ar.out;have:=al.out;have:=am.out;have:=ao.out;have:=av.out;first | omega | exact lr_ _⟩,⟨by refine vR_ ?_;exact rm_ (fR_ (rt_ HO_133001.out a.out (by decide))) (fun _ hk=>⟨hk.1.1,hk.1.2⟩)⟩,⟨by refine vR_ ?_;exact rm_ (fR_ (rt_ HO_133002.out a.out (by decide))) (fun _ hk=>⟨hk.1.1,hk.1.2⟩)⟩,⟨by refine vR_ ?_;exact rm_ (fR_ (rt_ ck.out a.out (by decide))) (fun _ hk=>⟨hk.1.1.2,hk.1.2⟩)⟩,⟨by refine bk_ ?_;refine blk_far ?_ p.out _;refine bk_ ?_;exact c.out⟩,⟨by refine bk_ ?_;refine blk_far ?_ q.out _;refine bk_ ?_;exact d.out⟩,⟨by refine bk_ ?_;refine bu_ (cs:=#[.int .i64 r,.slice s m.length u,u133002,.slice none 0 0,.slice none 0 0,.slice none 0 0,.int .i64 0,.slice none 0 0]) ?_ 3 _ rfl;refine bk_ ?_;exact a.out⟩,⟨bel_⟩⟩
 clear b0
 try clear c1
 try clear p1
 try clear q1
 try clear a4
 try clear c2
 try clear p2
 try clear c3
 try clear c4
 try clear c5
 try clear c5b0
 try clear c6
 try clear c6b0
 try clear p6
 try clear c10
 try clear c13
 try clear p13
 try clear au
 try clear aG
 try clear c14
 try clear c18
 try clear c21
 try clear c21b0
 try clear c21b1
 try clear c23
 try clear c23b0
 try clear c26
 try clear c26b0
 try clear c31
 try clear c32
 try clear c36
 try clear c37
 try clear c38
 try clear c38b0
 try clear c39
 try clear c40
 try clear c41
 try clear c45
 try clear c49
 try clear c49b0
 try clear c51
 try clear c52
 try clear c56
 try clear c60
 try clear c60b0
 try clear c62
 try clear c63
 try clear c67
 try clear aj
 try clear p1
 try clear p13
 try clear p136
 try clear p2
 try clear p6
 try clear q1
 try clear au
 try clear an
 obtain ⟨kq,aJ,u133003,HA,az,HO_133001,HO_133002,HO_133003,c,d,a,HB⟩:=hcut
 cases kq with
 | zero=>exact absurd HA.out (by simp [jigsawref06_Make.j5])
 | succ kj58 =>
  have H:=HA.out
  clear HA
  simp only [jigsawref06_Make.j5] at H
  have b2:=a_ H
  clear H
  have fj:=J.out
  have fk:=p.out
  have fl:=M.out
  have fm:=q.out
  obtain ⟨_,_,_,_,_,_,_,_,_,_,_,_,_,_,_,_⟩:=cel8_ a.out
  go_upto_if 69 with (fail)
  go_cut [] (fun wc=>∃(kq:Nat) (aw:List Int) (u133003:Value),Aside0 (jigsawref06_Make.j6 kq (rdOf ByteArray.empty ag (r)) G U E I z P Q r m y aw 0=some (r1,r2,r3,r4,r5,r6,r7,r8))∧Aside0 (kq≤kj58)∧Aside0 (Kd.R (Kd.int .i64) 3 wc w.heap.size (fun l=>some l≠u133002.ownBlock∧some l≠u133003.ownBlock) (.slice s m.length u) m)∧Aside0 (Kd.R (Kd.int .i64) 3 wc w.heap.size (fun l=>some l≠((.slice s m.length u):Value).ownBlock∧some l≠u133003.ownBlock) u133002 y)∧Aside0 (Kd.R (Kd.int .i64) 3 wc w.heap.size (fun l=>some l≠((.slice s m.length u):Value).ownBlock∧some l≠u133002.ownBlock) u133003 aw)∧Aside0 (wc.heap[V]? = some (.cells #[.int .u8 U,(.slice ak E.length c0_1),(.slice ah I.length c0_2),(.slice ad z.length c0_3),.int .i16 P,.int .u8 Q] 26 (0,0)))∧Aside0 (wc.heap[ac]? = some (.cells #[.int .i64 0,(.slice none 0 0),(.slice none 0 0),(.slice none 0 0),(.slice none 0 0),(.slice none 0 0),.int .i64 0,(.slice none 0 0)] 32 (0,0)))∧Aside0 (wc.heap[A]? = some (.cells #[.int .i64 r,(.slice s m.length u),u133002,u133003,(.slice none 0 0),(.slice none 0 0),.int .i64 0,(.slice none 0 0)] 32 (0,0)))∧Aside0 (Below w.heap.size w wc))
  case first =>
   have H:=b2.out
   clear b2
   replace H:=ef_ H
   rcases H with ⟨c73,c73b0,c73b1,H⟩ | ⟨-,c73b0,c73b1,H⟩
   ·
    (first | rw [c73b0]|(simp only [i64_w,i32_w];rw [c73b0]) | skip)
    have H':=a_ H
    clear H
    go_wp2
    go_meet
    exact ⟨_,(aJ),(u133003),H',⟨by have:=ar.out;have:=al.out;have:=am.out;have:=ao.out;have:=av.out;have:=az.out;first | omega | exact lr_ _⟩,⟨vR_ HO_133001.out⟩,⟨vR_ HO_133002.out⟩,⟨vR_ HO_133003.out⟩,⟨bk_ c.out⟩,⟨bk_ d.out⟩,⟨bk_ a.out⟩,⟨bel_⟩⟩
   (first | rw [c73b0]|(simp only [i64_w,i32_w];rw [c73b0]) | skip)
   replace H:=bo_ H
   obtain ⟨b3,dV,H⟩:=H
   try dsimp only at H
   have H':=a_ H
   clear H
   have fn:=Z.out
   have fo:=aa.out
   have fp:=p.out
   have fq:=J.out
   obtain ⟨_,_,_,_,_,_,_,_,_,_,_,_⟩:=cel6_ c.out
   go_wp2_with (first|((with_reducible refine gate_callee (f:=39) rfl ?_);refine goesL_ (some 77) rfl rfl Tryz.func39 kr_ rfl #[.slice ad z.length c0_3,.int .i64 0,.int .i64 (1+((z.length:Int)%5)),.int .i64 (-1),.int .i64 5] rfl ar_ ?_;(with_reducible refine (jigsawref06_numbers.calls kj58 _ _ z 0 (1+((z.length:Int)%5)) (-1) 5 b3 _ ?_ ?_ dV.out).mono ?_);exact ca_ ((cb_ aQ.out HB.out));exact aR.out;rintro e w78 ⟨fQ,rfl,F,hb⟩;refine ⟨_,rfl,?_⟩;have cl:=a_ (Kd.R_lower (Kd.R_new' (Kd.R_new' (Kd.R_new' F (rl_ (vR_ HO_133001.out))) (rl_ (vR_ HO_133002.out))) (rl_ (vR_ HO_133003.out))) (bz_ bel_));replace HO_133001:=a_ (Kd.R_elder' (vR_ HO_133001.out) (rs_ F) hb);replace HO_133002:=a_ (Kd.R_elder' (vR_ HO_133002.out) (rs_ F) hb);replace HO_133003:=a_ (Kd.R_elder' (vR_ HO_133003.out) (rs_ F) hb);replace c:=a_ (bq_ c.out hb);replace d:=a_ (bq_ d.out hb);replace a:=a_ (bq_ a.out hb);replace HB:=hq_ hb;clear hb F;obtain ⟨dB,dC,dD⟩:=Kd.R_slice cl.out;subst dD;have fr:=M.out;have fs:=q.out;obtain ⟨_,_,_,_,_,_,_,_,_,_,_,_,_,_,_,_⟩:=cel8_ a.out))
   go_meet
   exact ⟨_,(b3),(.slice dB b3.length dC),H',⟨by have:=ar.out;have:=al.out;have:=am.out;have:=ao.out;have:=av.out;have:=az.out;first | omega | exact lr_ _⟩,⟨by refine vR_ ?_;exact rm_ (fR_ (rt_ HO_133001.out a.out (by decide))) (fun _ hk=>⟨hk.1.1.1,hk.1.2⟩)⟩,⟨by refine vR_ ?_;exact rm_ (fR_ (rt_ HO_133002.out a.out (by decide))) (fun _ hk=>⟨hk.1.1.1,hk.1.2⟩)⟩,⟨by refine vR_ ?_;exact rm_ (fR_ (rt_ cl.out a.out (by decide))) (fun _ hk=>⟨hk.1.1.1.2,hk.1.1.2⟩)⟩,⟨by refine bk_ ?_;refine blk_far ?_ p.out _;refine bk_ ?_;exact c.out⟩,⟨by refine bk_ ?_;refine blk_far ?_ q.out _;refine bk_ ?_;exact d.out⟩,⟨by refine bk_ ?_;refine bu_ (cs:=#[.int .i64 r,.slice s m.length u,u133002,u133003,.slice none 0 0,.slice none 0 0,.int .i64 0,.slice none 0 0]) ?_ 3 _ rfl;refine bk_ ?_;exact a.out⟩,⟨bel_⟩⟩
  clear b2
  try clear c1
  try clear p1
  try clear q1
  try clear a4
  try clear c2
  try clear p2
  try clear c3
  try clear c4
  try clear c5
  try clear c5b0
  try clear c6
  try clear c6b0
  try clear p6
  try clear c7
  try clear c8
  try clear c10
  try clear c13
  try clear p13
  try clear au
  try clear aG
  try clear c14
  try clear c18
  try clear c21
  try clear c21b0
  try clear c21b1
  try clear c23
  try clear c23b0
  try clear c26
  try clear c26b0
  try clear c31
  try clear c32
  try clear c36
  try clear c37
  try clear c38
  try clear c38b0
  try clear c39
  try clear c40
  try clear c41
  try clear c45
  try clear c49
  try clear c49b0
  try clear c51
  try clear c52
  try clear c56
  try clear c60
  try clear c60b0
  try clear c62
  try clear c63
  try clear c67
  try clear c70
  try clear c71
  try clear c73
  try clear c73b0
  try clear c73b1
  try clear c75
  try clear c76
  try clear c80
  try clear aj
  try clear p1
  try clear p13
  try clear p136
  try clear p2
  try clear p6
  try clear q1
  try clear au
  try clear an
  obtain ⟨kq,aw,u133003,HA,aD,HO_133001,HO_133002,HO_133003,c,d,a,HB⟩:=hcut
  cases kq with
  | zero=>exact absurd HA.out (by simp [jigsawref06_Make.j6])
  | succ kj68 =>
   have H:=HA.out
   clear HA
   simp only [jigsawref06_Make.j6] at H
   replace H:=bo_ H
   obtain ⟨bM,dW,H⟩:=H
   try dsimp only at H
   have b4:=a_ H
   clear H
   go_upto_if 81 with (first|((with_reducible refine gate_callee (f:=37) rfl ?_);refine goesL_ (some 80) rfl rfl Tryz.func37 kr_ rfl #[.string (rdOf ByteArray.empty ag (r)),.int .u8 107] rfl (by (try simp only [List.map_toArray,List.map_cons,List.map_nil]);first | done | (simp only [aE];rfl) | rfl | (simp only [List.length_drop,List.length_take];rfl)) ?_;(with_reducible refine (jigsawref06_has.calls kj68 (rdOf ByteArray.empty ag (r)) 107 bM _ dW.out).mono ?_);rintro e w' ⟨rfl,⟨nd,rfl⟩⟩;refine ⟨_,rfl,?_⟩))
   (try simp only [Act.put,List.setIfInBounds_toArray,List.set_cons_zero,List.set_cons_succ])
   go_cut [] (fun wc=>∃(kq:Nat) (W:Int),Aside0 (jigsawref06_Make.j7 kq G U E I z P Q r m y aw W=some (r1,r2,r3,r4,r5,r6,r7,r8))∧Aside0 (kq≤kj68)∧Aside0 (Kd.R (Kd.int .i64) 3 wc w.heap.size (fun l=>some l≠u133002.ownBlock∧some l≠u133003.ownBlock) (.slice s m.length u) m)∧Aside0 (Kd.R (Kd.int .i64) 3 wc w.heap.size (fun l=>some l≠((.slice s m.length u):Value).ownBlock∧some l≠u133003.ownBlock) u133002 y)∧Aside0 (Kd.R (Kd.int .i64) 3 wc w.heap.size (fun l=>some l≠((.slice s m.length u):Value).ownBlock∧some l≠u133002.ownBlock) u133003 aw)∧Aside0 (wc.heap[V]? = some (.cells #[.int .u8 U,(.slice ak E.length c0_1),(.slice ah I.length c0_2),(.slice ad z.length c0_3),.int .i16 P,.int .u8 Q] 26 (0,0)))∧Aside0 (wc.heap[ac]? = some (.cells #[.int .i64 0,(.slice none 0 0),(.slice none 0 0),(.slice none 0 0),(.slice none 0 0),(.slice none 0 0),.int .i64 0,(.slice none 0 0)] 32 (0,0)))∧Aside0 (wc.heap[A]? = some (.cells #[.int .i64 r,(.slice s m.length u),u133002,u133003,(.slice none 0 0),(.slice none 0 0),.int .i64 W,(.slice none 0 0)] 32 (0,0)))∧Aside0 (Below w.heap.size w wc))
   case first =>
    have H:=b4.out
    clear b4
    by_cases c84:bM>0
    rotate_left
    ·
     rw [ig_ c84] at H
     have c84b0:decide (0<bM)=false:=df_ c84
     clear c84
     (first | rw [c84b0]|(simp only [i64_w,i32_w];rw [c84b0]) | skip)
     have H':=a_ H
     clear H
     go_wp2
     go_meet
     exact ⟨_,(0),H',⟨by have:=ar.out;have:=al.out;have:=am.out;have:=ao.out;have:=av.out;have:=az.out;have:=aD.out;first | omega | exact lr_ _⟩,⟨vR_ HO_133001.out⟩,⟨vR_ HO_133002.out⟩,⟨vR_ HO_133003.out⟩,⟨bk_ c.out⟩,⟨bk_ d.out⟩,⟨bk_ a.out⟩,⟨bel_⟩⟩
    rw [ip_ c84] at H
    have c84b0:decide (0<bM)=true:=dt_ c84
    clear c84
    (first | rw [c84b0]|(simp only [i64_w,i32_w];rw [c84b0]) | skip)
    have H':=a_ H
    clear H
    have ft:=Z.out
    have fu:=aa.out
    have fv:=p.out
    have fw:=J.out
    obtain ⟨_,_,_,_,_,_,_,_,_,_,_,_⟩:=cel6_ c.out
    have fx:=M.out
    have fy:=q.out
    obtain ⟨_,_,_,_,_,_,_,_,_,_,_,_,_,_,_,_⟩:=cel8_ a.out
    go_wp2
    go_meet
    exact ⟨_,(Int.tmod (wrap64 (P)) 12),H',⟨by have:=ar.out;have:=al.out;have:=am.out;have:=ao.out;have:=av.out;have:=az.out;have:=aD.out;first | omega | exact lr_ _⟩,⟨by refine vR_ ?_;exact rm_ (fR_ (rt_ HO_133001.out a.out (by decide))) (fun _ hk=>⟨hk.1.1,hk.1.2⟩)⟩,⟨by refine vR_ ?_;exact rm_ (fR_ (rt_ HO_133002.out a.out (by decide))) (fun _ hk=>⟨hk.1.1,hk.1.2⟩)⟩,⟨by refine vR_ ?_;exact rm_ (fR_ (rt_ HO_133003.out a.out (by decide))) (fun _ hk=>⟨hk.1.1,hk.1.2⟩)⟩,⟨by refine bk_ ?_;refine blk_far ?_ p.out _;refine bk_ ?_;exact c.out⟩,⟨by refine bk_ ?_;refine blk_far ?_ q.out _;refine bk_ ?_;exact d.out⟩,⟨by refine bk_ ?_;refine bu_ (cs:=#[.int .i64 r,.slice s m.length u,u133002,u133003,.slice none 0 0,.slice none 0 0,.int .i64 0,.slice none 0 0]) ?_ 6 _ rfl;refine bk_ ?_;exact a.out⟩,⟨bel_⟩⟩
   clear b4
   try clear c1
   try clear p1
   try clear q1
   try clear a4
   try clear c2
   try clear p2
   try clear c3
   try clear c4
   try clear c5
   try clear c5b0
   try clear c6
   try clear c6b0
   try clear p6
   try clear c7
   try clear c8
   try clear c10
   try clear c13
   try clear p13
   try clear au
   try clear aG
   try clear c14
   try clear c18
   try clear c21
   try clear c21b0
   try clear c21b1
   try clear c23
   try clear c23b0
   try clear c26
   try clear c26b0
   try clear c31
   try clear c32
   try clear c36
   try clear c37
   try clear c38
   try clear c38b0
   try clear c39
   try clear c40
   try clear c41
   try clear c45
   try clear c49
   try clear c49b0
   try clear c51
   try clear c52
   try clear c56
   try clear c60
   try clear c60b0
   try clear c62
   try clear c63
   try clear p64
   try clear c67
   try clear c70
   try clear c71
   try clear c73
   try clear c73b0
   try clear c73b1
   try clear c75
   try clear c76
   try clear c80
   try clear c84
   try clear c84b0
   try clear c85
   try clear c86
   try clear c88
   try clear aj
   try clear p1
   try clear p13
   try clear p136
   try clear p2
   try clear p6
   try clear q1
   try clear au
   try clear an
   obtain ⟨kq,W,HA,aM,HO_133001,HO_133002,HO_133003,c,d,a,HB⟩:=hcut
   cases kq with
   | zero=>exact absurd HA.out (by simp [jigsawref06_Make.j7])
   | succ kj82 =>
    have H:=HA.out
    clear HA
    simp only [jigsawref06_Make.j7] at H
    have b5:=a_ H
    clear H
    have fz:=J.out
    have fA:=p.out
    have fB:=M.out
    have fC:=q.out
    obtain ⟨_,_,_,_,_,_,_,_,_,_,_,_,_,_,_,_⟩:=cel8_ a.out
    go_upto_if 89 with (fail)
    go_cut [] (fun wc=>∃(kq:Nat) (aK:List Int) (ap:List Int) (B:Int) (u133003:Value) (u133004:Value),Aside0 (jigsawref06_Make.j8 kq G U E I z P Q r m y aK ap B=some (r1,r2,r3,r4,r5,r6,r7,r8))∧Aside0 (kq≤kj82)∧Aside0 (Kd.R (Kd.int .i64) 3 wc w.heap.size (fun l=>some l≠u133002.ownBlock∧some l≠u133003.ownBlock∧some l≠u133004.ownBlock) (.slice s m.length u) m)∧Aside0 (Kd.R (Kd.int .i64) 3 wc w.heap.size (fun l=>some l≠((.slice s m.length u):Value).ownBlock∧some l≠u133003.ownBlock∧some l≠u133004.ownBlock) u133002 y)∧Aside0 (Kd.R (Kd.int .i64) 3 wc w.heap.size (fun l=>some l≠((.slice s m.length u):Value).ownBlock∧some l≠u133002.ownBlock∧some l≠u133004.ownBlock) u133003 aK)∧Aside0 (Kd.R (Kd.int .i64) 3 wc w.heap.size (fun l=>some l≠((.slice s m.length u):Value).ownBlock∧some l≠u133002.ownBlock∧some l≠u133003.ownBlock) u133004 ap)∧Aside0 (wc.heap[V]? = some (.cells #[.int .u8 U,(.slice ak E.length c0_1),(.slice ah I.length c0_2),(.slice ad z.length c0_3),.int .i16 P,.int .u8 Q] 26 (0,0)))∧Aside0 (wc.heap[ac]? = some (.cells #[.int .i64 0,(.slice none 0 0),(.slice none 0 0),(.slice none 0 0),(.slice none 0 0),(.slice none 0 0),.int .i64 0,(.slice none 0 0)] 32 (0,0)))∧Aside0 (wc.heap[A]? = some (.cells #[.int .i64 r,(.slice s m.length u),u133002,u133003,u133004,(.slice none 0 0),.int .i64 B,(.slice none 0 0)] 32 (0,0)))∧Aside0 (Below w.heap.size w wc))
    case first =>
     have H:=b5.out
     clear b5
     replace H:=ef_ H
     rcases H with ⟨c94,c94b0,c94b1,H⟩ | ⟨-,c94b0,c94b1,H⟩
     ·
      (first | rw [c94b0]|(simp only [i64_w,i32_w];rw [c94b0]) | skip)
      have H':=a_ H
      clear H
      go_wp2
      go_meet
      exact ⟨_,(aw),(([]:List Int)),(W),(u133003),(.slice none 0 0),H',⟨by have:=ar.out;have:=al.out;have:=am.out;have:=ao.out;have:=av.out;have:=az.out;have:=aD.out;have:=aM.out;first | omega | exact lr_ _⟩,⟨by refine vR_ ?_;exact rm_ HO_133001.out (fun _ hk=>⟨hk.1,⟨hk.2,(by simp [Value.ownBlock])⟩⟩)⟩,⟨by refine vR_ ?_;exact rm_ HO_133002.out (fun _ hk=>⟨hk.1,⟨hk.2,(by simp [Value.ownBlock])⟩⟩)⟩,⟨by refine vR_ ?_;exact rm_ HO_133003.out (fun _ hk=>⟨hk.1,⟨hk.2,(by simp [Value.ownBlock])⟩⟩)⟩,⟨nil_⟩,⟨bk_ c.out⟩,⟨bk_ d.out⟩,⟨bk_ a.out⟩,⟨bel_⟩⟩
     (first | rw [c94b0]|(simp only [i64_w,i32_w];rw [c94b0]) | skip)
     replace H:=bo_ H
     obtain ⟨aN,dl,H⟩:=H
     try dsimp only at H
     replace H:=bo_ H
     obtain ⟨be,dm,H⟩:=H
     try dsimp only at H
     replace H:=cf_ H
     rcases H with ⟨c97b0,H⟩ | ⟨c97b0,H⟩
     ·
      have H':=a_ H
      clear H
      have dZ:=Z.out
      have d0:=aa.out
      have d1:=p.out
      have d2:=J.out
      obtain ⟨_,_,_,_,_,_,_,_,_,_,_,_⟩:=cel6_ c.out
      go_wp2_with (first|((with_reducible refine gate_callee (f:=39) rfl ?_);refine goesL_ (some 93) rfl rfl Tryz.func39 kr_ rfl #[.slice ad z.length c0_3,.int .i64 0,.int .i64 G,.int .i64 0,.int .i64 4] rfl ar_ ?_;(with_reducible refine (jigsawref06_numbers.calls kj82 _ _ z 0 G 0 4 aN _ ?_ ?_ dl.out).mono ?_);exact ca_ ((cb_ aQ.out HB.out));exact aR.out;rintro e w112 ⟨dE,rfl,F,hb⟩;refine ⟨_,rfl,?_⟩;have aA:=a_ (Kd.R_lower (Kd.R_new' (Kd.R_new' (Kd.R_new' F (rl_ (vR_ HO_133001.out))) (rl_ (vR_ HO_133002.out))) (rl_ (vR_ HO_133003.out))) (bz_ bel_));replace HO_133001:=a_ (Kd.R_elder' (vR_ HO_133001.out) (rs_ F) hb);replace HO_133002:=a_ (Kd.R_elder' (vR_ HO_133002.out) (rs_ F) hb);replace HO_133003:=a_ (Kd.R_elder' (vR_ HO_133003.out) (rs_ F) hb);replace c:=a_ (bq_ c.out hb);replace d:=a_ (bq_ d.out hb);replace a:=a_ (bq_ a.out hb);replace HB:=hq_ hb;clear hb F;obtain ⟨bN,bO,cL⟩:=Kd.R_slice aA.out;subst cL;have d3:=M.out;have d4:=q.out;obtain ⟨_,_,_,_,_,_,_,_,_,_,_,_,_,_,_,_⟩:=cel8_ a.out;obtain ⟨_,_,_,_,_,_,_,_,_,_,_,_⟩:=cel6_ c.out)|((with_reducible refine gate_callee (f:=39) rfl ?_);refine goesL_ (some 99) rfl rfl Tryz.func39 kr_ rfl #[.slice ad z.length c0_3,.int .i64 G,.int .i64 G,.int .i64 0,.int .i64 4] rfl ar_ ?_;(with_reducible refine (jigsawref06_numbers.calls kj82 _ _ z G G 0 4 be _ ?_ ?_ dm.out).mono ?_);exact cb_ aQ.out bel_;exact aR.out;rintro e w117 ⟨dF,rfl,F,hb⟩;refine ⟨_,rfl,?_⟩;have bg:=a_ (Kd.R_lower (Kd.R_new' (Kd.R_new' (Kd.R_new' (Kd.R_new' F (rl_ (by refine vR_ ?_;exact (rm_ (fR_ (rt_ HO_133001.out a.out (by decide))) (fun _ h_=>h_.1))))) (rl_ (by refine vR_ ?_;exact (rm_ (fR_ (rt_ HO_133002.out a.out (by decide))) (fun _ h_=>h_.1))))) (rl_ (by refine vR_ ?_;exact (rm_ (fR_ (rt_ HO_133003.out a.out (by decide))) (fun _ h_=>h_.1))))) (rl_ (by refine vR_ ?_;exact (rm_ (fR_ (rt_ aA.out a.out (by decide))) (fun _ h_=>h_.1))))) (bz_ bel_));replace HO_133001:=a_ (Kd.R_elder' (by refine vR_ ?_;exact (rm_ (fR_ (rt_ HO_133001.out a.out (by decide))) (fun _ h_=>h_.1))) (rs_ F) hb);replace HO_133002:=a_ (Kd.R_elder' (by refine vR_ ?_;exact (rm_ (fR_ (rt_ HO_133002.out a.out (by decide))) (fun _ h_=>h_.1))) (rs_ F) hb);replace aA:=a_ (Kd.R_elder' (by refine vR_ ?_;exact (rm_ (fR_ (rt_ aA.out a.out (by decide))) (fun _ h_=>h_.1))) (rs_ F) hb);replace c:=a_ (bb_ (g:=V) (o := .cells #[.int .u8 U,.slice ak E.length c0_1,.slice ah I.length c0_2,.slice ad z.length c0_3,.int .i16 P,.int .u8 Q] 26 (0,0)) (by refine bk_ ?_;refine blk_far ?_ p.out _;refine bk_ ?_;exact c.out) hb);replace d:=a_ (bb_ (g:=ac) (o := .cells #[.int .i64 0,.slice none 0 0,.slice none 0 0,.slice none 0 0,.slice none 0 0,.slice none 0 0,.int .i64 0,.slice none 0 0] 32 (0,0)) (by refine bk_ ?_;refine blk_far ?_ q.out _;refine bk_ ?_;exact d.out) hb);replace a:=a_ (bb_ (g:=A) (o := .cells #[.int .i64 r,.slice s m.length u,u133002,.slice bN aN.length bO,.slice none 0 0,.slice none 0 0,.int .i64 W,.slice none 0 0] 32 (0,0)) (by refine bk_ ?_;refine bu_ (cs:=#[.int .i64 r,.slice s m.length u,u133002,u133003,.slice none 0 0,.slice none 0 0,.int .i64 W,.slice none 0 0]) ?_ 3 _ rfl;refine bk_ ?_;exact a.out) hb);replace HB:=hq_ hb;clear hb F;obtain ⟨cM,cN,cO⟩:=Kd.R_slice bg.out;subst cO;obtain ⟨_,_,_,_,_,_,_,_,_,_,_,_,_,_,_,_⟩:=cel8_ a.out))
      go_meet
      exact ⟨_,(aN),(be),(W),(.slice bN aN.length bO),(.slice cM be.length cN),H',⟨by have:=ar.out;have:=al.out;have:=am.out;have:=ao.out;have:=av.out;have:=az.out;have:=aD.out;have:=aM.out;first | omega | exact lr_ _⟩,⟨by refine vR_ ?_;exact rm_ (fR_ (rt_ HO_133001.out a.out (by decide))) (fun _ hk=>⟨hk.1.1.1.1,⟨hk.1.1.2,hk.1.2⟩⟩)⟩,⟨by refine vR_ ?_;exact rm_ (fR_ (rt_ HO_133002.out a.out (by decide))) (fun _ hk=>⟨hk.1.1.1.1,⟨hk.1.1.2,hk.1.2⟩⟩)⟩,⟨by refine vR_ ?_;exact rm_ (fR_ (rt_ aA.out a.out (by decide))) (fun _ hk=>⟨hk.1.1.1.1.2,⟨hk.1.1.1.2,hk.1.2⟩⟩)⟩,⟨by refine vR_ ?_;exact rm_ (fR_ (rt_ bg.out a.out (by decide))) (fun _ hk=>⟨hk.1.1.1.1.2,⟨hk.1.1.1.2,hk.1.2⟩⟩)⟩,⟨by refine bk_ ?_;refine blk_far ?_ p.out _;refine bk_ ?_;exact c.out⟩,⟨by refine bk_ ?_;refine blk_far ?_ q.out _;refine bk_ ?_;exact d.out⟩,⟨by refine bk_ ?_;refine bu_ (cs:=#[.int .i64 r,.slice s m.length u,u133002,.slice bN aN.length bO,.slice none 0 0,.slice none 0 0,.int .i64 W,.slice none 0 0]) ?_ 4 _ rfl;refine bk_ ?_;exact a.out⟩,⟨bel_⟩⟩
     have H':=a_ H
     clear H
     have fD:=Z.out
     have fE:=aa.out
     have fF:=p.out
     have fG:=J.out
     obtain ⟨_,_,_,_,_,_,_,_,_,_,_,_⟩:=cel6_ c.out
     go_wp2_with (first|((with_reducible refine gate_callee (f:=39) rfl ?_);refine goesL_ (some 93) rfl rfl Tryz.func39 kr_ rfl #[.slice ad z.length c0_3,.int .i64 0,.int .i64 G,.int .i64 0,.int .i64 4] rfl ar_ ?_;(with_reducible refine (jigsawref06_numbers.calls kj82 _ _ z 0 G 0 4 aN _ ?_ ?_ dl.out).mono ?_);exact ca_ ((cb_ aQ.out HB.out));exact aR.out;rintro e w101 ⟨dE,rfl,F,hb⟩;refine ⟨_,rfl,?_⟩;have aA:=a_ (Kd.R_lower (Kd.R_new' (Kd.R_new' (Kd.R_new' F (rl_ (vR_ HO_133001.out))) (rl_ (vR_ HO_133002.out))) (rl_ (vR_ HO_133003.out))) (bz_ bel_));replace HO_133001:=a_ (Kd.R_elder' (vR_ HO_133001.out) (rs_ F) hb);replace HO_133002:=a_ (Kd.R_elder' (vR_ HO_133002.out) (rs_ F) hb);replace HO_133003:=a_ (Kd.R_elder' (vR_ HO_133003.out) (rs_ F) hb);replace c:=a_ (bq_ c.out hb);replace d:=a_ (bq_ d.out hb);replace a:=a_ (bq_ a.out hb);replace HB:=hq_ hb;clear hb F;obtain ⟨br,bs,cJ⟩:=Kd.R_slice aA.out;subst cJ;have dX:=M.out;have dY:=q.out;obtain ⟨_,_,_,_,_,_,_,_,_,_,_,_,_,_,_,_⟩:=cel8_ a.out;obtain ⟨_,_,_,_,_,_,_,_,_,_,_,_⟩:=cel6_ c.out)|((with_reducible refine gate_callee (f:=39) rfl ?_);refine goesL_ (some 99) rfl rfl Tryz.func39 kr_ rfl #[.slice ad z.length c0_3,.int .i64 G,.int .i64 G,.int .i64 0,.int .i64 4] rfl ar_ ?_;(with_reducible refine (jigsawref06_numbers.calls kj82 _ _ z G G 0 4 be _ ?_ ?_ dm.out).mono ?_);exact cb_ aQ.out bel_;exact aR.out;rintro e w106 ⟨dF,rfl,F,hb⟩;refine ⟨_,rfl,?_⟩;have bg:=a_ (Kd.R_lower (Kd.R_new' (Kd.R_new' (Kd.R_new' (Kd.R_new' F (rl_ (by refine vR_ ?_;exact (rm_ (fR_ (rt_ HO_133001.out a.out (by decide))) (fun _ h_=>h_.1))))) (rl_ (by refine vR_ ?_;exact (rm_ (fR_ (rt_ HO_133002.out a.out (by decide))) (fun _ h_=>h_.1))))) (rl_ (by refine vR_ ?_;exact (rm_ (fR_ (rt_ HO_133003.out a.out (by decide))) (fun _ h_=>h_.1))))) (rl_ (by refine vR_ ?_;exact (rm_ (fR_ (rt_ aA.out a.out (by decide))) (fun _ h_=>h_.1))))) (bz_ bel_));replace HO_133001:=a_ (Kd.R_elder' (by refine vR_ ?_;exact (rm_ (fR_ (rt_ HO_133001.out a.out (by decide))) (fun _ h_=>h_.1))) (rs_ F) hb);replace HO_133002:=a_ (Kd.R_elder' (by refine vR_ ?_;exact (rm_ (fR_ (rt_ HO_133002.out a.out (by decide))) (fun _ h_=>h_.1))) (rs_ F) hb);replace HO_133003:=a_ (Kd.R_elder' (by refine vR_ ?_;exact (rm_ (fR_ (rt_ HO_133003.out a.out (by decide))) (fun _ h_=>h_.1))) (rs_ F) hb);replace aA:=a_ (Kd.R_elder' (by refine vR_ ?_;exact (rm_ (fR_ (rt_ aA.out a.out (by decide))) (fun _ h_=>h_.1))) (rs_ F) hb);replace c:=a_ (bb_ (g:=V) (o := .cells #[.int .u8 U,.slice ak E.length c0_1,.slice ah I.length c0_2,.slice ad z.length c0_3,.int .i16 P,.int .u8 Q] 26 (0,0)) (by refine bk_ ?_;refine blk_far ?_ p.out _;refine bk_ ?_;exact c.out) hb);replace d:=a_ (bb_ (g:=ac) (o := .cells #[.int .i64 0,.slice none 0 0,.slice none 0 0,.slice none 0 0,.slice none 0 0,.slice none 0 0,.int .i64 0,.slice none 0 0] 32 (0,0)) (by refine bk_ ?_;refine blk_far ?_ q.out _;refine bk_ ?_;exact d.out) hb);replace a:=a_ (bb_ (g:=A) (o := .cells #[.int .i64 r,.slice s m.length u,u133002,.slice br aN.length bs,.slice none 0 0,.slice none 0 0,.int .i64 W,.slice none 0 0] 32 (0,0)) (by refine bk_ ?_;refine bu_ (cs:=#[.int .i64 r,.slice s m.length u,u133002,u133003,.slice none 0 0,.slice none 0 0,.int .i64 W,.slice none 0 0]) ?_ 3 _ rfl;refine bk_ ?_;exact a.out) hb);replace HB:=hq_ hb;clear hb F;obtain ⟨cm,cn,cK⟩:=Kd.R_slice bg.out;subst cK;obtain ⟨_,_,_,_,_,_,_,_,_,_,_,_,_,_,_,_⟩:=cel8_ a.out))
     go_meet
     exact ⟨_,(aN),(be),(wrap64 (-W)),(.slice br aN.length bs),(.slice cm be.length cn),H',⟨by have:=ar.out;have:=al.out;have:=am.out;have:=ao.out;have:=av.out;have:=az.out;have:=aD.out;have:=aM.out;first | omega | exact lr_ _⟩,⟨by refine vR_ ?_;exact rm_ (fR_ (fR_ (rt_ HO_133001.out a.out (by decide)))) (fun _ hk=>⟨hk.1.1.1.1,⟨hk.1.1.2,hk.1.2⟩⟩)⟩,⟨by refine vR_ ?_;exact rm_ (fR_ (fR_ (rt_ HO_133002.out a.out (by decide)))) (fun _ hk=>⟨hk.1.1.1.1,⟨hk.1.1.2,hk.1.2⟩⟩)⟩,⟨by refine vR_ ?_;exact rm_ (fR_ (fR_ (rt_ aA.out a.out (by decide)))) (fun _ hk=>⟨hk.1.1.1.1.2,⟨hk.1.1.1.2,hk.1.2⟩⟩)⟩,⟨by refine vR_ ?_;exact rm_ (fR_ (fR_ (rt_ bg.out a.out (by decide)))) (fun _ hk=>⟨hk.1.1.1.1.2,⟨hk.1.1.1.2,hk.1.2⟩⟩)⟩,⟨by refine bk_ ?_;refine blk_far ?_ p.out _;refine bk_ ?_;refine blk_far ?_ p.out _;refine bk_ ?_;exact c.out⟩,⟨by refine bk_ ?_;refine blk_far ?_ q.out _;refine bk_ ?_;refine blk_far ?_ q.out _;refine bk_ ?_;exact d.out⟩,⟨by refine bk_ ?_;refine bu_ (cs:=#[.int .i64 r,.slice s m.length u,u133002,.slice br aN.length bs,.slice cm be.length cn,.slice none 0 0,.int .i64 W,.slice none 0 0]) ?_ 6 _ rfl;refine bk_ ?_;refine bu_ (cs:=#[.int .i64 r,.slice s m.length u,u133002,.slice br aN.length bs,.slice none 0 0,.slice none 0 0,.int .i64 W,.slice none 0 0]) ?_ 4 _ rfl;refine bk_ ?_;exact a.out⟩,⟨bel_⟩⟩
    clear b5
    try clear c1
    try clear p1
    try clear q1
    try clear a4
    try clear c2
    try clear p2
    try clear c3
    try clear c4
    try clear c5
    try clear c5b0
    try clear c6
    try clear c6b0
    try clear p6
    try clear c7
    try clear c8
    try clear c9
    try clear c10
    try clear c11
    try clear c13
    try clear p13
    try clear au
    try clear aG
    try clear c14
    try clear c18
    try clear c21
    try clear c21b0
    try clear c21b1
    try clear c23
    try clear c23b0
    try clear c26
    try clear c26b0
    try clear c31
    try clear c32
    try clear c36
    try clear c37
    try clear c38
    try clear c38b0
    try clear c39
    try clear c40
    try clear c41
    try clear c45
    try clear c49
    try clear c49b0
    try clear c51
    try clear c52
    try clear c56
    try clear c60
    try clear c60b0
    try clear c62
    try clear c63
    try clear p64
    try clear c67
    try clear c70
    try clear c71
    try clear c73
    try clear c73b0
    try clear c73b1
    try clear c75
    try clear c76
    try clear c80
    try clear c84
    try clear c84b0
    try clear c85
    try clear c86
    try clear c88
    try clear c91
    try clear c92
    try clear c94
    try clear c94b0
    try clear c94b1
    try clear c97
    try clear c97b0
    try clear c98
    try clear c99
    try clear c103
    try clear c109
    try clear c110
    try clear c114
    try clear aj
    try clear p1
    try clear p13
    try clear p136
    try clear p2
    try clear p6
    try clear p64
    try clear q1
    try clear au
    try clear an
    obtain ⟨kq,aK,ap,B,u133003,u133004,HA,a5,HO_133001,HO_133002,HO_133003,HO_133004,c,d,a,HB⟩:=hcut
    cases kq with
    | zero=>exact absurd HA.out (by simp [jigsawref06_Make.j8])
    | succ kj89 =>
     have H:=HA.out
     clear HA
     simp only [jigsawref06_Make.j8] at H
     exact jigsawref06_Make.part9 cE cF cf cg aQ aR A3 aE cG eL cH eM Z aa cI eP p J q M ar al am dO ao av az aD aM HO_133001 HO_133002 HO_133003 HO_133004 c d a HB a5 H (by assumption) (by kernel_rfl)
theorem jigsawref06_Make.calls (k:Nat) (U:Int) (ak:Option Addr) (c0_1:Nat) (E:List Int) (ah:Option Addr) (c0_2:Nat) (I:List Int) (ad:Option Addr) (c0_3:Nat) (z:List Int) (P:Int) (Q:Int) (a1:Int) (r1:Int) (r2:List Int) (r3:List Int) (r4:List Int) (r5:List Int) (r6:List Int) (r7:Int) (r8:List (List Int)) (w:World) (b9:Kd.C (Kd.int .u8) w ak E.length E) (ca:E.length≤c0_1) (cb:Kd.C (Kd.int .u8) w ah I.length I) (cc:I.length≤c0_2) (cd:Kd.C (Kd.int .i8) w ad z.length z) (ce:z.length≤c0_3) (h:jigsawref06_Make.f k U E I z P Q a1=some (r1,r2,r3,r4,r5,r6,r7,r8)) :
  Calls Tryz.prog 18 #[.agg #[.int .u8 U,.slice ak E.length c0_1,.slice ah I.length c0_2,.slice ad z.length c0_3,.int .i16 P,.int .u8 Q],.int .i64 a1] w fun e w'=>∃bA bB bC bD bE dk:Value,e = .returned (.agg #[.int .i64 r1,bA,bB,bC,bD,bE,.int .i64 r7,dk])∧Kd.R (Kd.int .i64) 3 w' w.heap.size (fun l=>some l≠bB.ownBlock∧some l≠bC.ownBlock∧some l≠bD.ownBlock∧some l≠bE.ownBlock) bA r2∧Kd.R (Kd.int .i64) 3 w' w.heap.size (fun l=>some l≠bA.ownBlock∧some l≠bC.ownBlock∧some l≠bD.ownBlock∧some l≠bE.ownBlock) bB r3∧Kd.R (Kd.int .i64) 3 w' w.heap.size (fun l=>some l≠bA.ownBlock∧some l≠bB.ownBlock∧some l≠bD.ownBlock∧some l≠bE.ownBlock) bC r4∧Kd.R (Kd.int .i64) 3 w' w.heap.size (fun l=>some l≠bA.ownBlock∧some l≠bB.ownBlock∧some l≠bC.ownBlock∧some l≠bE.ownBlock) bD r5∧Kd.R (Kd.int .i64) 3 w' w.heap.size (fun l=>some l≠bA.ownBlock∧some l≠bB.ownBlock∧some l≠bC.ownBlock∧some l≠bD.ownBlock) bE r6∧Kd.S (Kd.slice 3 (Kd.int .i64)) 30 w' w.heap.size (fun l=>some l≠bA.ownBlock∧some l≠bB.ownBlock∧some l≠bC.ownBlock∧some l≠bD.ownBlock∧some l≠bE.ownBlock) dk r8∧Below w.heap.size w w':=by
 have hu26:=Tryz.underlying26
 have hu32:=Tryz.underlying32
 have cE:=a_ b9
 have cF:=a_ ca
 clear b9 ca
 have cf:=a_ cb
 have cg:=a_ cc
 clear cb cc
 have aQ:=a_ cd
 have aR:=a_ ce
 clear cd ce
 have HB:=a_ (Below.refl w.heap.size w)
 unfold jigsawref06_Make.f at h
 have H:=h
 clear h
 replace H:=bo_ H
 obtain ⟨ag,A3,H⟩:=H
 try dsimp only at H
 obtain ⟨r,aE⟩:∃j_:Int,(wrap64 (1+(Int.tmod (wrap64 (U)) 23)))=j_:=⟨_,rfl⟩
 replace H:(if 0≤(r) then (if (r)<(ag.length:Int) then (if (E.length:Int)<1 then (jigsawref06_Make.j0 k a1 (rdOf ByteArray.empty ag (r)) 1 U E I z P Q r 0) else (jigsawref06_Make.j0 k a1 (rdOf ByteArray.empty ag (r)) (E.length:Int) U E I z P Q r 0)) else (none)) else (none))=some (r1,r2,r3,r4,r5,r6,r7,r8):=by first|(rw [aE] at H;exact H)|(simp only [aE] at H ⊢;exact H)
 (try rw [aE] at A3)
 have hji4w:(IntKind.i64.wrap (1+(Int.tmod (wrap64 (U)) 23)))=r:=(i64_w _).trans aE
 replace H:=gu_ H
 obtain ⟨c5b0,H⟩:=H
 replace H:=gu_ H
 obtain ⟨c6b0,H⟩:=H
 have cA:=a_ H
 clear H
 go_enter Tryz.func18,Tryz.ntmps18
 try go_wp2_with (first|((with_reducible refine gate_dst (N:=2) rfl ?_);refine bxe_ (N:=2) (cs:=#[.int .u8 U,.slice ak E.length c0_1,.slice ah I.length c0_2,.slice ad z.length c0_3,.int .i16 P,.int .u8 Q]) (t:=26) ?_;intro V hg w8 hbox hb;have c:=a_ (hbox);have cG:=a_ (by rw [hg];exact (bz_ bel_):w.heap.size≤V);have eL:=cG;replace HB:=hq_ hb;clear hb hbox hg)|((with_reducible refine gate_dst (N:=4) rfl ?_);refine bxe_ (N:=4) (cs:=#[.int .i64 0,.slice none 0 0,.slice none 0 0,.slice none 0 0,.slice none 0 0,.slice none 0 0,.int .i64 0,.slice none 0 0]) (t:=32) ?_;intro ac hg w9 hbox hb;have d:=a_ (hbox);have cH:=a_ (by rw [hg];exact (bz_ bel_):w.heap.size≤ac);have eM:=cH;replace HB:=hq_ hb;have Z:=a_ ((by rw [hg];exact Nat.ne_of_lt (blk_lt (bk_ c.out)):V≠ac));have aa:=a_ ((by rw [hg];exact Nat.ne_of_gt (blk_lt (bk_ c.out)):ac≠V));replace c:=a_ (bq_ c.out hb);clear hb hbox hg;have eN:=Z.out;have eO:=aa.out;obtain ⟨_,_,_,_,_,_,_,_,_,_,_,_⟩:=cel6_ c.out)|((with_reducible refine gate_dst (N:=5) rfl ?_);refine bxe_ (N:=5) (cs:=#[.int .i64 0,.slice none 0 0,.slice none 0 0,.slice none 0 0,.slice none 0 0,.slice none 0 0,.int .i64 0,.slice none 0 0]) (t:=32) ?_;intro A hg w12 hbox hb;have a:=a_ (hbox);have cI:=a_ (by rw [hg];exact (bz_ bel_):w.heap.size≤A);have eP:=cI;replace HB:=hq_ hb;have p:=a_ ((by rw [hg];exact Nat.ne_of_lt (blk_lt (bk_ c.out)):V≠A));have J:=a_ ((by rw [hg];exact Nat.ne_of_gt (blk_lt (bk_ c.out)):A≠V));replace c:=a_ (bq_ c.out hb);have q:=a_ ((by rw [hg];exact Nat.ne_of_lt (blk_lt (bk_ d.out)):ac≠A));have M:=a_ ((by rw [hg];exact Nat.ne_of_gt (blk_lt (bk_ d.out)):A≠ac));replace d:=a_ (bq_ d.out hb);clear hb hbox hg;have eQ:=J.out;have eR:=p.out;have eS:=M.out;have eT:=q.out;obtain ⟨_,_,_,_,_,_,_,_,_,_,_,_,_,_,_,_⟩:=cel8_ a.out))
 obtain ⟨w16,hq_⟩:∃x,x=((((((((w12.setCell ⟨A,0,none⟩ (.int .i64 r)).setCell ⟨A,1,none⟩ (.slice none 0 0)).setCell ⟨A,2,none⟩ (.slice none 0 0)).setCell ⟨A,3,none⟩ (.slice none 0 0)).setCell ⟨A,4,none⟩ (.slice none 0 0)).setCell ⟨A,5,none⟩ (.slice none 0 0)).setCell ⟨A,6,none⟩ (.int .i64 0)).setCell ⟨A,7,none⟩ (.slice none 0 0)):=⟨_,rfl⟩
 replace c:Aside0 (w16.heap[V]? = some (.cells #[.int .u8 U,.slice ak E.length c0_1,.slice ah I.length c0_2,.slice ad z.length c0_3,.int .i16 P,.int .u8 Q] 26 (0,0))):=⟨by subst hq_;refine bk_ ?_;refine blk_far ?_ p.out _;refine bk_ ?_;refine blk_far ?_ p.out _;refine bk_ ?_;refine blk_far ?_ p.out _;refine bk_ ?_;refine blk_far ?_ p.out _;refine bk_ ?_;refine blk_far ?_ p.out _;refine bk_ ?_;refine blk_far ?_ p.out _;refine bk_ ?_;refine blk_far ?_ p.out _;refine bk_ ?_;refine blk_far ?_ p.out _;refine bk_ ?_;exact c.out⟩
 replace d:Aside0 (w16.heap[ac]? = some (.cells #[.int .i64 0,.slice none 0 0,.slice none 0 0,.slice none 0 0,.slice none 0 0,.slice none 0 0,.int .i64 0,.slice none 0 0] 32 (0,0))):=⟨by subst hq_;refine bk_ ?_;refine blk_far ?_ q.out _;refine bk_ ?_;refine blk_far ?_ q.out _;refine bk_ ?_;refine blk_far ?_ q.out _;refine bk_ ?_;refine blk_far ?_ q.out _;refine bk_ ?_;refine blk_far ?_ q.out _;refine bk_ ?_;refine blk_far ?_ q.out _;refine bk_ ?_;refine blk_far ?_ q.out _;refine bk_ ?_;refine blk_far ?_ q.out _;refine bk_ ?_;exact d.out⟩
 replace a:Aside0 (w16.heap[A]? = some (.cells #[.int .i64 r,.slice none 0 0,.slice none 0 0,.slice none 0 0,.slice none 0 0,.slice none 0 0,.int .i64 0,.slice none 0 0] 32 (0,0))):=⟨by subst hq_;refine bk_ ?_;refine bu_ (cs:=#[.int .i64 r,.slice none 0 0,.slice none 0 0,.slice none 0 0,.slice none 0 0,.slice none 0 0,.int .i64 0,.slice none 0 0]) ?_ 7 _ rfl;refine bk_ ?_;refine bu_ (cs:=#[.int .i64 r,.slice none 0 0,.slice none 0 0,.slice none 0 0,.slice none 0 0,.slice none 0 0,.int .i64 0,.slice none 0 0]) ?_ 6 _ rfl;refine bk_ ?_;refine bu_ (cs:=#[.int .i64 r,.slice none 0 0,.slice none 0 0,.slice none 0 0,.slice none 0 0,.slice none 0 0,.int .i64 0,.slice none 0 0]) ?_ 5 _ rfl;refine bk_ ?_;refine bu_ (cs:=#[.int .i64 r,.slice none 0 0,.slice none 0 0,.slice none 0 0,.slice none 0 0,.slice none 0 0,.int .i64 0,.slice none 0 0]) ?_ 4 _ rfl;refine bk_ ?_;refine bu_ (cs:=#[.int .i64 r,.slice none 0 0,.slice none 0 0,.slice none 0 0,.slice none 0 0,.slice none 0 0,.int .i64 0,.slice none 0 0]) ?_ 3 _ rfl;refine bk_ ?_;refine bu_ (cs:=#[.int .i64 r,.slice none 0 0,.slice none 0 0,.slice none 0 0,.slice none 0 0,.slice none 0 0,.int .i64 0,.slice none 0 0]) ?_ 2 _ rfl;refine bk_ ?_;refine bu_ (cs:=#[.int .i64 r,.slice none 0 0,.slice none 0 0,.slice none 0 0,.slice none 0 0,.slice none 0 0,.int .i64 0,.slice none 0 0]) ?_ 1 _ rfl;refine bk_ ?_;refine bu_ (cs:=#[.int .i64 0,.slice none 0 0,.slice none 0 0,.slice none 0 0,.slice none 0 0,.slice none 0 0,.int .i64 0,.slice none 0 0]) ?_ 0 _ rfl;refine bk_ ?_;exact a.out⟩
 replace HB:Aside0 (Below w.heap.size w w16):=⟨by subst hq_;exact bel_⟩
 rw [←hq_]
 clear hq_
 replace c:=a_ (blk_drew c.out)
 replace d:=a_ (blk_drew d.out)
 replace a:=a_ (blk_drew a.out)
 replace HB:=a_ (below_drew1 HB.out)
 refine start_ (n:=6) (S:=fun w'=>w'.cell? ⟨A,0,none⟩=some (.int .i64 r)∧w'.cell? ⟨A,1,none⟩=some (.slice none 0 0)∧w'.cell? ⟨A,2,none⟩=some (.slice none 0 0)∧w'.cell? ⟨A,3,none⟩=some (.slice none 0 0)∧w'.cell? ⟨A,4,none⟩=some (.slice none 0 0)∧w'.cell? ⟨A,5,none⟩=some (.slice none 0 0)∧w'.cell? ⟨A,6,none⟩=some (.int .i64 0)∧w'.cell? ⟨A,7,none⟩=some (.slice none 0 0)) (ds:=[]) #[false,false,false,false,false,false] kr_ rfl rfl (ca8_ a.out) (fun hHeld=>?_)
 generalize w16.drew=w17 at c d a HB hHeld ⊢
 refine pn_ 1 20 kr_ ?_
 refine tn_ 2 21 kr_ hHeld ?_
 refine onn_ 0 19 #[true,true,true,false,false,false] rfl rfl kr_ (by decide) (fun K hK=>?_)
 refine goes_ Tryz.func36 kr_ rfl #[] (by rfl) rfl rfl ar_ ?_
 with_reducible refine (jigsawref06_Shapes.calls ag _ A3.out).mono ?_
 rintro e w18 ⟨fJ,rfl,F,hb⟩
 refine ⟨_,rfl,?_⟩
 have ch:=a_ (Kd.R_lower F (bz_ bel_))
 replace c:=a_ (bq_ c.out hb)
 replace d:=a_ (bq_ d.out hb)
 replace a:=a_ (bq_ a.out hb)
 replace HB:=hq_ hb
 clear hb F
 obtain ⟨fK,fL,cB⟩:=Kd.R_slice ch.out
 (first | subst cB | (injection cB with f1_ f2_ f3_;have f4_:=f1_.symm;have f5_:=f3_.symm;clear f1_ f2_ f3_;subst f4_;subst f5_))
 have p136:0≤((r):Int):=dq_
 have an:(r)<(ag.length:Int):=dq_
 obtain ⟨eU,dp,aj⟩:=Kd.at_string (rr_ ch.out).2.2 (r) p136 an
 cases dp
 replace p136:=et_ p136
 replace an:=et_ an
 refine hK.out _ _ (ca8_ a.out) (fun hHeld=>?_)
 clear hK K
 refine nor_ (N:=some 19) ?_
 refine pn_ 3 22 kr_ ?_
 refine onn_ 4 23 #[true,true,true,true,true,false] rfl rfl kr_ (by decide) (fun K hK=>?_)
 skip
 refine value_ (w1:=?_) (v:=?_) (by rfl) rfl ?_ ?_
 rotate_left 2
 ·
  go_simp
  constructor
  · rfl
  rfl
 skip
 refine hK.out _ _ (ca8_ a.out) (fun hHeld=>?_)
 clear hK K
 refine nor_ (N:=some 23) ?_
 refine pn_ 5 6 kr_ ?_
 refine done_ kr_ ?_
 obtain ⟨_,_,_,_,_,_,_,_,_,_,_,_⟩:=cel6_ c.out
 go_upto_if 28 with (fail)
 go_cut [7] (fun v7 wc=>∃(kq:Nat) (bd:Int),v7 = .int .i64 bd∧Aside0 (jigsawref06_Make.j0 kq a1 (rdOf ByteArray.empty ag (r)) bd U E I z P Q r 0=some (r1,r2,r3,r4,r5,r6,r7,r8))∧Aside0 (kq≤k)∧Aside0 (wc.heap[V]? = some (.cells #[.int .u8 U,(.slice ak E.length c0_1),(.slice ah I.length c0_2),(.slice ad z.length c0_3),.int .i16 P,.int .u8 Q] 26 (0,0)))∧Aside0 (wc.heap[ac]? = some (.cells #[.int .i64 0,(.slice none 0 0),(.slice none 0 0),(.slice none 0 0),(.slice none 0 0),(.slice none 0 0),.int .i64 0,(.slice none 0 0)] 32 (0,0)))∧Aside0 (wc.heap[A]? = some (.cells #[.int .i64 r,(.slice none 0 0),(.slice none 0 0),(.slice none 0 0),(.slice none 0 0),(.slice none 0 0),.int .i64 0,(.slice none 0 0)] 32 (0,0)))∧Aside0 (Below w.heap.size w wc))
 case first =>
  have H:=cA.out
  clear cA
  by_cases c21:(E.length:Int)<1
  ·
   rw [ip_ c21] at H
   have c21b0:decide ((E.length:Int)<1)=true:=dt_ c21
   have c21b1:decide (E.length<1)=true:=dt_ (by omega)
   clear c21
   (first | rw [c21b0]|(simp only [i64_w,i32_w];rw [c21b0]) | skip)
   have H':=a_ H
   clear H
   go_wp2
   go_meet
   exact ⟨_,(1),eq_,H',⟨by first | omega | exact lr_ _⟩,⟨bk_ c.out⟩,⟨bk_ d.out⟩,⟨bk_ a.out⟩,⟨bel_⟩⟩
  rw [ig_ c21] at H
  have c21b0:decide ((E.length:Int)<1)=false:=df_ c21
  have c21b1:decide (E.length<1)=false:=df_ (by omega)
  clear c21
  (first | rw [c21b0]|(simp only [i64_w,i32_w];rw [c21b0]) | skip)
  have H':=a_ H
  clear H
  go_wp2
  go_meet
  exact ⟨_,((E.length:Int)),eq_,H',⟨by first | omega | exact lr_ _⟩,⟨bk_ c.out⟩,⟨bk_ d.out⟩,⟨bk_ a.out⟩,⟨bel_⟩⟩
 clear cA
 try clear c1
 try clear p1
 try clear q1
 try clear a4
 try clear c2
 try clear p2
 try clear c3
 try clear c5
 try clear c5b0
 try clear c6
 try clear c6b0
 try clear p6
 try clear c10
 try clear c13
 try clear p13
 try clear au
 try clear aG
 try clear c14
 try clear c18
 try clear c21
 try clear c21b0
 try clear c21b1
 try clear aj
 try clear p136
 try clear an
 obtain ⟨kq,bd,rfl,HA,ar,c,d,a,HB⟩:=hcut
 cases kq with
 | zero=>exact absurd HA.out (by simp [jigsawref06_Make.j0])
 | succ kj6 =>
  have H:=HA.out
  clear HA
  simp only [jigsawref06_Make.j0] at H
  have bU:=a_ H
  clear H
  go_upto_if 30 with (fail)
  go_cut [7] (fun v7 wc=>∃(kq:Nat) (bq:Int),v7 = .int .i64 bq∧Aside0 (jigsawref06_Make.j1 kq a1 (rdOf ByteArray.empty ag (r)) bq U E I z P Q r 0=some (r1,r2,r3,r4,r5,r6,r7,r8))∧Aside0 (kq≤kj6)∧Aside0 (wc.heap[V]? = some (.cells #[.int .u8 U,(.slice ak E.length c0_1),(.slice ah I.length c0_2),(.slice ad z.length c0_3),.int .i16 P,.int .u8 Q] 26 (0,0)))∧Aside0 (wc.heap[ac]? = some (.cells #[.int .i64 0,(.slice none 0 0),(.slice none 0 0),(.slice none 0 0),(.slice none 0 0),(.slice none 0 0),.int .i64 0,(.slice none 0 0)] 32 (0,0)))∧Aside0 (wc.heap[A]? = some (.cells #[.int .i64 r,(.slice none 0 0),(.slice none 0 0),(.slice none 0 0),(.slice none 0 0),(.slice none 0 0),.int .i64 0,(.slice none 0 0)] 32 (0,0)))∧Aside0 (Below w.heap.size w wc))
  case first =>
   have H:=bU.out
   clear bU
   by_cases c23:bd>4
   ·
    rw [ip_ c23] at H
    have c23b0:decide (4<bd)=true:=dt_ c23
    clear c23
    (first | rw [c23b0]|(simp only [i64_w,i32_w];rw [c23b0]) | skip)
    have H':=a_ H
    clear H
    go_wp2
    go_meet
    exact ⟨_,(4),eq_,H',⟨by have:=ar.out;first | omega | exact lr_ _⟩,⟨bk_ c.out⟩,⟨bk_ d.out⟩,⟨bk_ a.out⟩,⟨bel_⟩⟩
   rw [ig_ c23] at H
   have c23b0:decide (4<bd)=false:=df_ c23
   clear c23
   (first | rw [c23b0]|(simp only [i64_w,i32_w];rw [c23b0]) | skip)
   have H':=a_ H
   clear H
   go_wp2
   go_meet
   exact ⟨_,(bd),eq_,H',⟨by have:=ar.out;first | omega | exact lr_ _⟩,⟨bk_ c.out⟩,⟨bk_ d.out⟩,⟨bk_ a.out⟩,⟨bel_⟩⟩
  clear bU
  try clear c1
  try clear p1
  try clear q1
  try clear a4
  try clear c2
  try clear p2
  try clear c3
  try clear c5
  try clear c5b0
  try clear c6
  try clear c6b0
  try clear p6
  try clear c10
  try clear c13
  try clear p13
  try clear au
  try clear aG
  try clear c14
  try clear c18
  try clear c21
  try clear c21b0
  try clear c21b1
  try clear c23
  try clear c23b0
  try clear aj
  try clear p1
  try clear p13
  try clear p136
  try clear p2
  try clear p6
  try clear q1
  try clear au
  try clear an
  obtain ⟨kq,bq,rfl,HA,al,c,d,a,HB⟩:=hcut
  cases kq with
  | zero=>exact absurd HA.out (by simp [jigsawref06_Make.j1])
  | succ kj21 =>
   have H:=HA.out
   clear HA
   simp only [jigsawref06_Make.j1] at H
   replace H:=bo_ H
   obtain ⟨bI,dM,H⟩:=H
   try dsimp only at H
   have bV:=a_ H
   clear H
   go_upto_if 33 with (first|((with_reducible refine gate_callee (f:=37) rfl ?_);refine goesL_ (some 32) rfl rfl Tryz.func37 kr_ rfl #[.string (rdOf ByteArray.empty ag (r)),.int .u8 118] rfl (by (try simp only [List.map_toArray,List.map_cons,List.map_nil]);first | done | (simp only [aE];rfl) | rfl | (simp only [List.length_drop,List.length_take];rfl)) ?_;(with_reducible refine (jigsawref06_has.calls kj21 (rdOf ByteArray.empty ag (r)) 118 bI _ dM.out).mono ?_);rintro e w' ⟨rfl,⟨nd,rfl⟩⟩;refine ⟨_,rfl,?_⟩))
   (try simp only [Act.put,List.setIfInBounds_toArray,List.set_cons_zero,List.set_cons_succ])
   go_cut [7] (fun v7 wc=>∃(kq:Nat) (G:Int),v7 = .int .i64 G∧Aside0 (jigsawref06_Make.j2 kq a1 (rdOf ByteArray.empty ag (r)) G U E I z P Q r 0=some (r1,r2,r3,r4,r5,r6,r7,r8))∧Aside0 (kq≤kj21)∧Aside0 (wc.heap[V]? = some (.cells #[.int .u8 U,(.slice ak E.length c0_1),(.slice ah I.length c0_2),(.slice ad z.length c0_3),.int .i16 P,.int .u8 Q] 26 (0,0)))∧Aside0 (wc.heap[ac]? = some (.cells #[.int .i64 0,(.slice none 0 0),(.slice none 0 0),(.slice none 0 0),(.slice none 0 0),(.slice none 0 0),.int .i64 0,(.slice none 0 0)] 32 (0,0)))∧Aside0 (wc.heap[A]? = some (.cells #[.int .i64 r,(.slice none 0 0),(.slice none 0 0),(.slice none 0 0),(.slice none 0 0),(.slice none 0 0),.int .i64 0,(.slice none 0 0)] 32 (0,0)))∧Aside0 (Below w.heap.size w wc))
   case first =>
    have H:=bV.out
    clear bV
    by_cases c26:bI>0
    rotate_left
    ·
     rw [ig_ c26] at H
     have c26b0:decide (0<bI)=false:=df_ c26
     clear c26
     (first | rw [c26b0]|(simp only [i64_w,i32_w];rw [c26b0]) | skip)
     have H':=a_ H
     clear H
     go_wp2
     go_meet
     exact ⟨_,(bq),eq_,H',⟨by have:=ar.out;have:=al.out;first | omega | exact lr_ _⟩,⟨bk_ c.out⟩,⟨bk_ d.out⟩,⟨bk_ a.out⟩,⟨bel_⟩⟩
    rw [ip_ c26] at H
    have c26b0:decide (0<bI)=true:=dt_ c26
    clear c26
    (first | rw [c26b0]|(simp only [i64_w,i32_w];rw [c26b0]) | skip)
    replace H:=bo_ H
    obtain ⟨cD,dN,H⟩:=H
    try dsimp only at H
    have H':=a_ H
    clear H
    go_wp2_with (first|((with_reducible refine gate_callee (f:=37) rfl ?_);refine goesL_ (some 35) rfl rfl Tryz.func37 kr_ rfl #[.string (rdOf ByteArray.empty ag (r)),.int .u8 118] rfl (by (try simp only [List.map_toArray,List.map_cons,List.map_nil]);first | done | (simp only [aE];rfl) | rfl | (simp only [List.length_drop,List.length_take];rfl)) ?_;(with_reducible refine (jigsawref06_has.calls kj21 (rdOf ByteArray.empty ag (r)) 118 cD _ dN.out).mono ?_);rintro e w' ⟨rfl,⟨nd,rfl⟩⟩;refine ⟨_,rfl,?_⟩))
    go_meet
    exact ⟨_,(cD),eq_,H',⟨by have:=ar.out;have:=al.out;first | omega | exact lr_ _⟩,⟨bk_ c.out⟩,⟨bk_ d.out⟩,⟨bk_ a.out⟩,⟨bel_⟩⟩
   clear bV
   try clear c1
   try clear p1
   try clear q1
   try clear a4
   try clear c2
   try clear p2
   try clear c3
   try clear c5
   try clear c5b0
   try clear c6
   try clear c6b0
   try clear p6
   try clear c10
   try clear c13
   try clear p13
   try clear au
   try clear aG
   try clear c14
   try clear c18
   try clear c21
   try clear c21b0
   try clear c21b1
   try clear c23
   try clear c23b0
   try clear c26
   try clear c26b0
   try clear aj
   try clear p1
   try clear p13
   try clear p136
   try clear p2
   try clear p6
   try clear q1
   try clear au
   try clear an
   obtain ⟨kq,G,rfl,HA,am,c,d,a,HB⟩:=hcut
   cases kq with
   | zero=>exact absurd HA.out (by simp [jigsawref06_Make.j2])
   | succ kj24 =>
    have H:=HA.out
    clear HA
    simp only [jigsawref06_Make.j2] at H
    replace H:=bo_ H
    obtain ⟨m,dO,H⟩:=H
    try dsimp only at H
    replace H:=bo_ H
    obtain ⟨bJ,dP,H⟩:=H
    try dsimp only at H
    have bW:=a_ H
    clear H
    have eV:=Z.out
    have eW:=aa.out
    have eX:=p.out
    have eY:=J.out
    obtain ⟨_,_,_,_,_,_,_,_,_,_,_,_⟩:=cel6_ c.out
    go_upto_if 44 with (first|((with_reducible refine gate_callee (f:=38) rfl ?_);refine goesL_ (some 40) rfl rfl Tryz.func38 kr_ rfl #[.slice ak E.length c0_1,.int .i64 G,.int .i64 a1] rfl ar_ ?_;(with_reducible refine (jigsawref06_places.calls kj24 _ _ E G a1 m _ ?_ ?_ dO.out).mono ?_);exact ca_ ((cb_ cE.out HB.out));exact cF.out;rintro e w34 ⟨fM,rfl,F,hb⟩;refine ⟨_,rfl,?_⟩;have a6:=a_ (Kd.R_lower F (bz_ bel_));replace c:=a_ (bq_ c.out hb);replace d:=a_ (bq_ d.out hb);replace a:=a_ (bq_ a.out hb);replace HB:=hq_ hb;clear hb F;obtain ⟨s,u,dq⟩:=Kd.R_slice a6.out;subst dq;have eZ:=M.out;have e0:=q.out;obtain ⟨_,_,_,_,_,_,_,_,_,_,_,_,_,_,_,_⟩:=cel8_ a.out)|((with_reducible refine gate_callee (f:=37) rfl ?_);refine goesL_ (some 43) rfl rfl Tryz.func37 kr_ rfl #[.string (rdOf ByteArray.empty ag (r)),.int .u8 119] rfl (by (try simp only [List.map_toArray,List.map_cons,List.map_nil]);first | done | (simp only [aE];rfl) | rfl | (simp only [List.length_drop,List.length_take];rfl)) ?_;(with_reducible refine (jigsawref06_has.calls kj24 (rdOf ByteArray.empty ag (r)) 119 bJ _ dP.out).mono ?_);rintro e w' ⟨rfl,⟨nd,rfl⟩⟩;refine ⟨_,rfl,?_⟩))
    (try simp only [Act.put,List.setIfInBounds_toArray,List.set_cons_zero,List.set_cons_succ])
    go_cut [] (fun wc=>∃(kq:Nat) (aI:List Int) (u133002:Value),Aside0 (jigsawref06_Make.j3 kq a1 (rdOf ByteArray.empty ag (r)) G U E I z P Q r m aI 0=some (r1,r2,r3,r4,r5,r6,r7,r8))∧Aside0 (kq≤kj24)∧Aside0 (Kd.R (Kd.int .i64) 3 wc w.heap.size (fun l=>some l≠u133002.ownBlock) (.slice s m.length u) m)∧Aside0 (Kd.R (Kd.int .i64) 3 wc w.heap.size (fun l=>some l≠((.slice s m.length u):Value).ownBlock) u133002 aI)∧Aside0 (wc.heap[V]? = some (.cells #[.int .u8 U,(.slice ak E.length c0_1),(.slice ah I.length c0_2),(.slice ad z.length c0_3),.int .i16 P,.int .u8 Q] 26 (0,0)))∧Aside0 (wc.heap[ac]? = some (.cells #[.int .i64 0,(.slice none 0 0),(.slice none 0 0),(.slice none 0 0),(.slice none 0 0),(.slice none 0 0),.int .i64 0,(.slice none 0 0)] 32 (0,0)))∧Aside0 (wc.heap[A]? = some (.cells #[.int .i64 r,(.slice s m.length u),u133002,(.slice none 0 0),(.slice none 0 0),(.slice none 0 0),.int .i64 0,(.slice none 0 0)] 32 (0,0)))∧Aside0 (Below w.heap.size w wc))
    case first =>
     have H:=bW.out
     clear bW
     by_cases c38:bJ>0
     rotate_left
     ·
      rw [ig_ c38] at H
      have c38b0:decide (0<bJ)=false:=df_ c38
      clear c38
      (first | rw [c38b0]|(simp only [i64_w,i32_w];rw [c38b0]) | skip)
      have H':=a_ H
      clear H
      go_wp2
      go_meet
      exact ⟨_,(([]:List Int)),(.slice none 0 0),H',⟨by have:=ar.out;have:=al.out;have:=am.out;first | omega | exact lr_ _⟩,⟨by refine vR_ ?_;exact rm_ (fR_ (rt_ a6.out a.out (by decide))) (fun _ hk=>(by simp [Value.ownBlock]))⟩,⟨nil_⟩,⟨by refine bk_ ?_;refine blk_far ?_ p.out _;refine bk_ ?_;exact c.out⟩,⟨by refine bk_ ?_;refine blk_far ?_ q.out _;refine bk_ ?_;exact d.out⟩,⟨by refine bk_ ?_;refine bu_ (cs:=#[.int .i64 r,.slice none 0 0,.slice none 0 0,.slice none 0 0,.slice none 0 0,.slice none 0 0,.int .i64 0,.slice none 0 0]) ?_ 1 _ rfl;refine bk_ ?_;exact a.out⟩,⟨bel_⟩⟩
     rw [ip_ c38] at H
     have c38b0:decide (0<bJ)=true:=dt_ c38
     clear c38
     (first | rw [c38b0]|(simp only [i64_w,i32_w];rw [c38b0]) | skip)
     replace H:=bo_ H
     obtain ⟨bX,dQ,H⟩:=H
     try dsimp only at H
     have H':=a_ H
     clear H
     have e1:=Z.out
     have e2:=aa.out
     have e3:=p.out
     have e4:=J.out
     obtain ⟨_,_,_,_,_,_,_,_,_,_,_,_⟩:=cel6_ c.out
     go_wp2_with (first|((with_reducible refine gate_callee (f:=38) rfl ?_);refine goesL_ (some 48) rfl rfl Tryz.func38 kr_ rfl #[.slice ah I.length c0_2,.int .i64 1,.int .i64 a1] rfl ar_ ?_;(with_reducible refine (jigsawref06_places.calls kj24 _ _ I 1 a1 bX _ ?_ ?_ dQ.out).mono ?_);exact cb_ cf.out bel_;exact cg.out;rintro e w43 ⟨fN,rfl,F,hb⟩;refine ⟨_,rfl,?_⟩;have ci:=a_ (Kd.R_lower (Kd.R_new' F (rl_ (by refine vR_ ?_;exact (rm_ (fR_ (rt_ a6.out a.out (by decide))) (fun _ h_=>h_.1))))) (bz_ bel_));replace a6:=a_ (Kd.R_elder' (by refine vR_ ?_;exact (rm_ (fR_ (rt_ a6.out a.out (by decide))) (fun _ h_=>h_.1))) (rs_ F) hb);replace c:=a_ (bb_ (g:=V) (o := .cells #[.int .u8 U,.slice ak E.length c0_1,.slice ah I.length c0_2,.slice ad z.length c0_3,.int .i16 P,.int .u8 Q] 26 (0,0)) (by refine bk_ ?_;refine blk_far ?_ p.out _;refine bk_ ?_;exact c.out) hb);replace d:=a_ (bb_ (g:=ac) (o := .cells #[.int .i64 0,.slice none 0 0,.slice none 0 0,.slice none 0 0,.slice none 0 0,.slice none 0 0,.int .i64 0,.slice none 0 0] 32 (0,0)) (by refine bk_ ?_;refine blk_far ?_ q.out _;refine bk_ ?_;exact d.out) hb);replace a:=a_ (bb_ (g:=A) (o := .cells #[.int .i64 r,.slice s m.length u,.slice none 0 0,.slice none 0 0,.slice none 0 0,.slice none 0 0,.int .i64 0,.slice none 0 0] 32 (0,0)) (by refine bk_ ?_;refine bu_ (cs:=#[.int .i64 r,.slice none 0 0,.slice none 0 0,.slice none 0 0,.slice none 0 0,.slice none 0 0,.int .i64 0,.slice none 0 0]) ?_ 1 _ rfl;refine bk_ ?_;exact a.out) hb);replace HB:=hq_ hb;clear hb F;obtain ⟨dr,dt,du⟩:=Kd.R_slice ci.out;subst du;have e5:=M.out;have e6:=q.out;obtain ⟨_,_,_,_,_,_,_,_,_,_,_,_,_,_,_,_⟩:=cel8_ a.out))
     go_meet
     exact ⟨_,(bX),(.slice dr bX.length dt),H',⟨by have:=ar.out;have:=al.out;have:=am.out;first | omega | exact lr_ _⟩,⟨by refine vR_ ?_;exact rm_ (fR_ (rt_ a6.out a.out (by decide))) (fun _ hk=>hk.1.2)⟩,⟨by refine vR_ ?_;exact rm_ (fR_ (rt_ ci.out a.out (by decide))) (fun _ hk=>hk.1.2)⟩,⟨by refine bk_ ?_;refine blk_far ?_ p.out _;refine bk_ ?_;exact c.out⟩,⟨by refine bk_ ?_;refine blk_far ?_ q.out _;refine bk_ ?_;exact d.out⟩,⟨by refine bk_ ?_;refine bu_ (cs:=#[.int .i64 r,.slice s m.length u,.slice none 0 0,.slice none 0 0,.slice none 0 0,.slice none 0 0,.int .i64 0,.slice none 0 0]) ?_ 2 _ rfl;refine bk_ ?_;exact a.out⟩,⟨bel_⟩⟩
    clear bW
    try clear c1
    try clear p1
    try clear q1
    try clear a4
    try clear c2
    try clear p2
    try clear c3
    try clear c4
    try clear c5
    try clear c5b0
    try clear c6
    try clear c6b0
    try clear p6
    try clear c10
    try clear c13
    try clear p13
    try clear au
    try clear aG
    try clear c14
    try clear c18
    try clear c21
    try clear c21b0
    try clear c21b1
    try clear c23
    try clear c23b0
    try clear c26
    try clear c26b0
    try clear c31
    try clear c32
    try clear c36
    try clear c37
    try clear c38
    try clear c38b0
    try clear c40
    try clear c41
    try clear c45
    try clear aj
    try clear p1
    try clear p13
    try clear p136
    try clear p2
    try clear p6
    try clear q1
    try clear au
    try clear an
    obtain ⟨kq,aI,u133002,HA,ao,HO_133001,HO_133002,c,d,a,HB⟩:=hcut
    cases kq with
    | zero=>exact absurd HA.out (by simp [jigsawref06_Make.j3])
    | succ kj29 =>
     have H:=HA.out
     clear HA
     simp only [jigsawref06_Make.j3] at H
     replace H:=bo_ H
     obtain ⟨bK,dR,H⟩:=H
     try dsimp only at H
     have bY:=a_ H
     clear H
     go_upto_if 52 with (first|((with_reducible refine gate_callee (f:=37) rfl ?_);refine goesL_ (some 51) rfl rfl Tryz.func37 kr_ rfl #[.string (rdOf ByteArray.empty ag (r)),.int .u8 87] rfl (by (try simp only [List.map_toArray,List.map_cons,List.map_nil]);first | done | (simp only [aE];rfl) | rfl | (simp only [List.length_drop,List.length_take];rfl)) ?_;(with_reducible refine (jigsawref06_has.calls kj29 (rdOf ByteArray.empty ag (r)) 87 bK _ dR.out).mono ?_);rintro e w' ⟨rfl,⟨nd,rfl⟩⟩;refine ⟨_,rfl,?_⟩))
     (try simp only [Act.put,List.setIfInBounds_toArray,List.set_cons_zero,List.set_cons_succ])
     go_cut [] (fun wc=>∃(kq:Nat) (y:List Int) (u133002:Value),Aside0 (jigsawref06_Make.j4 kq (rdOf ByteArray.empty ag (r)) G U E I z P Q r m y 0=some (r1,r2,r3,r4,r5,r6,r7,r8))∧Aside0 (kq≤kj29)∧Aside0 (Kd.R (Kd.int .i64) 3 wc w.heap.size (fun l=>some l≠u133002.ownBlock) (.slice s m.length u) m)∧Aside0 (Kd.R (Kd.int .i64) 3 wc w.heap.size (fun l=>some l≠((.slice s m.length u):Value).ownBlock) u133002 y)∧Aside0 (wc.heap[V]? = some (.cells #[.int .u8 U,(.slice ak E.length c0_1),(.slice ah I.length c0_2),(.slice ad z.length c0_3),.int .i16 P,.int .u8 Q] 26 (0,0)))∧Aside0 (wc.heap[ac]? = some (.cells #[.int .i64 0,(.slice none 0 0),(.slice none 0 0),(.slice none 0 0),(.slice none 0 0),(.slice none 0 0),.int .i64 0,(.slice none 0 0)] 32 (0,0)))∧Aside0 (wc.heap[A]? = some (.cells #[.int .i64 r,(.slice s m.length u),u133002,(.slice none 0 0),(.slice none 0 0),(.slice none 0 0),.int .i64 0,(.slice none 0 0)] 32 (0,0)))∧Aside0 (Below w.heap.size w wc))
     case first =>
      have H:=bY.out
      clear bY
      by_cases c49:bK>0
      rotate_left
      ·
       rw [ig_ c49] at H
       have c49b0:decide (0<bK)=false:=df_ c49
       clear c49
       (first | rw [c49b0]|(simp only [i64_w,i32_w];rw [c49b0]) | skip)
       have H':=a_ H
       clear H
       go_wp2
       go_meet
       exact ⟨_,(aI),(u133002),H',⟨by have:=ar.out;have:=al.out;have:=am.out;have:=ao.out;first | omega | exact lr_ _⟩,⟨vR_ HO_133001.out⟩,⟨vR_ HO_133002.out⟩,⟨bk_ c.out⟩,⟨bk_ d.out⟩,⟨bk_ a.out⟩,⟨bel_⟩⟩
      rw [ip_ c49] at H
      have c49b0:decide (0<bK)=true:=dt_ c49
      clear c49
      (first | rw [c49b0]|(simp only [i64_w,i32_w];rw [c49b0]) | skip)
      replace H:=bo_ H
      obtain ⟨bZ,dS,H⟩:=H
      try dsimp only at H
      have H':=a_ H
      clear H
      have e7:=Z.out
      have e8:=aa.out
      have e9:=p.out
      have fa:=J.out
      obtain ⟨_,_,_,_,_,_,_,_,_,_,_,_⟩:=cel6_ c.out
      go_wp2_with (first|((with_reducible refine gate_callee (f:=38) rfl ?_);refine goesL_ (some 57) rfl rfl Tryz.func38 kr_ rfl #[.slice ah I.length c0_2,.int .i64 G,.int .i64 a1] rfl ar_ ?_;(with_reducible refine (jigsawref06_places.calls kj29 _ _ I G a1 bZ _ ?_ ?_ dS.out).mono ?_);exact ca_ ((cb_ cf.out HB.out));exact cg.out;rintro e w54 ⟨fO,rfl,F,hb⟩;refine ⟨_,rfl,?_⟩;have cj:=a_ (Kd.R_lower (Kd.R_new' (Kd.R_new' F (rl_ (vR_ HO_133001.out))) (rl_ (vR_ HO_133002.out))) (bz_ bel_));replace HO_133001:=a_ (Kd.R_elder' (vR_ HO_133001.out) (rs_ F) hb);replace HO_133002:=a_ (Kd.R_elder' (vR_ HO_133002.out) (rs_ F) hb);replace c:=a_ (bq_ c.out hb);replace d:=a_ (bq_ d.out hb);replace a:=a_ (bq_ a.out hb);replace HB:=hq_ hb;clear hb F;obtain ⟨dv,dw,dx⟩:=Kd.R_slice cj.out;subst dx;have fb:=M.out;have fc:=q.out;obtain ⟨_,_,_,_,_,_,_,_,_,_,_,_,_,_,_,_⟩:=cel8_ a.out))
      go_meet
      exact ⟨_,(bZ),(.slice dv bZ.length dw),H',⟨by have:=ar.out;have:=al.out;have:=am.out;have:=ao.out;first | omega | exact lr_ _⟩,⟨by refine vR_ ?_;exact rm_ (fR_ (rt_ HO_133001.out a.out (by decide))) (fun _ hk=>hk.1.2)⟩,⟨by refine vR_ ?_;exact rm_ (fR_ (rt_ cj.out a.out (by decide))) (fun _ hk=>hk.1.1.2)⟩,⟨by refine bk_ ?_;refine blk_far ?_ p.out _;refine bk_ ?_;exact c.out⟩,⟨by refine bk_ ?_;refine blk_far ?_ q.out _;refine bk_ ?_;exact d.out⟩,⟨by refine bk_ ?_;refine bu_ (cs:=#[.int .i64 r,.slice s m.length u,u133002,.slice none 0 0,.slice none 0 0,.slice none 0 0,.int .i64 0,.slice none 0 0]) ?_ 2 _ rfl;refine bk_ ?_;exact a.out⟩,⟨bel_⟩⟩
     clear bY
     try clear c1
     try clear p1
     try clear q1
     try clear a4
     try clear c2
     try clear p2
     try clear c3
     try clear c4
     try clear c5
     try clear c5b0
     try clear c6
     try clear c6b0
     try clear p6
     try clear c10
     try clear c13
     try clear p13
     try clear au
     try clear aG
     try clear c14
     try clear c18
     try clear c21
     try clear c21b0
     try clear c21b1
     try clear c23
     try clear c23b0
     try clear c26
     try clear c26b0
     try clear c31
     try clear c32
     try clear c36
     try clear c37
     try clear c38
     try clear c38b0
     try clear c40
     try clear c41
     try clear c45
     try clear c49
     try clear c49b0
     try clear c51
     try clear c52
     try clear c56
     try clear aj
     try clear p1
     try clear p13
     try clear p136
     try clear p2
     try clear p6
     try clear q1
     try clear au
     try clear an
     obtain ⟨kq,y,u133002,HA,av,HO_133001,HO_133002,c,d,a,HB⟩:=hcut
     cases kq with
     | zero=>exact absurd HA.out (by simp [jigsawref06_Make.j4])
     | succ kj47 =>
      have H:=HA.out
      clear HA
      simp only [jigsawref06_Make.j4] at H
      exact jigsawref06_Make.part5 cE cF cf cg aQ aR A3 aE cG eL cH eM Z aa cI eP p J q M ar al am dO ao nd HO_133001 HO_133002 c d a HB av H (by assumption) (by kernel_rfl)
end Go.Proofs.YtijjhobjmehhoaaGreatDoor.XGccRefuses
