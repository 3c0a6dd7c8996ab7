-- by xprint.py, a program of this session, over the kit's print
import Derived.Test.YtijjhobjmehhoaaGreatDoorXGRex0
import Derived.Test.YtijjhobjmehhoaaGreatDoorXGRex6
import Derived.Test.YtijjhobjmehhoaaGreatDoorXGRex12
import Derived.Test.YtijjhobjmehhoaaGreatDoorXGRex19
import Derived.Test.YtijjhobjmehhoaaGreatDoorXGRex21
import Derived.Test.YtijjhobjmehhoaaGreatDoorXGRex23
import Derived.Test.YtijjhobjmehhoaaGreatDoorXGRex24
import Derived.Test.YtijjhobjmehhoaaGreatDoorXGRex29
import Derived.Test.YtijjhobjmehhoaaGreatDoorSq
namespace Go.Proofs.YtijjhobjmehhoaaGreatDoor.XGccRefuses
open Go.RowKit Go.Proofs.YtijjhobjmehhoaaGreatDoor.Sq Go.Proofs.YtijjhobjmehhoaaGreatDoorW.PrintWords Go.Proofs.YtijjhobjmehhoaaGreatDoorW.PrintLast Go.Proofs.YtijjhobjmehhoaaGreatDoorW.PrintMore
attribute [local go_sem] max2_int min2_int max_two min_two max_three min_three max_four min_four   -- for this text's walks alone
set_option linter.unusedVariables false
set_option linter.unusedSimpArgs false
mutual
def jigsawlaw20_GccRefuses.j0:Nat→List (List Int)→Int→Int→List Int→List Int→List Int→List Int→List Int→Int→List (List Int)→Int→List Int→List Int→List Int→List Int→List Int→Int→List (List Int)→Option (Bool)
 | 0,_,_,_,_,_,_,_,_,_,_,_,_,_,_,_,_,_,_=>none
 | k+1,n,t,o,A,B,C,E,F,p,aa,a,b,c,d,e,g,l,m=>if t=0 then (if 0≤(wrap64 ((n.length:Int) - 1)) then (if (wrap64 ((n.length:Int) - 1))≤(n.length:Int) then ((some (n.take ((wrap64 ((n.length:Int) - 1)):Int).toNat:List (List Int))).bind fun q=>((jigsawlaw20_doms.f k q).bind fun N=>((gcc_Filter.f k a b c d e g l m N).bind fun u=>((jigsawref10_Fits.f k a b c d e g l m q 21 21).bind fun O=>(jigsawlaw20_GccRefuses.j1 k q u.1 u.2 O))))) else (none)) else (none)) else (if t=1 then (if 0<(n.length:Int) then ((some (n.set (0:Int).toNat ([]:List Int):List (List Int))).bind fun r=>((jigsawlaw20_doms.f k r).bind fun P=>((gcc_Filter.f k a b c d e g l m P).bind fun v=>((jigsawref10_Fits.f k a b c d e g l m r 21 21).bind fun Q=>(jigsawlaw20_GccRefuses.j2 k r v.1 v.2 Q))))) else (none)) else (if t=2 then (if n.length<5864062014805 then ((some (n++[(([1]:List Int))]:List (List Int))).bind fun s=>((jigsawlaw20_doms.f k s).bind fun U=>((gcc_Filter.f k a b c d e g l m U).bind fun x=>((jigsawref10_Fits.f k a b c d e g l m s 21 21).bind fun V=>(jigsawlaw20_GccRefuses.j3 k s x.1 x.2 V))))) else (none)) else (if t=3 then ((jigsawlaw20_GccRefuses_1.f A).bind fun G=>((jigsawlaw20_GccRefuses_1.f B).bind fun I=>((jigsawlaw20_GccRefuses_1.f C).bind fun J=>((jigsawlaw20_GccRefuses_1.f E).bind fun K=>((jigsawlaw20_GccRefuses_1.f F).bind fun M=>((jigsawlaw20_doms.f k n).bind fun W=>((gcc_Filter.f k o G I J K M p ([]:List (List Int)) W).bind fun y=>((jigsawref10_Fits.f k o G I J K M p ([]:List (List Int)) n 21 21).bind fun X=>(jigsawlaw20_GccRefuses.j4 k n y.1 y.2 X))))))))) else ((jigsawlaw20_doms.f k n).bind fun Y=>((gcc_Filter.f k a b c d e g l m Y).bind fun z=>((jigsawref10_Fits.f k a b c d e g l m n 21 21).bind fun Z=>(jigsawlaw20_GccRefuses.j5 k n z.1 z.2 Z)))))))
def jigsawlaw20_GccRefuses.j1:Nat→List (List Int)→List (S58)→Bool→Bool→Option (Bool)
 | 0,_,_,_,_=>none
 | k+1,g,a,b,e=>if e=true then ((jigsawlaw20_wakes.f k).bind fun c=>(if c=true then (if b=true then (some ((a.length:Int)==(g.length:Int))) else (some true)) else (none))) else ((jigsawlaw20_wakes.f k).bind fun d=>(if d=true then (if b=true then (none) else (some ((a.length:Int)==0))) else (none)))
def jigsawlaw20_GccRefuses.j2:Nat→List (List Int)→List (S58)→Bool→Bool→Option (Bool)
 | 0,_,_,_,_=>none
 | k+1,g,a,b,e=>if e=true then ((jigsawlaw20_wakes.f k).bind fun c=>(if c=true then (if b=true then (some ((a.length:Int)==(g.length:Int))) else (some true)) else (none))) else ((jigsawlaw20_wakes.f k).bind fun d=>(if d=true then (if b=true then (none) else (some ((a.length:Int)==0))) else (none)))
def jigsawlaw20_GccRefuses.j3:Nat→List (List Int)→List (S58)→Bool→Bool→Option (Bool)
 | 0,_,_,_,_=>none
 | k+1,g,a,b,e=>if e=true then ((jigsawlaw20_wakes.f k).bind fun c=>(if c=true then (if b=true then (some ((a.length:Int)==(g.length:Int))) else (some true)) else (none))) else ((jigsawlaw20_wakes.f k).bind fun d=>(if d=true then (if b=true then (none) else (some ((a.length:Int)==0))) else (none)))
def jigsawlaw20_GccRefuses.j4:Nat→List (List Int)→List (S58)→Bool→Bool→Option (Bool)
 | 0,_,_,_,_=>none
 | k+1,g,a,b,e=>if e=true then ((jigsawlaw20_wakes.f k).bind fun c=>(if c=true then (if b=true then (some ((a.length:Int)==(g.length:Int))) else (some true)) else (none))) else ((jigsawlaw20_wakes.f k).bind fun d=>(if d=true then (if b=true then (none) else (some ((a.length:Int)==0))) else (none)))
def jigsawlaw20_GccRefuses.j5:Nat→List (List Int)→List (S58)→Bool→Bool→Option (Bool)
 | 0,_,_,_,_=>none
 | k+1,g,a,b,e=>if e=true then ((jigsawlaw20_wakes.f k).bind fun c=>(if c=true then (if b=true then (some ((a.length:Int)==(g.length:Int))) else (some true)) else (none))) else ((jigsawlaw20_wakes.f k).bind fun d=>(if d=true then (if b=true then (none) else (some ((a.length:Int)==0))) else (none)))
end
def jigsawlaw20_GccRefuses.f (k:Nat) (b:Int) (c:List Int) (d:List Int) (e:List Int) (g:Int) (l:Int) (m:List (List Int)) (n:Int) (o:List Int) (p:List Int) (q:List Int) (r:List Int) (s:List Int) (t:Int) (u:List (List Int)) (v:Int):Option (Bool):=(jigsawref10_Make.f k b c d e g l m (wrap64 (1+(Int.tmod (wrap64 (v / 8)) 23))) 6).bind fun a=>(jigsawlaw20_GccRefuses.j0 k a.2.2.2.2.2.2.2.2 (Int.tmod v 5) n o p q r s t u a.1 a.2.1 a.2.2.1 a.2.2.2.1 a.2.2.2.2.1 a.2.2.2.2.2.1 a.2.2.2.2.2.2.1 a.2.2.2.2.2.2.2.1)
theorem jigsawlaw20_GccRefuses.mono_l:∀k,(∀a b c d q s t u v x e f g l m n o p,LeO (jigsawlaw20_GccRefuses.j0 k a b c d q s t u v x e f g l m n o p) (jigsawlaw20_GccRefuses.j0 (k+1) a b c d q s t u v x e f g l m n o p))∧(∀a b c d,LeO (jigsawlaw20_GccRefuses.j1 k a b c d) (jigsawlaw20_GccRefuses.j1 (k+1) a b c d))∧(∀a b c d,LeO (jigsawlaw20_GccRefuses.j2 k a b c d) (jigsawlaw20_GccRefuses.j2 (k+1) a b c d))∧(∀a b c d,LeO (jigsawlaw20_GccRefuses.j3 k a b c d) (jigsawlaw20_GccRefuses.j3 (k+1) a b c d))∧(∀a b c d,LeO (jigsawlaw20_GccRefuses.j4 k a b c d) (jigsawlaw20_GccRefuses.j4 (k+1) a b c d))∧(∀a b c d,LeO (jigsawlaw20_GccRefuses.j5 k a b c d) (jigsawlaw20_GccRefuses.j5 (k+1) a b c d))
 | 0=>by refine ⟨?_,?_,?_,?_,?_,?_⟩ <;> (intros;exact LeO.none _)
 | k+1=>by
  obtain ⟨ih0,ih1,ih2,ih3,ih4,ih5⟩:=jigsawlaw20_GccRefuses.mono_l k
  have m0:=@gcc_Filter.mono
  have m1:=@jigsawlaw20_doms.mono
  have m2:=@jigsawlaw20_wakes.mono
  have m3:=@jigsawref10_Fits.mono
  have m4:=@jigsawref10_Make.mono
  refine ⟨?_,?_,?_,?_,?_,?_⟩ <;> intros
  all_goals first | unfold jigsawlaw20_GccRefuses.j0 | unfold jigsawlaw20_GccRefuses.j1 | unfold jigsawlaw20_GccRefuses.j2 | unfold jigsawlaw20_GccRefuses.j3 | unfold jigsawlaw20_GccRefuses.j4 | unfold jigsawlaw20_GccRefuses.j5
  all_goals exact leo_
theorem jigsawlaw20_GccRefuses.mono:∀l m n o p q r s t u a b c d e g k,LeO (jigsawlaw20_GccRefuses.f k l m n o p q r s t u a b c d e g) (jigsawlaw20_GccRefuses.f (k+1) l m n o p q r s t u a b c d e g):=by
 intro l m n o p q r s t u a b c d e g k
 obtain ⟨ih0,ih1,ih2,ih3,ih4,ih5⟩:=jigsawlaw20_GccRefuses.mono_l k
 unfold jigsawlaw20_GccRefuses.f
 have m0:=@gcc_Filter.mono
 have m1:=@jigsawlaw20_doms.mono
 have m2:=@jigsawlaw20_wakes.mono
 have m3:=@jigsawref10_Fits.mono
 have m4:=@jigsawref10_Make.mono
 exact leo_
def jigsawlaw20_GccRefuses.T11:Bool×List (List Nat×List Nat):=(true,[([],[]),([0],[0]),([],[]),([],[]),([3],[3]),([2,4],[2,4]),([],[]),([],[]),([7],[7]),([6,8,5],[6,8]),([],[]),([],[]),([11],[11]),([10,12,9],[10,12]),([],[]),([],[]),([15],[15]),([14,16,13],[14,16]),([],[]),([],[]),([19],[19]),([18,20,17],[18,20]),([],[]),([22],[22]),([1,5,9,13,17,21,23],[1,5,9,13,17,21,23]),([24,21,0,1,2,3,4,5,6,7,8,9,10,11,12,13,14,15,16,17,18,19,20,21,22,23,24],[24])])
def jigsawlaw20_GccRefuses.B11:List Nat:=[0,1,0,0,8,28,0,0,128,508,0,0,2048,8188,0,0,32768,131068,0,0,524288,2097148,0,4194304,16777215,33554431]
theorem jigsawlaw20_GccRefuses.tab11:rtab .any (opsOf Tryz.f4 11)=jigsawlaw20_GccRefuses.T11:=by kernel_rfl
theorem jigsawlaw20_GccRefuses.bits11:waitsOk jigsawlaw20_GccRefuses.T11.2 jigsawlaw20_GccRefuses.B11=true:=by kernel_rfl
def jigsawlaw20_GccRefuses.T12:Bool×List (List Nat×List Nat):=(true,[([],[]),([],[]),([1],[1]),([0,2,2],[0,2]),([3],[3]),([4],[4]),([4],[4]),([5,3,0,1,2,3,4,5],[5]),([6,7,0,1,2,3,4,5,6,7],[6])])
def jigsawlaw20_GccRefuses.B12:List Nat:=[0,0,2,7,15,31,31,63,255]
theorem jigsawlaw20_GccRefuses.tab12:rtab .any (opsOf Tryz.f4 12)=jigsawlaw20_GccRefuses.T12:=by kernel_rfl
theorem jigsawlaw20_GccRefuses.bits12:waitsOk jigsawlaw20_GccRefuses.T12.2 jigsawlaw20_GccRefuses.B12=true:=by kernel_rfl
set_option maxHeartbeats 8000000 in
set_option maxRecDepth 100000 in
theorem jigsawlaw20_GccRefuses.calls (k:Nat) (a6:Int) (bc:Option Addr) (c0_1:Nat) (aQ:List Int) (bd:Option Addr) (c0_2:Nat) (aR:List Int) (be:Option Addr) (c0_3:Nat) (aT:List Int) (a7:Int) (a8:Int) (bf:Option Addr) (c0_6:Nat) (aU:List (List Int)) (al:Int) (bg:Option Addr) (c1_1:Nat) (aD:List Int) (bh:Option Addr) (c1_2:Nat) (aE:List Int) (bi:Option Addr) (c1_3:Nat) (aG:List Int) (bj:Option Addr) (c1_4:Nat) (aH:List Int) (bk:Option Addr) (c1_5:Nat) (aI:List Int) (aq:Int) (bm:Option Addr) (c1_7:Nat) (a0:List (List Int)) (a2:Int) (r:Bool) (w:World) (cU:Kd.C (Kd.int .u8) w bc aQ.length aQ) (cV:aQ.length≤c0_1) (cW:Kd.C (Kd.int .u8) w bd aR.length aR) (cX:aR.length≤c0_2) (cY:Kd.C (Kd.int .i8) w be aT.length aT) (cZ:aT.length≤c0_3) (c0:Kd.C (Kd.slice 3 (Kd.int .i64)) w bf aU.length aU) (da:aU.length≤c0_6) (db:Kd.C (Kd.int .i64) w bg aD.length aD) (dc:aD.length≤c1_1) (dd:Kd.C (Kd.int .i64) w bh aE.length aE) (de:aE.length≤c1_2) (df:Kd.C (Kd.int .i64) w bi aG.length aG) (dg:aG.length≤c1_3) (dh:Kd.C (Kd.int .i64) w bj aH.length aH) (di:aH.length≤c1_4) (dj:Kd.C (Kd.int .i64) w bk aI.length aI) (dk:aI.length≤c1_5) (d8:Kd.C (Kd.slice 3 (Kd.int .i64)) w bm a0.length a0) (dl:a0.length≤c1_7) (hrtab:Kd.C (Kd.int .u8) w (some ⟨0,0,none⟩) tabL.length tabL) (h:jigsawlaw20_GccRefuses.f k a6 aQ aR aT a7 a8 aU al aD aE aG aH aI aq a0 a2=some r) :
  Calls Tryz.prog 4 #[.agg #[.int .u8 a6,.slice bc aQ.length c0_1,.slice bd aR.length c0_2,.slice be aT.length c0_3,.int .i16 a7,.int .u8 a8,.slice bf aU.length c0_6],.agg #[.int .i64 al,.slice bg aD.length c1_1,.slice bh aE.length c1_2,.slice bi aG.length c1_3,.slice bj aH.length c1_4,.slice bk aI.length c1_5,.int .i64 aq,.slice bm a0.length c1_7],.int .u8 a2] w fun e w'=>e = .returned (.bool r)∧Below w.heap.size w w':=by
 have hu29:=Tryz.underlying29
 have hu32:=Tryz.underlying32
 have d9:=a_ cU
 have ea:=a_ cV
 clear cU cV
 have eb:=a_ cW
 have ec:=a_ cX
 clear cW cX
 have ed:=a_ cY
 have ee:=a_ cZ
 clear cY cZ
 have ef:=a_ c0
 have eg:=a_ da
 clear c0 da
 have eh:=a_ db
 have ei:=a_ dc
 clear db dc
 have ej:=a_ dd
 have ek:=a_ de
 clear dd de
 have el:=a_ df
 have em:=a_ dg
 clear df dg
 have en:=a_ dh
 have eo:=a_ di
 clear dh di
 have ep:=a_ dj
 have eq:=a_ dk
 clear dj dk
 have fQ:=a_ dl
 clear d8 dl
 have HRtab:=a_ hrtab
 clear hrtab
 have HB:=a_ (Below.refl w.heap.size w)
 unfold jigsawlaw20_GccRefuses.f at h
 have H:=h
 clear h
 replace H:=bs_.mp H
 obtain ⟨⟨ae,q,s,u,y,z,af,W,Z⟩,cC,H⟩:=H
 try dsimp only at H
 have A4:=a_ cC
 clear cC
 have dJ:=a_ H
 clear H
 go_enter Tryz.func4,Tryz.ntmps4
 go_upto_region 2 with (first|((with_reducible refine gate_dst (N:=3) rfl ?_);(try (refine gate_guard (by rfl) ?_;dsimp only));refine bxe_ (N:=3) (cs:=#[.int .u8 a6,.slice bc aQ.length c0_1,.slice bd aR.length c0_2,.slice be aT.length c0_3,.int .i16 a7,.int .u8 a8,.slice bf aU.length c0_6]) (t:=29) ?_;intro Y hg w6 hbox hb;have l:=a_ (hbox);have bw:=a_ (by rw [hg];exact (bz_ bel_):w.heap.size≤Y);have fR:=bw;replace HB:=hq_ hb;clear hb hbox hg)|((with_reducible refine gate_dst (N:=4) rfl ?_);(try (refine gate_guard (by rfl) ?_;dsimp only));refine bxe_ (N:=4) (cs:=#[.int .i64 al,.slice bg aD.length c1_1,.slice bh aE.length c1_2,.slice bi aG.length c1_3,.slice bj aH.length c1_4,.slice bk aI.length c1_5,.int .i64 aq,.slice bm a0.length c1_7]) (t:=32) ?_;intro X hg w7 hbox hb;have o:=a_ (hbox);have bx:=a_ (by rw [hg];exact (bz_ bel_):w.heap.size≤X);have fS:=bx;replace HB:=hq_ hb;have cD:=a_ ((by rw [hg];exact Nat.ne_of_lt (blk_lt (bk_ l.out)):Y≠X));have cE:=a_ ((by rw [hg];exact Nat.ne_of_gt (blk_lt (bk_ l.out)):X≠Y));replace l:=a_ (bq_ l.out hb);clear hb hbox hg;have gx:=cD.out;have gy:=cE.out;have bG:w7.cell? ⟨Y,0,none⟩=some (.int .u8 a6):=(blk_cell l.out 0).trans rfl;have bH:w7.cell? ⟨Y,1,none⟩=some (.slice bc aQ.length c0_1):=(blk_cell l.out 1).trans rfl;have bI:w7.cell? ⟨Y,2,none⟩=some (.slice bd aR.length c0_2):=(blk_cell l.out 2).trans rfl;have bJ:w7.cell? ⟨Y,3,none⟩=some (.slice be aT.length c0_3):=(blk_cell l.out 3).trans rfl;have bK:w7.cell? ⟨Y,4,none⟩=some (.int .i16 a7):=(blk_cell l.out 4).trans rfl;have bL:w7.cell? ⟨Y,5,none⟩=some (.int .u8 a8):=(blk_cell l.out 5).trans rfl;have bM:w7.cell? ⟨Y,6,none⟩=some (.slice bf aU.length c0_6):=(blk_cell l.out 6).trans rfl;have bN:=blk_frozen l.out 0;have bO:=blk_frozen l.out 1;have bP:=blk_frozen l.out 2;have bQ:=blk_frozen l.out 3;have bR:=blk_frozen l.out 4;have bS:=blk_frozen l.out 5;have bT:=blk_frozen l.out 6)|((with_reducible refine gate_callee (f:=8) rfl ?_);refine goesL_ (some 19) rfl rfl Tryz.func8 kr_ rfl #[.agg #[.int .u8 a6,.slice bc aQ.length c0_1,.slice bd aR.length c0_2,.slice be aT.length c0_3,.int .i16 a7,.int .u8 a8,.slice bf aU.length c0_6],.int .i64 (wrap64 (1+(Int.tmod (wrap64 (a2 / 8)) 23))),.int .i64 6] rfl ar_ ?_;(with_reducible refine (jigsawref10_Make.calls k a6 _ _ aQ _ _ aR _ _ aT a7 a8 _ _ aU (wrap64 (1+(Int.tmod (wrap64 (a2 / 8)) 23))) 6 ae q s u y z af W Z _ ?_ ?_ ?_ ?_ ?_ ?_ ?_ ?_ A4.out).mono ?_);exact ca_ ((cb_ d9.out HB.out));exact ea.out;exact ca_ ((cb_ eb.out HB.out));exact ec.out;exact ca_ ((cb_ ed.out HB.out));exact ee.out;exact ca_ ((cb_ ef.out HB.out));exact eg.out;rintro e w10 ⟨dK,dL,dM,dN,dO,eL,av,rfl,ad,eE,eF,eG,eH,eI,eJ,hb⟩;refine ⟨_,rfl,?_⟩;have b7:=a_ (Kd.R_lower ad (bz_ bel_));have b8:=a_ (Kd.R_lower eE (bz_ bel_));have b9:=a_ (Kd.R_lower eF (bz_ bel_));have ca:=a_ (Kd.R_lower eG (bz_ bel_));have cb:=a_ (Kd.R_lower eH (bz_ bel_));have cc:=a_ (Kd.N_lower (nm_ (ok':=fun a=>some a≠dK.ownBlock∧some a≠dL.ownBlock∧some a≠dM.ownBlock∧some a≠dN.ownBlock∧some a≠dO.ownBlock∧some a≠av.ownBlock∧a≠Y∧a≠X) (Kd.S_N (Kd.S_bound eI)) (fun a hk_=>⟨hk_.1.1,hk_.1.2.1,hk_.1.2.2.1,hk_.1.2.2.2.1,hk_.1.2.2.2.2.1,hk_.1.2.2.2.2.2,(Kd.freshB (bk_ l.out) a hk_.2.1),(Kd.freshB (bk_ o.out) a hk_.2.1)⟩)) (bz_ bel_));have cr:=a_ (Kd.N_lower (nm_ (ok':=fun a=>some a≠dK.ownBlock∧some a≠dL.ownBlock∧some a≠dM.ownBlock∧some a≠dN.ownBlock∧some a≠dO.ownBlock∧some a≠eL.ownBlock∧a≠Y∧a≠X) (Kd.S_N (Kd.S_bound eJ)) (fun a hk_=>⟨hk_.1.1,hk_.1.2.1,hk_.1.2.2.1,hk_.1.2.2.2.1,hk_.1.2.2.2.2.1,hk_.1.2.2.2.2.2,(Kd.freshB (bk_ l.out) a hk_.2.1),(Kd.freshB (bk_ o.out) a hk_.2.1)⟩)) (bz_ bel_));replace l:=a_ (bq_ l.out hb);replace o:=a_ (bq_ o.out hb);replace HB:=hq_ hb;clear hb ad eE eF eG eH eI eJ)|((with_reducible refine gate_dst (N:=7) rfl ?_);(try (refine gate_guard (by rfl) ?_;dsimp only));refine bxe_ (N:=7) (cs:=#[.int .i64 0,.slice none 0 0,.slice none 0 0,.slice none 0 0,.slice none 0 0,.slice none 0 0,.int .i64 0,.slice none 0 0]) (t:=32) ?_;intro c hg w11 hbox hb;replace b7:=a_ (rb_ (vR_ b7.out) hb);replace b8:=a_ (rb_ (vR_ b8.out) hb);replace b9:=a_ (rb_ (vR_ b9.out) hb);replace ca:=a_ (rb_ (vR_ ca.out) hb);replace cb:=a_ (rb_ (vR_ cb.out) hb);replace cc:=a_ (Kd.N_below (Kd.N_elderB (vN_ cc.out) c (Nat.le_of_eq hg.symm)) hb);replace cr:=a_ (Kd.N_below (Kd.N_elderB (vN_ cr.out) c (Nat.le_of_eq hg.symm)) hb);have g:=a_ (hbox);have bz:=a_ (by rw [hg];exact (bz_ bel_):w.heap.size≤c);have fT:=bz;replace HB:=hq_ hb;have ac:=a_ ((by rw [hg];exact Nat.ne_of_lt (blk_lt (bk_ l.out)):Y≠c));have ag:=a_ ((by rw [hg];exact Nat.ne_of_gt (blk_lt (bk_ l.out)):c≠Y));replace l:=a_ (bq_ l.out hb);have d:=a_ ((by rw [hg];exact Nat.ne_of_lt (blk_lt (bk_ o.out)):X≠c));have ah:=a_ ((by rw [hg];exact Nat.ne_of_gt (blk_lt (bk_ o.out)):c≠X));replace o:=a_ (bq_ o.out hb);clear hb hbox hg;have fU:=ag.out;have fV:=ac.out;have fW:=ah.out;have fX:=d.out;obtain ⟨_,_,_,_,_,_,_,_,_,_,_,_,_,_,_,_⟩:=cel8_ g.out;obtain ⟨A,B,eM⟩:=Kd.R_slice b7.out;subst eM;obtain ⟨E,F,eN⟩:=Kd.R_slice b8.out;subst eN;obtain ⟨G,I,eO⟩:=Kd.R_slice b9.out;subst eO;obtain ⟨J,O,eP⟩:=Kd.R_slice ca.out;subst eP;obtain ⟨Q,U,eQ⟩:=Kd.R_slice cb.out;subst eQ;obtain ⟨aa,ab,eR⟩:=Kd.N_slice cc.out;subst eR))
 (try simp only [Act.put,List.setIfInBounds_toArray,List.set_cons_zero,List.set_cons_succ])
 go_cut [23] (fun fp wc=>∃(kq:Nat) (aj:Int),fp = .int .u8 aj∧Aside0 (jigsawlaw20_GccRefuses.j0 kq Z aj al aD aE aG aH aI aq a0 ae q s u y z af W=some r)∧Aside0 (kq≤k)∧Aside0 (Kd.N (Kd.slice 3 (Kd.int .i64)) 30 wc w.heap.size (fun a=>some a≠((.slice A q.length B):Value).ownBlock∧some a≠((.slice E s.length F):Value).ownBlock∧some a≠((.slice G u.length I):Value).ownBlock∧some a≠((.slice J y.length O):Value).ownBlock∧some a≠((.slice Q z.length U):Value).ownBlock∧some a≠((.slice aa W.length ab):Value).ownBlock∧a≠Y∧a≠X∧a≠c) av Z)∧Aside0 (Kd.R (Kd.int .i64) 3 wc w.heap.size (fun a=>some a≠((.slice E s.length F):Value).ownBlock∧some a≠((.slice G u.length I):Value).ownBlock∧some a≠((.slice J y.length O):Value).ownBlock∧some a≠((.slice Q z.length U):Value).ownBlock) (.slice A q.length B) q)∧Aside0 (Kd.R (Kd.int .i64) 3 wc w.heap.size (fun a=>some a≠((.slice A q.length B):Value).ownBlock∧some a≠((.slice G u.length I):Value).ownBlock∧some a≠((.slice J y.length O):Value).ownBlock∧some a≠((.slice Q z.length U):Value).ownBlock) (.slice E s.length F) s)∧Aside0 (Kd.R (Kd.int .i64) 3 wc w.heap.size (fun a=>some a≠((.slice A q.length B):Value).ownBlock∧some a≠((.slice E s.length F):Value).ownBlock∧some a≠((.slice J y.length O):Value).ownBlock∧some a≠((.slice Q z.length U):Value).ownBlock) (.slice G u.length I) u)∧Aside0 (Kd.R (Kd.int .i64) 3 wc w.heap.size (fun a=>some a≠((.slice A q.length B):Value).ownBlock∧some a≠((.slice E s.length F):Value).ownBlock∧some a≠((.slice G u.length I):Value).ownBlock∧some a≠((.slice Q z.length U):Value).ownBlock) (.slice J y.length O) y)∧Aside0 (Kd.R (Kd.int .i64) 3 wc w.heap.size (fun a=>some a≠((.slice A q.length B):Value).ownBlock∧some a≠((.slice E s.length F):Value).ownBlock∧some a≠((.slice G u.length I):Value).ownBlock∧some a≠((.slice J y.length O):Value).ownBlock) (.slice Q z.length U) z)∧Aside0 (Kd.N (Kd.slice 3 (Kd.int .i64)) 30 wc w.heap.size (fun a=>some a≠av.ownBlock∧some a≠((.slice A q.length B):Value).ownBlock∧some a≠((.slice E s.length F):Value).ownBlock∧some a≠((.slice G u.length I):Value).ownBlock∧some a≠((.slice J y.length O):Value).ownBlock∧some a≠((.slice Q z.length U):Value).ownBlock∧a≠Y∧a≠X∧a≠c) (.slice aa W.length ab) W)∧Aside0 (wc.heap[Y]? = some (.cells #[.int .u8 a6,(.slice bc aQ.length c0_1),(.slice bd aR.length c0_2),(.slice be aT.length c0_3),.int .i16 a7,.int .u8 a8,(.slice bf aU.length c0_6)] 29 (0,0)))∧Aside0 (wc.heap[X]? = some (.cells #[.int .i64 al,(.slice bg aD.length c1_1),(.slice bh aE.length c1_2),(.slice bi aG.length c1_3),(.slice bj aH.length c1_4),(.slice bk aI.length c1_5),.int .i64 aq,(.slice bm a0.length c1_7)] 32 (0,0)))∧Aside0 (wc.heap[c]? = some (.cells #[.int .i64 ae,(.slice A q.length B),(.slice E s.length F),(.slice G u.length I),(.slice J y.length O),(.slice Q z.length U),.int .i64 af,(.slice aa W.length ab)] 32 (0,0)))∧Aside0 (Below w.heap.size w wc))
 case first =>
  have H:=dJ.out
  clear dJ
  have H':=a_ H
  clear H
  go_wp2
  go_meet
  exact ⟨_,(Int.tmod a2 5),eq_,H',⟨by first | omega | exact lr_ _⟩,⟨by refine vN_ ?_;exact nm_ (fN_ (fN_ (fN_ (fN_ (fN_ (fN_ (fN_ (fN_ (nm_ cr.out (fun a hk=>(⟨hk,hk.2⟩:_∧a≠c))))))))))) (fun _ hk=>⟨hk.1.1.1,⟨hk.1.1.2.1,⟨hk.1.1.2.2.1,⟨hk.1.1.2.2.2.1,⟨hk.1.1.2.2.2.2.1,⟨hk.1.1.2.2.2.2.2.1,⟨hk.1.1.2.2.2.2.2.2.1,⟨hk.1.1.2.2.2.2.2.2.2,hk.1.2⟩⟩⟩⟩⟩⟩⟩⟩)⟩,⟨by refine vR_ ?_;exact rm_ (fR_ (fR_ (fR_ (fR_ (fR_ (fR_ (fR_ (fR_ (rt_ b7.out g.out (by decide)))))))))) (fun _ hk=>⟨hk.1.1,⟨hk.1.2.1,⟨hk.1.2.2.1,hk.1.2.2.2⟩⟩⟩)⟩,⟨by refine vR_ ?_;exact rm_ (fR_ (fR_ (fR_ (fR_ (fR_ (fR_ (fR_ (fR_ (rt_ b8.out g.out (by decide)))))))))) (fun _ hk=>⟨hk.1.1,⟨hk.1.2.1,⟨hk.1.2.2.1,hk.1.2.2.2⟩⟩⟩)⟩,⟨by refine vR_ ?_;exact rm_ (fR_ (fR_ (fR_ (fR_ (fR_ (fR_ (fR_ (fR_ (rt_ b9.out g.out (by decide)))))))))) (fun _ hk=>⟨hk.1.1,⟨hk.1.2.1,⟨hk.1.2.2.1,hk.1.2.2.2⟩⟩⟩)⟩,⟨by refine vR_ ?_;exact rm_ (fR_ (fR_ (fR_ (fR_ (fR_ (fR_ (fR_ (fR_ (rt_ ca.out g.out (by decide)))))))))) (fun _ hk=>⟨hk.1.1,⟨hk.1.2.1,⟨hk.1.2.2.1,hk.1.2.2.2⟩⟩⟩)⟩,⟨by refine vR_ ?_;exact rm_ (fR_ (fR_ (fR_ (fR_ (fR_ (fR_ (fR_ (fR_ (rt_ cb.out g.out (by decide)))))))))) (fun _ hk=>⟨hk.1.1,⟨hk.1.2.1,⟨hk.1.2.2.1,hk.1.2.2.2⟩⟩⟩)⟩,⟨by refine vN_ ?_;exact nm_ (fN_ (fN_ (fN_ (fN_ (fN_ (fN_ (fN_ (fN_ (nm_ cc.out (fun a hk=>(⟨hk,hk.2⟩:_∧a≠c))))))))))) (fun _ hk=>⟨hk.1.1.2.2.2.2.2.1,⟨hk.1.1.1,⟨hk.1.1.2.1,⟨hk.1.1.2.2.1,⟨hk.1.1.2.2.2.1,⟨hk.1.1.2.2.2.2.1,⟨hk.1.1.2.2.2.2.2.2.1,⟨hk.1.1.2.2.2.2.2.2.2,hk.1.2⟩⟩⟩⟩⟩⟩⟩⟩)⟩,⟨by refine bk_ ?_;refine blk_far ?_ ac.out _;refine bk_ ?_;refine blk_far ?_ ac.out _;refine bk_ ?_;refine blk_far ?_ ac.out _;refine bk_ ?_;refine blk_far ?_ ac.out _;refine bk_ ?_;refine blk_far ?_ ac.out _;refine bk_ ?_;refine blk_far ?_ ac.out _;refine bk_ ?_;refine blk_far ?_ ac.out _;refine bk_ ?_;refine blk_far ?_ ac.out _;refine bk_ ?_;exact l.out⟩,⟨by refine bk_ ?_;refine blk_far ?_ d.out _;refine bk_ ?_;refine blk_far ?_ d.out _;refine bk_ ?_;refine blk_far ?_ d.out _;refine bk_ ?_;refine blk_far ?_ d.out _;refine bk_ ?_;refine blk_far ?_ d.out _;refine bk_ ?_;refine blk_far ?_ d.out _;refine bk_ ?_;refine blk_far ?_ d.out _;refine bk_ ?_;refine blk_far ?_ d.out _;refine bk_ ?_;exact o.out⟩,⟨by refine bk_ ?_;refine bu_ (cs:=#[.int .i64 ae,.slice A q.length B,.slice E s.length F,.slice G u.length I,.slice J y.length O,.slice Q z.length U,.int .i64 af,.slice none 0 0]) ?_ 7 _ rfl;refine bk_ ?_;refine bu_ (cs:=#[.int .i64 ae,.slice A q.length B,.slice E s.length F,.slice G u.length I,.slice J y.length O,.slice Q z.length U,.int .i64 0,.slice none 0 0]) ?_ 6 _ rfl;refine bk_ ?_;refine bu_ (cs:=#[.int .i64 ae,.slice A q.length B,.slice E s.length F,.slice G u.length I,.slice J y.length O,.slice none 0 0,.int .i64 0,.slice none 0 0]) ?_ 5 _ rfl;refine bk_ ?_;refine bu_ (cs:=#[.int .i64 ae,.slice A q.length B,.slice E s.length F,.slice G u.length I,.slice none 0 0,.slice none 0 0,.int .i64 0,.slice none 0 0]) ?_ 4 _ rfl;refine bk_ ?_;refine bu_ (cs:=#[.int .i64 ae,.slice A q.length B,.slice E s.length F,.slice none 0 0,.slice none 0 0,.slice none 0 0,.int .i64 0,.slice none 0 0]) ?_ 3 _ rfl;refine bk_ ?_;refine bu_ (cs:=#[.int .i64 ae,.slice A q.length B,.slice none 0 0,.slice none 0 0,.slice none 0 0,.slice none 0 0,.int .i64 0,.slice none 0 0]) ?_ 2 _ rfl;refine bk_ ?_;refine bu_ (cs:=#[.int .i64 ae,.slice none 0 0,.slice none 0 0,.slice none 0 0,.slice none 0 0,.slice none 0 0,.int .i64 0,.slice none 0 0]) ?_ 1 _ rfl;refine bk_ ?_;refine bu_ (cs:=#[.int .i64 0,.slice none 0 0,.slice none 0 0,.slice none 0 0,.slice none 0 0,.slice none 0 0,.int .i64 0,.slice none 0 0]) ?_ 0 _ rfl;refine bk_ ?_;exact g.out⟩,⟨bel_⟩⟩
 clear dJ
 try clear c1
 try clear p2
 try clear c4
 try clear p6
 try clear c8
 try clear c12
 try clear c13
 try clear bG
 try clear bH
 try clear bI
 try clear bJ
 try clear bK
 try clear bL
 try clear bM
 try clear bN
 try clear bO
 try clear bP
 try clear bQ
 try clear bR
 try clear bS
 try clear bT
 obtain ⟨kq,aj,rfl,HA,cF,HO_8,HO_706001,HO_706002,HO_706003,HO_706004,HO_706005,HO_706007,l,o,g,HB⟩:=hcut
 cases kq with
 | zero=>exact absurd HA.out (by simp [jigsawlaw20_GccRefuses.j0])
 | succ kj4 =>
  have H:=HA.out
  clear HA
  simp only [jigsawlaw20_GccRefuses.j0] at H
  replace H:=eg_ H
  rcases H with ⟨-,c21b0,c21b1,H⟩ | ⟨c21,c21b0,c21b1,H⟩
  ·
   obtain ⟨a9,bA⟩:∃j_:Int,(wrap64 ((Z.length:Int) - 1))=j_:=⟨_,rfl⟩
   replace H:(if 0≤(a9) then (if (a9)≤(Z.length:Int) then ((some (Z.take ((a9):Int).toNat:List (List Int))).bind fun au=>((jigsawlaw20_doms.f kj4 au).bind fun bD=>((gcc_Filter.f kj4 ae q s u y z af W bD).bind fun bU=>((jigsawref10_Fits.f kj4 ae q s u y z af W au 21 21).bind fun b5=>(jigsawlaw20_GccRefuses.j1 kj4 au bU.1 bU.2 b5))))) else (none)) else (none))=some r:=by first|(rw [bA] at H;exact H)|(simp only [bA] at H ⊢;exact H)
   have hji22w:(IntKind.i64.wrap ((Z.length:Int) - 1))=a9:=(i64_w _).trans bA
   replace H:=ge_ H
   obtain ⟨c23b0,c23b1,H⟩:=H
   replace H:=ge_ H
   obtain ⟨c24b0,c24b1,H⟩:=H
   obtain ⟨au,bV⟩:∃y_:List (List Int),y_=(Z.take ((a9):Int).toNat):=⟨_,rfl⟩
   replace H:((jigsawlaw20_doms.f kj4 au).bind fun bD=>((gcc_Filter.f kj4 ae q s u y z af W bD).bind fun bU=>((jigsawref10_Fits.f kj4 ae q s u y z af W au 21 21).bind fun b5=>(jigsawlaw20_GccRefuses.j1 kj4 au bU.1 bU.2 b5))))=some r:=h2_ H bV
   have dm:=a_ bV
   clear bV
   replace H:=bo_ H
   obtain ⟨bD,fq,H⟩:=H
   try dsimp only at H
   replace H:=bs_.mp H
   obtain ⟨⟨ce,cf⟩,dP,H⟩:=H
   try dsimp only at H
   have fr:=a_ dP
   clear dP
   have cG:=a_ H
   clear H
   obtain ⟨bp,bq,eS⟩:=Kd.N_slice HO_8.out
   subst eS
   have bW:((a9):Int)≤((Z.length:Int):Int):=dq_
   obtain ⟨i029,dn,_,hsz29,_⟩:=info_parts info30
   have hcut29:=cut_to (P:=Tryz.prog) 27 30 .i64 Tryz.underlying27 dn bp Z.length bq (a9) (dq_) bW (Kd.N_reads' HO_8.out).2.1
   have ct:=Kd.N_take (m:=((a9):Int).toNat) HO_8.out (by omega)
   have dQ:au.length=((a9):Int).toNat:=(by rw [dm.out,List.length_take];omega)
   rw [←dm.out] at ct
   rw [←dQ] at ct hcut29
   clear dQ dn hsz29 HO_8
   have ar:=a_ ct
   clear ct
   replace bW:=et_ bW
   try go_wp2
   replace ar:=a_ (Kd.N_drew ar.out)
   replace HO_706001:=a_ (Kd.R_drew HO_706001.out)
   replace HO_706002:=a_ (Kd.R_drew HO_706002.out)
   replace HO_706003:=a_ (Kd.R_drew HO_706003.out)
   replace HO_706004:=a_ (Kd.R_drew HO_706004.out)
   replace HO_706005:=a_ (Kd.R_drew HO_706005.out)
   replace HO_706007:=a_ (Kd.N_drew HO_706007.out)
   replace l:=a_ (blk_drew l.out)
   replace o:=a_ (blk_drew o.out)
   replace g:=a_ (blk_drew g.out)
   replace HB:=a_ (below_drew1 HB.out)
   refine start_ (n:=9) (S:=fun w'=>w'.cell? ⟨c,0,none⟩=some (.int .i64 ae)∧w'.cell? ⟨c,1,none⟩=some (.slice A q.length B)∧w'.cell? ⟨c,2,none⟩=some (.slice E s.length F)∧w'.cell? ⟨c,3,none⟩=some (.slice G u.length I)∧w'.cell? ⟨c,4,none⟩=some (.slice J y.length O)∧w'.cell? ⟨c,5,none⟩=some (.slice Q z.length U)∧w'.cell? ⟨c,6,none⟩=some (.int .i64 af)∧w'.cell? ⟨c,7,none⟩=some (.slice aa W.length ab)) (ds:=[]) #[false,false,false,false,false,false,false,false,false] kr_ rfl rfl (ca8_ g.out) (fun hHeld=>?_);refine with_tabW jigsawlaw20_GccRefuses.tab12 jigsawlaw20_GccRefuses.bits12 (fun HT_ HW_=>?_)
   generalize wc.drew=w30 at ar HO_706001 HO_706002 HO_706003 HO_706004 HO_706005 HO_706007 l o g HB hHeld ⊢
   refine pn_ 1 70 ao_ ?_
   refine tn_ 0 69 tw_ hHeld ?_
   refine onn_ 2 71 #[true,true,true,false,false,false,false,false,false] rfl rfl on_ (by decide) (fun K hK=>?_)
   refine goes_ Tryz.func11 kr_ rfl #[.slice bp au.length bq] (by rfl) rfl rfl ar_ ?_
   with_reducible refine (jigsawlaw20_doms.calls kj4 _ _ au bD _ ?_ ?_ ?_ fq.out).mono ?_
   exact ca_ ((Kd.N_reads' ar.out).2.2)
   exact (Kd.N_reads' ar.out).2.1
   exact ca_ ((cb_ HRtab.out HB.out))
   rintro e w31 ⟨gz,rfl,ad,hb⟩
   refine ⟨_,rfl,?_⟩
   have dp:=a_ (Kd.N_lower (nm_ (ok':=fun a=>some a≠(.slice bp au.length bq:Value).ownBlock∧some a≠(.slice A q.length B:Value).ownBlock∧some a≠(.slice E s.length F:Value).ownBlock∧some a≠(.slice G u.length I:Value).ownBlock∧some a≠(.slice J y.length O:Value).ownBlock∧some a≠(.slice Q z.length U:Value).ownBlock∧some a≠(.slice aa W.length ab:Value).ownBlock∧a≠Y∧a≠X∧a≠c) ad (fun a hk_=>⟨(fr_ (Kd.N_lt (vN_ ar.out)) a hk_),(fr_ (rl_ (vR_ HO_706001.out)) a hk_),(fr_ (rl_ (vR_ HO_706002.out)) a hk_),(fr_ (rl_ (vR_ HO_706003.out)) a hk_),(fr_ (rl_ (vR_ HO_706004.out)) a hk_),(fr_ (rl_ (vR_ HO_706005.out)) a hk_),(fr_ (Kd.N_lt (vN_ HO_706007.out)) a hk_),(Kd.freshB (bk_ l.out) a hk_),(Kd.freshB (bk_ o.out) a hk_),(Kd.freshB (bk_ g.out) a hk_)⟩)) (bz_ bel_))
   replace ar:=a_ (Kd.N_elder' (vN_ ar.out) (Kd.N_base ad) hb)
   replace HO_706001:=a_ (rb_ (vR_ HO_706001.out) hb)
   replace HO_706002:=a_ (rb_ (vR_ HO_706002.out) hb)
   replace HO_706003:=a_ (rb_ (vR_ HO_706003.out) hb)
   replace HO_706004:=a_ (rb_ (vR_ HO_706004.out) hb)
   replace HO_706005:=a_ (rb_ (vR_ HO_706005.out) hb)
   replace HO_706007:=a_ (Kd.N_elder' (vN_ HO_706007.out) (Kd.N_base ad) hb)
   replace l:=a_ (bq_ l.out hb)
   replace o:=a_ (bq_ o.out hb)
   replace g:=a_ (bq_ g.out hb)
   replace HB:=hq_ hb
   clear hb ad
   obtain ⟨eT,eU,dR⟩:=Kd.N_slice dp.out
   (first | subst dR | (injection dR with f1_ f2_ f3_;have f4_:=f1_.symm;have f5_:=f3_.symm;clear f1_ f2_ f3_;subst f4_;subst f5_))
   refine hK.out _ _ (ca8_ g.out) (fun hHeld=>?_)
   clear hK K
   refine nor_ (N:=some 71) ?_
   refine onn_ 3 72 #[true,true,true,true,false,false,false,false,false] rfl rfl on_ (by decide) (fun K hK=>?_)
   refine goes_ Tryz.func10 kr_ rfl #[.agg #[.int .i64 ae,.slice A q.length B,.slice E s.length F,.slice G u.length I,.slice J y.length O,.slice Q z.length U,.int .i64 af,.slice aa W.length ab],.slice eT bD.length eU] (by rfl) rfl rfl ar_ ?_
   with_reducible refine (gcc_Filter.calls kj4 ae _ _ q _ _ s _ _ u _ _ y _ _ z af _ _ W (fun a=>(some a≠(.slice bp au.length bq:Value).ownBlock∧(some a≠(.slice A q.length B:Value).ownBlock∧(some a≠(.slice E s.length F:Value).ownBlock∧(some a≠(.slice G u.length I:Value).ownBlock∧(some a≠(.slice J y.length O:Value).ownBlock∧(some a≠(.slice Q z.length U:Value).ownBlock∧(some a≠(.slice aa W.length ab:Value).ownBlock∧(a≠Y∧(a≠X∧a≠c)))))))))) _ _ bD ce cf _ ?_ ?_ ?_ ?_ ?_ ?_ ?_ ?_ ?_ ?_ ?_ ?_ ?_ ?_ fr.out).mono ?_
   exact ca_ ((rr_ HO_706001.out).2.2)
   exact (rr_ HO_706001.out).2.1
   exact ca_ ((rr_ HO_706002.out).2.2)
   exact (rr_ HO_706002.out).2.1
   exact ca_ ((rr_ HO_706003.out).2.2)
   exact (rr_ HO_706003.out).2.1
   exact ca_ ((rr_ HO_706004.out).2.2)
   exact (rr_ HO_706004.out).2.1
   exact ca_ ((rr_ HO_706005.out).2.2)
   exact (rr_ HO_706005.out).2.1
   exact ca_ ((Kd.N_reads' HO_706007.out).2.2)
   exact (Kd.N_reads' HO_706007.out).2.1
   exact Kd.N_V (dp.out)
   exact ca_ ((cb_ HRtab.out HB.out))
   rintro e w33 ⟨cH,rfl,ad,hb⟩
   refine ⟨_,rfl,?_⟩
   have cu:=a_ (Kd.N_lower (nm_ (ok':=fun a=>some a≠(.slice bp au.length bq:Value).ownBlock∧some a≠(.slice A q.length B:Value).ownBlock∧some a≠(.slice E s.length F:Value).ownBlock∧some a≠(.slice G u.length I:Value).ownBlock∧some a≠(.slice J y.length O:Value).ownBlock∧some a≠(.slice Q z.length U:Value).ownBlock∧some a≠(.slice aa W.length ab:Value).ownBlock∧a≠Y∧a≠X∧a≠c) ad (fun a hk_=>⟨Or.elim hk_ (fun hs_=>hs_.1) (fun hn_=>(fr_ (Kd.N_lt (vN_ ar.out)) a hn_)),Or.elim hk_ (fun hs_=>hs_.2.1) (fun hn_=>(fr_ (rl_ (vR_ HO_706001.out)) a hn_)),Or.elim hk_ (fun hs_=>hs_.2.2.1) (fun hn_=>(fr_ (rl_ (vR_ HO_706002.out)) a hn_)),Or.elim hk_ (fun hs_=>hs_.2.2.2.1) (fun hn_=>(fr_ (rl_ (vR_ HO_706003.out)) a hn_)),Or.elim hk_ (fun hs_=>hs_.2.2.2.2.1) (fun hn_=>(fr_ (rl_ (vR_ HO_706004.out)) a hn_)),Or.elim hk_ (fun hs_=>hs_.2.2.2.2.2.1) (fun hn_=>(fr_ (rl_ (vR_ HO_706005.out)) a hn_)),Or.elim hk_ (fun hs_=>hs_.2.2.2.2.2.2.1) (fun hn_=>(fr_ (Kd.N_lt (vN_ HO_706007.out)) a hn_)),Or.elim hk_ (fun hs_=>hs_.2.2.2.2.2.2.2.1) (fun hn_=>(Kd.freshB (bk_ l.out) a hn_)),Or.elim hk_ (fun hs_=>hs_.2.2.2.2.2.2.2.2.1) (fun hn_=>(Kd.freshB (bk_ o.out) a hn_)),Or.elim hk_ (fun hs_=>hs_.2.2.2.2.2.2.2.2.2) (fun hn_=>(Kd.freshB (bk_ g.out) a hn_))⟩)) (bz_ bel_))
   replace ar:=a_ (Kd.N_elder' (vN_ ar.out) (Kd.N_base ad) hb)
   replace HO_706001:=a_ (rb_ (vR_ HO_706001.out) hb)
   replace HO_706002:=a_ (rb_ (vR_ HO_706002.out) hb)
   replace HO_706003:=a_ (rb_ (vR_ HO_706003.out) hb)
   replace HO_706004:=a_ (rb_ (vR_ HO_706004.out) hb)
   replace HO_706005:=a_ (rb_ (vR_ HO_706005.out) hb)
   replace HO_706007:=a_ (Kd.N_elder' (vN_ HO_706007.out) (Kd.N_base ad) hb)
   replace l:=a_ (bq_ l.out hb)
   replace o:=a_ (bq_ o.out hb)
   replace g:=a_ (bq_ g.out hb)
   replace HB:=hq_ hb
   clear hb ad
   refine hK.out _ _ (ca8_ g.out) (fun hHeld=>?_)
   clear hK K
   refine nor_ (N:=some 72) ?_
   refine pn_ 4 68 ao_ ?_
   refine pn_ 5 73 ao_ ?_
   refine pn_ 6 74 ao_ ?_
   refine pn_ 7 10 ao_ ?_
   refine pn_ 8 11 ao_ ?_
   refine done_ dn_ ?_
   go_upto_region 13 with (fail)
   go_cut [77] (fun bX wc=>∃(kq:Nat) (bY:Bool),bX = .bool bY∧Aside0 (jigsawlaw20_GccRefuses.j1 kq au ce cf bY=some r)∧Aside0 (Kd.N k58 58 wc w.heap.size (fun a=>some a≠((.slice bp au.length bq):Value).ownBlock∧some a≠((.slice A q.length B):Value).ownBlock∧some a≠((.slice E s.length F):Value).ownBlock∧some a≠((.slice G u.length I):Value).ownBlock∧some a≠((.slice J y.length O):Value).ownBlock∧some a≠((.slice Q z.length U):Value).ownBlock∧some a≠((.slice aa W.length ab):Value).ownBlock∧a≠Y∧a≠X∧a≠c) cH ce)∧Aside0 (Below w.heap.size w wc))
   case first =>
    have H:=cG.out
    clear cG
    replace H:=bo_ H
    obtain ⟨b5,fs,H⟩:=H
    try dsimp only at H
    have H':=a_ H
    clear H
    have fY:=ag.out
    have fZ:=ac.out
    have f0:=ah.out
    have f1:=d.out
    obtain ⟨_,_,_,_,_,_,_,_,_,_,_,_,_,_,_,_⟩:=cel8_ g.out
    go_wp2_with (first|((with_reducible refine gate_callee (f:=17) rfl ?_);refine goesL_ (some 77) rfl rfl Tryz.func17 kr_ rfl #[.agg #[.int .i64 ae,.slice A q.length B,.slice E s.length F,.slice G u.length I,.slice J y.length O,.slice Q z.length U,.int .i64 af,.slice aa W.length ab],.slice bp au.length bq,.int .i64 21,.int .i64 21] rfl ar_ ?_;(with_reducible refine (jigsawref10_Fits.calls kj4 ae _ _ q _ _ s _ _ u _ _ y _ _ z af _ _ W _ _ au 21 21 b5 _ ?_ ?_ ?_ ?_ ?_ ?_ ?_ ?_ ?_ ?_ ?_ ?_ ?_ ?_ fs.out).mono ?_);exact ca_ ((rr_ HO_706001.out).2.2);exact (rr_ HO_706001.out).2.1;exact ca_ ((rr_ HO_706002.out).2.2);exact (rr_ HO_706002.out).2.1;exact ca_ ((rr_ HO_706003.out).2.2);exact (rr_ HO_706003.out).2.1;exact ca_ ((rr_ HO_706004.out).2.2);exact (rr_ HO_706004.out).2.1;exact ca_ ((rr_ HO_706005.out).2.2);exact (rr_ HO_706005.out).2.1;exact ca_ ((Kd.N_reads' HO_706007.out).2.2);exact (Kd.N_reads' HO_706007.out).2.1;exact ca_ ((Kd.N_reads' ar.out).2.2);exact (Kd.N_reads' ar.out).2.1;rintro e w38 ⟨rfl,hb⟩;refine ⟨_,rfl,?_⟩;replace ar:=a_ (Kd.N_below (vN_ ar.out) hb);replace HO_706001:=a_ (rb_ (vR_ HO_706001.out) hb);replace HO_706002:=a_ (rb_ (vR_ HO_706002.out) hb);replace HO_706003:=a_ (rb_ (vR_ HO_706003.out) hb);replace HO_706004:=a_ (rb_ (vR_ HO_706004.out) hb);replace HO_706005:=a_ (rb_ (vR_ HO_706005.out) hb);replace HO_706007:=a_ (Kd.N_below (vN_ HO_706007.out) hb);replace cu:=a_ (Kd.N_below (vN_ cu.out) hb);replace l:=a_ (bq_ l.out hb);replace o:=a_ (bq_ o.out hb);replace g:=a_ (bq_ g.out hb);replace HB:=hq_ hb;clear hb))
    go_meet
    exact ⟨_,(b5),eq_,H',⟨vN_ cu.out⟩,⟨bel_⟩⟩
   clear cG
   try clear c1
   try clear c2
   try clear p2
   try clear q2
   try clear c3
   try clear c4
   try clear p6
   try clear c8
   try clear c10
   try clear c11
   try clear c12
   try clear c13
   try clear c17
   try clear c21
   try clear c21b0
   try clear c21b1
   try clear c23
   try clear c23b0
   try clear c23b1
   try clear c24
   try clear c24b0
   try clear c24b1
   try clear bW
   try clear c35
   try clear c36
   try clear bG
   try clear bH
   try clear bI
   try clear bJ
   try clear bK
   try clear bL
   try clear bM
   try clear bN
   try clear bO
   try clear bP
   try clear bQ
   try clear bR
   try clear bS
   try clear bT
   try clear p2
   try clear p6
   try clear bW
   obtain ⟨kq,bY,rfl,HA,HO_10,HB⟩:=hcut
   cases kq with
   | zero=>exact absurd HA.out (by simp [jigsawlaw20_GccRefuses.j1])
   | succ kj26 =>
    have H:=HA.out
    clear HA
    simp only [jigsawlaw20_GccRefuses.j1] at H
    replace H:=hf_ H
    rcases H with ⟨rfl,H⟩ | ⟨rfl,H⟩
    ·
     replace H:=bo_ H
     obtain ⟨cI,ft,H⟩:=H
     try dsimp only at H
     replace H:=gp_ H
     obtain ⟨rfl,H⟩:=H
     replace H:=gf_ H
     obtain ⟨rfl,H⟩:=H
     obtain rfl:=si_ H
     go_wp2_with (first|((with_reducible refine gate_callee (f:=13) rfl ?_);refine goesL_ (some 90) rfl rfl Tryz.func13 kr_ rfl #[] rfl ar_ ?_;(with_reducible refine (jigsawlaw20_wakes.calls kj26 true _ ?_ ft.out).mono ?_);exact ca_ ((cb_ HRtab.out HB.out));rintro e w49 ⟨rfl,hb⟩;refine ⟨_,rfl,?_⟩;replace HO_10:=a_ (Kd.N_below (vN_ HO_10.out) hb);replace HB:=hq_ hb;clear hb;obtain ⟨gD,gE,eX⟩:=Kd.N_slice HO_10.out;subst eX))
     go_ret
     exact ⟨by first | rfl | (simp [errW_none,errW_some] <;> rfl)|(simp only [←bA];first | rfl | (simp [errW_none,errW_some] <;> rfl))|(simp [*,errW_none,errW_some] <;> rfl),bel_⟩
    replace H:=bo_ H
    obtain ⟨eV,cC,H⟩:=H
    try dsimp only at H
    replace H:=gp_ H
    obtain ⟨rfl,H⟩:=H
    replace H:=ht_ H
    rcases H with ⟨rfl,H⟩ | ⟨rfl,H⟩
    ·
     obtain rfl:=si_ H
     go_wp2_with (first|((with_reducible refine gate_callee (f:=13) rfl ?_);refine goesL_ (some 78) rfl rfl Tryz.func13 kr_ rfl #[] rfl ar_ ?_;(with_reducible refine (jigsawlaw20_wakes.calls kj26 true _ ?_ cC.out).mono ?_);exact ca_ ((cb_ HRtab.out HB.out));rintro e w43 ⟨rfl,hb⟩;refine ⟨_,rfl,?_⟩;replace HO_10:=a_ (Kd.N_below (vN_ HO_10.out) hb);replace HB:=hq_ hb;clear hb;obtain ⟨gB,gC,eW⟩:=Kd.N_slice HO_10.out;subst eW))
     go_ret
     exact ⟨by first | rfl | (simp [errW_none,errW_some] <;> rfl)|(simp only [←bA];first | rfl | (simp [errW_none,errW_some] <;> rfl))|(simp [*,errW_none,errW_some] <;> rfl),bel_⟩
    obtain rfl:=si_ H
    go_wp2_with (first|((with_reducible refine gate_callee (f:=13) rfl ?_);refine goesL_ (some 78) rfl rfl Tryz.func13 kr_ rfl #[] rfl ar_ ?_;(with_reducible refine (jigsawlaw20_wakes.calls kj26 true _ ?_ cC.out).mono ?_);exact ca_ ((cb_ HRtab.out HB.out));rintro e w45 ⟨rfl,hb⟩;refine ⟨_,rfl,?_⟩;replace HB:=hq_ hb;clear hb))
    go_ret
    exact ⟨by first | rfl | (simp [errW_none,errW_some] <;> rfl)|(simp only [←bA];first | rfl | (simp [errW_none,errW_some] <;> rfl))|(simp [*,errW_none,errW_some] <;> rfl),bel_⟩
  replace H:=eg_ H
  rcases H with ⟨-,c51b0,c51b1,H⟩ | ⟨c51,c51b0,c51b1,H⟩
  ·
   replace H:=gp_ H
   obtain ⟨c52,H⟩:=H
   have c52b0:decide (0<(Z.length:Int))=true:=dt_ c52
   have c52b1:decide (0<Z.length)=true:=dt_ (by omega)
   clear c52
   obtain ⟨a3,bZ⟩:∃y_:List (List Int),y_=(Z.set (0:Int).toNat ([]:List Int)):=⟨_,rfl⟩
   replace H:((jigsawlaw20_doms.f kj4 a3).bind fun cg=>((gcc_Filter.f kj4 ae q s u y z af W cg).bind fun dq=>((jigsawref10_Fits.f kj4 ae q s u y z af W a3 21 21).bind fun cv=>(jigsawlaw20_GccRefuses.j2 kj4 a3 dq.1 dq.2 cv))))=some r:=h2_ H bZ
   have es:=a_ bZ
   clear bZ
   replace H:=bo_ H
   obtain ⟨cg,fu,H⟩:=H
   try dsimp only at H
   replace H:=bs_.mp H
   obtain ⟨⟨ch,ci⟩,dS,H⟩:=H
   try dsimp only at H
   have fv:=a_ dS
   clear dS
   have cJ:=a_ H
   clear H
   have p53:0≤(0:Int):=(by omega)
   have cj:(0:Int)<((Z.length:Int):Int):=dq_
   have dT:(0<Z.length)=True:=et_ (by omega)
   obtain ⟨go53,aJ,dU,dV,gl53,cl53,HG53⟩:=Kd.N_form HO_8.out (by omega)
   (first | cases dU | (injection dU with ea_ en_ ec_;(first | subst ea_ | (injection ea_ with ea_;subst ea_));subst ec_;clear en_))
   have GB53:=a_ dV
   have GG53:=a_ HG53
   clear dV gl53 HG53
   obtain ⟨ce53,hcl53,hM53,hcc53,hfr53⟩:=Kd.N_elem HO_8.out [] (0:Int) p53 cj
   obtain ⟨ua53_0,uc53_0,rfl,fw,fx⟩:=Kd.FK_slice_open hM53
   have br:=hcc53 0 _ rfl
   have hf53_0:=hfr53 0
   (try simp only [show ((Kd.slice 3 (Kd.int .i64))).sz=1 from rfl,Nat.mul_one,Nat.add_zero] at br)
   (try simp only [show ((Kd.slice 3 (Kd.int .i64))).sz=1 from rfl,Nat.mul_one,Nat.add_zero] at hf53_0)
   clear hcl53 hcc53 hfr53 hM53
   (try rw [t0_] at br)
   (try simp only [Nat.reduceMul,Nat.zero_mul,Nat.zero_add,Nat.reduceAdd] at br)
   (try rw [t0_] at hf53_0)
   (try simp only [Nat.reduceMul,Nat.zero_mul,Nat.zero_add,Nat.reduceAdd] at hf53_0)
   replace p53:=et_ p53
   replace cj:=et_ cj
   have dW:=a_ (show Kd.N (Kd.slice 3 (Kd.int .i64)) 30 wc w.heap.size (fun a=>some a≠(.slice A q.length B:Value).ownBlock∧some a≠(.slice E s.length F:Value).ownBlock∧some a≠(.slice G u.length I:Value).ownBlock∧some a≠(.slice J y.length O:Value).ownBlock∧some a≠(.slice Q z.length U:Value).ownBlock∧some a≠(.slice aa W.length ab:Value).ownBlock∧a≠Y∧a≠X∧a≠c) (.slice (some ⟨go53,0,none⟩) Z.length aJ) Z from (vN_ HO_8.out))
   obtain ⟨ce57,hcl57,hM57,hcc57,hfr57⟩:=Kd.N_elem dW.out [] (0:Int) (by omega) (by have h_:(0:Int)<((Z.length:Int):Int):=dq_;first | exact h_ | (have e_:=(Kd.N_reads' HO_8.out).1;omega) | simpa using h_)
   obtain ⟨ua57_0,uc57_0,rfl,fy,fz⟩:=Kd.FK_slice_open hM57
   have HP57:=Kd.N_seg dW.out (0:Int) (by omega) (by have h_:(0:Int)<((Z.length:Int):Int):=dq_;first | exact h_ | (have e_:=(Kd.N_reads' HO_8.out).1;omega) | simpa using h_) (seg:=[.slice none 0 0]) (j:=0) hcl57 hcc57 (show 1≤1 from by decide) (x':=([]:List Int)) (Kd.FK_slice_mk (lr_ _) (Kd.F_nil _ _ _)) (fun _ hk=>hk)
   have bs:=hcc57 0 _ rfl
   (try simp only [show ((Kd.slice 3 (Kd.int .i64))).sz=1 from rfl,Nat.mul_one,Nat.add_zero] at bs)
   (try rw [t0_] at bs)
   (try simp only [Nat.reduceMul,Nat.zero_mul,Nat.zero_add,Nat.reduceAdd] at bs)
   have hf57_0:=hfr57 0
   (try simp only [show ((Kd.slice 3 (Kd.int .i64))).sz=1 from rfl,Nat.mul_one,Nat.add_zero] at hf57_0)
   (try rw [t0_] at hf57_0)
   (try simp only [Nat.reduceMul,Nat.zero_mul,Nat.zero_add,Nat.reduceAdd] at hf57_0)
   clear hcl57 hcc57 hfr57 hM57
   (try simp only [show ((Kd.slice 3 (Kd.int .i64))).sz=1 from rfl,Nat.mul_one,Nat.add_zero] at HP57)
   (try simp only [show ((Kd.slice 3 (Kd.int .i64))).sz=1 from rfl,Nat.mul_one,Nat.add_zero] at HP57)
   try go_wp2_with (first|((with_reducible refine gate_store (t:=30) (p:=34) rfl ?_);refine store_event (t:=30) (p:=34) (v:=?vo_w58) (w1:=(wc.setCell ⟨go53,0,none⟩ (.slice none 0 0))) ?hg ?ho ?hn ?hr ?_;(case ho=>rfl);(case hg=>rfl);(case hn=>rfl);(case hr=>first|(go_simp;done)|(go_simp;rfl));intro w58 hw;have hg:wc.grownBy w58 (some go53):=(by rw [hw];exact HP57.2);have hp_:Kd.N (Kd.slice 3 (Kd.int .i64)) 30 w58 w.heap.size (fun a=>some a≠(.slice A q.length B:Value).ownBlock∧some a≠(.slice E s.length F:Value).ownBlock∧some a≠(.slice G u.length I:Value).ownBlock∧some a≠(.slice J y.length O:Value).ownBlock∧some a≠(.slice Q z.length U:Value).ownBlock∧some a≠(.slice aa W.length ab:Value).ownBlock∧a≠Y∧a≠X∧a≠c) (.slice (some ⟨go53,0,none⟩) Z.length aJ) a3:=(by rw [hw,es.out];exact HP57.1);clear HP57;replace HO_706001:=a_ (Kd.R_over' (v:=(.slice (some ⟨go53,0,none⟩) Z.length aJ)) (vR_ HO_706001.out) (Kd.N_typed HO_8.out) (by decide) hg);replace HO_706002:=a_ (Kd.R_over' (v:=(.slice (some ⟨go53,0,none⟩) Z.length aJ)) (vR_ HO_706002.out) (Kd.N_typed HO_8.out) (by decide) hg);replace HO_706003:=a_ (Kd.R_over' (v:=(.slice (some ⟨go53,0,none⟩) Z.length aJ)) (vR_ HO_706003.out) (Kd.N_typed HO_8.out) (by decide) hg);replace HO_706004:=a_ (Kd.R_over' (v:=(.slice (some ⟨go53,0,none⟩) Z.length aJ)) (vR_ HO_706004.out) (Kd.N_typed HO_8.out) (by decide) hg);replace HO_706005:=a_ (Kd.R_over' (v:=(.slice (some ⟨go53,0,none⟩) Z.length aJ)) (vR_ HO_706005.out) (Kd.N_typed HO_8.out) (by decide) hg);replace HO_706007:=a_ (Kd.N_afterv (v:=(.slice (some ⟨go53,0,none⟩) Z.length aJ)) (v1:=(.slice (some ⟨go53,0,none⟩) Z.length aJ)) (ok:=(fun a=>some a≠(.slice A q.length B:Value).ownBlock∧some a≠(.slice E s.length F:Value).ownBlock∧some a≠(.slice G u.length I:Value).ownBlock∧some a≠(.slice J y.length O:Value).ownBlock∧some a≠(.slice Q z.length U:Value).ownBlock∧a≠Y∧a≠X∧a≠c)) (by refine vN_ ?_;exact nm_ HO_706007.out (fun _ hk=>⟨⟨hk.2.1,⟨hk.2.2.1,⟨hk.2.2.2.1,⟨hk.2.2.2.2.1,⟨hk.2.2.2.2.2.1,⟨hk.2.2.2.2.2.2.1,⟨hk.2.2.2.2.2.2.2.1,hk.2.2.2.2.2.2.2.2⟩⟩⟩⟩⟩⟩⟩,hk.1⟩)) hg (.inl rfl));replace l:=a_ (blk_grown (bk_ l.out) hg (Kd.N_ne HO_8.out l.out (by decide)));replace o:=a_ (blk_grown (bk_ o.out) hg (Kd.N_ne HO_8.out o.out (by decide)));replace g:=a_ (blk_grown (bk_ g.out) hg (Kd.N_ne HO_8.out g.out (by decide)));replace HO_8:=a_ (hp_);replace HB:=a_ ((by rw [hw];exact below_set (HB.out) GB53.out:Below w.heap.size w w58));clear hg hw hp_))
   replace HO_8:=a_ (Kd.N_drew HO_8.out)
   replace HO_706001:=a_ (Kd.R_drew HO_706001.out)
   replace HO_706002:=a_ (Kd.R_drew HO_706002.out)
   replace HO_706003:=a_ (Kd.R_drew HO_706003.out)
   replace HO_706004:=a_ (Kd.R_drew HO_706004.out)
   replace HO_706005:=a_ (Kd.R_drew HO_706005.out)
   replace HO_706007:=a_ (Kd.N_drew HO_706007.out)
   replace l:=a_ (blk_drew l.out)
   replace o:=a_ (blk_drew o.out)
   replace g:=a_ (blk_drew g.out)
   replace HB:=a_ (below_drew1 HB.out)
   refine start_ (n:=9) (S:=fun w'=>w'.cell? ⟨c,0,none⟩=some (.int .i64 ae)∧w'.cell? ⟨c,1,none⟩=some (.slice A q.length B)∧w'.cell? ⟨c,2,none⟩=some (.slice E s.length F)∧w'.cell? ⟨c,3,none⟩=some (.slice G u.length I)∧w'.cell? ⟨c,4,none⟩=some (.slice J y.length O)∧w'.cell? ⟨c,5,none⟩=some (.slice Q z.length U)∧w'.cell? ⟨c,6,none⟩=some (.int .i64 af)∧w'.cell? ⟨c,7,none⟩=some (.slice aa W.length ab)) (ds:=[]) #[false,false,false,false,false,false,false,false,false] kr_ rfl rfl (ca8_ g.out) (fun hHeld=>?_);refine with_tabW jigsawlaw20_GccRefuses.tab12 jigsawlaw20_GccRefuses.bits12 (fun HT_ HW_=>?_)
   generalize w58.drew=w59 at HO_8 HO_706001 HO_706002 HO_706003 HO_706004 HO_706005 HO_706007 l o g HB hHeld ⊢
   refine pn_ 1 70 ao_ ?_
   refine tn_ 0 69 tw_ hHeld ?_
   refine onn_ 2 71 #[true,true,true,false,false,false,false,false,false] rfl rfl on_ (by decide) (fun K hK=>?_)
   refine goes_ Tryz.func11 kr_ rfl #[.slice (some ⟨go53,0,none⟩) a3.length aJ] (by rfl) rfl rfl (by (try simp only [List.map_toArray,List.map_cons,List.map_nil]);first | done | (rw [show a3.length=Z.length from (Kd.N_reads' HO_8.out).1.symm] <;> rfl) | rfl | (simp only [List.length_drop,List.length_take];rfl)) ?_
   with_reducible refine (jigsawlaw20_doms.calls kj4 _ _ a3 cg _ ?_ ?_ ?_ fu.out).mono ?_
   exact ca_ ((Kd.N_reads' HO_8.out).2.2)
   focus (rw [show a3.length=Z.length from (Kd.N_reads' HO_8.out).1.symm];exact (Kd.N_reads' HO_8.out).2.1)
   exact ca_ ((cb_ HRtab.out HB.out))
   rintro e w60 ⟨gF,rfl,ad,hb⟩
   refine ⟨_,rfl,?_⟩
   have dr:=a_ (Kd.N_lower (nm_ (ok':=fun a=>some a≠(.slice (some ⟨go53,0,none⟩) Z.length aJ:Value).ownBlock∧some a≠(.slice A q.length B:Value).ownBlock∧some a≠(.slice E s.length F:Value).ownBlock∧some a≠(.slice G u.length I:Value).ownBlock∧some a≠(.slice J y.length O:Value).ownBlock∧some a≠(.slice Q z.length U:Value).ownBlock∧some a≠(.slice aa W.length ab:Value).ownBlock∧a≠Y∧a≠X∧a≠c) ad (fun a hk_=>⟨(fr_ (Kd.N_lt (vN_ HO_8.out)) a hk_),(fr_ (rl_ (vR_ HO_706001.out)) a hk_),(fr_ (rl_ (vR_ HO_706002.out)) a hk_),(fr_ (rl_ (vR_ HO_706003.out)) a hk_),(fr_ (rl_ (vR_ HO_706004.out)) a hk_),(fr_ (rl_ (vR_ HO_706005.out)) a hk_),(fr_ (Kd.N_lt (vN_ HO_706007.out)) a hk_),(Kd.freshB (bk_ l.out) a hk_),(Kd.freshB (bk_ o.out) a hk_),(Kd.freshB (bk_ g.out) a hk_)⟩)) (bz_ bel_))
   replace HO_8:=a_ (Kd.N_elder' (vN_ HO_8.out) (Kd.N_base ad) hb)
   replace HO_706001:=a_ (rb_ (vR_ HO_706001.out) hb)
   replace HO_706002:=a_ (rb_ (vR_ HO_706002.out) hb)
   replace HO_706003:=a_ (rb_ (vR_ HO_706003.out) hb)
   replace HO_706004:=a_ (rb_ (vR_ HO_706004.out) hb)
   replace HO_706005:=a_ (rb_ (vR_ HO_706005.out) hb)
   replace HO_706007:=a_ (Kd.N_elder' (vN_ HO_706007.out) (Kd.N_base ad) hb)
   replace l:=a_ (bq_ l.out hb)
   replace o:=a_ (bq_ o.out hb)
   replace g:=a_ (bq_ g.out hb)
   replace HB:=hq_ hb
   clear hb ad
   obtain ⟨eY,eZ,dX⟩:=Kd.N_slice dr.out
   (first | subst dX | (injection dX with f1_ f2_ f3_;have f4_:=f1_.symm;have f5_:=f3_.symm;clear f1_ f2_ f3_;subst f4_;subst f5_))
   refine hK.out _ _ (ca8_ g.out) (fun hHeld=>?_)
   clear hK K
   refine nor_ (N:=some 71) ?_
   refine onn_ 3 72 #[true,true,true,true,false,false,false,false,false] rfl rfl on_ (by decide) (fun K hK=>?_)
   refine goes_ Tryz.func10 kr_ rfl #[.agg #[.int .i64 ae,.slice A q.length B,.slice E s.length F,.slice G u.length I,.slice J y.length O,.slice Q z.length U,.int .i64 af,.slice aa W.length ab],.slice eY cg.length eZ] (by rfl) rfl rfl ar_ ?_
   with_reducible refine (gcc_Filter.calls kj4 ae _ _ q _ _ s _ _ u _ _ y _ _ z af _ _ W (fun a=>(some a≠(.slice (some ⟨go53,0,none⟩) Z.length aJ:Value).ownBlock∧(some a≠(.slice A q.length B:Value).ownBlock∧(some a≠(.slice E s.length F:Value).ownBlock∧(some a≠(.slice G u.length I:Value).ownBlock∧(some a≠(.slice J y.length O:Value).ownBlock∧(some a≠(.slice Q z.length U:Value).ownBlock∧(some a≠(.slice aa W.length ab:Value).ownBlock∧(a≠Y∧(a≠X∧a≠c)))))))))) _ _ cg ch ci _ ?_ ?_ ?_ ?_ ?_ ?_ ?_ ?_ ?_ ?_ ?_ ?_ ?_ ?_ fv.out).mono ?_
   exact ca_ ((rr_ HO_706001.out).2.2)
   exact (rr_ HO_706001.out).2.1
   exact ca_ ((rr_ HO_706002.out).2.2)
   exact (rr_ HO_706002.out).2.1
   exact ca_ ((rr_ HO_706003.out).2.2)
   exact (rr_ HO_706003.out).2.1
   exact ca_ ((rr_ HO_706004.out).2.2)
   exact (rr_ HO_706004.out).2.1
   exact ca_ ((rr_ HO_706005.out).2.2)
   exact (rr_ HO_706005.out).2.1
   exact ca_ ((Kd.N_reads' HO_706007.out).2.2)
   exact (Kd.N_reads' HO_706007.out).2.1
   exact Kd.N_V (dr.out)
   exact ca_ ((cb_ HRtab.out HB.out))
   rintro e w62 ⟨cK,rfl,ad,hb⟩
   refine ⟨_,rfl,?_⟩
   have cw:=a_ (Kd.N_lower (nm_ (ok':=fun a=>some a≠(.slice (some ⟨go53,0,none⟩) Z.length aJ:Value).ownBlock∧some a≠(.slice A q.length B:Value).ownBlock∧some a≠(.slice E s.length F:Value).ownBlock∧some a≠(.slice G u.length I:Value).ownBlock∧some a≠(.slice J y.length O:Value).ownBlock∧some a≠(.slice Q z.length U:Value).ownBlock∧some a≠(.slice aa W.length ab:Value).ownBlock∧a≠Y∧a≠X∧a≠c) ad (fun a hk_=>⟨Or.elim hk_ (fun hs_=>hs_.1) (fun hn_=>(fr_ (Kd.N_lt (vN_ HO_8.out)) a hn_)),Or.elim hk_ (fun hs_=>hs_.2.1) (fun hn_=>(fr_ (rl_ (vR_ HO_706001.out)) a hn_)),Or.elim hk_ (fun hs_=>hs_.2.2.1) (fun hn_=>(fr_ (rl_ (vR_ HO_706002.out)) a hn_)),Or.elim hk_ (fun hs_=>hs_.2.2.2.1) (fun hn_=>(fr_ (rl_ (vR_ HO_706003.out)) a hn_)),Or.elim hk_ (fun hs_=>hs_.2.2.2.2.1) (fun hn_=>(fr_ (rl_ (vR_ HO_706004.out)) a hn_)),Or.elim hk_ (fun hs_=>hs_.2.2.2.2.2.1) (fun hn_=>(fr_ (rl_ (vR_ HO_706005.out)) a hn_)),Or.elim hk_ (fun hs_=>hs_.2.2.2.2.2.2.1) (fun hn_=>(fr_ (Kd.N_lt (vN_ HO_706007.out)) a hn_)),Or.elim hk_ (fun hs_=>hs_.2.2.2.2.2.2.2.1) (fun hn_=>(Kd.freshB (bk_ l.out) a hn_)),Or.elim hk_ (fun hs_=>hs_.2.2.2.2.2.2.2.2.1) (fun hn_=>(Kd.freshB (bk_ o.out) a hn_)),Or.elim hk_ (fun hs_=>hs_.2.2.2.2.2.2.2.2.2) (fun hn_=>(Kd.freshB (bk_ g.out) a hn_))⟩)) (bz_ bel_))
   replace HO_8:=a_ (Kd.N_elder' (vN_ HO_8.out) (Kd.N_base ad) hb)
   replace HO_706001:=a_ (rb_ (vR_ HO_706001.out) hb)
   replace HO_706002:=a_ (rb_ (vR_ HO_706002.out) hb)
   replace HO_706003:=a_ (rb_ (vR_ HO_706003.out) hb)
   replace HO_706004:=a_ (rb_ (vR_ HO_706004.out) hb)
   replace HO_706005:=a_ (rb_ (vR_ HO_706005.out) hb)
   replace HO_706007:=a_ (Kd.N_elder' (vN_ HO_706007.out) (Kd.N_base ad) hb)
   replace l:=a_ (bq_ l.out hb)
   replace o:=a_ (bq_ o.out hb)
   replace g:=a_ (bq_ g.out hb)
   replace HB:=hq_ hb
   clear hb ad
   refine hK.out _ _ (ca8_ g.out) (fun hHeld=>?_)
   clear hK K
   refine nor_ (N:=some 72) ?_
   refine pn_ 4 68 ao_ ?_
   refine pn_ 5 73 ao_ ?_
   refine pn_ 6 74 ao_ ?_
   refine pn_ 7 10 ao_ ?_
   refine pn_ 8 11 ao_ ?_
   refine done_ dn_ ?_
   go_upto_region 13 with (fail)
   go_cut [77] (fun bX wc=>∃(kq:Nat) (b0:Bool),bX = .bool b0∧Aside0 (jigsawlaw20_GccRefuses.j2 kq a3 ch ci b0=some r)∧Aside0 (Kd.N (Kd.slice 3 (Kd.int .i64)) 30 wc w.heap.size (fun a=>some a≠cK.ownBlock∧some a≠((.slice A q.length B):Value).ownBlock∧some a≠((.slice E s.length F):Value).ownBlock∧some a≠((.slice G u.length I):Value).ownBlock∧some a≠((.slice J y.length O):Value).ownBlock∧some a≠((.slice Q z.length U):Value).ownBlock∧some a≠((.slice aa W.length ab):Value).ownBlock∧a≠Y∧a≠X∧a≠c) (.slice (some ⟨go53,0,none⟩) Z.length aJ) a3)∧Aside0 (Kd.N k58 58 wc w.heap.size (fun a=>some a≠((.slice (some ⟨go53,0,none⟩) Z.length aJ):Value).ownBlock∧some a≠((.slice A q.length B):Value).ownBlock∧some a≠((.slice E s.length F):Value).ownBlock∧some a≠((.slice G u.length I):Value).ownBlock∧some a≠((.slice J y.length O):Value).ownBlock∧some a≠((.slice Q z.length U):Value).ownBlock∧some a≠((.slice aa W.length ab):Value).ownBlock∧a≠Y∧a≠X∧a≠c) cK ch)∧Aside0 (Kd.R (Kd.int .i64) 3 wc w.heap.size (fun a=>some a≠((.slice E s.length F):Value).ownBlock∧some a≠((.slice G u.length I):Value).ownBlock∧some a≠((.slice J y.length O):Value).ownBlock∧some a≠((.slice Q z.length U):Value).ownBlock) (.slice A q.length B) q)∧Aside0 (Kd.R (Kd.int .i64) 3 wc w.heap.size (fun a=>some a≠((.slice A q.length B):Value).ownBlock∧some a≠((.slice G u.length I):Value).ownBlock∧some a≠((.slice J y.length O):Value).ownBlock∧some a≠((.slice Q z.length U):Value).ownBlock) (.slice E s.length F) s)∧Aside0 (Kd.R (Kd.int .i64) 3 wc w.heap.size (fun a=>some a≠((.slice A q.length B):Value).ownBlock∧some a≠((.slice E s.length F):Value).ownBlock∧some a≠((.slice J y.length O):Value).ownBlock∧some a≠((.slice Q z.length U):Value).ownBlock) (.slice G u.length I) u)∧Aside0 (Kd.R (Kd.int .i64) 3 wc w.heap.size (fun a=>some a≠((.slice A q.length B):Value).ownBlock∧some a≠((.slice E s.length F):Value).ownBlock∧some a≠((.slice G u.length I):Value).ownBlock∧some a≠((.slice Q z.length U):Value).ownBlock) (.slice J y.length O) y)∧Aside0 (Kd.R (Kd.int .i64) 3 wc w.heap.size (fun a=>some a≠((.slice A q.length B):Value).ownBlock∧some a≠((.slice E s.length F):Value).ownBlock∧some a≠((.slice G u.length I):Value).ownBlock∧some a≠((.slice J y.length O):Value).ownBlock) (.slice Q z.length U) z)∧Aside0 (Kd.N (Kd.slice 3 (Kd.int .i64)) 30 wc w.heap.size (fun a=>some a≠((.slice (some ⟨go53,0,none⟩) Z.length aJ):Value).ownBlock∧some a≠cK.ownBlock∧some a≠((.slice A q.length B):Value).ownBlock∧some a≠((.slice E s.length F):Value).ownBlock∧some a≠((.slice G u.length I):Value).ownBlock∧some a≠((.slice J y.length O):Value).ownBlock∧some a≠((.slice Q z.length U):Value).ownBlock∧a≠Y∧a≠X∧a≠c) (.slice aa W.length ab) W)∧Aside0 (wc.heap[Y]? = some (.cells #[.int .u8 a6,(.slice bc aQ.length c0_1),(.slice bd aR.length c0_2),(.slice be aT.length c0_3),.int .i16 a7,.int .u8 a8,(.slice bf aU.length c0_6)] 29 (0,0)))∧Aside0 (wc.heap[X]? = some (.cells #[.int .i64 al,(.slice bg aD.length c1_1),(.slice bh aE.length c1_2),(.slice bi aG.length c1_3),(.slice bj aH.length c1_4),(.slice bk aI.length c1_5),.int .i64 aq,(.slice bm a0.length c1_7)] 32 (0,0)))∧Aside0 (wc.heap[c]? = some (.cells #[.int .i64 ae,(.slice A q.length B),(.slice E s.length F),(.slice G u.length I),(.slice J y.length O),(.slice Q z.length U),.int .i64 af,(.slice aa W.length ab)] 32 (0,0)))∧Aside0 (Below w.heap.size w wc))
   case first =>
    have H:=cJ.out
    clear cJ
    replace H:=bo_ H
    obtain ⟨cv,fA,H⟩:=H
    try dsimp only at H
    have H':=a_ H
    clear H
    have f2:=ag.out
    have f3:=ac.out
    have f4:=ah.out
    have f5:=d.out
    obtain ⟨_,_,_,_,_,_,_,_,_,_,_,_,_,_,_,_⟩:=cel8_ g.out
    go_wp2_with (first|((with_reducible refine gate_callee (f:=17) rfl ?_);refine goesL_ (some 77) rfl rfl Tryz.func17 kr_ rfl #[.agg #[.int .i64 ae,.slice A q.length B,.slice E s.length F,.slice G u.length I,.slice J y.length O,.slice Q z.length U,.int .i64 af,.slice aa W.length ab],.slice (some ⟨go53,0,none⟩) a3.length aJ,.int .i64 21,.int .i64 21] rfl (by (try simp only [List.map_toArray,List.map_cons,List.map_nil]);first | done | (rw [show a3.length=Z.length from (Kd.N_reads' HO_8.out).1.symm] <;> rfl) | rfl | (simp only [List.length_drop,List.length_take];rfl)) ?_;(with_reducible refine (jigsawref10_Fits.calls kj4 ae _ _ q _ _ s _ _ u _ _ y _ _ z af _ _ W _ _ a3 21 21 cv _ ?side1 ?side2 ?side3 ?side4 ?side5 ?side6 ?side7 ?side8 ?side9 ?side10 ?side11 ?side12 ?side13 ?side14 fA.out).mono ?_);(case side1=>exact ca_ ((rr_ HO_706001.out).2.2));(case side2=>exact (rr_ HO_706001.out).2.1);(case side3=>exact ca_ ((rr_ HO_706002.out).2.2));(case side4=>exact (rr_ HO_706002.out).2.1);(case side5=>exact ca_ ((rr_ HO_706003.out).2.2));(case side6=>exact (rr_ HO_706003.out).2.1);(case side7=>exact ca_ ((rr_ HO_706004.out).2.2));(case side8=>exact (rr_ HO_706004.out).2.1);(case side9=>exact ca_ ((rr_ HO_706005.out).2.2));(case side10=>exact (rr_ HO_706005.out).2.1);(case side11=>exact ca_ ((Kd.N_reads' HO_706007.out).2.2));(case side12=>exact (Kd.N_reads' HO_706007.out).2.1);(case side13=>exact ca_ ((Kd.N_reads' HO_8.out).2.2));(case side14=>rw [show a3.length=Z.length from (Kd.N_reads' HO_8.out).1.symm];exact (Kd.N_reads' HO_8.out).2.1);rintro e w67 ⟨rfl,hb⟩;refine ⟨_,rfl,?_⟩;replace HO_8:=a_ (Kd.N_below (vN_ HO_8.out) hb);replace HO_706001:=a_ (rb_ (vR_ HO_706001.out) hb);replace HO_706002:=a_ (rb_ (vR_ HO_706002.out) hb);replace HO_706003:=a_ (rb_ (vR_ HO_706003.out) hb);replace HO_706004:=a_ (rb_ (vR_ HO_706004.out) hb);replace HO_706005:=a_ (rb_ (vR_ HO_706005.out) hb);replace HO_706007:=a_ (Kd.N_below (vN_ HO_706007.out) hb);replace cw:=a_ (Kd.N_below (vN_ cw.out) hb);replace l:=a_ (bq_ l.out hb);replace o:=a_ (bq_ o.out hb);replace g:=a_ (bq_ g.out hb);replace HB:=hq_ hb;clear hb))
    go_meet
    exact ⟨_,(cv),eq_,H',⟨by refine vN_ ?_;exact nm_ HO_8.out (fun _ hk=>⟨hk.2,⟨hk.1.1.1,⟨hk.1.1.2.1,⟨hk.1.1.2.2.1,⟨hk.1.1.2.2.2.1,⟨hk.1.1.2.2.2.2.1,⟨hk.1.1.2.2.2.2.2.1,⟨hk.1.1.2.2.2.2.2.2.1,⟨hk.1.1.2.2.2.2.2.2.2.1,hk.1.1.2.2.2.2.2.2.2.2⟩⟩⟩⟩⟩⟩⟩⟩⟩)⟩,⟨vN_ cw.out⟩,⟨vR_ HO_706001.out⟩,⟨vR_ HO_706002.out⟩,⟨vR_ HO_706003.out⟩,⟨vR_ HO_706004.out⟩,⟨vR_ HO_706005.out⟩,⟨by refine vN_ ?_;exact nm_ HO_706007.out (fun _ hk=>⟨hk.1.1.2,⟨hk.2,⟨hk.1.1.1.1,⟨hk.1.1.1.2.1,⟨hk.1.1.1.2.2.1,⟨hk.1.1.1.2.2.2.1,⟨hk.1.1.1.2.2.2.2.1,⟨hk.1.1.1.2.2.2.2.2.1,⟨hk.1.1.1.2.2.2.2.2.2.1,hk.1.1.1.2.2.2.2.2.2.2⟩⟩⟩⟩⟩⟩⟩⟩⟩)⟩,⟨bk_ l.out⟩,⟨bk_ o.out⟩,⟨bk_ g.out⟩,⟨bel_⟩⟩
   clear cJ
   try clear c1
   try clear c2
   try clear p2
   try clear q2
   try clear c3
   try clear c4
   try clear c5
   try clear p5
   try clear q5
   try clear fC
   try clear fD
   try clear hf5
   try clear c6
   try clear p6
   try clear c8
   try clear c10
   try clear c11
   try clear c12
   try clear c13
   try clear c17
   try clear c21
   try clear c21b0
   try clear c21b1
   try clear c23
   try clear c23b0
   try clear c23b1
   try clear c24
   try clear c24b0
   try clear c24b1
   try clear bW
   try clear c35
   try clear c36
   try clear c39
   try clear c41
   try clear c42
   try clear c47
   try clear c48
   try clear c51
   try clear c51b0
   try clear c51b1
   try clear c52
   try clear c52b0
   try clear c52b1
   try clear c53
   try clear p53
   try clear cj
   try clear e0
   try clear dT
   try clear hf53
   try clear c57
   try clear e1
   try clear hf57
   try clear c64
   try clear c65
   try clear bG
   try clear bH
   try clear bI
   try clear bJ
   try clear bK
   try clear bL
   try clear bM
   try clear bN
   try clear bO
   try clear bP
   try clear bQ
   try clear bR
   try clear bS
   try clear bT
   try clear br
   try clear bs
   try clear p2
   try clear p53
   try clear p6
   try clear q2
   try clear bW
   try clear cj
   obtain ⟨kq,b0,rfl,HA,HO_8,HO_10,HO_706001,HO_706002,HO_706003,HO_706004,HO_706005,HO_706007,l,o,g,HB⟩:=hcut
   have ay:=(Kd.N_reads' HO_8.out).1
   rw [ay] at HO_8
   (try simp only [ay])
   (try simp only [ay] at l)
   (try simp only [ay] at o)
   (try simp only [ay] at g)
   (try simp only [ay] at HO_10)
   (try simp only [ay] at HO_706001)
   (try simp only [ay] at HO_706002)
   (try simp only [ay] at HO_706003)
   (try simp only [ay] at HO_706004)
   (try simp only [ay] at HO_706005)
   (try simp only [ay] at HO_706007)
   cases kq with
   | zero=>exact absurd HA.out (by simp [jigsawlaw20_GccRefuses.j2])
   | succ kj55 =>
    have H:=HA.out
    clear HA
    simp only [jigsawlaw20_GccRefuses.j2] at H
    replace H:=hf_ H
    rcases H with ⟨rfl,H⟩ | ⟨rfl,H⟩
    ·
     replace H:=bo_ H
     obtain ⟨cL,fE,H⟩:=H
     try dsimp only at H
     replace H:=gp_ H
     obtain ⟨rfl,H⟩:=H
     replace H:=gf_ H
     obtain ⟨rfl,H⟩:=H
     obtain rfl:=si_ H
     go_wp2_with (first|((with_reducible refine gate_callee (f:=13) rfl ?_);refine goesL_ (some 90) rfl rfl Tryz.func13 kr_ rfl #[] rfl ar_ ?_;(with_reducible refine (jigsawlaw20_wakes.calls kj55 true _ ?_ fE.out).mono ?_);exact ca_ ((cb_ HRtab.out HB.out));rintro e w78 ⟨rfl,hb⟩;refine ⟨_,rfl,?_⟩;replace HO_10:=a_ (Kd.N_below (vN_ HO_10.out) hb);replace HB:=hq_ hb;clear hb;obtain ⟨gJ,gK,e4⟩:=Kd.N_slice HO_10.out;subst e4))
     go_ret
     exact ⟨er_,bel_⟩
    replace H:=bo_ H
    obtain ⟨e2,eK,H⟩:=H
    try dsimp only at H
    replace H:=gp_ H
    obtain ⟨rfl,H⟩:=H
    replace H:=ht_ H
    rcases H with ⟨rfl,H⟩ | ⟨rfl,H⟩
    ·
     obtain rfl:=si_ H
     go_wp2_with (first|((with_reducible refine gate_callee (f:=13) rfl ?_);refine goesL_ (some 78) rfl rfl Tryz.func13 kr_ rfl #[] rfl ar_ ?_;(with_reducible refine (jigsawlaw20_wakes.calls kj55 true _ ?_ eK.out).mono ?_);exact ca_ ((cb_ HRtab.out HB.out));rintro e w72 ⟨rfl,hb⟩;refine ⟨_,rfl,?_⟩;replace HO_10:=a_ (Kd.N_below (vN_ HO_10.out) hb);replace HB:=hq_ hb;clear hb;obtain ⟨gH,gI,e3⟩:=Kd.N_slice HO_10.out;subst e3))
     go_ret
     exact ⟨er_,bel_⟩
    obtain rfl:=si_ H
    go_wp2_with (first|((with_reducible refine gate_callee (f:=13) rfl ?_);refine goesL_ (some 78) rfl rfl Tryz.func13 kr_ rfl #[] rfl ar_ ?_;(with_reducible refine (jigsawlaw20_wakes.calls kj55 true _ ?_ eK.out).mono ?_);exact ca_ ((cb_ HRtab.out HB.out));rintro e w74 ⟨rfl,hb⟩;refine ⟨_,rfl,?_⟩;replace HB:=hq_ hb;clear hb))
    go_ret
    exact ⟨er_,bel_⟩
  replace H:=eg_ H
  rcases H with ⟨-,c80b0,c80b1,H⟩ | ⟨c80,c80b0,c80b1,H⟩
  ·
   obtain ⟨ck,b1⟩:∃y_:List Int,y_=(([1]:List Int)):=⟨_,rfl⟩
   replace H:(if Z.length<5864062014805 then ((some (Z++[ck]:List (List Int))).bind fun aw=>((jigsawlaw20_doms.f kj4 aw).bind fun bE=>((gcc_Filter.f kj4 ae q s u y z af W bE).bind fun b2=>((jigsawref10_Fits.f kj4 ae q s u y z af W aw 21 21).bind fun b6=>(jigsawlaw20_GccRefuses.j3 kj4 aw b2.1 b2.2 b6))))) else (none))=some r:=h2_ H b1
   have dt:=a_ b1
   clear b1
   replace H:=ga_ H
   obtain ⟨LMc81,H⟩:=H
   obtain ⟨aw,b3⟩:∃y_:List (List Int),y_=(Z++[ck]):=⟨_,rfl⟩
   replace H:((jigsawlaw20_doms.f kj4 aw).bind fun bE=>((gcc_Filter.f kj4 ae q s u y z af W bE).bind fun b2=>((jigsawref10_Fits.f kj4 ae q s u y z af W aw 21 21).bind fun b6=>(jigsawlaw20_GccRefuses.j3 kj4 aw b2.1 b2.2 b6))))=some r:=h2_ H b3
   have et:=a_ b3
   clear b3
   replace H:=bo_ H
   obtain ⟨bE,fF,H⟩:=H
   try dsimp only at H
   replace H:=bs_.mp H
   obtain ⟨⟨cl,cm⟩,dY,H⟩:=H
   try dsimp only at H
   have fG:=a_ dY
   clear dY
   have cM:=a_ H
   clear H
   try go_wp2_with (first|((with_reducible refine gate_dst (N:=38) rfl ?_);(try (refine gate_guard (by rfl) ?_;dsimp only));refine Kd.R_lit (Kd.int .i64) _ 3 ?hg (N:=38) ?hd (xs:=([1]:List Int)) (inner:=[.int .i64 1]) (ok:=fun _=>True) (okp:=fun _=>True) ?hr ?hp (fun _ hk=>hk) trivial (Below.refl _ _) (lr_ _) (by simp) ?_;(case hd=>rfl);(case hg=>rfl);(case hr=>first|(go_simp;done)|(go_simp;rfl));(case hp=>exact (Reps.one (show Kd.M (Kd.int .i64) _ _ _ 1 [.int .i64 1] from rfl) (Reps.none _ _)));intro gL w85 bl hb hg_ hnew_;clear hg_ hnew_;(first | rw [←dt.out] at bl | (simp only [Int.reduceToNat] at bl;rw [←dt.out] at bl));replace HO_8:=a_ (Kd.N_elder' (vN_ HO_8.out) (rs_ bl) hb);replace HO_706007:=a_ (Kd.N_elder' (vN_ HO_706007.out) (rs_ bl) hb);have cd:=a_ (Kd.R_lower (Kd.R_new' (Kd.R_new' (Kd.R_new' (Kd.R_new' (Kd.R_new' bl (rl_ (vR_ HO_706001.out))) (rl_ (vR_ HO_706002.out))) (rl_ (vR_ HO_706003.out))) (rl_ (vR_ HO_706004.out))) (rl_ (vR_ HO_706005.out))) (bz_ bel_));replace HO_706001:=a_ (Kd.R_elder' (vR_ HO_706001.out) (rs_ bl) hb);replace HO_706002:=a_ (Kd.R_elder' (vR_ HO_706002.out) (rs_ bl) hb);replace HO_706003:=a_ (Kd.R_elder' (vR_ HO_706003.out) (rs_ bl) hb);replace HO_706004:=a_ (Kd.R_elder' (vR_ HO_706004.out) (rs_ bl) hb);replace HO_706005:=a_ (Kd.R_elder' (vR_ HO_706005.out) (rs_ bl) hb);replace l:=a_ (bq_ l.out hb);replace o:=a_ (bq_ o.out hb);replace g:=a_ (bq_ g.out hb);replace HB:=hq_ hb;clear hb bl;obtain ⟨dZ,d0,e5⟩:=Kd.R_slice cd.out;subst e5)|((with_reducible refine gate_builtin (b := .append) (xs:=#[.tmp 37,.tmp 39]) rfl ?_);(try (refine gate_guard (by rfl) ?_;dsimp only));at_builtin;refine Kd.N_append (Kd.slice 3 (Kd.int .i64)) (w0:=w) w.heap.size rfl (.tmp 37) (.tmp 39) 27 30 (.slice none 0 0) 24 rfl Tryz.underlying27 info30 rfl (by decide) (by omega) av Z ck [.slice dZ ck.length d0] (fun a=>some a≠(.slice A q.length B:Value).ownBlock∧some a≠(.slice E s.length F:Value).ownBlock∧some a≠(.slice G u.length I:Value).ownBlock∧some a≠(.slice J y.length O:Value).ownBlock∧some a≠(.slice Q z.length U:Value).ownBlock∧some a≠(.slice aa W.length ab:Value).ownBlock∧a≠Y∧a≠X∧a≠c) (fun a=>((fun a=>some a≠(.slice A q.length B:Value).ownBlock∧some a≠(.slice E s.length F:Value).ownBlock∧some a≠(.slice G u.length I:Value).ownBlock∧some a≠(.slice J y.length O:Value).ownBlock∧some a≠(.slice Q z.length U:Value).ownBlock∧some a≠(.slice aa W.length ab:Value).ownBlock∧a≠Y∧a≠X∧a≠c)) a∧some a≠av.ownBlock) rfl rfl ?aP (fun _ hk=>hk) ?aF ?aO ?aB ?aS ?aL ?_;(case aP=>exact (Kd.FK_slice_mk (rr_ (rm_ (ok':=(fun a=>((fun a=>some a≠(.slice A q.length B:Value).ownBlock∧some a≠(.slice E s.length F:Value).ownBlock∧some a≠(.slice G u.length I:Value).ownBlock∧some a≠(.slice J y.length O:Value).ownBlock∧some a≠(.slice Q z.length U:Value).ownBlock∧some a≠(.slice aa W.length ab:Value).ownBlock∧a≠Y∧a≠X∧a≠c)) a∧some a≠av.ownBlock)) (rt_ (rt_ (rt_ (Kd.R_apart' (Kd.R_apart' (cd.out) (Kd.N_typed HO_706007.out) (by decide)) (Kd.N_typed HO_8.out) (by decide)) l.out (by decide)) o.out (by decide)) g.out (by decide)) (fun a hk=>⟨⟨hk.1.1.1.1.1.1.1.1.1.2,⟨hk.1.1.1.1.1.1.1.1.2,⟨hk.1.1.1.1.1.1.1.2,⟨hk.1.1.1.1.1.1.2,⟨hk.1.1.1.1.1.2,⟨hk.1.1.1.1.2,⟨hk.1.1.2,⟨hk.1.2,hk.2⟩⟩⟩⟩⟩⟩⟩⟩,hk.1.1.1.2⟩))).2.1 (Kd.R_F (rm_ (ok':=(fun a=>((fun a=>some a≠(.slice A q.length B:Value).ownBlock∧some a≠(.slice E s.length F:Value).ownBlock∧some a≠(.slice G u.length I:Value).ownBlock∧some a≠(.slice J y.length O:Value).ownBlock∧some a≠(.slice Q z.length U:Value).ownBlock∧some a≠(.slice aa W.length ab:Value).ownBlock∧a≠Y∧a≠X∧a≠c)) a∧some a≠av.ownBlock)) (rt_ (rt_ (rt_ (Kd.R_apart' (Kd.R_apart' (cd.out) (Kd.N_typed HO_706007.out) (by decide)) (Kd.N_typed HO_8.out) (by decide)) l.out (by decide)) o.out (by decide)) g.out (by decide)) (fun a hk=>⟨⟨hk.1.1.1.1.1.1.1.1.1.2,⟨hk.1.1.1.1.1.1.1.1.2,⟨hk.1.1.1.1.1.1.1.2,⟨hk.1.1.1.1.1.1.2,⟨hk.1.1.1.1.1.2,⟨hk.1.1.1.1.2,⟨hk.1.1.2,⟨hk.1.2,hk.2⟩⟩⟩⟩⟩⟩⟩⟩,hk.1.1.1.2⟩)))));(case aB=>exact bel_);(case aF=>exact (fun a hk=>⟨fr_ (rl_ (vR_ HO_706001.out)) a hk,fr_ (rl_ (vR_ HO_706002.out)) a hk,fr_ (rl_ (vR_ HO_706003.out)) a hk,fr_ (rl_ (vR_ HO_706004.out)) a hk,fr_ (rl_ (vR_ HO_706005.out)) a hk,fr_ (Kd.N_lt (vN_ HO_706007.out)) a hk,Kd.freshB (bk_ l.out) a hk,Kd.freshB (bk_ o.out) a hk,Kd.freshB (bk_ g.out) a hk⟩));(case aO=>exact (by refine vN_ ?_;exact nm_ HO_8.out (fun _ hk=>⟨hk.1.1,⟨hk.1.2.1,⟨hk.1.2.2.1,⟨hk.1.2.2.2.1,⟨hk.1.2.2.2.2.1,⟨hk.1.2.2.2.2.2.1,⟨hk.1.2.2.2.2.2.2.1,⟨hk.1.2.2.2.2.2.2.2.1,hk.1.2.2.2.2.2.2.2.2⟩⟩⟩⟩⟩⟩⟩⟩)));(case aS=>exact (bz_ bel_));(case aL=>have:=LMc81.out;omega);intro gM w87 ho hb hg hat;rw [←et.out] at ho;replace HO_706001:=a_ (Kd.R_over' (vR_ HO_706001.out) (Kd.N_typed (vN_ HO_8.out)) (by decide) hg);replace HO_706002:=a_ (Kd.R_over' (vR_ HO_706002.out) (Kd.N_typed (vN_ HO_8.out)) (by decide) hg);replace HO_706003:=a_ (Kd.R_over' (vR_ HO_706003.out) (Kd.N_typed (vN_ HO_8.out)) (by decide) hg);replace HO_706004:=a_ (Kd.R_over' (vR_ HO_706004.out) (Kd.N_typed (vN_ HO_8.out)) (by decide) hg);replace HO_706005:=a_ (Kd.R_over' (vR_ HO_706005.out) (Kd.N_typed (vN_ HO_8.out)) (by decide) hg);replace HO_706007:=a_ (Kd.N_afterv (ok:=(fun a=>some a≠(.slice A q.length B:Value).ownBlock∧some a≠(.slice E s.length F:Value).ownBlock∧some a≠(.slice G u.length I:Value).ownBlock∧some a≠(.slice J y.length O:Value).ownBlock∧some a≠(.slice Q z.length U:Value).ownBlock∧some a≠(.slice dZ ck.length d0:Value).ownBlock∧a≠Y∧a≠X∧a≠c)) (by refine vN_ ?_;exact nm_ HO_706007.out (fun _ hk=>⟨⟨hk.1.2.1,⟨hk.1.2.2.1,⟨hk.1.2.2.2.1,⟨hk.1.2.2.2.2.1,⟨hk.1.2.2.2.2.2.1,⟨hk.2,⟨hk.1.2.2.2.2.2.2.1,⟨hk.1.2.2.2.2.2.2.2.1,hk.1.2.2.2.2.2.2.2.2⟩⟩⟩⟩⟩⟩⟩⟩,hk.1.1⟩)) hg hat);replace l:=a_ (blk_grown (bk_ l.out) hg (Kd.N_ne HO_8.out l.out (by decide)));replace o:=a_ (blk_grown (bk_ o.out) hg (Kd.N_ne HO_8.out o.out (by decide)));replace g:=a_ (blk_grown (bk_ g.out) hg (Kd.N_ne HO_8.out g.out (by decide)));replace HB:=a_ (hb);have ao:=a_ (ho);clear HO_8 cd;clear ho hb hg hat))
   replace HO_706001:=a_ (Kd.R_drew HO_706001.out)
   replace HO_706002:=a_ (Kd.R_drew HO_706002.out)
   replace HO_706003:=a_ (Kd.R_drew HO_706003.out)
   replace HO_706004:=a_ (Kd.R_drew HO_706004.out)
   replace HO_706005:=a_ (Kd.R_drew HO_706005.out)
   replace HO_706007:=a_ (Kd.N_drew HO_706007.out)
   replace ao:=a_ (Kd.N_drew ao.out)
   replace l:=a_ (blk_drew l.out)
   replace o:=a_ (blk_drew o.out)
   replace g:=a_ (blk_drew g.out)
   replace HB:=a_ (below_drew1 HB.out)
   obtain ⟨bu,bv,d1⟩:=Kd.N_slice ao.out
   (first | subst d1 | (injection d1 with f1_ f2_ f3_;have f4_:=f1_.symm;have f5_:=f3_.symm;clear f1_ f2_ f3_;subst f4_;subst f5_))
   refine start_ (n:=9) (S:=fun w'=>w'.cell? ⟨c,0,none⟩=some (.int .i64 ae)∧w'.cell? ⟨c,1,none⟩=some (.slice A q.length B)∧w'.cell? ⟨c,2,none⟩=some (.slice E s.length F)∧w'.cell? ⟨c,3,none⟩=some (.slice G u.length I)∧w'.cell? ⟨c,4,none⟩=some (.slice J y.length O)∧w'.cell? ⟨c,5,none⟩=some (.slice Q z.length U)∧w'.cell? ⟨c,6,none⟩=some (.int .i64 af)∧w'.cell? ⟨c,7,none⟩=some (.slice aa W.length ab)) (ds:=[]) #[false,false,false,false,false,false,false,false,false] kr_ rfl rfl (ca8_ g.out) (fun hHeld=>?_);refine with_tabW jigsawlaw20_GccRefuses.tab12 jigsawlaw20_GccRefuses.bits12 (fun HT_ HW_=>?_)
   generalize w87.drew=w89 at HO_706001 HO_706002 HO_706003 HO_706004 HO_706005 HO_706007 ao l o g HB hHeld ⊢
   refine pn_ 1 70 ao_ ?_
   refine tn_ 0 69 tw_ hHeld ?_
   refine onn_ 2 71 #[true,true,true,false,false,false,false,false,false] rfl rfl on_ (by decide) (fun K hK=>?_)
   refine goes_ Tryz.func11 kr_ rfl #[.slice bu aw.length bv] (by rfl) rfl rfl ar_ ?_
   with_reducible refine (jigsawlaw20_doms.calls kj4 _ _ aw bE _ ?_ ?_ ?_ fF.out).mono ?_
   exact ca_ ((Kd.N_reads' ao.out).2.2)
   exact (Kd.N_reads' ao.out).2.1
   exact ca_ ((cb_ HRtab.out HB.out))
   rintro e w91 ⟨gN,rfl,ad,hb⟩
   refine ⟨_,rfl,?_⟩
   have du:=a_ (Kd.N_lower (nm_ (ok':=fun a=>some a≠(.slice A q.length B:Value).ownBlock∧some a≠(.slice E s.length F:Value).ownBlock∧some a≠(.slice G u.length I:Value).ownBlock∧some a≠(.slice J y.length O:Value).ownBlock∧some a≠(.slice Q z.length U:Value).ownBlock∧some a≠(.slice aa W.length ab:Value).ownBlock∧some a≠(.slice bu aw.length bv:Value).ownBlock∧a≠Y∧a≠X∧a≠c) ad (fun a hk_=>⟨(fr_ (rl_ (vR_ HO_706001.out)) a hk_),(fr_ (rl_ (vR_ HO_706002.out)) a hk_),(fr_ (rl_ (vR_ HO_706003.out)) a hk_),(fr_ (rl_ (vR_ HO_706004.out)) a hk_),(fr_ (rl_ (vR_ HO_706005.out)) a hk_),(fr_ (Kd.N_lt (vN_ HO_706007.out)) a hk_),(fr_ (Kd.N_lt (vN_ ao.out)) a hk_),(Kd.freshB (bk_ l.out) a hk_),(Kd.freshB (bk_ o.out) a hk_),(Kd.freshB (bk_ g.out) a hk_)⟩)) (bz_ bel_))
   replace HO_706001:=a_ (rb_ (vR_ HO_706001.out) hb)
   replace HO_706002:=a_ (rb_ (vR_ HO_706002.out) hb)
   replace HO_706003:=a_ (rb_ (vR_ HO_706003.out) hb)
   replace HO_706004:=a_ (rb_ (vR_ HO_706004.out) hb)
   replace HO_706005:=a_ (rb_ (vR_ HO_706005.out) hb)
   replace HO_706007:=a_ (Kd.N_elder' (vN_ HO_706007.out) (Kd.N_base ad) hb)
   replace ao:=a_ (Kd.N_elder' (vN_ ao.out) (Kd.N_base ad) hb)
   replace l:=a_ (bq_ l.out hb)
   replace o:=a_ (bq_ o.out hb)
   replace g:=a_ (bq_ g.out hb)
   replace HB:=hq_ hb
   clear hb ad
   obtain ⟨e6,e7,d2⟩:=Kd.N_slice du.out
   (first | subst d2 | (injection d2 with f1_ f2_ f3_;have f4_:=f1_.symm;have f5_:=f3_.symm;clear f1_ f2_ f3_;subst f4_;subst f5_))
   refine hK.out _ _ (ca8_ g.out) (fun hHeld=>?_)
   clear hK K
   refine nor_ (N:=some 71) ?_
   refine onn_ 3 72 #[true,true,true,true,false,false,false,false,false] rfl rfl on_ (by decide) (fun K hK=>?_)
   refine goes_ Tryz.func10 kr_ rfl #[.agg #[.int .i64 ae,.slice A q.length B,.slice E s.length F,.slice G u.length I,.slice J y.length O,.slice Q z.length U,.int .i64 af,.slice aa W.length ab],.slice e6 bE.length e7] (by rfl) rfl rfl ar_ ?_
   with_reducible refine (gcc_Filter.calls kj4 ae _ _ q _ _ s _ _ u _ _ y _ _ z af _ _ W (fun a=>(some a≠(.slice A q.length B:Value).ownBlock∧(some a≠(.slice E s.length F:Value).ownBlock∧(some a≠(.slice G u.length I:Value).ownBlock∧(some a≠(.slice J y.length O:Value).ownBlock∧(some a≠(.slice Q z.length U:Value).ownBlock∧(some a≠(.slice aa W.length ab:Value).ownBlock∧(some a≠(.slice bu aw.length bv:Value).ownBlock∧(a≠Y∧(a≠X∧a≠c)))))))))) _ _ bE cl cm _ ?_ ?_ ?_ ?_ ?_ ?_ ?_ ?_ ?_ ?_ ?_ ?_ ?_ ?_ fG.out).mono ?_
   exact ca_ ((rr_ HO_706001.out).2.2)
   exact (rr_ HO_706001.out).2.1
   exact ca_ ((rr_ HO_706002.out).2.2)
   exact (rr_ HO_706002.out).2.1
   exact ca_ ((rr_ HO_706003.out).2.2)
   exact (rr_ HO_706003.out).2.1
   exact ca_ ((rr_ HO_706004.out).2.2)
   exact (rr_ HO_706004.out).2.1
   exact ca_ ((rr_ HO_706005.out).2.2)
   exact (rr_ HO_706005.out).2.1
   exact ca_ ((Kd.N_reads' HO_706007.out).2.2)
   exact (Kd.N_reads' HO_706007.out).2.1
   exact Kd.N_V (du.out)
   exact ca_ ((cb_ HRtab.out HB.out))
   rintro e w93 ⟨cN,rfl,ad,hb⟩
   refine ⟨_,rfl,?_⟩
   have cx:=a_ (Kd.N_lower (nm_ (ok':=fun a=>some a≠(.slice A q.length B:Value).ownBlock∧some a≠(.slice E s.length F:Value).ownBlock∧some a≠(.slice G u.length I:Value).ownBlock∧some a≠(.slice J y.length O:Value).ownBlock∧some a≠(.slice Q z.length U:Value).ownBlock∧some a≠(.slice aa W.length ab:Value).ownBlock∧some a≠(.slice bu aw.length bv:Value).ownBlock∧a≠Y∧a≠X∧a≠c) ad (fun a hk_=>⟨Or.elim hk_ (fun hs_=>hs_.1) (fun hn_=>(fr_ (rl_ (vR_ HO_706001.out)) a hn_)),Or.elim hk_ (fun hs_=>hs_.2.1) (fun hn_=>(fr_ (rl_ (vR_ HO_706002.out)) a hn_)),Or.elim hk_ (fun hs_=>hs_.2.2.1) (fun hn_=>(fr_ (rl_ (vR_ HO_706003.out)) a hn_)),Or.elim hk_ (fun hs_=>hs_.2.2.2.1) (fun hn_=>(fr_ (rl_ (vR_ HO_706004.out)) a hn_)),Or.elim hk_ (fun hs_=>hs_.2.2.2.2.1) (fun hn_=>(fr_ (rl_ (vR_ HO_706005.out)) a hn_)),Or.elim hk_ (fun hs_=>hs_.2.2.2.2.2.1) (fun hn_=>(fr_ (Kd.N_lt (vN_ HO_706007.out)) a hn_)),Or.elim hk_ (fun hs_=>hs_.2.2.2.2.2.2.1) (fun hn_=>(fr_ (Kd.N_lt (vN_ ao.out)) a hn_)),Or.elim hk_ (fun hs_=>hs_.2.2.2.2.2.2.2.1) (fun hn_=>(Kd.freshB (bk_ l.out) a hn_)),Or.elim hk_ (fun hs_=>hs_.2.2.2.2.2.2.2.2.1) (fun hn_=>(Kd.freshB (bk_ o.out) a hn_)),Or.elim hk_ (fun hs_=>hs_.2.2.2.2.2.2.2.2.2) (fun hn_=>(Kd.freshB (bk_ g.out) a hn_))⟩)) (bz_ bel_))
   replace HO_706001:=a_ (rb_ (vR_ HO_706001.out) hb)
   replace HO_706002:=a_ (rb_ (vR_ HO_706002.out) hb)
   replace HO_706003:=a_ (rb_ (vR_ HO_706003.out) hb)
   replace HO_706004:=a_ (rb_ (vR_ HO_706004.out) hb)
   replace HO_706005:=a_ (rb_ (vR_ HO_706005.out) hb)
   replace HO_706007:=a_ (Kd.N_elder' (vN_ HO_706007.out) (Kd.N_base ad) hb)
   replace ao:=a_ (Kd.N_elder' (vN_ ao.out) (Kd.N_base ad) hb)
   replace l:=a_ (bq_ l.out hb)
   replace o:=a_ (bq_ o.out hb)
   replace g:=a_ (bq_ g.out hb)
   replace HB:=hq_ hb
   clear hb ad
   refine hK.out _ _ (ca8_ g.out) (fun hHeld=>?_)
   clear hK K
   refine nor_ (N:=some 72) ?_
   refine pn_ 4 68 ao_ ?_
   refine pn_ 5 73 ao_ ?_
   refine pn_ 6 74 ao_ ?_
   refine pn_ 7 10 ao_ ?_
   refine pn_ 8 11 ao_ ?_
   refine done_ dn_ ?_
   go_upto_region 13 with (fail)
   go_cut [77] (fun bX wc=>∃(kq:Nat) (b4:Bool),bX = .bool b4∧Aside0 (jigsawlaw20_GccRefuses.j3 kq aw cl cm b4=some r)∧Aside0 (Kd.N k58 58 wc w.heap.size (fun a=>some a≠((.slice bu aw.length bv):Value).ownBlock∧some a≠((.slice A q.length B):Value).ownBlock∧some a≠((.slice E s.length F):Value).ownBlock∧some a≠((.slice G u.length I):Value).ownBlock∧some a≠((.slice J y.length O):Value).ownBlock∧some a≠((.slice Q z.length U):Value).ownBlock∧some a≠((.slice aa W.length ab):Value).ownBlock∧a≠Y∧a≠X∧a≠c) cN cl)∧Aside0 (Below w.heap.size w wc))
   case first =>
    have H:=cM.out
    clear cM
    replace H:=bo_ H
    obtain ⟨b6,fH,H⟩:=H
    try dsimp only at H
    have H':=a_ H
    clear H
    have f6:=ag.out
    have f7:=ac.out
    have f8:=ah.out
    have f9:=d.out
    obtain ⟨_,_,_,_,_,_,_,_,_,_,_,_,_,_,_,_⟩:=cel8_ g.out
    go_wp2_with (first|((with_reducible refine gate_callee (f:=17) rfl ?_);refine goesL_ (some 77) rfl rfl Tryz.func17 kr_ rfl #[.agg #[.int .i64 ae,.slice A q.length B,.slice E s.length F,.slice G u.length I,.slice J y.length O,.slice Q z.length U,.int .i64 af,.slice aa W.length ab],.slice bu aw.length bv,.int .i64 21,.int .i64 21] rfl ar_ ?_;(with_reducible refine (jigsawref10_Fits.calls kj4 ae _ _ q _ _ s _ _ u _ _ y _ _ z af _ _ W _ _ aw 21 21 b6 _ ?_ ?_ ?_ ?_ ?_ ?_ ?_ ?_ ?_ ?_ ?_ ?_ ?_ ?_ fH.out).mono ?_);exact ca_ ((rr_ HO_706001.out).2.2);exact (rr_ HO_706001.out).2.1;exact ca_ ((rr_ HO_706002.out).2.2);exact (rr_ HO_706002.out).2.1;exact ca_ ((rr_ HO_706003.out).2.2);exact (rr_ HO_706003.out).2.1;exact ca_ ((rr_ HO_706004.out).2.2);exact (rr_ HO_706004.out).2.1;exact ca_ ((rr_ HO_706005.out).2.2);exact (rr_ HO_706005.out).2.1;exact ca_ ((Kd.N_reads' HO_706007.out).2.2);exact (Kd.N_reads' HO_706007.out).2.1;exact ca_ ((Kd.N_reads' ao.out).2.2);exact (Kd.N_reads' ao.out).2.1;rintro e w98 ⟨rfl,hb⟩;refine ⟨_,rfl,?_⟩;replace HO_706001:=a_ (rb_ (vR_ HO_706001.out) hb);replace HO_706002:=a_ (rb_ (vR_ HO_706002.out) hb);replace HO_706003:=a_ (rb_ (vR_ HO_706003.out) hb);replace HO_706004:=a_ (rb_ (vR_ HO_706004.out) hb);replace HO_706005:=a_ (rb_ (vR_ HO_706005.out) hb);replace HO_706007:=a_ (Kd.N_below (vN_ HO_706007.out) hb);replace ao:=a_ (Kd.N_below (vN_ ao.out) hb);replace cx:=a_ (Kd.N_below (vN_ cx.out) hb);replace l:=a_ (bq_ l.out hb);replace o:=a_ (bq_ o.out hb);replace g:=a_ (bq_ g.out hb);replace HB:=hq_ hb;clear hb))
    go_meet
    exact ⟨_,(b6),eq_,H',⟨by refine vN_ ?_;exact nm_ cx.out (fun _ hk=>⟨hk.2.2.2.2.2.2.1,⟨hk.1,⟨hk.2.1,⟨hk.2.2.1,⟨hk.2.2.2.1,⟨hk.2.2.2.2.1,⟨hk.2.2.2.2.2.1,⟨hk.2.2.2.2.2.2.2.1,⟨hk.2.2.2.2.2.2.2.2.1,hk.2.2.2.2.2.2.2.2.2⟩⟩⟩⟩⟩⟩⟩⟩⟩)⟩,⟨bel_⟩⟩
   clear cM
   try clear c1
   try clear c2
   try clear p2
   try clear q2
   try clear c3
   try clear c4
   try clear c5
   try clear p5
   try clear q5
   try clear fC
   try clear fD
   try clear hf5
   try clear c6
   try clear p6
   try clear c7
   try clear c8
   try clear c9
   try clear c10
   try clear c11
   try clear c12
   try clear c13
   try clear c17
   try clear c21
   try clear c21b0
   try clear c21b1
   try clear c23
   try clear c23b0
   try clear c23b1
   try clear c24
   try clear c24b0
   try clear c24b1
   try clear bW
   try clear c35
   try clear c36
   try clear c39
   try clear c41
   try clear c42
   try clear c47
   try clear c48
   try clear c51
   try clear c51b0
   try clear c51b1
   try clear c52
   try clear c52b0
   try clear c52b1
   try clear c53
   try clear p53
   try clear cj
   try clear e0
   try clear dT
   try clear hf53
   try clear c57
   try clear e1
   try clear hf57
   try clear c64
   try clear c65
   try clear c68
   try clear c70
   try clear c71
   try clear c76
   try clear c77
   try clear c80
   try clear c80b0
   try clear c80b1
   try clear c81
   try clear c95
   try clear c96
   try clear bG
   try clear bH
   try clear bI
   try clear bJ
   try clear bK
   try clear bL
   try clear bM
   try clear bN
   try clear bO
   try clear bP
   try clear bQ
   try clear bR
   try clear bS
   try clear bT
   try clear br
   try clear bs
   try clear p2
   try clear p5
   try clear p53
   try clear p6
   try clear q2
   try clear bW
   try clear q5
   try clear cj
   obtain ⟨kq,b4,rfl,HA,HO_10,HB⟩:=hcut
   cases kq with
   | zero=>exact absurd HA.out (by simp [jigsawlaw20_GccRefuses.j3])
   | succ kj83 =>
    have H:=HA.out
    clear HA
    simp only [jigsawlaw20_GccRefuses.j3] at H
    replace H:=hf_ H
    rcases H with ⟨rfl,H⟩ | ⟨rfl,H⟩
    ·
     replace H:=bo_ H
     obtain ⟨cO,e9,H⟩:=H
     try dsimp only at H
     replace H:=gp_ H
     obtain ⟨rfl,H⟩:=H
     replace H:=gf_ H
     obtain ⟨rfl,H⟩:=H
     obtain rfl:=si_ H
     go_wp2_with (first|((with_reducible refine gate_callee (f:=13) rfl ?_);refine goesL_ (some 90) rfl rfl Tryz.func13 kr_ rfl #[] rfl ar_ ?_;(with_reducible refine (jigsawlaw20_wakes.calls kj83 true _ ?_ e9.out).mono ?_);exact ca_ ((cb_ HRtab.out HB.out));rintro e w109 ⟨rfl,hb⟩;refine ⟨_,rfl,?_⟩;replace HO_10:=a_ (Kd.N_below (vN_ HO_10.out) hb);replace HB:=hq_ hb;clear hb;obtain ⟨gc,gd,ev⟩:=Kd.N_slice HO_10.out;subst ev))
     go_ret
     exact ⟨er_,bel_⟩
    replace H:=bo_ H
    obtain ⟨e8,d3,H⟩:=H
    try dsimp only at H
    replace H:=gp_ H
    obtain ⟨rfl,H⟩:=H
    replace H:=ht_ H
    rcases H with ⟨rfl,H⟩ | ⟨rfl,H⟩
    ·
     obtain rfl:=si_ H
     go_wp2_with (first|((with_reducible refine gate_callee (f:=13) rfl ?_);refine goesL_ (some 78) rfl rfl Tryz.func13 kr_ rfl #[] rfl ar_ ?_;(with_reducible refine (jigsawlaw20_wakes.calls kj83 true _ ?_ d3.out).mono ?_);exact ca_ ((cb_ HRtab.out HB.out));rintro e w103 ⟨rfl,hb⟩;refine ⟨_,rfl,?_⟩;replace HO_10:=a_ (Kd.N_below (vN_ HO_10.out) hb);replace HB:=hq_ hb;clear hb;obtain ⟨ga,gb,eu⟩:=Kd.N_slice HO_10.out;subst eu))
     go_ret
     exact ⟨er_,bel_⟩
    obtain rfl:=si_ H
    go_wp2_with (first|((with_reducible refine gate_callee (f:=13) rfl ?_);refine goesL_ (some 78) rfl rfl Tryz.func13 kr_ rfl #[] rfl ar_ ?_;(with_reducible refine (jigsawlaw20_wakes.calls kj83 true _ ?_ d3.out).mono ?_);exact ca_ ((cb_ HRtab.out HB.out));rintro e w105 ⟨rfl,hb⟩;refine ⟨_,rfl,?_⟩;replace HB:=hq_ hb;clear hb))
    go_ret
    exact ⟨er_,bel_⟩
  replace H:=ef_ H
  rcases H with ⟨c111,c111b0,c111b1,H⟩ | ⟨-,c111b0,c111b1,H⟩
  ·
   replace H:=bo_ H
   obtain ⟨cR,fk,H⟩:=H
   try dsimp only at H
   replace H:=bs_.mp H
   obtain ⟨⟨cp,cq⟩,dE,H⟩:=H
   try dsimp only at H
   have fl:=a_ dE
   clear dE
   have cA:=a_ H
   clear H
   try go_wp2
   replace HO_8:=a_ (Kd.N_drew HO_8.out)
   replace HO_706001:=a_ (Kd.R_drew HO_706001.out)
   replace HO_706002:=a_ (Kd.R_drew HO_706002.out)
   replace HO_706003:=a_ (Kd.R_drew HO_706003.out)
   replace HO_706004:=a_ (Kd.R_drew HO_706004.out)
   replace HO_706005:=a_ (Kd.R_drew HO_706005.out)
   replace HO_706007:=a_ (Kd.N_drew HO_706007.out)
   replace l:=a_ (blk_drew l.out)
   replace o:=a_ (blk_drew o.out)
   replace g:=a_ (blk_drew g.out)
   replace HB:=a_ (below_drew1 HB.out)
   obtain ⟨bn,bo,dF⟩:=Kd.N_slice HO_8.out
   (first | subst dF | (injection dF with f1_ f2_ f3_;have f4_:=f1_.symm;have f5_:=f3_.symm;clear f1_ f2_ f3_;subst f4_;subst f5_))
   refine start_ (n:=9) (S:=fun w'=>w'.cell? ⟨c,0,none⟩=some (.int .i64 ae)∧w'.cell? ⟨c,1,none⟩=some (.slice A q.length B)∧w'.cell? ⟨c,2,none⟩=some (.slice E s.length F)∧w'.cell? ⟨c,3,none⟩=some (.slice G u.length I)∧w'.cell? ⟨c,4,none⟩=some (.slice J y.length O)∧w'.cell? ⟨c,5,none⟩=some (.slice Q z.length U)∧w'.cell? ⟨c,6,none⟩=some (.int .i64 af)∧w'.cell? ⟨c,7,none⟩=some (.slice aa W.length ab)) (ds:=[]) #[false,false,false,false,false,false,false,false,false] kr_ rfl rfl (ca8_ g.out) (fun hHeld=>?_);refine with_tabW jigsawlaw20_GccRefuses.tab12 jigsawlaw20_GccRefuses.bits12 (fun HT_ HW_=>?_)
   generalize wc.drew=w165 at HO_8 HO_706001 HO_706002 HO_706003 HO_706004 HO_706005 HO_706007 l o g HB hHeld ⊢
   refine pn_ 1 70 ao_ ?_
   refine tn_ 0 69 tw_ hHeld ?_
   refine onn_ 2 71 #[true,true,true,false,false,false,false,false,false] rfl rfl on_ (by decide) (fun K hK=>?_)
   refine goes_ Tryz.func11 kr_ rfl #[.slice bn Z.length bo] (by rfl) rfl rfl ar_ ?_
   with_reducible refine (jigsawlaw20_doms.calls kj4 _ _ Z cR _ ?_ ?_ ?_ fk.out).mono ?_
   exact ca_ ((Kd.N_reads' HO_8.out).2.2)
   exact (Kd.N_reads' HO_8.out).2.1
   exact ca_ ((cb_ HRtab.out HB.out))
   rintro e w167 ⟨gV,rfl,ad,hb⟩
   refine ⟨_,rfl,?_⟩
   have dG:=a_ (Kd.N_lower (nm_ (ok':=fun a=>some a≠(.slice bn Z.length bo:Value).ownBlock∧some a≠(.slice A q.length B:Value).ownBlock∧some a≠(.slice E s.length F:Value).ownBlock∧some a≠(.slice G u.length I:Value).ownBlock∧some a≠(.slice J y.length O:Value).ownBlock∧some a≠(.slice Q z.length U:Value).ownBlock∧some a≠(.slice aa W.length ab:Value).ownBlock∧a≠Y∧a≠X∧a≠c) ad (fun a hk_=>⟨(fr_ (Kd.N_lt (vN_ HO_8.out)) a hk_),(fr_ (rl_ (vR_ HO_706001.out)) a hk_),(fr_ (rl_ (vR_ HO_706002.out)) a hk_),(fr_ (rl_ (vR_ HO_706003.out)) a hk_),(fr_ (rl_ (vR_ HO_706004.out)) a hk_),(fr_ (rl_ (vR_ HO_706005.out)) a hk_),(fr_ (Kd.N_lt (vN_ HO_706007.out)) a hk_),(Kd.freshB (bk_ l.out) a hk_),(Kd.freshB (bk_ o.out) a hk_),(Kd.freshB (bk_ g.out) a hk_)⟩)) (bz_ bel_))
   replace HO_8:=a_ (Kd.N_elder' (vN_ HO_8.out) (Kd.N_base ad) hb)
   replace HO_706001:=a_ (rb_ (vR_ HO_706001.out) hb)
   replace HO_706002:=a_ (rb_ (vR_ HO_706002.out) hb)
   replace HO_706003:=a_ (rb_ (vR_ HO_706003.out) hb)
   replace HO_706004:=a_ (rb_ (vR_ HO_706004.out) hb)
   replace HO_706005:=a_ (rb_ (vR_ HO_706005.out) hb)
   replace HO_706007:=a_ (Kd.N_elder' (vN_ HO_706007.out) (Kd.N_base ad) hb)
   replace l:=a_ (bq_ l.out hb)
   replace o:=a_ (bq_ o.out hb)
   replace g:=a_ (bq_ g.out hb)
   replace HB:=hq_ hb
   clear hb ad
   obtain ⟨eA,eB,dH⟩:=Kd.N_slice dG.out
   (first | subst dH | (injection dH with f1_ f2_ f3_;have f4_:=f1_.symm;have f5_:=f3_.symm;clear f1_ f2_ f3_;subst f4_;subst f5_))
   refine hK.out _ _ (ca8_ g.out) (fun hHeld=>?_)
   clear hK K
   refine nor_ (N:=some 71) ?_
   refine onn_ 3 72 #[true,true,true,true,false,false,false,false,false] rfl rfl on_ (by decide) (fun K hK=>?_)
   refine goes_ Tryz.func10 kr_ rfl #[.agg #[.int .i64 ae,.slice A q.length B,.slice E s.length F,.slice G u.length I,.slice J y.length O,.slice Q z.length U,.int .i64 af,.slice aa W.length ab],.slice eA cR.length eB] (by rfl) rfl rfl ar_ ?_
   with_reducible refine (gcc_Filter.calls kj4 ae _ _ q _ _ s _ _ u _ _ y _ _ z af _ _ W (fun a=>(some a≠(.slice bn Z.length bo:Value).ownBlock∧(some a≠(.slice A q.length B:Value).ownBlock∧(some a≠(.slice E s.length F:Value).ownBlock∧(some a≠(.slice G u.length I:Value).ownBlock∧(some a≠(.slice J y.length O:Value).ownBlock∧(some a≠(.slice Q z.length U:Value).ownBlock∧(some a≠(.slice aa W.length ab:Value).ownBlock∧(a≠Y∧(a≠X∧a≠c)))))))))) _ _ cR cp cq _ ?_ ?_ ?_ ?_ ?_ ?_ ?_ ?_ ?_ ?_ ?_ ?_ ?_ ?_ fl.out).mono ?_
   exact ca_ ((rr_ HO_706001.out).2.2)
   exact (rr_ HO_706001.out).2.1
   exact ca_ ((rr_ HO_706002.out).2.2)
   exact (rr_ HO_706002.out).2.1
   exact ca_ ((rr_ HO_706003.out).2.2)
   exact (rr_ HO_706003.out).2.1
   exact ca_ ((rr_ HO_706004.out).2.2)
   exact (rr_ HO_706004.out).2.1
   exact ca_ ((rr_ HO_706005.out).2.2)
   exact (rr_ HO_706005.out).2.1
   exact ca_ ((Kd.N_reads' HO_706007.out).2.2)
   exact (Kd.N_reads' HO_706007.out).2.1
   exact Kd.N_V (dG.out)
   exact ca_ ((cb_ HRtab.out HB.out))
   rintro e w169 ⟨cS,rfl,ad,hb⟩
   refine ⟨_,rfl,?_⟩
   have cB:=a_ (Kd.N_lower (nm_ (ok':=fun a=>some a≠(.slice bn Z.length bo:Value).ownBlock∧some a≠(.slice A q.length B:Value).ownBlock∧some a≠(.slice E s.length F:Value).ownBlock∧some a≠(.slice G u.length I:Value).ownBlock∧some a≠(.slice J y.length O:Value).ownBlock∧some a≠(.slice Q z.length U:Value).ownBlock∧some a≠(.slice aa W.length ab:Value).ownBlock∧a≠Y∧a≠X∧a≠c) ad (fun a hk_=>⟨Or.elim hk_ (fun hs_=>hs_.1) (fun hn_=>(fr_ (Kd.N_lt (vN_ HO_8.out)) a hn_)),Or.elim hk_ (fun hs_=>hs_.2.1) (fun hn_=>(fr_ (rl_ (vR_ HO_706001.out)) a hn_)),Or.elim hk_ (fun hs_=>hs_.2.2.1) (fun hn_=>(fr_ (rl_ (vR_ HO_706002.out)) a hn_)),Or.elim hk_ (fun hs_=>hs_.2.2.2.1) (fun hn_=>(fr_ (rl_ (vR_ HO_706003.out)) a hn_)),Or.elim hk_ (fun hs_=>hs_.2.2.2.2.1) (fun hn_=>(fr_ (rl_ (vR_ HO_706004.out)) a hn_)),Or.elim hk_ (fun hs_=>hs_.2.2.2.2.2.1) (fun hn_=>(fr_ (rl_ (vR_ HO_706005.out)) a hn_)),Or.elim hk_ (fun hs_=>hs_.2.2.2.2.2.2.1) (fun hn_=>(fr_ (Kd.N_lt (vN_ HO_706007.out)) a hn_)),Or.elim hk_ (fun hs_=>hs_.2.2.2.2.2.2.2.1) (fun hn_=>(Kd.freshB (bk_ l.out) a hn_)),Or.elim hk_ (fun hs_=>hs_.2.2.2.2.2.2.2.2.1) (fun hn_=>(Kd.freshB (bk_ o.out) a hn_)),Or.elim hk_ (fun hs_=>hs_.2.2.2.2.2.2.2.2.2) (fun hn_=>(Kd.freshB (bk_ g.out) a hn_))⟩)) (bz_ bel_))
   replace HO_8:=a_ (Kd.N_elder' (vN_ HO_8.out) (Kd.N_base ad) hb)
   replace HO_706001:=a_ (rb_ (vR_ HO_706001.out) hb)
   replace HO_706002:=a_ (rb_ (vR_ HO_706002.out) hb)
   replace HO_706003:=a_ (rb_ (vR_ HO_706003.out) hb)
   replace HO_706004:=a_ (rb_ (vR_ HO_706004.out) hb)
   replace HO_706005:=a_ (rb_ (vR_ HO_706005.out) hb)
   replace HO_706007:=a_ (Kd.N_elder' (vN_ HO_706007.out) (Kd.N_base ad) hb)
   replace l:=a_ (bq_ l.out hb)
   replace o:=a_ (bq_ o.out hb)
   replace g:=a_ (bq_ g.out hb)
   replace HB:=hq_ hb
   clear hb ad
   refine hK.out _ _ (ca8_ g.out) (fun hHeld=>?_)
   clear hK K
   refine nor_ (N:=some 72) ?_
   refine pn_ 4 68 ao_ ?_
   refine pn_ 5 73 ao_ ?_
   refine pn_ 6 74 ao_ ?_
   refine pn_ 7 10 ao_ ?_
   refine pn_ 8 11 ao_ ?_
   refine done_ dn_ ?_
   go_upto_region 13 with (fail)
   go_cut [77] (fun bX wc=>∃(kq:Nat) (bC:Bool),bX = .bool bC∧Aside0 (jigsawlaw20_GccRefuses.j5 kq Z cp cq bC=some r)∧Aside0 (Kd.N k58 58 wc w.heap.size (fun a=>some a≠((.slice bn Z.length bo):Value).ownBlock∧some a≠((.slice A q.length B):Value).ownBlock∧some a≠((.slice E s.length F):Value).ownBlock∧some a≠((.slice G u.length I):Value).ownBlock∧some a≠((.slice J y.length O):Value).ownBlock∧some a≠((.slice Q z.length U):Value).ownBlock∧some a≠((.slice aa W.length ab):Value).ownBlock∧a≠Y∧a≠X∧a≠c) cS cp)∧Aside0 (Below w.heap.size w wc))
   case first =>
    have H:=cA.out
    clear cA
    replace H:=bo_ H
    obtain ⟨d6,fm,H⟩:=H
    try dsimp only at H
    have H':=a_ H
    clear H
    have fM:=ag.out
    have fN:=ac.out
    have fO:=ah.out
    have fP:=d.out
    obtain ⟨_,_,_,_,_,_,_,_,_,_,_,_,_,_,_,_⟩:=cel8_ g.out
    go_wp2_with (first|((with_reducible refine gate_callee (f:=17) rfl ?_);refine goesL_ (some 77) rfl rfl Tryz.func17 kr_ rfl #[.agg #[.int .i64 ae,.slice A q.length B,.slice E s.length F,.slice G u.length I,.slice J y.length O,.slice Q z.length U,.int .i64 af,.slice aa W.length ab],.slice bn Z.length bo,.int .i64 21,.int .i64 21] rfl ar_ ?_;(with_reducible refine (jigsawref10_Fits.calls kj4 ae _ _ q _ _ s _ _ u _ _ y _ _ z af _ _ W _ _ Z 21 21 d6 _ ?_ ?_ ?_ ?_ ?_ ?_ ?_ ?_ ?_ ?_ ?_ ?_ ?_ ?_ fm.out).mono ?_);exact ca_ ((rr_ HO_706001.out).2.2);exact (rr_ HO_706001.out).2.1;exact ca_ ((rr_ HO_706002.out).2.2);exact (rr_ HO_706002.out).2.1;exact ca_ ((rr_ HO_706003.out).2.2);exact (rr_ HO_706003.out).2.1;exact ca_ ((rr_ HO_706004.out).2.2);exact (rr_ HO_706004.out).2.1;exact ca_ ((rr_ HO_706005.out).2.2);exact (rr_ HO_706005.out).2.1;exact ca_ ((Kd.N_reads' HO_706007.out).2.2);exact (Kd.N_reads' HO_706007.out).2.1;exact ca_ ((Kd.N_reads' HO_8.out).2.2);exact (Kd.N_reads' HO_8.out).2.1;rintro e w174 ⟨rfl,hb⟩;refine ⟨_,rfl,?_⟩;replace HO_8:=a_ (Kd.N_below (vN_ HO_8.out) hb);replace HO_706001:=a_ (rb_ (vR_ HO_706001.out) hb);replace HO_706002:=a_ (rb_ (vR_ HO_706002.out) hb);replace HO_706003:=a_ (rb_ (vR_ HO_706003.out) hb);replace HO_706004:=a_ (rb_ (vR_ HO_706004.out) hb);replace HO_706005:=a_ (rb_ (vR_ HO_706005.out) hb);replace HO_706007:=a_ (Kd.N_below (vN_ HO_706007.out) hb);replace cB:=a_ (Kd.N_below (vN_ cB.out) hb);replace l:=a_ (bq_ l.out hb);replace o:=a_ (bq_ o.out hb);replace g:=a_ (bq_ g.out hb);replace HB:=hq_ hb;clear hb))
    go_meet
    exact ⟨_,(d6),eq_,H',⟨vN_ cB.out⟩,⟨bel_⟩⟩
   clear cA
   try clear c1
   try clear p2
   try clear c10
   try clear c11
   try clear c13
   try clear c14
   try clear c15
   try clear c16
   try clear c17
   try clear c111
   try clear c111b0
   try clear c111b1
   try clear c146
   try clear c147
   try clear c150
   try clear c152
   try clear c153
   try clear c158
   try clear c159
   try clear c171
   try clear c172
   try clear p2
   obtain ⟨kq,bC,rfl,HA,HO_10,HB⟩:=hcut
   cases kq with
   | zero=>exact absurd HA.out (by simp [jigsawlaw20_GccRefuses.j5])
   | succ kj163 =>
    have H:=HA.out
    clear HA
    simp only [jigsawlaw20_GccRefuses.j5] at H
    replace H:=hf_ H
    rcases H with ⟨rfl,H⟩ | ⟨rfl,H⟩
    ·
     replace H:=bo_ H
     obtain ⟨cT,fo,H⟩:=H
     try dsimp only at H
     replace H:=gp_ H
     obtain ⟨rfl,H⟩:=H
     replace H:=gf_ H
     obtain ⟨rfl,H⟩:=H
     obtain rfl:=si_ H
     go_wp2_with (first|((with_reducible refine gate_callee (f:=13) rfl ?_);refine goesL_ (some 90) rfl rfl Tryz.func13 kr_ rfl #[] rfl ar_ ?_;(with_reducible refine (jigsawlaw20_wakes.calls kj163 true _ ?_ fo.out).mono ?_);exact ca_ ((cb_ HRtab.out HB.out));rintro e w185 ⟨rfl,hb⟩;refine ⟨_,rfl,?_⟩;replace HO_10:=a_ (Kd.N_below (vN_ HO_10.out) hb);replace HB:=hq_ hb;clear hb;obtain ⟨gu,gv,eD⟩:=Kd.N_slice HO_10.out;subst eD))
     go_ret
     exact ⟨er_,bel_⟩
    replace H:=bo_ H
    obtain ⟨fn,d7,H⟩:=H
    try dsimp only at H
    replace H:=gp_ H
    obtain ⟨rfl,H⟩:=H
    replace H:=ht_ H
    rcases H with ⟨rfl,H⟩ | ⟨rfl,H⟩
    ·
     obtain rfl:=si_ H
     go_wp2_with (first|((with_reducible refine gate_callee (f:=13) rfl ?_);refine goesL_ (some 78) rfl rfl Tryz.func13 kr_ rfl #[] rfl ar_ ?_;(with_reducible refine (jigsawlaw20_wakes.calls kj163 true _ ?_ d7.out).mono ?_);exact ca_ ((cb_ HRtab.out HB.out));rintro e w179 ⟨rfl,hb⟩;refine ⟨_,rfl,?_⟩;replace HO_10:=a_ (Kd.N_below (vN_ HO_10.out) hb);replace HB:=hq_ hb;clear hb;obtain ⟨gs,gt,eC⟩:=Kd.N_slice HO_10.out;subst eC))
     go_ret
     exact ⟨er_,bel_⟩
    obtain rfl:=si_ H
    go_wp2_with (first|((with_reducible refine gate_callee (f:=13) rfl ?_);refine goesL_ (some 78) rfl rfl Tryz.func13 kr_ rfl #[] rfl ar_ ?_;(with_reducible refine (jigsawlaw20_wakes.calls kj163 true _ ?_ d7.out).mono ?_);exact ca_ ((cb_ HRtab.out HB.out));rintro e w181 ⟨rfl,hb⟩;refine ⟨_,rfl,?_⟩;replace HB:=hq_ hb;clear hb))
    go_ret
    exact ⟨er_,bel_⟩
  replace H:=bo_ H
  obtain ⟨ax,fa,H⟩:=H
  try dsimp only at H
  replace H:=bo_ H
  obtain ⟨az,fb,H⟩:=H
  try dsimp only at H
  replace H:=bo_ H
  obtain ⟨aK,fc,H⟩:=H
  try dsimp only at H
  replace H:=bo_ H
  obtain ⟨aV,fd,H⟩:=H
  try dsimp only at H
  replace H:=bo_ H
  obtain ⟨a1,fe,H⟩:=H
  try dsimp only at H
  replace H:=bo_ H
  obtain ⟨cP,ff,H⟩:=H
  try dsimp only at H
  replace H:=bs_.mp H
  obtain ⟨⟨cn,co⟩,dv,H⟩:=H
  try dsimp only at H
  have fg:=a_ dv
  clear dv
  have cy:=a_ H
  clear H
  try go_wp2
  replace HO_8:=a_ (Kd.N_drew HO_8.out)
  replace HO_706001:=a_ (Kd.R_drew HO_706001.out)
  replace HO_706002:=a_ (Kd.R_drew HO_706002.out)
  replace HO_706003:=a_ (Kd.R_drew HO_706003.out)
  replace HO_706004:=a_ (Kd.R_drew HO_706004.out)
  replace HO_706005:=a_ (Kd.R_drew HO_706005.out)
  replace HO_706007:=a_ (Kd.N_drew HO_706007.out)
  replace l:=a_ (blk_drew l.out)
  replace o:=a_ (blk_drew o.out)
  replace g:=a_ (blk_drew g.out)
  replace HB:=a_ (below_drew1 HB.out)
  refine start_ (n:=26) (S:=fun w'=>w'.cell? ⟨X,0,none⟩=some (.int .i64 al)∧w'.cell? ⟨X,1,none⟩=some (.slice bg aD.length c1_1)∧w'.cell? ⟨X,2,none⟩=some (.slice bh aE.length c1_2)∧w'.cell? ⟨X,3,none⟩=some (.slice bi aG.length c1_3)∧w'.cell? ⟨X,4,none⟩=some (.slice bj aH.length c1_4)∧w'.cell? ⟨X,5,none⟩=some (.slice bk aI.length c1_5)∧w'.cell? ⟨X,6,none⟩=some (.int .i64 aq)∧w'.cell? ⟨X,7,none⟩=some (.slice bm a0.length c1_7)) (ds:=[]) #[false,false,false,false,false,false,false,false,false,false,false,false,false,false,false,false,false,false,false,false,false,false,false,false,false,false] kr_ rfl rfl (ca8_ o.out) (fun hHeld=>?_);refine with_tabW jigsawlaw20_GccRefuses.tab11 jigsawlaw20_GccRefuses.bits11 (fun HT_ HW_=>?_)
  generalize wc.drew=w120 at HO_8 HO_706001 HO_706002 HO_706003 HO_706004 HO_706005 HO_706007 l o g HB hHeld ⊢
  refine pn_ 0 43 ao_ ?_
  refine pn_ 2 45 ao_ ?_
  refine pn_ 3 46 ao_ ?_
  refine pn_ 6 49 ao_ ?_
  refine pn_ 7 50 ao_ ?_
  refine pn_ 10 53 ao_ ?_
  refine pn_ 11 54 ao_ ?_
  refine pn_ 14 57 ao_ ?_
  refine pn_ 15 58 ao_ ?_
  refine pn_ 18 61 ao_ ?_
  refine pn_ 19 62 ao_ ?_
  refine pn_ 22 65 ao_ ?_
  refine tn_ 1 44 tw_ hHeld ?_
  refine tn_ 4 47 tw_ hHeld ?_
  refine tn_ 8 51 tw_ hHeld ?_
  refine tn_ 12 55 tw_ hHeld ?_
  refine tn_ 16 59 tw_ hHeld ?_
  refine tn_ 20 63 tw_ hHeld ?_
  refine tn_ 23 66 tw_ hHeld ?_
  refine onn_ 5 48 #[true,true,true,true,true,true,true,true,true,false,true,true,true,false,true,true,true,false,true,true,true,false,true,true,false,false] rfl rfl on_ (by decide) (fun K hK=>?_)
  refine goeV_ Tryz.func16 kr_ rfl #[.slice bg aD.length c1_1] (by rfl) rfl rfl rfl ar_ ?_
  with_reducible refine (jigsawlaw20_GccRefuses_1.calls (fun a=>a<w.heap.size) _ _ aD ax _ ?_ fa.out).mono ?_
  exact Kd.V_mk ei.out (Kd.F_below (Kd.C_F (Kd.heap_int .i64) eh.out) bel_)
  rintro e w121 ⟨gP,rfl,ad,hb⟩
  refine ⟨_,rfl,?_⟩
  have ai:=a_ (Kd.V_lower (vm_ (ok':=fun a=>some a≠av.ownBlock∧some a≠(.slice A q.length B:Value).ownBlock∧some a≠(.slice E s.length F:Value).ownBlock∧some a≠(.slice G u.length I:Value).ownBlock∧some a≠(.slice J y.length O:Value).ownBlock∧some a≠(.slice Q z.length U:Value).ownBlock∧some a≠(.slice aa W.length ab:Value).ownBlock∧a≠Y∧a≠X∧a≠c) ad (fun a hk_=>⟨Or.elim hk_ (fun hs_=>fun e_=>Nat.not_le.2 hs_ (Kd.N_base HO_8.out a e_.symm)) (fun hn_=>(fr_ (Kd.N_lt (vN_ HO_8.out)) a hn_)),Or.elim hk_ (fun hs_=>fun e_=>Nat.not_le.2 hs_ (rs_ HO_706001.out a e_.symm)) (fun hn_=>(fr_ (rl_ (vR_ HO_706001.out)) a hn_)),Or.elim hk_ (fun hs_=>fun e_=>Nat.not_le.2 hs_ (rs_ HO_706002.out a e_.symm)) (fun hn_=>(fr_ (rl_ (vR_ HO_706002.out)) a hn_)),Or.elim hk_ (fun hs_=>fun e_=>Nat.not_le.2 hs_ (rs_ HO_706003.out a e_.symm)) (fun hn_=>(fr_ (rl_ (vR_ HO_706003.out)) a hn_)),Or.elim hk_ (fun hs_=>fun e_=>Nat.not_le.2 hs_ (rs_ HO_706004.out a e_.symm)) (fun hn_=>(fr_ (rl_ (vR_ HO_706004.out)) a hn_)),Or.elim hk_ (fun hs_=>fun e_=>Nat.not_le.2 hs_ (rs_ HO_706005.out a e_.symm)) (fun hn_=>(fr_ (rl_ (vR_ HO_706005.out)) a hn_)),Or.elim hk_ (fun hs_=>fun e_=>Nat.not_le.2 hs_ (Kd.N_base HO_706007.out a e_.symm)) (fun hn_=>(fr_ (Kd.N_lt (vN_ HO_706007.out)) a hn_)),Or.elim hk_ (fun hs_=>fun e_=>Nat.not_le.2 hs_ (by rw [e_];exact bw.out)) (fun hn_=>(Kd.freshB (bk_ l.out) a hn_)),Or.elim hk_ (fun hs_=>fun e_=>Nat.not_le.2 hs_ (by rw [e_];exact bx.out)) (fun hn_=>(Kd.freshB (bk_ o.out) a hn_)),Or.elim hk_ (fun hs_=>fun e_=>Nat.not_le.2 hs_ (by rw [e_];exact bz.out)) (fun hn_=>(Kd.freshB (bk_ g.out) a hn_))⟩)) (bz_ bel_))
  replace HO_8:=a_ (Kd.N_below (vN_ HO_8.out) hb)
  replace HO_706001:=a_ (rb_ (vR_ HO_706001.out) hb)
  replace HO_706002:=a_ (rb_ (vR_ HO_706002.out) hb)
  replace HO_706003:=a_ (rb_ (vR_ HO_706003.out) hb)
  replace HO_706004:=a_ (rb_ (vR_ HO_706004.out) hb)
  replace HO_706005:=a_ (rb_ (vR_ HO_706005.out) hb)
  replace HO_706007:=a_ (Kd.N_below (vN_ HO_706007.out) hb)
  replace l:=a_ (bq_ l.out hb)
  replace o:=a_ (bq_ o.out hb)
  replace g:=a_ (bq_ g.out hb)
  replace HB:=hq_ hb
  clear hb ad
  refine hK.out _ _ (ca8_ o.out) (fun hHeld=>?_)
  clear hK K
  refine nor_ (N:=some 48) ?_
  refine onn_ 9 52 #[true,true,true,true,true,true,true,true,true,true,true,true,true,false,true,true,true,false,true,true,true,false,true,true,false,false] rfl rfl on_ (by decide) (fun K hK=>?_)
  refine goeV_ Tryz.func16 kr_ rfl #[.slice bh aE.length c1_2] (by rfl) rfl rfl rfl ar_ ?_
  with_reducible refine (jigsawlaw20_GccRefuses_1.calls (fun a=>a<w.heap.size) _ _ aE az _ ?_ fb.out).mono ?_
  exact Kd.V_mk ek.out (Kd.F_below (Kd.C_F (Kd.heap_int .i64) ej.out) bel_)
  rintro e w122 ⟨gQ,rfl,ad,hb⟩
  refine ⟨_,rfl,?_⟩
  replace ai:=a_ (vb_ (vV_ ai.out) hb)
  have ak:=a_ (Kd.V_lower (vm_ (ok':=fun a=>some a≠av.ownBlock∧some a≠(.slice A q.length B:Value).ownBlock∧some a≠(.slice E s.length F:Value).ownBlock∧some a≠(.slice G u.length I:Value).ownBlock∧some a≠(.slice J y.length O:Value).ownBlock∧some a≠(.slice Q z.length U:Value).ownBlock∧some a≠(.slice aa W.length ab:Value).ownBlock∧a≠Y∧a≠X∧a≠c) ad (fun a hk_=>⟨Or.elim hk_ (fun hs_=>fun e_=>Nat.not_le.2 hs_ (Kd.N_base HO_8.out a e_.symm)) (fun hn_=>(fr_ (Kd.N_lt (vN_ HO_8.out)) a hn_)),Or.elim hk_ (fun hs_=>fun e_=>Nat.not_le.2 hs_ (rs_ HO_706001.out a e_.symm)) (fun hn_=>(fr_ (rl_ (vR_ HO_706001.out)) a hn_)),Or.elim hk_ (fun hs_=>fun e_=>Nat.not_le.2 hs_ (rs_ HO_706002.out a e_.symm)) (fun hn_=>(fr_ (rl_ (vR_ HO_706002.out)) a hn_)),Or.elim hk_ (fun hs_=>fun e_=>Nat.not_le.2 hs_ (rs_ HO_706003.out a e_.symm)) (fun hn_=>(fr_ (rl_ (vR_ HO_706003.out)) a hn_)),Or.elim hk_ (fun hs_=>fun e_=>Nat.not_le.2 hs_ (rs_ HO_706004.out a e_.symm)) (fun hn_=>(fr_ (rl_ (vR_ HO_706004.out)) a hn_)),Or.elim hk_ (fun hs_=>fun e_=>Nat.not_le.2 hs_ (rs_ HO_706005.out a e_.symm)) (fun hn_=>(fr_ (rl_ (vR_ HO_706005.out)) a hn_)),Or.elim hk_ (fun hs_=>fun e_=>Nat.not_le.2 hs_ (Kd.N_base HO_706007.out a e_.symm)) (fun hn_=>(fr_ (Kd.N_lt (vN_ HO_706007.out)) a hn_)),Or.elim hk_ (fun hs_=>fun e_=>Nat.not_le.2 hs_ (by rw [e_];exact bw.out)) (fun hn_=>(Kd.freshB (bk_ l.out) a hn_)),Or.elim hk_ (fun hs_=>fun e_=>Nat.not_le.2 hs_ (by rw [e_];exact bx.out)) (fun hn_=>(Kd.freshB (bk_ o.out) a hn_)),Or.elim hk_ (fun hs_=>fun e_=>Nat.not_le.2 hs_ (by rw [e_];exact bz.out)) (fun hn_=>(Kd.freshB (bk_ g.out) a hn_))⟩)) (bz_ bel_))
  replace HO_8:=a_ (Kd.N_below (vN_ HO_8.out) hb)
  replace HO_706001:=a_ (rb_ (vR_ HO_706001.out) hb)
  replace HO_706002:=a_ (rb_ (vR_ HO_706002.out) hb)
  replace HO_706003:=a_ (rb_ (vR_ HO_706003.out) hb)
  replace HO_706004:=a_ (rb_ (vR_ HO_706004.out) hb)
  replace HO_706005:=a_ (rb_ (vR_ HO_706005.out) hb)
  replace HO_706007:=a_ (Kd.N_below (vN_ HO_706007.out) hb)
  replace l:=a_ (bq_ l.out hb)
  replace o:=a_ (bq_ o.out hb)
  replace g:=a_ (bq_ g.out hb)
  replace HB:=hq_ hb
  clear hb ad
  refine hK.out _ _ (ca8_ o.out) (fun hHeld=>?_)
  clear hK K
  refine nor_ (N:=some 52) ?_
  refine onn_ 13 56 #[true,true,true,true,true,true,true,true,true,true,true,true,true,true,true,true,true,false,true,true,true,false,true,true,false,false] rfl rfl on_ (by decide) (fun K hK=>?_)
  refine goeV_ Tryz.func16 kr_ rfl #[.slice bi aG.length c1_3] (by rfl) rfl rfl rfl ar_ ?_
  with_reducible refine (jigsawlaw20_GccRefuses_1.calls (fun a=>a<w.heap.size) _ _ aG aK _ ?_ fc.out).mono ?_
  exact Kd.V_mk em.out (Kd.F_below (Kd.C_F (Kd.heap_int .i64) el.out) bel_)
  rintro e w123 ⟨gR,rfl,ad,hb⟩
  refine ⟨_,rfl,?_⟩
  replace ai:=a_ (vb_ (vV_ ai.out) hb)
  replace ak:=a_ (vb_ (vV_ ak.out) hb)
  have am:=a_ (Kd.V_lower (vm_ (ok':=fun a=>some a≠av.ownBlock∧some a≠(.slice A q.length B:Value).ownBlock∧some a≠(.slice E s.length F:Value).ownBlock∧some a≠(.slice G u.length I:Value).ownBlock∧some a≠(.slice J y.length O:Value).ownBlock∧some a≠(.slice Q z.length U:Value).ownBlock∧some a≠(.slice aa W.length ab:Value).ownBlock∧a≠Y∧a≠X∧a≠c) ad (fun a hk_=>⟨Or.elim hk_ (fun hs_=>fun e_=>Nat.not_le.2 hs_ (Kd.N_base HO_8.out a e_.symm)) (fun hn_=>(fr_ (Kd.N_lt (vN_ HO_8.out)) a hn_)),Or.elim hk_ (fun hs_=>fun e_=>Nat.not_le.2 hs_ (rs_ HO_706001.out a e_.symm)) (fun hn_=>(fr_ (rl_ (vR_ HO_706001.out)) a hn_)),Or.elim hk_ (fun hs_=>fun e_=>Nat.not_le.2 hs_ (rs_ HO_706002.out a e_.symm)) (fun hn_=>(fr_ (rl_ (vR_ HO_706002.out)) a hn_)),Or.elim hk_ (fun hs_=>fun e_=>Nat.not_le.2 hs_ (rs_ HO_706003.out a e_.symm)) (fun hn_=>(fr_ (rl_ (vR_ HO_706003.out)) a hn_)),Or.elim hk_ (fun hs_=>fun e_=>Nat.not_le.2 hs_ (rs_ HO_706004.out a e_.symm)) (fun hn_=>(fr_ (rl_ (vR_ HO_706004.out)) a hn_)),Or.elim hk_ (fun hs_=>fun e_=>Nat.not_le.2 hs_ (rs_ HO_706005.out a e_.symm)) (fun hn_=>(fr_ (rl_ (vR_ HO_706005.out)) a hn_)),Or.elim hk_ (fun hs_=>fun e_=>Nat.not_le.2 hs_ (Kd.N_base HO_706007.out a e_.symm)) (fun hn_=>(fr_ (Kd.N_lt (vN_ HO_706007.out)) a hn_)),Or.elim hk_ (fun hs_=>fun e_=>Nat.not_le.2 hs_ (by rw [e_];exact bw.out)) (fun hn_=>(Kd.freshB (bk_ l.out) a hn_)),Or.elim hk_ (fun hs_=>fun e_=>Nat.not_le.2 hs_ (by rw [e_];exact bx.out)) (fun hn_=>(Kd.freshB (bk_ o.out) a hn_)),Or.elim hk_ (fun hs_=>fun e_=>Nat.not_le.2 hs_ (by rw [e_];exact bz.out)) (fun hn_=>(Kd.freshB (bk_ g.out) a hn_))⟩)) (bz_ bel_))
  replace HO_8:=a_ (Kd.N_below (vN_ HO_8.out) hb)
  replace HO_706001:=a_ (rb_ (vR_ HO_706001.out) hb)
  replace HO_706002:=a_ (rb_ (vR_ HO_706002.out) hb)
  replace HO_706003:=a_ (rb_ (vR_ HO_706003.out) hb)
  replace HO_706004:=a_ (rb_ (vR_ HO_706004.out) hb)
  replace HO_706005:=a_ (rb_ (vR_ HO_706005.out) hb)
  replace HO_706007:=a_ (Kd.N_below (vN_ HO_706007.out) hb)
  replace l:=a_ (bq_ l.out hb)
  replace o:=a_ (bq_ o.out hb)
  replace g:=a_ (bq_ g.out hb)
  replace HB:=hq_ hb
  clear hb ad
  refine hK.out _ _ (ca8_ o.out) (fun hHeld=>?_)
  clear hK K
  refine nor_ (N:=some 56) ?_
  refine onn_ 17 60 #[true,true,true,true,true,true,true,true,true,true,true,true,true,true,true,true,true,true,true,true,true,false,true,true,false,false] rfl rfl on_ (by decide) (fun K hK=>?_)
  refine goeV_ Tryz.func16 kr_ rfl #[.slice bj aH.length c1_4] (by rfl) rfl rfl rfl ar_ ?_
  with_reducible refine (jigsawlaw20_GccRefuses_1.calls (fun a=>a<w.heap.size) _ _ aH aV _ ?_ fd.out).mono ?_
  exact Kd.V_mk eo.out (Kd.F_below (Kd.C_F (Kd.heap_int .i64) en.out) bel_)
  rintro e w124 ⟨gS,rfl,ad,hb⟩
  refine ⟨_,rfl,?_⟩
  replace ai:=a_ (vb_ (vV_ ai.out) hb)
  replace ak:=a_ (vb_ (vV_ ak.out) hb)
  replace am:=a_ (vb_ (vV_ am.out) hb)
  have an:=a_ (Kd.V_lower (vm_ (ok':=fun a=>some a≠av.ownBlock∧some a≠(.slice A q.length B:Value).ownBlock∧some a≠(.slice E s.length F:Value).ownBlock∧some a≠(.slice G u.length I:Value).ownBlock∧some a≠(.slice J y.length O:Value).ownBlock∧some a≠(.slice Q z.length U:Value).ownBlock∧some a≠(.slice aa W.length ab:Value).ownBlock∧a≠Y∧a≠X∧a≠c) ad (fun a hk_=>⟨Or.elim hk_ (fun hs_=>fun e_=>Nat.not_le.2 hs_ (Kd.N_base HO_8.out a e_.symm)) (fun hn_=>(fr_ (Kd.N_lt (vN_ HO_8.out)) a hn_)),Or.elim hk_ (fun hs_=>fun e_=>Nat.not_le.2 hs_ (rs_ HO_706001.out a e_.symm)) (fun hn_=>(fr_ (rl_ (vR_ HO_706001.out)) a hn_)),Or.elim hk_ (fun hs_=>fun e_=>Nat.not_le.2 hs_ (rs_ HO_706002.out a e_.symm)) (fun hn_=>(fr_ (rl_ (vR_ HO_706002.out)) a hn_)),Or.elim hk_ (fun hs_=>fun e_=>Nat.not_le.2 hs_ (rs_ HO_706003.out a e_.symm)) (fun hn_=>(fr_ (rl_ (vR_ HO_706003.out)) a hn_)),Or.elim hk_ (fun hs_=>fun e_=>Nat.not_le.2 hs_ (rs_ HO_706004.out a e_.symm)) (fun hn_=>(fr_ (rl_ (vR_ HO_706004.out)) a hn_)),Or.elim hk_ (fun hs_=>fun e_=>Nat.not_le.2 hs_ (rs_ HO_706005.out a e_.symm)) (fun hn_=>(fr_ (rl_ (vR_ HO_706005.out)) a hn_)),Or.elim hk_ (fun hs_=>fun e_=>Nat.not_le.2 hs_ (Kd.N_base HO_706007.out a e_.symm)) (fun hn_=>(fr_ (Kd.N_lt (vN_ HO_706007.out)) a hn_)),Or.elim hk_ (fun hs_=>fun e_=>Nat.not_le.2 hs_ (by rw [e_];exact bw.out)) (fun hn_=>(Kd.freshB (bk_ l.out) a hn_)),Or.elim hk_ (fun hs_=>fun e_=>Nat.not_le.2 hs_ (by rw [e_];exact bx.out)) (fun hn_=>(Kd.freshB (bk_ o.out) a hn_)),Or.elim hk_ (fun hs_=>fun e_=>Nat.not_le.2 hs_ (by rw [e_];exact bz.out)) (fun hn_=>(Kd.freshB (bk_ g.out) a hn_))⟩)) (bz_ bel_))
  replace HO_8:=a_ (Kd.N_below (vN_ HO_8.out) hb)
  replace HO_706001:=a_ (rb_ (vR_ HO_706001.out) hb)
  replace HO_706002:=a_ (rb_ (vR_ HO_706002.out) hb)
  replace HO_706003:=a_ (rb_ (vR_ HO_706003.out) hb)
  replace HO_706004:=a_ (rb_ (vR_ HO_706004.out) hb)
  replace HO_706005:=a_ (rb_ (vR_ HO_706005.out) hb)
  replace HO_706007:=a_ (Kd.N_below (vN_ HO_706007.out) hb)
  replace l:=a_ (bq_ l.out hb)
  replace o:=a_ (bq_ o.out hb)
  replace g:=a_ (bq_ g.out hb)
  replace HB:=hq_ hb
  clear hb ad
  refine hK.out _ _ (ca8_ o.out) (fun hHeld=>?_)
  clear hK K
  refine nor_ (N:=some 60) ?_
  refine onn_ 21 64 #[true,true,true,true,true,true,true,true,true,true,true,true,true,true,true,true,true,true,true,true,true,true,true,true,false,false] rfl rfl on_ (by decide) (fun K hK=>?_)
  refine goeV_ Tryz.func16 kr_ rfl #[.slice bk aI.length c1_5] (by rfl) rfl rfl rfl ar_ ?_
  with_reducible refine (jigsawlaw20_GccRefuses_1.calls (fun a=>a<w.heap.size) _ _ aI a1 _ ?_ fe.out).mono ?_
  exact Kd.V_mk eq.out (Kd.F_below (Kd.C_F (Kd.heap_int .i64) ep.out) bel_)
  rintro e w125 ⟨gT,rfl,ad,hb⟩
  refine ⟨_,rfl,?_⟩
  replace ai:=a_ (vb_ (vV_ ai.out) hb)
  replace ak:=a_ (vb_ (vV_ ak.out) hb)
  replace am:=a_ (vb_ (vV_ am.out) hb)
  replace an:=a_ (vb_ (vV_ an.out) hb)
  have ap:=a_ (Kd.V_lower (vm_ (ok':=fun a=>some a≠av.ownBlock∧some a≠(.slice A q.length B:Value).ownBlock∧some a≠(.slice E s.length F:Value).ownBlock∧some a≠(.slice G u.length I:Value).ownBlock∧some a≠(.slice J y.length O:Value).ownBlock∧some a≠(.slice Q z.length U:Value).ownBlock∧some a≠(.slice aa W.length ab:Value).ownBlock∧a≠Y∧a≠X∧a≠c) ad (fun a hk_=>⟨Or.elim hk_ (fun hs_=>fun e_=>Nat.not_le.2 hs_ (Kd.N_base HO_8.out a e_.symm)) (fun hn_=>(fr_ (Kd.N_lt (vN_ HO_8.out)) a hn_)),Or.elim hk_ (fun hs_=>fun e_=>Nat.not_le.2 hs_ (rs_ HO_706001.out a e_.symm)) (fun hn_=>(fr_ (rl_ (vR_ HO_706001.out)) a hn_)),Or.elim hk_ (fun hs_=>fun e_=>Nat.not_le.2 hs_ (rs_ HO_706002.out a e_.symm)) (fun hn_=>(fr_ (rl_ (vR_ HO_706002.out)) a hn_)),Or.elim hk_ (fun hs_=>fun e_=>Nat.not_le.2 hs_ (rs_ HO_706003.out a e_.symm)) (fun hn_=>(fr_ (rl_ (vR_ HO_706003.out)) a hn_)),Or.elim hk_ (fun hs_=>fun e_=>Nat.not_le.2 hs_ (rs_ HO_706004.out a e_.symm)) (fun hn_=>(fr_ (rl_ (vR_ HO_706004.out)) a hn_)),Or.elim hk_ (fun hs_=>fun e_=>Nat.not_le.2 hs_ (rs_ HO_706005.out a e_.symm)) (fun hn_=>(fr_ (rl_ (vR_ HO_706005.out)) a hn_)),Or.elim hk_ (fun hs_=>fun e_=>Nat.not_le.2 hs_ (Kd.N_base HO_706007.out a e_.symm)) (fun hn_=>(fr_ (Kd.N_lt (vN_ HO_706007.out)) a hn_)),Or.elim hk_ (fun hs_=>fun e_=>Nat.not_le.2 hs_ (by rw [e_];exact bw.out)) (fun hn_=>(Kd.freshB (bk_ l.out) a hn_)),Or.elim hk_ (fun hs_=>fun e_=>Nat.not_le.2 hs_ (by rw [e_];exact bx.out)) (fun hn_=>(Kd.freshB (bk_ o.out) a hn_)),Or.elim hk_ (fun hs_=>fun e_=>Nat.not_le.2 hs_ (by rw [e_];exact bz.out)) (fun hn_=>(Kd.freshB (bk_ g.out) a hn_))⟩)) (bz_ bel_))
  replace HO_8:=a_ (Kd.N_below (vN_ HO_8.out) hb)
  replace HO_706001:=a_ (rb_ (vR_ HO_706001.out) hb)
  replace HO_706002:=a_ (rb_ (vR_ HO_706002.out) hb)
  replace HO_706003:=a_ (rb_ (vR_ HO_706003.out) hb)
  replace HO_706004:=a_ (rb_ (vR_ HO_706004.out) hb)
  replace HO_706005:=a_ (rb_ (vR_ HO_706005.out) hb)
  replace HO_706007:=a_ (Kd.N_below (vN_ HO_706007.out) hb)
  replace l:=a_ (bq_ l.out hb)
  replace o:=a_ (bq_ o.out hb)
  replace g:=a_ (bq_ g.out hb)
  replace HB:=hq_ hb
  clear hb ad
  obtain ⟨ba,bb,dw⟩:=Kd.V_slice ap.out
  (first | subst dw | (injection dw with f1_ f2_ f3_;have f4_:=f1_.symm;have f5_:=f3_.symm;clear f1_ f2_ f3_;subst f4_;subst f5_))
  obtain ⟨a4,a5,dx⟩:=Kd.V_slice an.out
  (first | subst dx | (injection dx with f1_ f2_ f3_;have f4_:=f1_.symm;have f5_:=f3_.symm;clear f1_ f2_ f3_;subst f4_;subst f5_))
  obtain ⟨aW,aX,dy⟩:=Kd.V_slice am.out
  (first | subst dy | (injection dy with f1_ f2_ f3_;have f4_:=f1_.symm;have f5_:=f3_.symm;clear f1_ f2_ f3_;subst f4_;subst f5_))
  obtain ⟨aM,aN,dz⟩:=Kd.V_slice ak.out
  (first | subst dz | (injection dz with f1_ f2_ f3_;have f4_:=f1_.symm;have f5_:=f3_.symm;clear f1_ f2_ f3_;subst f4_;subst f5_))
  obtain ⟨aA,aC,dA⟩:=Kd.V_slice ai.out
  (first | subst dA | (injection dA with f1_ f2_ f3_;have f4_:=f1_.symm;have f5_:=f3_.symm;clear f1_ f2_ f3_;subst f4_;subst f5_))
  refine hK.out _ _ (ca8_ o.out) (fun hHeld=>?_)
  clear hK K
  refine nor_ (N:=some 64) ?_
  refine pn_ 24 67 ao_ ?_
  refine one_ (i:=25) (N:=none) #[true,true,true,true,true,true,true,true,true,true,true,true,true,true,true,true,true,true,true,true,true,true,true,true,true,true] rfl rfl on_ (by decide) (fun K hK=>?_)
  have ge:w125.cell? ⟨c,0,none⟩=some (.int .i64 ae):=(blk_cell g.out 0).trans rfl
  have hfs131:=blk_frozen g.out 0
  have hns131_0:=ac.out
  have hns131_1:=d.out
  have hms131_0:=ag.out
  have hms131_1:=ah.out
  have gf:w125.cell? ⟨c,1,none⟩=some (.slice A q.length B):=(blk_cell g.out 1).trans rfl
  have hfs132:=blk_frozen g.out 1
  have hns132_0:=ac.out
  have hns132_1:=d.out
  have hms132_0:=ag.out
  have hms132_1:=ah.out
  have gg:w125.cell? ⟨c,2,none⟩=some (.slice E s.length F):=(blk_cell g.out 2).trans rfl
  have hfs133:=blk_frozen g.out 2
  have hns133_0:=ac.out
  have hns133_1:=d.out
  have hms133_0:=ag.out
  have hms133_1:=ah.out
  have gh:w125.cell? ⟨c,3,none⟩=some (.slice G u.length I):=(blk_cell g.out 3).trans rfl
  have hfs134:=blk_frozen g.out 3
  have hns134_0:=ac.out
  have hns134_1:=d.out
  have hms134_0:=ag.out
  have hms134_1:=ah.out
  have gi:w125.cell? ⟨c,4,none⟩=some (.slice J y.length O):=(blk_cell g.out 4).trans rfl
  have hfs135:=blk_frozen g.out 4
  have hns135_0:=ac.out
  have hns135_1:=d.out
  have hms135_0:=ag.out
  have hms135_1:=ah.out
  have gj:w125.cell? ⟨c,5,none⟩=some (.slice Q z.length U):=(blk_cell g.out 5).trans rfl
  have hfs136:=blk_frozen g.out 5
  have hns136_0:=ac.out
  have hns136_1:=d.out
  have hms136_0:=ag.out
  have hms136_1:=ah.out
  have gk:w125.cell? ⟨c,6,none⟩=some (.int .i64 af):=(blk_cell g.out 6).trans rfl
  have hfs137:=blk_frozen g.out 6
  have hns137_0:=ac.out
  have hns137_1:=d.out
  have hms137_0:=ag.out
  have hms137_1:=ah.out
  have gl:w125.cell? ⟨c,7,none⟩=some (.slice aa W.length ab):=(blk_cell g.out 7).trans rfl
  have hfs138:=blk_frozen g.out 7
  have hns138_0:=ac.out
  have hns138_1:=d.out
  have hms138_0:=ag.out
  have hms138_1:=ah.out
  refine skip_ (w1:=?_) (by rfl) rfl ?_ ?_
  rotate_left
  ·
   go_simp
   rfl
  refine hK.out _ _ ⟨((cell_far (p:=⟨c,_,none⟩) d.out _).trans (((cell_far (p:=⟨c,_,none⟩) d.out _).trans (((cell_far (p:=⟨c,_,none⟩) d.out _).trans (((cell_far (p:=⟨c,_,none⟩) d.out _).trans (((cell_far (p:=⟨c,_,none⟩) d.out _).trans (((cell_far (p:=⟨c,_,none⟩) d.out _).trans (((cell_far (p:=⟨c,_,none⟩) d.out _).trans (((cell_far (p:=⟨c,_,none⟩) d.out _).trans (hHeld.1)))))))))))))))),((cell_far (p:=⟨c,_,none⟩) d.out _).trans (((cell_far (p:=⟨c,_,none⟩) d.out _).trans (((cell_far (p:=⟨c,_,none⟩) d.out _).trans (((cell_far (p:=⟨c,_,none⟩) d.out _).trans (((cell_far (p:=⟨c,_,none⟩) d.out _).trans (((cell_far (p:=⟨c,_,none⟩) d.out _).trans (((cell_far (p:=⟨c,_,none⟩) d.out _).trans (((cell_far (p:=⟨c,_,none⟩) d.out _).trans (hHeld.2.1)))))))))))))))),((cell_far (p:=⟨c,_,none⟩) d.out _).trans (((cell_far (p:=⟨c,_,none⟩) d.out _).trans (((cell_far (p:=⟨c,_,none⟩) d.out _).trans (((cell_far (p:=⟨c,_,none⟩) d.out _).trans (((cell_far (p:=⟨c,_,none⟩) d.out _).trans (((cell_far (p:=⟨c,_,none⟩) d.out _).trans (((cell_far (p:=⟨c,_,none⟩) d.out _).trans (((cell_far (p:=⟨c,_,none⟩) d.out _).trans (hHeld.2.2.1)))))))))))))))),((cell_far (p:=⟨c,_,none⟩) d.out _).trans (((cell_far (p:=⟨c,_,none⟩) d.out _).trans (((cell_far (p:=⟨c,_,none⟩) d.out _).trans (((cell_far (p:=⟨c,_,none⟩) d.out _).trans (((cell_far (p:=⟨c,_,none⟩) d.out _).trans (((cell_far (p:=⟨c,_,none⟩) d.out _).trans (((cell_far (p:=⟨c,_,none⟩) d.out _).trans (((cell_far (p:=⟨c,_,none⟩) d.out _).trans (hHeld.2.2.2.1)))))))))))))))),((cell_far (p:=⟨c,_,none⟩) d.out _).trans (((cell_far (p:=⟨c,_,none⟩) d.out _).trans (((cell_far (p:=⟨c,_,none⟩) d.out _).trans (((cell_far (p:=⟨c,_,none⟩) d.out _).trans (((cell_far (p:=⟨c,_,none⟩) d.out _).trans (((cell_far (p:=⟨c,_,none⟩) d.out _).trans (((cell_far (p:=⟨c,_,none⟩) d.out _).trans (((cell_far (p:=⟨c,_,none⟩) d.out _).trans (hHeld.2.2.2.2.1)))))))))))))))),((cell_far (p:=⟨c,_,none⟩) d.out _).trans (((cell_far (p:=⟨c,_,none⟩) d.out _).trans (((cell_far (p:=⟨c,_,none⟩) d.out _).trans (((cell_far (p:=⟨c,_,none⟩) d.out _).trans (((cell_far (p:=⟨c,_,none⟩) d.out _).trans (((cell_far (p:=⟨c,_,none⟩) d.out _).trans (((cell_far (p:=⟨c,_,none⟩) d.out _).trans (((cell_far (p:=⟨c,_,none⟩) d.out _).trans (hHeld.2.2.2.2.2.1)))))))))))))))),((cell_far (p:=⟨c,_,none⟩) d.out _).trans (((cell_far (p:=⟨c,_,none⟩) d.out _).trans (((cell_far (p:=⟨c,_,none⟩) d.out _).trans (((cell_far (p:=⟨c,_,none⟩) d.out _).trans (((cell_far (p:=⟨c,_,none⟩) d.out _).trans (((cell_far (p:=⟨c,_,none⟩) d.out _).trans (((cell_far (p:=⟨c,_,none⟩) d.out _).trans (((cell_far (p:=⟨c,_,none⟩) d.out _).trans (hHeld.2.2.2.2.2.2.1)))))))))))))))),((cell_far (p:=⟨c,_,none⟩) d.out _).trans (((cell_far (p:=⟨c,_,none⟩) d.out _).trans (((cell_far (p:=⟨c,_,none⟩) d.out _).trans (((cell_far (p:=⟨c,_,none⟩) d.out _).trans (((cell_far (p:=⟨c,_,none⟩) d.out _).trans (((cell_far (p:=⟨c,_,none⟩) d.out _).trans (((cell_far (p:=⟨c,_,none⟩) d.out _).trans (((cell_far (p:=⟨c,_,none⟩) d.out _).trans (hHeld.2.2.2.2.2.2.2))))))))))))))))⟩ (fun hHeld=>?_)
  clear hK K
  refine done_ dn_ ?_
  try go_wp2
  obtain ⟨w139,hq_⟩:∃x,x=((((((((w125.setCell ⟨c,0,none⟩ (.int .i64 al)).setCell ⟨c,1,none⟩ (.slice aA ax.length aC)).setCell ⟨c,2,none⟩ (.slice aM az.length aN)).setCell ⟨c,3,none⟩ (.slice aW aK.length aX)).setCell ⟨c,4,none⟩ (.slice a4 aV.length a5)).setCell ⟨c,5,none⟩ (.slice ba a1.length bb)).setCell ⟨c,6,none⟩ (.int .i64 aq)).setCell ⟨c,7,none⟩ (.slice none 0 0)):=⟨_,rfl⟩
  replace HO_8:Aside0 (Kd.N (Kd.slice 3 (Kd.int .i64)) 30 w139 w.heap.size (fun a=>some a≠(.slice A q.length B:Value).ownBlock∧some a≠(.slice E s.length F:Value).ownBlock∧some a≠(.slice G u.length I:Value).ownBlock∧some a≠(.slice J y.length O:Value).ownBlock∧some a≠(.slice Q z.length U:Value).ownBlock∧some a≠(.slice aa W.length ab:Value).ownBlock∧a≠Y∧a≠X∧a≠c) av Z):=⟨by subst hq_;refine vN_ ?_;exact nm_ (fN_ (fN_ (fN_ (fN_ (fN_ (fN_ (fN_ (fN_ (nm_ HO_8.out (fun a hk=>(⟨hk,hk.2.2.2.2.2.2.2.2⟩:_∧a≠c))))))))))) (fun _ hk=>⟨hk.1.1,⟨hk.1.2.1,⟨hk.1.2.2.1,⟨hk.1.2.2.2.1,⟨hk.1.2.2.2.2.1,⟨hk.1.2.2.2.2.2.1,⟨hk.1.2.2.2.2.2.2.1,⟨hk.1.2.2.2.2.2.2.2.1,hk.1.2.2.2.2.2.2.2.2⟩⟩⟩⟩⟩⟩⟩⟩)⟩
  replace HO_706001:Aside0 (Kd.R (Kd.int .i64) 3 w139 w.heap.size (fun a=>some a≠(.slice E s.length F:Value).ownBlock∧some a≠(.slice G u.length I:Value).ownBlock∧some a≠(.slice J y.length O:Value).ownBlock∧some a≠(.slice Q z.length U:Value).ownBlock) (.slice A q.length B) q):=⟨by subst hq_;refine vR_ ?_;exact rm_ (fR_ (fR_ (fR_ (fR_ (fR_ (fR_ (fR_ (fR_ (rt_ HO_706001.out g.out (by decide)))))))))) (fun _ hk=>⟨hk.1.1,⟨hk.1.2.1,⟨hk.1.2.2.1,hk.1.2.2.2⟩⟩⟩)⟩
  replace HO_706002:Aside0 (Kd.R (Kd.int .i64) 3 w139 w.heap.size (fun a=>some a≠(.slice A q.length B:Value).ownBlock∧some a≠(.slice G u.length I:Value).ownBlock∧some a≠(.slice J y.length O:Value).ownBlock∧some a≠(.slice Q z.length U:Value).ownBlock) (.slice E s.length F) s):=⟨by subst hq_;refine vR_ ?_;exact rm_ (fR_ (fR_ (fR_ (fR_ (fR_ (fR_ (fR_ (fR_ (rt_ HO_706002.out g.out (by decide)))))))))) (fun _ hk=>⟨hk.1.1,⟨hk.1.2.1,⟨hk.1.2.2.1,hk.1.2.2.2⟩⟩⟩)⟩
  replace HO_706003:Aside0 (Kd.R (Kd.int .i64) 3 w139 w.heap.size (fun a=>some a≠(.slice A q.length B:Value).ownBlock∧some a≠(.slice E s.length F:Value).ownBlock∧some a≠(.slice J y.length O:Value).ownBlock∧some a≠(.slice Q z.length U:Value).ownBlock) (.slice G u.length I) u):=⟨by subst hq_;refine vR_ ?_;exact rm_ (fR_ (fR_ (fR_ (fR_ (fR_ (fR_ (fR_ (fR_ (rt_ HO_706003.out g.out (by decide)))))))))) (fun _ hk=>⟨hk.1.1,⟨hk.1.2.1,⟨hk.1.2.2.1,hk.1.2.2.2⟩⟩⟩)⟩
  replace HO_706004:Aside0 (Kd.R (Kd.int .i64) 3 w139 w.heap.size (fun a=>some a≠(.slice A q.length B:Value).ownBlock∧some a≠(.slice E s.length F:Value).ownBlock∧some a≠(.slice G u.length I:Value).ownBlock∧some a≠(.slice Q z.length U:Value).ownBlock) (.slice J y.length O) y):=⟨by subst hq_;refine vR_ ?_;exact rm_ (fR_ (fR_ (fR_ (fR_ (fR_ (fR_ (fR_ (fR_ (rt_ HO_706004.out g.out (by decide)))))))))) (fun _ hk=>⟨hk.1.1,⟨hk.1.2.1,⟨hk.1.2.2.1,hk.1.2.2.2⟩⟩⟩)⟩
  replace HO_706005:Aside0 (Kd.R (Kd.int .i64) 3 w139 w.heap.size (fun a=>some a≠(.slice A q.length B:Value).ownBlock∧some a≠(.slice E s.length F:Value).ownBlock∧some a≠(.slice G u.length I:Value).ownBlock∧some a≠(.slice J y.length O:Value).ownBlock) (.slice Q z.length U) z):=⟨by subst hq_;refine vR_ ?_;exact rm_ (fR_ (fR_ (fR_ (fR_ (fR_ (fR_ (fR_ (fR_ (rt_ HO_706005.out g.out (by decide)))))))))) (fun _ hk=>⟨hk.1.1,⟨hk.1.2.1,⟨hk.1.2.2.1,hk.1.2.2.2⟩⟩⟩)⟩
  replace HO_706007:Aside0 (Kd.N (Kd.slice 3 (Kd.int .i64)) 30 w139 w.heap.size (fun a=>some a≠av.ownBlock∧some a≠(.slice A q.length B:Value).ownBlock∧some a≠(.slice E s.length F:Value).ownBlock∧some a≠(.slice G u.length I:Value).ownBlock∧some a≠(.slice J y.length O:Value).ownBlock∧some a≠(.slice Q z.length U:Value).ownBlock∧a≠Y∧a≠X∧a≠c) (.slice aa W.length ab) W):=⟨by subst hq_;refine vN_ ?_;exact nm_ (fN_ (fN_ (fN_ (fN_ (fN_ (fN_ (fN_ (fN_ (nm_ HO_706007.out (fun a hk=>(⟨hk,hk.2.2.2.2.2.2.2.2⟩:_∧a≠c))))))))))) (fun _ hk=>⟨hk.1.1,⟨hk.1.2.1,⟨hk.1.2.2.1,⟨hk.1.2.2.2.1,⟨hk.1.2.2.2.2.1,⟨hk.1.2.2.2.2.2.1,⟨hk.1.2.2.2.2.2.2.1,⟨hk.1.2.2.2.2.2.2.2.1,hk.1.2.2.2.2.2.2.2.2⟩⟩⟩⟩⟩⟩⟩⟩)⟩
  replace ai:Aside0 (Kd.V (Kd.int .i64) 3 w139 w.heap.size (fun a=>some a≠av.ownBlock∧some a≠(.slice A q.length B:Value).ownBlock∧some a≠(.slice E s.length F:Value).ownBlock∧some a≠(.slice G u.length I:Value).ownBlock∧some a≠(.slice J y.length O:Value).ownBlock∧some a≠(.slice Q z.length U:Value).ownBlock∧some a≠(.slice aa W.length ab:Value).ownBlock∧a≠Y∧a≠X∧a≠c) (.slice aA ax.length aC) ax):=⟨by subst hq_;refine vV_ ?_;exact vm_ (fV_ (fV_ (fV_ (fV_ (fV_ (fV_ (fV_ (fV_ (vm_ ai.out (fun a hk=>(⟨hk,hk.2.2.2.2.2.2.2.2.2⟩:_∧a≠c))))))))))) (fun _ hk=>⟨hk.1.1,⟨hk.1.2.1,⟨hk.1.2.2.1,⟨hk.1.2.2.2.1,⟨hk.1.2.2.2.2.1,⟨hk.1.2.2.2.2.2.1,⟨hk.1.2.2.2.2.2.2.1,⟨hk.1.2.2.2.2.2.2.2.1,⟨hk.1.2.2.2.2.2.2.2.2.1,hk.1.2.2.2.2.2.2.2.2.2⟩⟩⟩⟩⟩⟩⟩⟩⟩)⟩
  replace ak:Aside0 (Kd.V (Kd.int .i64) 3 w139 w.heap.size (fun a=>some a≠av.ownBlock∧some a≠(.slice A q.length B:Value).ownBlock∧some a≠(.slice E s.length F:Value).ownBlock∧some a≠(.slice G u.length I:Value).ownBlock∧some a≠(.slice J y.length O:Value).ownBlock∧some a≠(.slice Q z.length U:Value).ownBlock∧some a≠(.slice aa W.length ab:Value).ownBlock∧a≠Y∧a≠X∧a≠c) (.slice aM az.length aN) az):=⟨by subst hq_;refine vV_ ?_;exact vm_ (fV_ (fV_ (fV_ (fV_ (fV_ (fV_ (fV_ (fV_ (vm_ ak.out (fun a hk=>(⟨hk,hk.2.2.2.2.2.2.2.2.2⟩:_∧a≠c))))))))))) (fun _ hk=>⟨hk.1.1,⟨hk.1.2.1,⟨hk.1.2.2.1,⟨hk.1.2.2.2.1,⟨hk.1.2.2.2.2.1,⟨hk.1.2.2.2.2.2.1,⟨hk.1.2.2.2.2.2.2.1,⟨hk.1.2.2.2.2.2.2.2.1,⟨hk.1.2.2.2.2.2.2.2.2.1,hk.1.2.2.2.2.2.2.2.2.2⟩⟩⟩⟩⟩⟩⟩⟩⟩)⟩
  replace am:Aside0 (Kd.V (Kd.int .i64) 3 w139 w.heap.size (fun a=>some a≠av.ownBlock∧some a≠(.slice A q.length B:Value).ownBlock∧some a≠(.slice E s.length F:Value).ownBlock∧some a≠(.slice G u.length I:Value).ownBlock∧some a≠(.slice J y.length O:Value).ownBlock∧some a≠(.slice Q z.length U:Value).ownBlock∧some a≠(.slice aa W.length ab:Value).ownBlock∧a≠Y∧a≠X∧a≠c) (.slice aW aK.length aX) aK):=⟨by subst hq_;refine vV_ ?_;exact vm_ (fV_ (fV_ (fV_ (fV_ (fV_ (fV_ (fV_ (fV_ (vm_ am.out (fun a hk=>(⟨hk,hk.2.2.2.2.2.2.2.2.2⟩:_∧a≠c))))))))))) (fun _ hk=>⟨hk.1.1,⟨hk.1.2.1,⟨hk.1.2.2.1,⟨hk.1.2.2.2.1,⟨hk.1.2.2.2.2.1,⟨hk.1.2.2.2.2.2.1,⟨hk.1.2.2.2.2.2.2.1,⟨hk.1.2.2.2.2.2.2.2.1,⟨hk.1.2.2.2.2.2.2.2.2.1,hk.1.2.2.2.2.2.2.2.2.2⟩⟩⟩⟩⟩⟩⟩⟩⟩)⟩
  replace an:Aside0 (Kd.V (Kd.int .i64) 3 w139 w.heap.size (fun a=>some a≠av.ownBlock∧some a≠(.slice A q.length B:Value).ownBlock∧some a≠(.slice E s.length F:Value).ownBlock∧some a≠(.slice G u.length I:Value).ownBlock∧some a≠(.slice J y.length O:Value).ownBlock∧some a≠(.slice Q z.length U:Value).ownBlock∧some a≠(.slice aa W.length ab:Value).ownBlock∧a≠Y∧a≠X∧a≠c) (.slice a4 aV.length a5) aV):=⟨by subst hq_;refine vV_ ?_;exact vm_ (fV_ (fV_ (fV_ (fV_ (fV_ (fV_ (fV_ (fV_ (vm_ an.out (fun a hk=>(⟨hk,hk.2.2.2.2.2.2.2.2.2⟩:_∧a≠c))))))))))) (fun _ hk=>⟨hk.1.1,⟨hk.1.2.1,⟨hk.1.2.2.1,⟨hk.1.2.2.2.1,⟨hk.1.2.2.2.2.1,⟨hk.1.2.2.2.2.2.1,⟨hk.1.2.2.2.2.2.2.1,⟨hk.1.2.2.2.2.2.2.2.1,⟨hk.1.2.2.2.2.2.2.2.2.1,hk.1.2.2.2.2.2.2.2.2.2⟩⟩⟩⟩⟩⟩⟩⟩⟩)⟩
  replace ap:Aside0 (Kd.V (Kd.int .i64) 3 w139 w.heap.size (fun a=>some a≠av.ownBlock∧some a≠(.slice A q.length B:Value).ownBlock∧some a≠(.slice E s.length F:Value).ownBlock∧some a≠(.slice G u.length I:Value).ownBlock∧some a≠(.slice J y.length O:Value).ownBlock∧some a≠(.slice Q z.length U:Value).ownBlock∧some a≠(.slice aa W.length ab:Value).ownBlock∧a≠Y∧a≠X∧a≠c) (.slice ba a1.length bb) a1):=⟨by subst hq_;refine vV_ ?_;exact vm_ (fV_ (fV_ (fV_ (fV_ (fV_ (fV_ (fV_ (fV_ (vm_ ap.out (fun a hk=>(⟨hk,hk.2.2.2.2.2.2.2.2.2⟩:_∧a≠c))))))))))) (fun _ hk=>⟨hk.1.1,⟨hk.1.2.1,⟨hk.1.2.2.1,⟨hk.1.2.2.2.1,⟨hk.1.2.2.2.2.1,⟨hk.1.2.2.2.2.2.1,⟨hk.1.2.2.2.2.2.2.1,⟨hk.1.2.2.2.2.2.2.2.1,⟨hk.1.2.2.2.2.2.2.2.2.1,hk.1.2.2.2.2.2.2.2.2.2⟩⟩⟩⟩⟩⟩⟩⟩⟩)⟩
  replace l:Aside0 (w139.heap[Y]? = some (.cells #[.int .u8 a6,.slice bc aQ.length c0_1,.slice bd aR.length c0_2,.slice be aT.length c0_3,.int .i16 a7,.int .u8 a8,.slice bf aU.length c0_6] 29 (0,0))):=⟨by subst hq_;refine bk_ ?_;refine blk_far ?_ ac.out _;refine bk_ ?_;refine blk_far ?_ ac.out _;refine bk_ ?_;refine blk_far ?_ ac.out _;refine bk_ ?_;refine blk_far ?_ ac.out _;refine bk_ ?_;refine blk_far ?_ ac.out _;refine bk_ ?_;refine blk_far ?_ ac.out _;refine bk_ ?_;refine blk_far ?_ ac.out _;refine bk_ ?_;refine blk_far ?_ ac.out _;refine bk_ ?_;exact l.out⟩
  replace o:Aside0 (w139.heap[X]? = some (.cells #[.int .i64 al,.slice bg aD.length c1_1,.slice bh aE.length c1_2,.slice bi aG.length c1_3,.slice bj aH.length c1_4,.slice bk aI.length c1_5,.int .i64 aq,.slice bm a0.length c1_7] 32 (0,0))):=⟨by subst hq_;refine bk_ ?_;refine blk_far ?_ d.out _;refine bk_ ?_;refine blk_far ?_ d.out _;refine bk_ ?_;refine blk_far ?_ d.out _;refine bk_ ?_;refine blk_far ?_ d.out _;refine bk_ ?_;refine blk_far ?_ d.out _;refine bk_ ?_;refine blk_far ?_ d.out _;refine bk_ ?_;refine blk_far ?_ d.out _;refine bk_ ?_;refine blk_far ?_ d.out _;refine bk_ ?_;exact o.out⟩
  replace g:Aside0 (w139.heap[c]? = some (.cells #[.int .i64 al,.slice aA ax.length aC,.slice aM az.length aN,.slice aW aK.length aX,.slice a4 aV.length a5,.slice ba a1.length bb,.int .i64 aq,.slice none 0 0] 32 (0,0))):=⟨by subst hq_;refine bk_ ?_;refine bu_ (cs:=#[.int .i64 al,.slice aA ax.length aC,.slice aM az.length aN,.slice aW aK.length aX,.slice a4 aV.length a5,.slice ba a1.length bb,.int .i64 aq,.slice aa W.length ab]) ?_ 7 _ rfl;refine bk_ ?_;refine bu_ (cs:=#[.int .i64 al,.slice aA ax.length aC,.slice aM az.length aN,.slice aW aK.length aX,.slice a4 aV.length a5,.slice ba a1.length bb,.int .i64 af,.slice aa W.length ab]) ?_ 6 _ rfl;refine bk_ ?_;refine bu_ (cs:=#[.int .i64 al,.slice aA ax.length aC,.slice aM az.length aN,.slice aW aK.length aX,.slice a4 aV.length a5,.slice Q z.length U,.int .i64 af,.slice aa W.length ab]) ?_ 5 _ rfl;refine bk_ ?_;refine bu_ (cs:=#[.int .i64 al,.slice aA ax.length aC,.slice aM az.length aN,.slice aW aK.length aX,.slice J y.length O,.slice Q z.length U,.int .i64 af,.slice aa W.length ab]) ?_ 4 _ rfl;refine bk_ ?_;refine bu_ (cs:=#[.int .i64 al,.slice aA ax.length aC,.slice aM az.length aN,.slice G u.length I,.slice J y.length O,.slice Q z.length U,.int .i64 af,.slice aa W.length ab]) ?_ 3 _ rfl;refine bk_ ?_;refine bu_ (cs:=#[.int .i64 al,.slice aA ax.length aC,.slice E s.length F,.slice G u.length I,.slice J y.length O,.slice Q z.length U,.int .i64 af,.slice aa W.length ab]) ?_ 2 _ rfl;refine bk_ ?_;refine bu_ (cs:=#[.int .i64 al,.slice A q.length B,.slice E s.length F,.slice G u.length I,.slice J y.length O,.slice Q z.length U,.int .i64 af,.slice aa W.length ab]) ?_ 1 _ rfl;refine bk_ ?_;refine bu_ (cs:=#[.int .i64 ae,.slice A q.length B,.slice E s.length F,.slice G u.length I,.slice J y.length O,.slice Q z.length U,.int .i64 af,.slice aa W.length ab]) ?_ 0 _ rfl;refine bk_ ?_;exact g.out⟩
  replace HB:Aside0 (Below w.heap.size w w139):=⟨by subst hq_;exact bel_⟩
  rw [←hq_]
  clear hq_
  replace HO_8:=a_ (Kd.N_drew HO_8.out)
  replace HO_706001:=a_ (Kd.R_drew HO_706001.out)
  replace HO_706002:=a_ (Kd.R_drew HO_706002.out)
  replace HO_706003:=a_ (Kd.R_drew HO_706003.out)
  replace HO_706004:=a_ (Kd.R_drew HO_706004.out)
  replace HO_706005:=a_ (Kd.R_drew HO_706005.out)
  replace HO_706007:=a_ (Kd.N_drew HO_706007.out)
  replace ai:=a_ (Kd.V_drew ai.out)
  replace ak:=a_ (Kd.V_drew ak.out)
  replace am:=a_ (Kd.V_drew am.out)
  replace an:=a_ (Kd.V_drew an.out)
  replace ap:=a_ (Kd.V_drew ap.out)
  replace l:=a_ (blk_drew l.out)
  replace o:=a_ (blk_drew o.out)
  replace g:=a_ (blk_drew g.out)
  replace HB:=a_ (below_drew1 HB.out)
  obtain ⟨aY,aZ,dB⟩:=Kd.N_slice HO_8.out
  (first | subst dB | (injection dB with f1_ f2_ f3_;have f4_:=f1_.symm;have f5_:=f3_.symm;clear f1_ f2_ f3_;subst f4_;subst f5_))
  refine start_ (n:=9) (S:=fun w'=>w'.cell? ⟨c,0,none⟩=some (.int .i64 al)∧w'.cell? ⟨c,1,none⟩=some (.slice aA ax.length aC)∧w'.cell? ⟨c,2,none⟩=some (.slice aM az.length aN)∧w'.cell? ⟨c,3,none⟩=some (.slice aW aK.length aX)∧w'.cell? ⟨c,4,none⟩=some (.slice a4 aV.length a5)∧w'.cell? ⟨c,5,none⟩=some (.slice ba a1.length bb)∧w'.cell? ⟨c,6,none⟩=some (.int .i64 aq)∧w'.cell? ⟨c,7,none⟩=some (.slice none 0 0)) (ds:=[]) #[false,false,false,false,false,false,false,false,false] kr_ rfl rfl (ca8_ g.out) (fun hHeld=>?_);refine with_tabW jigsawlaw20_GccRefuses.tab12 jigsawlaw20_GccRefuses.bits12 (fun HT_ HW_=>?_)
  generalize w139.drew=w140 at HO_8 HO_706001 HO_706002 HO_706003 HO_706004 HO_706005 HO_706007 ai ak am an ap l o g HB hHeld ⊢
  refine pn_ 1 70 ao_ ?_
  refine tn_ 0 69 tw_ hHeld ?_
  refine onn_ 2 71 #[true,true,true,false,false,false,false,false,false] rfl rfl on_ (by decide) (fun K hK=>?_)
  refine goes_ Tryz.func11 kr_ rfl #[.slice aY Z.length aZ] (by rfl) rfl rfl ar_ ?_
  with_reducible refine (jigsawlaw20_doms.calls kj4 _ _ Z cP _ ?_ ?_ ?_ ff.out).mono ?_
  exact ca_ ((Kd.N_reads' HO_8.out).2.2)
  exact (Kd.N_reads' HO_8.out).2.1
  exact ca_ ((cb_ HRtab.out HB.out))
  rintro e w142 ⟨gU,rfl,ad,hb⟩
  refine ⟨_,rfl,?_⟩
  replace ai:=a_ (Kd.V_elder' (vV_ ai.out) (Kd.N_base ad) hb)
  replace ak:=a_ (Kd.V_elder' (vV_ ak.out) (Kd.N_base ad) hb)
  replace am:=a_ (Kd.V_elder' (vV_ am.out) (Kd.N_base ad) hb)
  replace an:=a_ (Kd.V_elder' (vV_ an.out) (Kd.N_base ad) hb)
  replace ap:=a_ (Kd.V_elder' (vV_ ap.out) (Kd.N_base ad) hb)
  have dC:=a_ (Kd.N_lower (nm_ (ok':=fun a=>some a≠(.slice aY Z.length aZ:Value).ownBlock∧some a≠(.slice A q.length B:Value).ownBlock∧some a≠(.slice E s.length F:Value).ownBlock∧some a≠(.slice G u.length I:Value).ownBlock∧some a≠(.slice J y.length O:Value).ownBlock∧some a≠(.slice Q z.length U:Value).ownBlock∧some a≠(.slice aa W.length ab:Value).ownBlock∧a≠Y∧a≠X∧a≠c) ad (fun a hk_=>⟨(fr_ (Kd.N_lt (vN_ HO_8.out)) a hk_),(fr_ (rl_ (vR_ HO_706001.out)) a hk_),(fr_ (rl_ (vR_ HO_706002.out)) a hk_),(fr_ (rl_ (vR_ HO_706003.out)) a hk_),(fr_ (rl_ (vR_ HO_706004.out)) a hk_),(fr_ (rl_ (vR_ HO_706005.out)) a hk_),(fr_ (Kd.N_lt (vN_ HO_706007.out)) a hk_),(Kd.freshB (bk_ l.out) a hk_),(Kd.freshB (bk_ o.out) a hk_),(Kd.freshB (bk_ g.out) a hk_)⟩)) (bz_ bel_))
  replace HO_8:=a_ (Kd.N_elder' (vN_ HO_8.out) (Kd.N_base ad) hb)
  replace HO_706001:=a_ (rb_ (vR_ HO_706001.out) hb)
  replace HO_706002:=a_ (rb_ (vR_ HO_706002.out) hb)
  replace HO_706003:=a_ (rb_ (vR_ HO_706003.out) hb)
  replace HO_706004:=a_ (rb_ (vR_ HO_706004.out) hb)
  replace HO_706005:=a_ (rb_ (vR_ HO_706005.out) hb)
  replace HO_706007:=a_ (Kd.N_elder' (vN_ HO_706007.out) (Kd.N_base ad) hb)
  replace l:=a_ (bq_ l.out hb)
  replace o:=a_ (bq_ o.out hb)
  replace g:=a_ (bq_ g.out hb)
  replace HB:=hq_ hb
  clear hb ad
  obtain ⟨ew,ex,dD⟩:=Kd.N_slice dC.out
  (first | subst dD | (injection dD with f1_ f2_ f3_;have f4_:=f1_.symm;have f5_:=f3_.symm;clear f1_ f2_ f3_;subst f4_;subst f5_))
  refine hK.out _ _ (ca8_ g.out) (fun hHeld=>?_)
  clear hK K
  refine nor_ (N:=some 71) ?_
  refine onn_ 3 72 #[true,true,true,true,false,false,false,false,false] rfl rfl on_ (by decide) (fun K hK=>?_)
  refine goes_ Tryz.func10 kr_ rfl #[.agg #[.int .i64 al,.slice aA ax.length aC,.slice aM az.length aN,.slice aW aK.length aX,.slice a4 aV.length a5,.slice ba a1.length bb,.int .i64 aq,.slice none 0 0],.slice ew cP.length ex] (by rfl) rfl rfl ar_ ?_
  refine (gcc_Filter.calls kj4 al _ _ ax _ _ az _ _ aK _ _ aV _ _ a1 aq _ _ ([]:List (List Int)) (fun a=>(some a≠(.slice aY Z.length aZ:Value).ownBlock∧(some a≠(.slice A q.length B:Value).ownBlock∧(some a≠(.slice E s.length F:Value).ownBlock∧(some a≠(.slice G u.length I:Value).ownBlock∧(some a≠(.slice J y.length O:Value).ownBlock∧(some a≠(.slice Q z.length U:Value).ownBlock∧(some a≠(.slice aa W.length ab:Value).ownBlock∧(a≠Y∧(a≠X∧a≠c)))))))))) _ _ cP cn co _ ?side1 ?side2 ?side3 ?side4 ?side5 ?side6 ?side7 ?side8 ?side9 ?side10 ?side11 ?side12 ?side13 ?side14 fg.out).mono ?_
  (case side1=>exact ca_ ((Kd.V_reads' ai.out).2.2))
  (case side2=>exact (Kd.V_reads' ai.out).2.1)
  (case side3=>exact ca_ ((Kd.V_reads' ak.out).2.2))
  (case side4=>exact (Kd.V_reads' ak.out).2.1)
  (case side5=>exact ca_ ((Kd.V_reads' am.out).2.2))
  (case side6=>exact (Kd.V_reads' am.out).2.1)
  (case side7=>exact ca_ ((Kd.V_reads' an.out).2.2))
  (case side8=>exact (Kd.V_reads' an.out).2.1)
  (case side9=>exact ca_ ((Kd.V_reads' ap.out).2.2))
  (case side10=>exact (Kd.V_reads' ap.out).2.1)
  (case side11=>exact Kd.C_nil _ _)
  (case side12=>exact lr_ _)
  (case side13=>exact Kd.N_V (dC.out))
  (case side14=>exact ca_ ((cb_ HRtab.out HB.out)))
  rintro e w144 ⟨bF,rfl,ad,hb⟩
  refine ⟨_,rfl,?_⟩
  replace ai:=a_ (Kd.V_elder' (vV_ ai.out) (Kd.N_base ad) hb)
  replace ak:=a_ (Kd.V_elder' (vV_ ak.out) (Kd.N_base ad) hb)
  replace am:=a_ (Kd.V_elder' (vV_ am.out) (Kd.N_base ad) hb)
  replace an:=a_ (Kd.V_elder' (vV_ an.out) (Kd.N_base ad) hb)
  replace ap:=a_ (Kd.V_elder' (vV_ ap.out) (Kd.N_base ad) hb)
  have cz:=a_ (Kd.N_lower (nm_ (ok':=fun a=>some a≠(.slice aY Z.length aZ:Value).ownBlock∧some a≠(.slice A q.length B:Value).ownBlock∧some a≠(.slice E s.length F:Value).ownBlock∧some a≠(.slice G u.length I:Value).ownBlock∧some a≠(.slice J y.length O:Value).ownBlock∧some a≠(.slice Q z.length U:Value).ownBlock∧some a≠(.slice aa W.length ab:Value).ownBlock∧a≠Y∧a≠X∧a≠c) ad (fun a hk_=>⟨Or.elim hk_ (fun hs_=>hs_.1) (fun hn_=>(fr_ (Kd.N_lt (vN_ HO_8.out)) a hn_)),Or.elim hk_ (fun hs_=>hs_.2.1) (fun hn_=>(fr_ (rl_ (vR_ HO_706001.out)) a hn_)),Or.elim hk_ (fun hs_=>hs_.2.2.1) (fun hn_=>(fr_ (rl_ (vR_ HO_706002.out)) a hn_)),Or.elim hk_ (fun hs_=>hs_.2.2.2.1) (fun hn_=>(fr_ (rl_ (vR_ HO_706003.out)) a hn_)),Or.elim hk_ (fun hs_=>hs_.2.2.2.2.1) (fun hn_=>(fr_ (rl_ (vR_ HO_706004.out)) a hn_)),Or.elim hk_ (fun hs_=>hs_.2.2.2.2.2.1) (fun hn_=>(fr_ (rl_ (vR_ HO_706005.out)) a hn_)),Or.elim hk_ (fun hs_=>hs_.2.2.2.2.2.2.1) (fun hn_=>(fr_ (Kd.N_lt (vN_ HO_706007.out)) a hn_)),Or.elim hk_ (fun hs_=>hs_.2.2.2.2.2.2.2.1) (fun hn_=>(Kd.freshB (bk_ l.out) a hn_)),Or.elim hk_ (fun hs_=>hs_.2.2.2.2.2.2.2.2.1) (fun hn_=>(Kd.freshB (bk_ o.out) a hn_)),Or.elim hk_ (fun hs_=>hs_.2.2.2.2.2.2.2.2.2) (fun hn_=>(Kd.freshB (bk_ g.out) a hn_))⟩)) (bz_ bel_))
  replace HO_8:=a_ (Kd.N_elder' (vN_ HO_8.out) (Kd.N_base ad) hb)
  replace HO_706001:=a_ (rb_ (vR_ HO_706001.out) hb)
  replace HO_706002:=a_ (rb_ (vR_ HO_706002.out) hb)
  replace HO_706003:=a_ (rb_ (vR_ HO_706003.out) hb)
  replace HO_706004:=a_ (rb_ (vR_ HO_706004.out) hb)
  replace HO_706005:=a_ (rb_ (vR_ HO_706005.out) hb)
  replace HO_706007:=a_ (Kd.N_elder' (vN_ HO_706007.out) (Kd.N_base ad) hb)
  replace l:=a_ (bq_ l.out hb)
  replace o:=a_ (bq_ o.out hb)
  replace g:=a_ (bq_ g.out hb)
  replace HB:=hq_ hb
  clear hb ad
  refine hK.out _ _ (ca8_ g.out) (fun hHeld=>?_)
  clear hK K
  refine nor_ (N:=some 72) ?_
  refine pn_ 4 68 ao_ ?_
  refine pn_ 5 73 ao_ ?_
  refine pn_ 6 74 ao_ ?_
  refine pn_ 7 10 ao_ ?_
  refine pn_ 8 11 ao_ ?_
  refine done_ dn_ ?_
  go_upto_region 13 with (fail)
  go_cut [77] (fun bX wc=>∃(kq:Nat) (bB:Bool),bX = .bool bB∧Aside0 (jigsawlaw20_GccRefuses.j4 kq Z cn co bB=some r)∧Aside0 (Kd.N k58 58 wc w.heap.size (fun a=>some a≠((.slice aY Z.length aZ):Value).ownBlock∧a≠Y∧a≠X∧a≠c) bF cn)∧Aside0 (Below w.heap.size w wc))
  case first =>
   have H:=cy.out
   clear cy
   replace H:=bo_ H
   obtain ⟨d4,fh,H⟩:=H
   try dsimp only at H
   have H':=a_ H
   clear H
   have fI:=ag.out
   have fJ:=ac.out
   have fK:=ah.out
   have fL:=d.out
   obtain ⟨_,_,_,_,_,_,_,_,_,_,_,_,_,_,_,_⟩:=cel8_ g.out
   go_wp2_with (first|((with_reducible refine gate_callee (f:=17) rfl ?_);refine goesL_ (some 77) rfl rfl Tryz.func17 kr_ rfl #[.agg #[.int .i64 al,.slice aA ax.length aC,.slice aM az.length aN,.slice aW aK.length aX,.slice a4 aV.length a5,.slice ba a1.length bb,.int .i64 aq,.slice none 0 0],.slice aY Z.length aZ,.int .i64 21,.int .i64 21] rfl ar_ ?_;(refine (jigsawref10_Fits.calls kj4 al _ _ ax _ _ az _ _ aK _ _ aV _ _ a1 aq _ _ ([]:List (List Int)) _ _ Z 21 21 d4 _ ?side1 ?side2 ?side3 ?side4 ?side5 ?side6 ?side7 ?side8 ?side9 ?side10 ?side11 ?side12 ?side13 ?side14 fh.out).mono ?_);(case side1=>exact ca_ ((Kd.V_reads' ai.out).2.2));(case side2=>exact (Kd.V_reads' ai.out).2.1);(case side3=>exact ca_ ((Kd.V_reads' ak.out).2.2));(case side4=>exact (Kd.V_reads' ak.out).2.1);(case side5=>exact ca_ ((Kd.V_reads' am.out).2.2));(case side6=>exact (Kd.V_reads' am.out).2.1);(case side7=>exact ca_ ((Kd.V_reads' an.out).2.2));(case side8=>exact (Kd.V_reads' an.out).2.1);(case side9=>exact ca_ ((Kd.V_reads' ap.out).2.2));(case side10=>exact (Kd.V_reads' ap.out).2.1);(case side11=>exact Kd.C_nil _ _);(case side12=>exact lr_ _);(case side13=>exact ca_ ((Kd.N_reads' HO_8.out).2.2));(case side14=>exact (Kd.N_reads' HO_8.out).2.1);rintro e w149 ⟨rfl,hb⟩;refine ⟨_,rfl,?_⟩;replace HO_8:=a_ (Kd.N_below (vN_ HO_8.out) hb);replace ai:=a_ (vb_ (vV_ ai.out) hb);replace ak:=a_ (vb_ (vV_ ak.out) hb);replace am:=a_ (vb_ (vV_ am.out) hb);replace an:=a_ (vb_ (vV_ an.out) hb);replace ap:=a_ (vb_ (vV_ ap.out) hb);replace cz:=a_ (Kd.N_below (vN_ cz.out) hb);replace l:=a_ (bq_ l.out hb);replace o:=a_ (bq_ o.out hb);replace g:=a_ (bq_ g.out hb);replace HB:=hq_ hb;clear hb))
   go_meet
   exact ⟨_,(d4),eq_,H',⟨by refine vN_ ?_;exact nm_ cz.out (fun _ hk=>⟨hk.1,⟨hk.2.2.2.2.2.2.2.1,⟨hk.2.2.2.2.2.2.2.2.1,hk.2.2.2.2.2.2.2.2.2⟩⟩⟩)⟩,⟨bel_⟩⟩
  clear cy
  try clear c1
  try clear p2
  try clear c10
  try clear c11
  try clear c14
  try clear c16
  try clear c17
  try clear c146
  try clear c147
  obtain ⟨kq,bB,rfl,HA,HO_10,HB⟩:=hcut
  cases kq with
  | zero=>exact absurd HA.out (by simp [jigsawlaw20_GccRefuses.j4])
  | succ kj118 =>
   have H:=HA.out
   clear HA
   simp only [jigsawlaw20_GccRefuses.j4] at H
   replace H:=hf_ H
   rcases H with ⟨rfl,H⟩ | ⟨rfl,H⟩
   ·
    replace H:=bo_ H
    obtain ⟨cQ,fj,H⟩:=H
    try dsimp only at H
    replace H:=gp_ H
    obtain ⟨rfl,H⟩:=H
    replace H:=gf_ H
    obtain ⟨rfl,H⟩:=H
    obtain rfl:=si_ H
    go_wp2_with (first|((with_reducible refine gate_callee (f:=13) rfl ?_);refine goesL_ (some 90) rfl rfl Tryz.func13 kr_ rfl #[] rfl ar_ ?_;(with_reducible refine (jigsawlaw20_wakes.calls kj118 true _ ?_ fj.out).mono ?_);exact ca_ ((cb_ HRtab.out HB.out));rintro e w160 ⟨rfl,hb⟩;refine ⟨_,rfl,?_⟩;replace HO_10:=a_ (Kd.N_below (vN_ HO_10.out) hb);replace HB:=hq_ hb;clear hb;obtain ⟨gp,gq,ez⟩:=Kd.N_slice HO_10.out;subst ez))
    go_ret
    exact ⟨er_,bel_⟩
   replace H:=bo_ H
   obtain ⟨fi,d5,H⟩:=H
   try dsimp only at H
   replace H:=gp_ H
   obtain ⟨rfl,H⟩:=H
   replace H:=ht_ H
   rcases H with ⟨rfl,H⟩ | ⟨rfl,H⟩
   ·
    obtain rfl:=si_ H
    go_wp2_with (first|((with_reducible refine gate_callee (f:=13) rfl ?_);refine goesL_ (some 78) rfl rfl Tryz.func13 kr_ rfl #[] rfl ar_ ?_;(with_reducible refine (jigsawlaw20_wakes.calls kj118 true _ ?_ d5.out).mono ?_);exact ca_ ((cb_ HRtab.out HB.out));rintro e w154 ⟨rfl,hb⟩;refine ⟨_,rfl,?_⟩;replace HO_10:=a_ (Kd.N_below (vN_ HO_10.out) hb);replace HB:=hq_ hb;clear hb;obtain ⟨gn,go,ey⟩:=Kd.N_slice HO_10.out;subst ey))
    go_ret
    exact ⟨er_,bel_⟩
   obtain rfl:=si_ H
   go_wp2_with (first|((with_reducible refine gate_callee (f:=13) rfl ?_);refine goesL_ (some 78) rfl rfl Tryz.func13 kr_ rfl #[] rfl ar_ ?_;(with_reducible refine (jigsawlaw20_wakes.calls kj118 true _ ?_ d5.out).mono ?_);exact ca_ ((cb_ HRtab.out HB.out));rintro e w156 ⟨rfl,hb⟩;refine ⟨_,rfl,?_⟩;replace HB:=hq_ hb;clear hb))
   go_ret
   exact ⟨er_,bel_⟩
end Go.Proofs.YtijjhobjmehhoaaGreatDoor.XGccRefuses
