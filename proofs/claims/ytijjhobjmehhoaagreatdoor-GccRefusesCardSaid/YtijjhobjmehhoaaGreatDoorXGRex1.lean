-- by xprint.py, a program of this session, over the kit's print
import Derived.Test.YtijjhobjmehhoaaGreatDoorXGRex0
import Derived.Test.YtijjhobjmehhoaaGreatDoorSq
namespace Go.Proofs.YtijjhobjmehhoaaGreatDoor.XGccRefuses
open Go.RowKit Go.Proofs.YtijjhobjmehhoaaGreatDoor.Sq Go.Proofs.YtijjhobjmehhoaaGreatDoorW.PrintWords Go.Proofs.YtijjhobjmehhoaaGreatDoorW.PrintLast Go.Proofs.YtijjhobjmehhoaaGreatDoorW.PrintMore
attribute [local go_sem] max2_int min2_int max_two min_two max_three min_three max_four min_four   -- for this text's walks alone
set_option linter.unusedVariables false
set_option maxHeartbeats 8000000
set_option maxRecDepth 100000
set_option linter.unusedSimpArgs false
theorem fold_step {op:Int→Int→Int} {l:List Int} {z:Int} {k:Nat} (h:k<l.length):(l.take (k+1)).foldl op z=op ((l.take k).foldl op z) (rd l k):=by
 rw [List.take_succ_eq_append_getElem h,List.foldl_append]
 have e:rd l k=l[k]:=by unfold rd;rw [Int.toNat_natCast,List.getD_eq_getElem?_getD,List.getElem?_eq_getElem h];rfl
 rw [e];rfl
theorem mx_self (a:Int):mx a a=a:=by unfold mx;split <;> rfl
theorem mn_self (a:Int):mn a a=a:=by unfold mn;split <;> rfl
def IdxPost (l0:List Int) (p:Int→Bool) (w:World) (e:Ending) (w':World):Prop:=∃i:Int,e = .returned (.int .i64 i)∧(0≤i↔l0.any p=true)∧Drawn0 w w'
/-- slices.IndexFunc at numbers and whatever function that captures nothing and makes nothing. -/
theorem indexInt (g:Nat) (lb:Array Value) (p:Int→Bool) (eg:∀args w,(callFunc g args).run Tryz.prog w = .ok (.enter g args) w)
  (A0:Option Addr) (c0:Nat) (l0:List Int) (w:World)
  (hp:∀v m,Calls Tryz.prog g (#[.int .i64 v]++lb) (w.drewN m) fun e w'=>e = .returned (.bool (p v))∧Drawn0 (w.drewN m) w') (hr0:Kd.C (Kd.int .i64) w A0 l0.length l0) :
  Calls Tryz.prog 87 #[.slice A0 l0.length c0,.func (.func g) #[] lb] w (IdxPost l0 p w):=by
 have hbig:l0.length≤9223372036854775807:=hr0.2.1
 have HR:=Aside0.mk hr0
 have HP:=Aside0.mk hp
 clear hr0 hp
 go_enter Tryz.func87,Tryz.ntmps87
 go_wp2
 go_loopg [8] l0.length (fun gg s8 wr=>∃kk:Nat,kk≤l0.length∧l0.length - kk≤gg∧s8 = .int .i64 kk∧Aside0 (Drawn0 w wr)∧Aside0 (∀j,j<kk→p (rd l0 (j:Nat))=false))
 case atStart=>exact ⟨0,Nat.zero_le _,by omega,rfl,⟨Drawn0.refl _⟩,⟨fun j hj=>absurd hj (Nat.not_lt_zero _)⟩⟩
 obtain ⟨kk,hkk,hg,rfl,BW,AF⟩:=hrel
 obtain ⟨⟨m,rfl⟩⟩:=BW
 by_cases hlt:kk<l0.length
 rotate_left
 ·
  have hltz:¬(kk:Int)<(l0.length:Int):=by omega
  have:kk=l0.length:=by omega
  subst this
  go_wp2
  go_ret
  refine ⟨-1,rfl,⟨fun h=>absurd h (by decide),fun h=>?_⟩,⟨_,rfl⟩⟩
  rw [List.any_eq_true] at h
  obtain ⟨x,hx,hp⟩:=h
  obtain ⟨j,hj,rfl⟩:=List.getElem_of_mem hx
  have:=AF.out j hj
  unfold rd at this
  rw [Int.toNat_natCast,List.getD_eq_getElem?_getD,List.getElem?_eq_getElem hj] at this
  simp only [Option.getD_some] at this
  rw [this] at hp;cases hp
 have hltz:(kk:Int)<(l0.length:Int):=by omega
 obtain ⟨ad,rfl,hcell⟩:=Kd.at_int HR.out (kk:Int) (by omega) hltz
 rw [Int.toNat_natCast] at hcell
 have hcell':(w.drewN m).cell? (ad.add kk)=some (.int .i64 (rd l0 kk)):=by rw [World.cell?_drewN];exact hcell
 clear hcell
 have hcall:=HP.out (rd l0 kk) m
 cases hq:p (rd l0 kk) with
 | true =>
  rw [hq] at hcall
  have HQ:=Aside0.mk hq
  have HC:=Aside0.mk hcall
  clear hq hcall
  go_wp2_with (go_at_fn g;refine HC.out.mono ?_;rintro e w' ⟨rfl,⟨nd,rfl⟩⟩)
  go_ret
  refine ⟨kk,rfl,⟨fun _=>?_,fun _=>by omega⟩,⟨_,rfl⟩⟩
  rw [List.any_eq_true]
  exact ⟨rd l0 kk,by unfold rd;rw [Int.toNat_natCast,List.getD_eq_getElem?_getD,List.getElem?_eq_getElem hlt];exact List.getElem_mem hlt,HQ.out⟩
 | false =>
  rw [hq] at hcall
  have HQ:=Aside0.mk hq
  have HC:=Aside0.mk hcall
  clear hq hcall
  go_wp2_with (go_at_fn g;refine HC.out.mono ?_;rintro e w' ⟨rfl,⟨nd,rfl⟩⟩)
  go_roundg (l0.length - (kk+1))
  case measure=>omega
  refine ⟨kk+1,by omega,by omega,by go_num,⟨⟨_,rfl⟩⟩,⟨fun j hj=>?_⟩⟩
  by_cases e:j=kk
  · subst e;exact HQ.out
  exact AF.out j (by omega)
/-- slices.ContainsFunc at numbers and whatever function that captures nothing and makes nothing. -/
theorem containsInt (g:Nat) (lb:Array Value) (p:Int→Bool) (eg:∀args w,(callFunc g args).run Tryz.prog w = .ok (.enter g args) w)
  (A0:Option Addr) (c0:Nat) (l0:List Int) (w:World)
  (hp:∀v m,Calls Tryz.prog g (#[.int .i64 v]++lb) (w.drewN m) fun e w'=>e = .returned (.bool (p v))∧Drawn0 (w.drewN m) w') (hr0:Kd.C (Kd.int .i64) w A0 l0.length l0) (hc0:l0.length≤c0) :
  Calls Tryz.prog 61 #[.slice A0 l0.length c0,.func (.func g) #[] lb] w fun e w'=>e = .returned (.bool (l0.any p))∧Drawn0 w w':=by
 have HC:=Aside0.mk (indexInt g lb p eg A0 c0 l0 w hp hr0)
 clear hr0
 go_enter Tryz.func61,Tryz.ntmps61
 go_wp2_with (go_at_call 87;refine HC.out.mono ?_;rintro e w' ⟨i,rfl,hi,hd⟩;have HI:=Aside0.mk hi;clear hi)
 go_ret
 refine ⟨?_,hd⟩
 have:=HI.out
 by_cases h:0≤i
 · rw [this.mp h];simp [h]
 have:l0.any p=false:=by rw [Bool.eq_false_iff];exact fun e=>h (this.mpr e)
 rw [this];simp [h]
def jigsawref06_Shapes.f  : Option (List ByteArray):=some (([(⟨#[]⟩:ByteArray),(⟨#[99,86,107]⟩:ByteArray),(⟨#[99,86,107]⟩:ByteArray),(⟨#[99,86,107]⟩:ByteArray),(⟨#[99,86,107,119]⟩:ByteArray),(⟨#[118,118,118]⟩:ByteArray),(⟨#[118,118,118]⟩:ByteArray),(⟨#[118,118,118]⟩:ByteArray),(⟨#[118,118]⟩:ByteArray),(⟨#[118,118,118]⟩:ByteArray),(⟨#[118,118,118]⟩:ByteArray),(⟨#[118,99,118]⟩:ByteArray),(⟨#[86,87]⟩:ByteArray),(⟨#[118,107,119]⟩:ByteArray),(⟨#[118,107,119]⟩:ByteArray),(⟨#[118,107,119]⟩:ByteArray),(⟨#[118,107,119]⟩:ByteArray),(⟨#[86]⟩:ByteArray),(⟨#[86,114]⟩:ByteArray),(⟨#[86,99,100,107]⟩:ByteArray),(⟨#[86]⟩:ByteArray),(⟨#[86,99,100,101]⟩:ByteArray),(⟨#[86,87]⟩:ByteArray),(⟨#[86,87]⟩:ByteArray)]:List ByteArray))
theorem jigsawref06_Shapes.calls  (r:List ByteArray) (w:World) (h:jigsawref06_Shapes.f  = some r) :
  Calls Tryz.prog 36 #[] w fun e w'=>∃g:Value,e = .returned (g)∧Kd.R Kd.string 9 w' w.heap.size (fun _=>True) g r∧Below w.heap.size w w':=by
 have HB:=a_ (Below.refl w.heap.size w)
 unfold jigsawref06_Shapes.f at h
 have H:=h
 clear h
 obtain ⟨l,a⟩:∃y_:List ByteArray,y_=(([(⟨#[]⟩:ByteArray),(⟨#[99,86,107]⟩:ByteArray),(⟨#[99,86,107]⟩:ByteArray),(⟨#[99,86,107]⟩:ByteArray),(⟨#[99,86,107,119]⟩:ByteArray),(⟨#[118,118,118]⟩:ByteArray),(⟨#[118,118,118]⟩:ByteArray),(⟨#[118,118,118]⟩:ByteArray),(⟨#[118,118]⟩:ByteArray),(⟨#[118,118,118]⟩:ByteArray),(⟨#[118,118,118]⟩:ByteArray),(⟨#[118,99,118]⟩:ByteArray),(⟨#[86,87]⟩:ByteArray),(⟨#[118,107,119]⟩:ByteArray),(⟨#[118,107,119]⟩:ByteArray),(⟨#[118,107,119]⟩:ByteArray),(⟨#[118,107,119]⟩:ByteArray),(⟨#[86]⟩:ByteArray),(⟨#[86,114]⟩:ByteArray),(⟨#[86,99,100,107]⟩:ByteArray),(⟨#[86]⟩:ByteArray),(⟨#[86,99,100,101]⟩:ByteArray),(⟨#[86,87]⟩:ByteArray),(⟨#[86,87]⟩:ByteArray)]:List ByteArray)):=⟨_,rfl⟩
 replace H:(some l)=some r:=h2_ H a
 have c:=a_ a
 clear a
 obtain rfl:=si_ H
 go_enter Tryz.func36,Tryz.ntmps36
 go_wp2_with (first|((with_reducible refine gate_dst (N:=1) rfl ?_);refine Kd.R_lit Kd.string _ 9 ?hg (N:=1) ?hd (xs:=([(⟨#[]⟩:ByteArray),(⟨#[99,86,107]⟩:ByteArray),(⟨#[99,86,107]⟩:ByteArray),(⟨#[99,86,107]⟩:ByteArray),(⟨#[99,86,107,119]⟩:ByteArray),(⟨#[118,118,118]⟩:ByteArray),(⟨#[118,118,118]⟩:ByteArray),(⟨#[118,118,118]⟩:ByteArray),(⟨#[118,118]⟩:ByteArray),(⟨#[118,118,118]⟩:ByteArray),(⟨#[118,118,118]⟩:ByteArray),(⟨#[118,99,118]⟩:ByteArray),(⟨#[86,87]⟩:ByteArray),(⟨#[118,107,119]⟩:ByteArray),(⟨#[118,107,119]⟩:ByteArray),(⟨#[118,107,119]⟩:ByteArray),(⟨#[118,107,119]⟩:ByteArray),(⟨#[86]⟩:ByteArray),(⟨#[86,114]⟩:ByteArray),(⟨#[86,99,100,107]⟩:ByteArray),(⟨#[86]⟩:ByteArray),(⟨#[86,99,100,101]⟩:ByteArray),(⟨#[86,87]⟩:ByteArray),(⟨#[86,87]⟩:ByteArray)]:List ByteArray)) (inner:=[.string (⟨#[]⟩:ByteArray),.string (⟨#[99,86,107]⟩:ByteArray),.string (⟨#[99,86,107]⟩:ByteArray),.string (⟨#[99,86,107]⟩:ByteArray),.string (⟨#[99,86,107,119]⟩:ByteArray),.string (⟨#[118,118,118]⟩:ByteArray),.string (⟨#[118,118,118]⟩:ByteArray),.string (⟨#[118,118,118]⟩:ByteArray),.string (⟨#[118,118]⟩:ByteArray),.string (⟨#[118,118,118]⟩:ByteArray),.string (⟨#[118,118,118]⟩:ByteArray),.string (⟨#[118,99,118]⟩:ByteArray),.string (⟨#[86,87]⟩:ByteArray),.string (⟨#[118,107,119]⟩:ByteArray),.string (⟨#[118,107,119]⟩:ByteArray),.string (⟨#[118,107,119]⟩:ByteArray),.string (⟨#[118,107,119]⟩:ByteArray),.string (⟨#[86]⟩:ByteArray),.string (⟨#[86,114]⟩:ByteArray),.string (⟨#[86,99,100,107]⟩:ByteArray),.string (⟨#[86]⟩:ByteArray),.string (⟨#[86,99,100,101]⟩:ByteArray),.string (⟨#[86,87]⟩:ByteArray),.string (⟨#[86,87]⟩:ByteArray)]) (ok:=fun _=>True) (okp:=fun _=>True) ?hr ?hp (fun _ hk=>hk) trivial (Below.refl _ _) (lr_ _) (by simp) ?_;(case hd=>rfl);(case hg=>rfl);(case hr=>first|(go_simp;done)|(go_simp;rfl));(case hp=>exact (Reps.one (show Kd.M Kd.string _ _ _ (⟨#[]⟩:ByteArray) [.string (⟨#[]⟩:ByteArray)] from rfl) (Reps.one (show Kd.M Kd.string _ _ _ (⟨#[99,86,107]⟩:ByteArray) [.string (⟨#[99,86,107]⟩:ByteArray)] from rfl) (Reps.one (show Kd.M Kd.string _ _ _ (⟨#[99,86,107]⟩:ByteArray) [.string (⟨#[99,86,107]⟩:ByteArray)] from rfl) (Reps.one (show Kd.M Kd.string _ _ _ (⟨#[99,86,107]⟩:ByteArray) [.string (⟨#[99,86,107]⟩:ByteArray)] from rfl) (Reps.one (show Kd.M Kd.string _ _ _ (⟨#[99,86,107,119]⟩:ByteArray) [.string (⟨#[99,86,107,119]⟩:ByteArray)] from rfl) (Reps.one (show Kd.M Kd.string _ _ _ (⟨#[118,118,118]⟩:ByteArray) [.string (⟨#[118,118,118]⟩:ByteArray)] from rfl) (Reps.one (show Kd.M Kd.string _ _ _ (⟨#[118,118,118]⟩:ByteArray) [.string (⟨#[118,118,118]⟩:ByteArray)] from rfl) (Reps.one (show Kd.M Kd.string _ _ _ (⟨#[118,118,118]⟩:ByteArray) [.string (⟨#[118,118,118]⟩:ByteArray)] from rfl) (Reps.one (show Kd.M Kd.string _ _ _ (⟨#[118,118]⟩:ByteArray) [.string (⟨#[118,118]⟩:ByteArray)] from rfl) (Reps.one (show Kd.M Kd.string _ _ _ (⟨#[118,118,118]⟩:ByteArray) [.string (⟨#[118,118,118]⟩:ByteArray)] from rfl) (Reps.one (show Kd.M Kd.string _ _ _ (⟨#[118,118,118]⟩:ByteArray) [.string (⟨#[118,118,118]⟩:ByteArray)] from rfl) (Reps.one (show Kd.M Kd.string _ _ _ (⟨#[118,99,118]⟩:ByteArray) [.string (⟨#[118,99,118]⟩:ByteArray)] from rfl) (Reps.one (show Kd.M Kd.string _ _ _ (⟨#[86,87]⟩:ByteArray) [.string (⟨#[86,87]⟩:ByteArray)] from rfl) (Reps.one (show Kd.M Kd.string _ _ _ (⟨#[118,107,119]⟩:ByteArray) [.string (⟨#[118,107,119]⟩:ByteArray)] from rfl) (Reps.one (show Kd.M Kd.string _ _ _ (⟨#[118,107,119]⟩:ByteArray) [.string (⟨#[118,107,119]⟩:ByteArray)] from rfl) (Reps.one (show Kd.M Kd.string _ _ _ (⟨#[118,107,119]⟩:ByteArray) [.string (⟨#[118,107,119]⟩:ByteArray)] from rfl) (Reps.one (show Kd.M Kd.string _ _ _ (⟨#[118,107,119]⟩:ByteArray) [.string (⟨#[118,107,119]⟩:ByteArray)] from rfl) (Reps.one (show Kd.M Kd.string _ _ _ (⟨#[86]⟩:ByteArray) [.string (⟨#[86]⟩:ByteArray)] from rfl) (Reps.one (show Kd.M Kd.string _ _ _ (⟨#[86,114]⟩:ByteArray) [.string (⟨#[86,114]⟩:ByteArray)] from rfl) (Reps.one (show Kd.M Kd.string _ _ _ (⟨#[86,99,100,107]⟩:ByteArray) [.string (⟨#[86,99,100,107]⟩:ByteArray)] from rfl) (Reps.one (show Kd.M Kd.string _ _ _ (⟨#[86]⟩:ByteArray) [.string (⟨#[86]⟩:ByteArray)] from rfl) (Reps.one (show Kd.M Kd.string _ _ _ (⟨#[86,99,100,101]⟩:ByteArray) [.string (⟨#[86,99,100,101]⟩:ByteArray)] from rfl) (Reps.one (show Kd.M Kd.string _ _ _ (⟨#[86,87]⟩:ByteArray) [.string (⟨#[86,87]⟩:ByteArray)] from rfl) (Reps.one (show Kd.M Kd.string _ _ _ (⟨#[86,87]⟩:ByteArray) [.string (⟨#[86,87]⟩:ByteArray)] from rfl) (Reps.none _ _))))))))))))))))))))))))));intro m w1 b hb hg_ hnew_;clear hg_ hnew_;(first | rw [←c.out] at b | (simp only [Int.reduceToNat] at b;rw [←c.out] at b));have d:=a_ (Kd.R_lower b (bz_ bel_));replace HB:=hq_ hb;clear hb b))
 go_ret
 exact ⟨_,er_,vR_ d.out,bel_⟩
def jigsawref06_has.l0:Nat→ByteArray→Int→Int→Int→Option (Int)
 | 0,_,_,_,_=>none
 | k+1,b,c,d,a=>if a<(b.size:Int) then (if 0≤a then (if (bt b a)=c then (jigsawref06_has.l0 k b c (wrap64 (d+1)) (wrap64 (a+1))) else (jigsawref06_has.l0 k b c d (wrap64 (a+1)))) else (none)) else (some d)
def jigsawref06_has.f (k:Nat) (a:ByteArray) (b:Int):Option (Int):=jigsawref06_has.l0 k a b 0 0
theorem jigsawref06_has.mono_l:∀k,(∀a b c d,LeO (jigsawref06_has.l0 k a b c d) (jigsawref06_has.l0 (k+1) a b c d))
 | 0=>by intros;exact LeO.none _
 | k+1=>by
  have ih0:=jigsawref06_has.mono_l k
  intro a b c d
  unfold jigsawref06_has.l0
  exact leo_
theorem jigsawref06_has.mono:∀a b k,LeO (jigsawref06_has.f k a b) (jigsawref06_has.f (k+1) a b):=by
 intro a b k
 have ih0:=jigsawref06_has.mono_l k
 unfold jigsawref06_has.f
 exact leo_
theorem jigsawref06_has.calls (k:Nat) (b:ByteArray) (d:Int) (r:Int) (w:World) (h:jigsawref06_has.f k b d=some r) :
  Calls Tryz.prog 37 #[.string b,.int .u8 d] w fun e w'=>e = .returned (.int .i64 r)∧Drawn0 w w':=by
 unfold jigsawref06_has.f at h
 have H:=h
 clear h
 have H':=a_ H
 clear H
 go_enter Tryz.func37,Tryz.ntmps37
 go_wp2
 go_loopg [5,6] k (fun kq n o w'=>∃(c:Int) (a:Int),n = .int .i64 c∧o = .int .i64 a∧Aside0 (jigsawref06_has.l0 kq b d c a=some r)∧Aside0 (kq≤k)∧Drawn0 w w')
 case atStart=>exact ⟨(0),(0),eq_,eq_,H',⟨lr_ _⟩,by repeat (first | exact d0_ _ | apply Drawn0.step)⟩
 clear H'
 try clear p2
 obtain ⟨c,a,rfl,rfl,HA,g,⟨m1,rfl⟩⟩:=hrel
 cases gk with
 | zero=>exact absurd HA.out (by simp [jigsawref06_has.l0])
 | succ k1 =>
  have H:=HA.out
  clear HA
  simp only [jigsawref06_has.l0] at H
  replace H:=cf_ H
  rcases H with ⟨c3b0,H⟩ | ⟨c3b0,H⟩
  ·
   obtain rfl:=si_ H
   go_wp2
   go_ret
   exact ⟨by first | rfl | (simp;done)|(simp [*];done),by repeat (first | exact d0_ _ | apply Drawn0.step)⟩
  replace H:=gu_ H
  obtain ⟨c4b0,H⟩:=H
  replace H:=ef_ H
  rcases H with ⟨c6,c6b0,c6b1,H⟩ | ⟨-,c6b0,c6b1,H⟩
  ·
   have H':=a_ H
   clear H
   have p5:0≤(a:Int):=dq_
   have l:a<(b.size:Int):=dq_
   have m:=bt_at b a
   replace p5:=et_ p5
   replace l:=et_ l
   go_wp2
   go_roundg k1
   case measure=>have:=g.out;omega
   exact ⟨(c),(wrap64 (a+1)),eq_,eq_,H',⟨by have:=g.out;omega⟩,by repeat (first | exact d0_ _ | apply Drawn0.step)⟩
  have H':=a_ H
  clear H
  have p5:0≤(a:Int):=dq_
  have l:a<(b.size:Int):=dq_
  have m:=bt_at b a
  replace p5:=et_ p5
  replace l:=et_ l
  go_wp2
  go_roundg k1
  case measure=>have:=g.out;omega
  exact ⟨(wrap64 (c+1)),(wrap64 (a+1)),eq_,eq_,H',⟨by have:=g.out;omega⟩,by repeat (first | exact d0_ _ | apply Drawn0.step)⟩
def jigsawref06_places.l0:Nat→List Int→Int→Int→List Int→Int→Option (List Int)
 | 0,_,_,_,_,_=>none
 | k+1,d,e,b,c,a=>if a<e then (if a<(d.length:Int) then (if 0≤a then (if b=0 then (none) else (if c.length<17592186044416 then (jigsawref06_places.l0 k d e b (c++[Int.tmod (wrap64 (rd d a)) b]) (wrap64 (a+1))) else (none))) else (none)) else (if b=0 then (none) else (if c.length<17592186044416 then (jigsawref06_places.l0 k d e b (c++[Int.tmod a b]) (wrap64 (a+1))) else (none)))) else (some c)
def jigsawref06_places.f (k:Nat) (a:List Int) (b:Int) (c:Int):Option (List Int):=jigsawref06_places.l0 k a b c ([]:List Int) 0
theorem jigsawref06_places.mono_l:∀k,(∀a b c d e,LeO (jigsawref06_places.l0 k a b c d e) (jigsawref06_places.l0 (k+1) a b c d e))
 | 0=>by intros;exact LeO.none _
 | k+1=>by
  have ih0:=jigsawref06_places.mono_l k
  intro a b c d e
  unfold jigsawref06_places.l0
  exact leo_
theorem jigsawref06_places.mono:∀a b c k,LeO (jigsawref06_places.f k a b c) (jigsawref06_places.f (k+1) a b c):=by
 intro a b c k
 have ih0:=jigsawref06_places.mono_l k
 unfold jigsawref06_places.f
 exact leo_
theorem jigsawref06_places.calls (k:Nat) (F:Option Addr) (c0:Nat) (g:List Int) (o:Int) (d:Int) (r:List Int) (w:World) (z:Kd.C (Kd.int .u8) w F g.length g) (A:g.length≤c0) (h:jigsawref06_places.f k g o d=some r) :
  Calls Tryz.prog 38 #[.slice F g.length c0,.int .i64 o,.int .i64 d] w fun e w'=>∃B:Value,e = .returned (B)∧Kd.R (Kd.int .i64) 3 w' w.heap.size (fun _=>True) B r∧Below w.heap.size w w':=by
 have G:=a_ z
 have O:=a_ A
 clear z A
 have HB:=a_ (Below.refl w.heap.size w)
 unfold jigsawref06_places.f at h
 have H:=h
 clear h
 have H':=a_ H
 clear H
 go_enter Tryz.func38,Tryz.ntmps38
 go_wp2
 go_loopg [7,8] k (fun kq J K w'=>∃(c:List Int) (a:Int),K = .int .i64 a∧Aside0 (jigsawref06_places.l0 kq g o d c a=some r)∧Aside0 (kq≤k)∧Aside0 (Kd.R (Kd.int .i64) 3 w' w.heap.size (fun _=>True) J c)∧Aside0 (Below w.heap.size w w'))
 case atStart=>exact ⟨(([]:List Int)),(0),eq_,H',⟨lr_ _⟩,⟨nil_⟩,⟨bel_⟩⟩
 clear H'
 try clear p2
 try clear c3
 obtain ⟨c,a,rfl,HA,q,HO_7,HB⟩:=hrel
 cases gk with
 | zero=>exact absurd HA.out (by simp [jigsawref06_places.l0])
 | succ k1 =>
  have H:=HA.out
  clear HA
  simp only [jigsawref06_places.l0] at H
  replace H:=cf_ H
  rcases H with ⟨c4b0,H⟩ | ⟨c4b0,H⟩
  ·
   obtain rfl:=si_ H
   go_wp2
   go_ret
   exact ⟨_,er_,vR_ HO_7.out,bel_⟩
  replace H:=cf_ H
  rcases H with ⟨c5b0,H⟩ | ⟨c5b0,H⟩
  ·
   replace H:=gz_ H
   obtain ⟨c10,c10b0,c10b1,H⟩:=H
   replace H:=ga_ H
   obtain ⟨LMc11,H⟩:=H
   obtain ⟨t,m⟩:∃y_:List Int,y_=(c++[Int.tmod a d]):=⟨_,rfl⟩
   replace H:(jigsawref06_places.l0 k1 g o d t (wrap64 (a+1)))=some r:=h2_ H m
   have x:=a_ m
   clear m
   have H':=a_ H
   clear H
   go_wp2_with (first|((with_reducible refine gate_builtin (b := .append) (xs:=#[.tmp 25,.tmp 29]) rfl ?_);at_builtin;refine Kd.R_append (Kd.int .i64) (w0:=w) w.heap.size rfl (.tmp 25) (.tmp 29) 30 3 (.int .i64 0) 8 rfl Tryz.underlying30 info3 rfl (by decide) (by omega) u7 c (Int.tmod a d) [.int .i64 (Int.tmod a d)] (fun _=>True) (fun _=>False) rfl rfl ?aP (fun _ hk=>hk.elim) ?aF ?aO ?aB ?aS ?aL ?_;(case aP=>exact rfl);(case aB=>exact bel_);(case aF=>exact (fun _ _=>trivial));(case aO=>exact (vR_ HO_7.out));(case aS=>exact (bz_ bel_));(case aL=>have:=LMc11.out;omega);intro N w12 ho hb hg hat;rw [←x.out] at ho;replace HB:=a_ (hb);have y:=a_ (ho);clear HO_7;clear ho hb hg hat))
   go_roundg k1
   case measure=>have:=q.out;omega
   exact ⟨(t),(wrap64 (a+1)),eq_,H',⟨by have:=q.out;omega⟩,⟨vR_ y.out⟩,⟨bel_⟩⟩
  replace H:=gu_ H
  obtain ⟨c6b0,H⟩:=H
  replace H:=gz_ H
  obtain ⟨c7,c7b0,c7b1,H⟩:=H
  replace H:=ga_ H
  obtain ⟨LMc8,H⟩:=H
  obtain ⟨s,l⟩:∃y_:List Int,y_=(c++[Int.tmod (wrap64 (rd g a)) d]):=⟨_,rfl⟩
  replace H:(jigsawref06_places.l0 k1 g o d s (wrap64 (a+1)))=some r:=h2_ H l
  have u:=a_ l
  clear l
  have H':=a_ H
  clear H
  obtain ⟨I,E,n,p104,p⟩:=aj_ G HB a
  cases E
  go_wp2_with (first|((with_reducible refine gate_builtin (b := .append) (xs:=#[.tmp 25,.tmp 29]) rfl ?_);at_builtin;refine Kd.R_append (Kd.int .i64) (w0:=w) w.heap.size rfl (.tmp 25) (.tmp 29) 30 3 (.int .i64 0) 8 rfl Tryz.underlying30 info3 rfl (by decide) (by omega) u7 c (Int.tmod (wrap64 (rd g a)) d) [.int .i64 (Int.tmod (wrap64 (rd g a)) d)] (fun _=>True) (fun _=>False) rfl rfl ?aP (fun _ hk=>hk.elim) ?aF ?aO ?aB ?aS ?aL ?_;(case aP=>exact rfl);(case aB=>exact bel_);(case aF=>exact (fun _ _=>trivial));(case aO=>exact (vR_ HO_7.out));(case aS=>exact (bz_ bel_));(case aL=>have:=LMc8.out;omega);intro M w9 ho hb hg hat;rw [←u.out] at ho;replace HB:=a_ (hb);have v:=a_ (ho);clear HO_7;clear ho hb hg hat))
  go_roundg k1
  case measure=>have:=q.out;omega
  exact ⟨(s),(wrap64 (a+1)),eq_,H',⟨by have:=q.out;omega⟩,⟨vR_ v.out⟩,⟨bel_⟩⟩
def jigsawref06_numbers.l0:Nat→List Int→Int→Int→Int→Int→List Int→Int→Option (List Int)
 | 0,_,_,_,_,_,_,_=>none
 | k+1,e,d,g,f,c,a,b=>if b<g then (if (wrap64 (d+b))<(e.length:Int) then (if 0≤(wrap64 (d+b)) then (if c=0 then (none) else (if (Int.tmod (wrap64 (rd e (wrap64 (d+b)))) c)<0 then (if f≥0 then (if a.length<17592186044416 then (jigsawref06_numbers.l0 k e d g f c (a++[wrap64 (-(Int.tmod (wrap64 (rd e (wrap64 (d+b)))) c))]) (wrap64 (b+1))) else (none)) else (if a.length<17592186044416 then (jigsawref06_numbers.l0 k e d g f c (a++[Int.tmod (wrap64 (rd e (wrap64 (d+b)))) c]) (wrap64 (b+1))) else (none))) else (if a.length<17592186044416 then (jigsawref06_numbers.l0 k e d g f c (a++[Int.tmod (wrap64 (rd e (wrap64 (d+b)))) c]) (wrap64 (b+1))) else (none)))) else (none)) else (if c=0 then (none) else (if ((1:Int)%c)<0 then (if f≥0 then (if a.length<17592186044416 then (jigsawref06_numbers.l0 k e d g f c (a++[wrap64 (-((1:Int)%c))]) (wrap64 (b+1))) else (none)) else (if a.length<17592186044416 then (jigsawref06_numbers.l0 k e d g f c (a++[(1:Int)%c]) (wrap64 (b+1))) else (none))) else (if a.length<17592186044416 then (jigsawref06_numbers.l0 k e d g f c (a++[(1:Int)%c]) (wrap64 (b+1))) else (none))))) else (some a)
def jigsawref06_numbers.f (k:Nat) (a:List Int) (b:Int) (c:Int) (d:Int) (e:Int):Option (List Int):=jigsawref06_numbers.l0 k a b c d e ([]:List Int) 0
theorem jigsawref06_numbers.mono_l:∀k,(∀a b c d e f g,LeO (jigsawref06_numbers.l0 k a b c d e f g) (jigsawref06_numbers.l0 (k+1) a b c d e f g))
 | 0=>by intros;exact LeO.none _
 | k+1=>by
  have ih0:=jigsawref06_numbers.mono_l k
  intro a b c d e f g
  unfold jigsawref06_numbers.l0
  exact leo_
theorem jigsawref06_numbers.mono:∀a b c d e k,LeO (jigsawref06_numbers.f k a b c d e) (jigsawref06_numbers.f (k+1) a b c d e):=by
 intro a b c d e k
 have ih0:=jigsawref06_numbers.mono_l k
 unfold jigsawref06_numbers.f
 exact leo_
theorem jigsawref06_numbers.calls (k:Nat) (A0:Option Addr) (c0:Nat) (m:List Int) (q:Int) (s:Int) (o:Int) (d:Int) (r:List Int) (w:World) (ad:Kd.C (Kd.int .i8) w A0 m.length m) (ae:m.length≤c0) (h:jigsawref06_numbers.f k m q s o d=some r) :
  Calls Tryz.prog 39 #[.slice A0 m.length c0,.int .i64 q,.int .i64 s,.int .i64 o,.int .i64 d] w fun e w'=>∃af:Value,e = .returned (af)∧Kd.R (Kd.int .i64) 3 w' w.heap.size (fun _=>True) af r∧Below w.heap.size w w':=by
 have F:=a_ ad
 have ap:=a_ ae
 clear ad ae
 have HB:=a_ (Below.refl w.heap.size w)
 unfold jigsawref06_numbers.f at h
 have H:=h
 clear h
 have H':=a_ H
 clear H
 go_enter Tryz.func39,Tryz.ntmps39
 go_wp2
 go_loopg [11,12] k (fun kq ah ai w'=>∃(a:List Int) (c:Int),ai = .int .i64 c∧Aside0 (jigsawref06_numbers.l0 kq m q s o d a c=some r)∧Aside0 (kq≤k)∧Aside0 (Kd.R (Kd.int .i64) 3 w' w.heap.size (fun _=>True) ah a)∧Aside0 (Below w.heap.size w w'))
 case atStart=>exact ⟨(([]:List Int)),(0),eq_,H',⟨lr_ _⟩,⟨nil_⟩,⟨bel_⟩⟩
 clear H'
 try clear p2
 try clear c3
 obtain ⟨a,c,rfl,HA,p,HO_11,HB⟩:=hrel
 cases gk with
 | zero=>exact absurd HA.out (by simp [jigsawref06_numbers.l0])
 | succ k1 =>
  have H:=HA.out
  clear HA
  simp only [jigsawref06_numbers.l0] at H
  replace H:=cf_ H
  rcases H with ⟨c6b0,H⟩ | ⟨c6b0,H⟩
  ·
   obtain rfl:=si_ H
   go_wp2
   go_ret
   exact ⟨_,er_,vR_ HO_11.out,bel_⟩
  replace H:=cf_ H
  rcases H with ⟨c7b0,H⟩ | ⟨c7b0,H⟩
  ·
   replace H:=gz_ H
   obtain ⟨c19,c19b0,c19b1,H⟩:=H
   replace H:=cf_ H
   rcases H with ⟨c20b0,H⟩ | ⟨c20b0,H⟩
   ·
    replace H:=ga_ H
    obtain ⟨LMc26,H⟩:=H
    obtain ⟨N,z⟩:∃y_:List Int,y_=(a++[(1:Int)%d]):=⟨_,rfl⟩
    replace H:(jigsawref06_numbers.l0 k1 m q s o d N (wrap64 (c+1)))=some r:=h2_ H z
    have ab:=a_ z
    clear z
    have H':=a_ H
    clear H
    go_wp2_with (first|((with_reducible refine gate_builtin (b := .append) (xs:=#[.tmp 43,.tmp 45]) rfl ?_);at_builtin;refine Kd.R_append (Kd.int .i64) (w0:=w) w.heap.size rfl (.tmp 43) (.tmp 45) 30 3 (.int .i64 0) 8 rfl Tryz.underlying30 info3 rfl (by decide) (by omega) u11 a ((1:Int)%d) [.int .i64 ((1:Int)%d)] (fun _=>True) (fun _=>False) rfl rfl ?aP (fun _ hk=>hk.elim) ?aF ?aO ?aB ?aS ?aL ?_;(case aP=>exact rfl);(case aB=>exact bel_);(case aF=>exact (fun _ _=>trivial));(case aO=>exact (vR_ HO_11.out));(case aS=>exact (bz_ bel_));(case aL=>have:=LMc26.out;omega);intro ao w27 ho hb hg hat;rw [←ab.out] at ho;replace HB:=a_ (hb);have ac:=a_ (ho);clear HO_11;clear ho hb hg hat))
    go_roundg k1
    case measure=>have:=p.out;omega
    exact ⟨(N),(wrap64 (c+1)),eq_,H',⟨by have:=p.out;omega⟩,⟨vR_ ac.out⟩,⟨bel_⟩⟩
   by_cases c21:o≥0
   rotate_left
   ·
    rw [ig_ c21] at H
    have c21b0:decide (0≤o)=false:=df_ c21
    clear c21
    replace H:=ga_ H
    obtain ⟨LMc24,H⟩:=H
    obtain ⟨M,y⟩:∃y_:List Int,y_=(a++[(1:Int)%d]):=⟨_,rfl⟩
    replace H:(jigsawref06_numbers.l0 k1 m q s o d M (wrap64 (c+1)))=some r:=h2_ H y
    have Z:=a_ y
    clear y
    have H':=a_ H
    clear H
    go_wp2_with (first|((with_reducible refine gate_builtin (b := .append) (xs:=#[.tmp 43,.tmp 45]) rfl ?_);at_builtin;refine Kd.R_append (Kd.int .i64) (w0:=w) w.heap.size rfl (.tmp 43) (.tmp 45) 30 3 (.int .i64 0) 8 rfl Tryz.underlying30 info3 rfl (by decide) (by omega) u11 a ((1:Int)%d) [.int .i64 ((1:Int)%d)] (fun _=>True) (fun _=>False) rfl rfl ?aP (fun _ hk=>hk.elim) ?aF ?aO ?aB ?aS ?aL ?_;(case aP=>exact rfl);(case aB=>exact bel_);(case aF=>exact (fun _ _=>trivial));(case aO=>exact (vR_ HO_11.out));(case aS=>exact (bz_ bel_));(case aL=>have:=LMc24.out;omega);intro an w25 ho hb hg hat;rw [←Z.out] at ho;replace HB:=a_ (hb);have aa:=a_ (ho);clear HO_11;clear ho hb hg hat))
    go_roundg k1
    case measure=>have:=p.out;omega
    exact ⟨(M),(wrap64 (c+1)),eq_,H',⟨by have:=p.out;omega⟩,⟨vR_ aa.out⟩,⟨bel_⟩⟩
   rw [ip_ c21] at H
   have c21b0:decide (0≤o)=true:=dt_ c21
   clear c21
   replace H:=ga_ H
   obtain ⟨LMc22,H⟩:=H
   obtain ⟨K,x⟩:∃y_:List Int,y_=(a++[wrap64 (-((1:Int)%d))]):=⟨_,rfl⟩
   replace H:(jigsawref06_numbers.l0 k1 m q s o d K (wrap64 (c+1)))=some r:=h2_ H x
   have X:=a_ x
   clear x
   have H':=a_ H
   clear H
   go_wp2_with (first|((with_reducible refine gate_builtin (b := .append) (xs:=#[.tmp 43,.tmp 45]) rfl ?_);at_builtin;refine Kd.R_append (Kd.int .i64) (w0:=w) w.heap.size rfl (.tmp 43) (.tmp 45) 30 3 (.int .i64 0) 8 rfl Tryz.underlying30 info3 rfl (by decide) (by omega) u11 a (wrap64 (-((1:Int)%d))) [.int .i64 (wrap64 (-((1:Int)%d)))] (fun _=>True) (fun _=>False) rfl rfl ?aP (fun _ hk=>hk.elim) ?aF ?aO ?aB ?aS ?aL ?_;(case aP=>exact rfl);(case aB=>exact bel_);(case aF=>exact (fun _ _=>trivial));(case aO=>exact (vR_ HO_11.out));(case aS=>exact (bz_ bel_));(case aL=>have:=LMc22.out;omega);intro am w23 ho hb hg hat;rw [←X.out] at ho;replace HB:=a_ (hb);have Y:=a_ (ho);clear HO_11;clear ho hb hg hat))
   go_roundg k1
   case measure=>have:=p.out;omega
   exact ⟨(K),(wrap64 (c+1)),eq_,H',⟨by have:=p.out;omega⟩,⟨vR_ Y.out⟩,⟨bel_⟩⟩
  obtain ⟨g,B⟩:∃j_:Int,(wrap64 (q+c))=j_:=⟨_,rfl⟩
  replace H:(if 0≤(g) then (if d=0 then (none) else (if (Int.tmod (wrap64 (rd m (g))) d)<0 then (if o≥0 then (if a.length<17592186044416 then (jigsawref06_numbers.l0 k1 m q s o d (a++[wrap64 (-(Int.tmod (wrap64 (rd m (g))) d))]) (wrap64 (c+1))) else (none)) else (if a.length<17592186044416 then (jigsawref06_numbers.l0 k1 m q s o d (a++[Int.tmod (wrap64 (rd m (g))) d]) (wrap64 (c+1))) else (none))) else (if a.length<17592186044416 then (jigsawref06_numbers.l0 k1 m q s o d (a++[Int.tmod (wrap64 (rd m (g))) d]) (wrap64 (c+1))) else (none)))) else (none))=some r:=by first|(rw [B] at H;exact H)|(simp only [B] at H ⊢;exact H)
  (try rw [B] at c7b0)
  have hji8w:(IntKind.i64.wrap (q+c))=g:=(i64_w _).trans B
  replace H:=gu_ H
  obtain ⟨c9b0,H⟩:=H
  replace H:=gz_ H
  obtain ⟨c10,c10b0,c10b1,H⟩:=H
  replace H:=cf_ H
  rcases H with ⟨c11b0,H⟩ | ⟨c11b0,H⟩
  ·
   replace H:=ga_ H
   obtain ⟨LMc17,H⟩:=H
   obtain ⟨J,v⟩:∃y_:List Int,y_=(a++[Int.tmod (wrap64 (rd m (g))) d]):=⟨_,rfl⟩
   replace H:(jigsawref06_numbers.l0 k1 m q s o d J (wrap64 (c+1)))=some r:=h2_ H v
   have V:=a_ v
   clear v
   have H':=a_ H
   clear H
   obtain ⟨E,A,l,p111,n⟩:=aj_ F HB (g)
   cases A
   go_wp2_with (first|((with_reducible refine gate_builtin (b := .append) (xs:=#[.tmp 43,.tmp 45]) rfl ?_);at_builtin;refine Kd.R_append (Kd.int .i64) (w0:=w) w.heap.size rfl (.tmp 43) (.tmp 45) 30 3 (.int .i64 0) 8 rfl Tryz.underlying30 info3 rfl (by decide) (by omega) u11 a (Int.tmod (wrap64 (rd m (g))) d) [.int .i64 (Int.tmod (wrap64 (rd m (g))) d)] (fun _=>True) (fun _=>False) rfl rfl ?aP (fun _ hk=>hk.elim) ?aF ?aO ?aB ?aS ?aL ?_;(case aP=>exact rfl);(case aB=>exact bel_);(case aF=>exact (fun _ _=>trivial));(case aO=>exact (vR_ HO_11.out));(case aS=>exact (bz_ bel_));(case aL=>have:=LMc17.out;omega);intro al w18 ho hb hg hat;rw [←V.out] at ho;replace HB:=a_ (hb);have W:=a_ (ho);clear HO_11;clear ho hb hg hat))
   go_roundg k1
   case measure=>have:=p.out;omega
   exact ⟨(J),(wrap64 (c+1)),eq_,H',⟨by have:=p.out;omega⟩,⟨vR_ W.out⟩,⟨bel_⟩⟩
  by_cases c12:o≥0
  rotate_left
  ·
   rw [ig_ c12] at H
   have c12b0:decide (0≤o)=false:=df_ c12
   clear c12
   replace H:=ga_ H
   obtain ⟨LMc15,H⟩:=H
   obtain ⟨I,u⟩:∃y_:List Int,y_=(a++[Int.tmod (wrap64 (rd m (g))) d]):=⟨_,rfl⟩
   replace H:(jigsawref06_numbers.l0 k1 m q s o d I (wrap64 (c+1)))=some r:=h2_ H u
   have Q:=a_ u
   clear u
   have H':=a_ H
   clear H
   obtain ⟨E,A,l,p111,n⟩:=aj_ F HB (g)
   cases A
   go_wp2_with (first|((with_reducible refine gate_builtin (b := .append) (xs:=#[.tmp 43,.tmp 45]) rfl ?_);at_builtin;refine Kd.R_append (Kd.int .i64) (w0:=w) w.heap.size rfl (.tmp 43) (.tmp 45) 30 3 (.int .i64 0) 8 rfl Tryz.underlying30 info3 rfl (by decide) (by omega) u11 a (Int.tmod (wrap64 (rd m (g))) d) [.int .i64 (Int.tmod (wrap64 (rd m (g))) d)] (fun _=>True) (fun _=>False) rfl rfl ?aP (fun _ hk=>hk.elim) ?aF ?aO ?aB ?aS ?aL ?_;(case aP=>exact rfl);(case aB=>exact bel_);(case aF=>exact (fun _ _=>trivial));(case aO=>exact (vR_ HO_11.out));(case aS=>exact (bz_ bel_));(case aL=>have:=LMc15.out;omega);intro ak w16 ho hb hg hat;rw [←Q.out] at ho;replace HB:=a_ (hb);have U:=a_ (ho);clear HO_11;clear ho hb hg hat))
   go_roundg k1
   case measure=>have:=p.out;omega
   exact ⟨(I),(wrap64 (c+1)),eq_,H',⟨by have:=p.out;omega⟩,⟨vR_ U.out⟩,⟨bel_⟩⟩
  rw [ip_ c12] at H
  have c12b0:decide (0≤o)=true:=dt_ c12
  clear c12
  replace H:=ga_ H
  obtain ⟨LMc13,H⟩:=H
  obtain ⟨G,t⟩:∃y_:List Int,y_=(a++[wrap64 (-(Int.tmod (wrap64 (rd m (g))) d))]):=⟨_,rfl⟩
  replace H:(jigsawref06_numbers.l0 k1 m q s o d G (wrap64 (c+1)))=some r:=h2_ H t
  have O:=a_ t
  clear t
  have H':=a_ H
  clear H
  obtain ⟨E,A,l,p111,n⟩:=aj_ F HB (g)
  cases A
  go_wp2_with (first|((with_reducible refine gate_builtin (b := .append) (xs:=#[.tmp 43,.tmp 45]) rfl ?_);at_builtin;refine Kd.R_append (Kd.int .i64) (w0:=w) w.heap.size rfl (.tmp 43) (.tmp 45) 30 3 (.int .i64 0) 8 rfl Tryz.underlying30 info3 rfl (by decide) (by omega) u11 a (wrap64 (-(Int.tmod (wrap64 (rd m (g))) d))) [.int .i64 (wrap64 (-(Int.tmod (wrap64 (rd m (g))) d)))] (fun _=>True) (fun _=>False) rfl rfl ?aP (fun _ hk=>hk.elim) ?aF ?aO ?aB ?aS ?aL ?_;(case aP=>exact rfl);(case aB=>exact bel_);(case aF=>exact (fun _ _=>trivial));(case aO=>exact (vR_ HO_11.out));(case aS=>exact (bz_ bel_));(case aL=>have:=LMc13.out;omega);intro aj w14 ho hb hg hat;rw [←O.out] at ho;replace HB:=a_ (hb);have P:=a_ (ho);clear HO_11;clear ho hb hg hat))
  go_roundg k1
  case measure=>have:=p.out;omega
  exact ⟨(G),(wrap64 (c+1)),eq_,H',⟨by have:=p.out;omega⟩,⟨vR_ P.out⟩,⟨bel_⟩⟩
end Go.Proofs.YtijjhobjmehhoaaGreatDoor.XGccRefuses
