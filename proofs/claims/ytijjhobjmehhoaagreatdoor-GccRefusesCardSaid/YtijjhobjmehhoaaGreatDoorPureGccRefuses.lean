/- The plain law of GccRefuses: what the walk computes answers true, for every input. -/
import Derived.Test.YtijjhobjmehhoaaGreatDoorXGRex30
import Derived.Test.YtijjhobjmehhoaaGreatDoorKMa
import Derived.Test.YtijjhobjmehhoaaGreatDoorKMb
import Derived.Test.YtijjhobjmehhoaaGreatDoorKMc
import Derived.Test.YtijjhobjmehhoaaGreatDoorKMd
namespace Go.Proofs.YtijjhobjmehhoaaGreatDoor.Pure
open Go.RowKit Go.Proofs.YtijjhobjmehhoaaGreatDoor.XGccRefuses Go.Proofs.YtijjhobjmehhoaaGreatDoorW.PrintWords Go.Proofs.YtijjhobjmehhoaaGreatDoorW.PrintLast Go.Proofs.YtijjhobjmehhoaaGreatDoorW.PrintMore
set_option linter.unusedVariables false
theorem ind_ {c:Prop} [Decidable c] {α:Type} {a b:α} (h:¬c:=by decide):(if c then a else b)=b:=if_neg h
theorem obs_ {α β:Type} (a:α) (f:α→Option β):(some a).bind f=f a:=rfl
theorem ino_ {c:Prop} [Decidable c] {α:Type} {a b:α} (h:¬c:=by omega):(if c then a else b)=b:=if_neg h
theorem ipo_ {c:Prop} [Decidable c] {α:Type} {a b:α} (h:c:=by omega):(if c then a else b)=a:=if_pos h
theorem wsu_ {j:Nat} (h:j≤100000:=by omega):wrap64 ((j:Int)+1)=((j+1:Nat):Int):=wrap_succ h
def Near (x:List Int):Prop:=∀v∈x, -5≤v∧v≤5
theorem mem_vals {v:Int}:v∈vals ↔ -5≤v∧v≤5:=by
 unfold vals
 simp only [List.mem_cons,List.not_mem_nil,or_false]
 omega
theorem mem_L {m:Nat} {v:Int}:v∈L m↔(-5≤v∧v≤5)∧m.testBit (v+5).toNat=true:=by
 unfold L;rw [List.mem_filter,mem_vals]
theorem L_filter {m m':Nat} {p:Int→Bool} (h:∀v, -5≤v→v≤5→(v∈L m↔v∈L m'∧p v=true)):L m=(L m').filter p:=by
 unfold L
 rw [List.filter_filter]
 apply List.filter_congr
 intro v hv
 have hr:=mem_vals.1 hv
 have h':=h v hr.1 hr.2
 rw [mem_L,mem_L] at h'
 rw [Bool.eq_iff_iff,Bool.and_eq_true]
 constructor
 ·
  intro h1
  have h2:=h'.1 ⟨hr,h1⟩
  exact ⟨h2.2,h2.1.2⟩
 ·
  exact fun h1=>(h'.2 ⟨⟨hr,h1.2⟩,h1.1⟩).2
def msk:List Int→Nat
 | []=>0
 | v::l=>msk l ||| 1 <<< (v+5).toNat
theorem msk_append (a b:List Int):msk (a++b)=msk a ||| msk b:=by
 induction a with
 | nil=>simp [msk]
 | cons v a ih=>rw [List.cons_append,msk,ih,msk,Nat.or_assoc,Nat.or_assoc,Nat.or_comm (msk b)]
theorem msk_bit (l:List Int) (i:Nat):(msk l).testBit i=true↔∃v,v∈l∧(v+5).toNat=i:=by
 induction l with
 | nil=>simp [msk]
 | cons v l ih =>
  rw [msk,Nat.testBit_or,Bool.or_eq_true,ih,Nat.one_shiftLeft,Nat.testBit_two_pow,decide_eq_true_iff]
  constructor
  ·
   rintro (⟨u,h1,h2⟩ | h)
   ·
    exact ⟨u,List.mem_cons_of_mem _ h1,h2⟩
   ·
    exact ⟨v,List.mem_cons_self,h⟩
  ·
   rintro ⟨u,h1,h2⟩
   rcases List.mem_cons.1 h1 with rfl | h1
   ·
    exact Or.inr h2
   ·
    exact Or.inl ⟨u,h1,h2⟩
theorem msk_lt {l:List Int} (h:Near l):msk l<2048:=by
 induction l with
 | nil=>decide
 | cons v l ih =>
  have hv:=h v List.mem_cons_self
  refine Nat.or_lt_two_pow (n:=11) (ih fun u hu=>h u (List.mem_cons_of_mem _ hu)) ?_
  rw [Nat.one_shiftLeft]
  exact Nat.pow_lt_pow_right (by decide) (by omega)
theorem mem_msk {l:List Int} (h:Near l) {v:Int}:v∈L (msk l)↔v∈l:=by
 rw [mem_L,msk_bit]
 constructor
 ·
  rintro ⟨hv,u,hu,e⟩
  have:=h u hu
  have:u=v:=by omega
  rwa [←this]
 ·
  exact fun hv=>⟨h v hv,v,hv,rfl⟩
def mk (l:List Int):Fin 2048:=⟨msk l%2048,Nat.mod_lt _ (by decide)⟩
theorem mk_val {l:List Int} (h:Near l):(mk l).val=msk l:=Nat.mod_eq_of_lt (msk_lt h)
theorem mem_mk {l:List Int} (h:Near l) {v:Int}:v∈LL (mk l)↔v∈l:=by
 unfold LL;rw [mk_val h];exact mem_msk h
theorem mk_ne {l:List Int} (h:Near l) (h0:l≠[]):(mk l).val≠0:=by
 intro h1
 obtain ⟨v,hv⟩:=List.exists_mem_of_ne_nil l h0
 have h2:=(mem_mk h).2 hv
 have:LL (mk l)=[]:=by unfold LL;rw [h1];decide +kernel
 rw [this] at h2;cases h2
theorem mask_ext {m m':Fin 2048} (h:∀v,v∈LL m↔v∈LL m'):m=m':=by
 apply Fin.ext
 apply Nat.eq_of_testBit_eq
 intro i
 by_cases hi:i<11
 ·
  have h1:=h ((i:Int) - 5)
  unfold LL at h1
  rw [mem_L,mem_L,show ((i:Int) - 5+5).toNat=i by omega] at h1
  have hr : -5≤(i:Int) - 5∧(i:Int) - 5≤5:=by omega
  rw [Bool.eq_iff_iff]
  exact ⟨fun h2=>(h1.1 ⟨hr,h2⟩).2,fun h2=>(h1.2 ⟨hr,h2⟩).2⟩
 ·
  have h2:2 ^ 11≤2 ^ i:=Nat.pow_le_pow_right (by decide) (by omega)
  rw [Nat.testBit_lt_two_pow (Nat.lt_of_lt_of_le m.isLt h2),Nat.testBit_lt_two_pow (Nat.lt_of_lt_of_le m'.isLt h2)]
theorem near_LL (m:Fin 2048):Near (LL m):=(len_all m).2
theorem mk_LL (m:Fin 2048):mk (LL m)=m:=mask_ext fun _=>mem_mk (near_LL m)
theorem fold_mn:∀(l:List Int) (z:Int),(l.foldl mn z≤z)∧(∀v∈l,l.foldl mn z≤v)∧(l.foldl mn z=z∨l.foldl mn z∈l)
 | [],z=>⟨Int.le_refl _,fun v hv=>absurd hv List.not_mem_nil,Or.inl rfl⟩
 | a::l,z=>by
  obtain ⟨h1,h2,h3⟩:=fold_mn l (mn z a)
  have hz:mn z a≤z∧mn z a≤a∧(mn z a=z∨mn z a=a):=by unfold mn;split <;> omega
  rw [List.foldl_cons]
  refine ⟨by omega,fun v hv=>?_,?_⟩
  ·
   rcases List.mem_cons.1 hv with rfl | hv
   ·
    omega
   ·
    exact h2 v hv
  ·
   rcases h3 with h3 | h3
   ·
    rw [h3]
    rcases hz.2.2 with h | h
    ·
     exact Or.inl h
    ·
     exact Or.inr (by rw [h];exact List.mem_cons_self)
   ·
    exact Or.inr (List.mem_cons_of_mem _ h3)
theorem fold_mx:∀(l:List Int) (z:Int),(z≤l.foldl mx z)∧(∀v∈l,v≤l.foldl mx z)∧(l.foldl mx z=z∨l.foldl mx z∈l)
 | [],z=>⟨Int.le_refl _,fun v hv=>absurd hv List.not_mem_nil,Or.inl rfl⟩
 | a::l,z=>by
  obtain ⟨h1,h2,h3⟩:=fold_mx l (mx z a)
  have hz:z≤mx z a∧a≤mx z a∧(mx z a=z∨mx z a=a):=by unfold mx;split <;> omega
  rw [List.foldl_cons]
  refine ⟨by omega,fun v hv=>?_,?_⟩
  ·
   rcases List.mem_cons.1 hv with rfl | hv
   ·
    omega
   ·
    exact h2 v hv
  ·
   rcases h3 with h3 | h3
   ·
    rw [h3]
    rcases hz.2.2 with h | h
    ·
     exact Or.inl h
    ·
     exact Or.inr (by rw [h];exact List.mem_cons_self)
   ·
    exact Or.inr (List.mem_cons_of_mem _ h3)
theorem rd_at (l:List Int) (j:Nat):rd l (j:Int)=l.getD j 0:=rfl
theorem rdL_at (l:List (List Int)) (j:Nat):rd_L7 l (j:Int)=l.getD j []:=rfl
theorem rdD_at (l:List S58) (j:Nat):rd_T58 l (j:Int)=l.getD j z58:=rfl
theorem getD_lt {α:Type} (l:List α) (z:α) {j:Nat} (h:j<l.length):l.getD j z=l[j]:=by
 rw [List.getD_eq_getElem?_getD,List.getElem?_eq_getElem h];rfl
theorem getD_mem {α:Type} (l:List α) (z:α) {j:Nat} (h:j<l.length):l.getD j z∈l:=by
 rw [getD_lt _ _ h];exact List.getElem_mem _
theorem getD_map {α β:Type} (f:α→β) (l:List α) (z:α) (y:β) {j:Nat} (h:j<l.length):(l.map f).getD j y=f (l.getD j z):=by
 rw [getD_lt _ _ (by simpa using h),getD_lt _ _ h];simp
theorem take_step {α:Type} (l:List α) (z:α) {j:Nat} (h:j<l.length):l.take j++[l.getD j z]=l.take (j+1):=by
 rw [getD_lt _ _ h];simp
theorem nlt {a b:Nat} (h:a<b):(a:Int)<(b:Int):=by omega
theorem nge {a b:Nat} (h:¬a<b):¬(a:Int)<(b:Int):=by omega
theorem place_one {v:Int} (hv : -5≤v∧v≤5):dom_place.f v=some (if v<0 then -64 else 0):=by
 have h:=place_all ⟨(v+5).toNat,by omega⟩
 simp only [] at h
 rwa [show (((v+5).toNat:Nat):Int) - 5=v by omega] at h
def wd (neg pos:Bool) (m:Nat):List Int:=(if neg then [((m%32 * 576460752303423488:Nat):Int)] else [])++(if pos then [((m / 32:Nat):Int)] else [])
def off (neg:Bool):Int:=if neg then -64 else 0
theorem put_one (neg pos:Bool) (m:Fin 2048) {v:Int} (hv : -5≤v∧v≤5) (hn:v<0→neg=true) (hp:0≤v→pos=true) :
  ∃i:Nat,wrap64 (Int.tdiv (wrap64 (v - off neg)) 64)=(i:Int)∧i<(wd neg pos m.val).length∧0≤Int.tmod (wrap64 (v - off neg)) 64∧(wd neg pos m.val).set i (Go.bits .or .u64 (rd (wd neg pos m.val) (i:Int)) (shl .u64 1 (Int.tmod (wrap64 (v - off neg)) 64)))=wd neg pos (m.val ||| 1 <<< (v+5).toNat):=by
 have hs:=split_all m ⟨(v+5).toNat,by omega⟩
 simp only [] at hs
 by_cases h:v<0
 ·
  obtain rfl:=hn h
  have hl:=put_lo ⟨m.val%32,Nat.mod_lt _ (by decide)⟩ ⟨(v+5).toNat,by omega⟩
  simp only [] at hl
  rw [ipo_,ipo_,Nat.or_zero] at hs
  rw [show (((v+5).toNat:Nat):Int) - 5=v by omega] at hl
  have e1:wrap64 (v - off true)=v+64:=by rw [show off true = -64 from rfl,wrap_id (by omega) (by omega)];omega
  have e2:Int.tdiv (v+64) 64=0:=Int.tdiv_eq_zero_of_lt (by omega) (by omega)
  refine ⟨0,by rw [e1,e2];decide +kernel,by simp [wd],by rw [e1];exact Int.tmod_nonneg _ (by omega),?_⟩
  show List.set (((m.val%32 * 576460752303423488:Nat):Int)::_) 0 (Go.bits .or .u64 ((m.val%32 * 576460752303423488:Nat):Int) (shl .u64 1 (Int.tmod (wrap64 (v - (-64))) 64)))=_
  rw [List.set_cons_zero,hl]
  unfold wd
  rw [hs.1,hs.2];rfl
 ·
  obtain rfl:=hp (by omega)
  rw [ino_,ino_,Nat.or_zero] at hs
  have hh:=put_hi ⟨m.val / 32,by have:=m.isLt;omega⟩ ⟨v.toNat,by omega⟩
  simp only [] at hh
  rw [show ((v.toNat:Nat):Int)=v by omega] at hh
  have e0:(v+5).toNat - 5=v.toNat:=by omega
  cases neg with
  | true =>
   have e1:wrap64 (v - off true)=v+64:=by rw [show off true = -64 from rfl,wrap_id (by omega) (by omega)];omega
   have e2:Int.tdiv (v+64) 64=1:=by rw [Int.tdiv_eq_ediv_of_nonneg (by omega)];omega
   refine ⟨1,by rw [e1,e2];decide +kernel,by simp [wd],by rw [e1];exact Int.tmod_nonneg _ (by omega),?_⟩
   show List.set [((m.val%32 * 576460752303423488:Nat):Int),((m.val / 32:Nat):Int)] 1 (Go.bits .or .u64 ((m.val / 32:Nat):Int) (shl .u64 1 (Int.tmod (wrap64 (v - (-64))) 64)))=_
   rw [hh.2]
   unfold wd
   rw [hs.1,hs.2,e0];rfl
  | false =>
   have e1:wrap64 (v - off false)=v:=by rw [show off false=0 from rfl,wrap_id (by omega) (by omega)];omega
   have e2:Int.tdiv v 64=0:=Int.tdiv_eq_zero_of_lt (by omega) (by omega)
   refine ⟨0,by rw [e1,e2];decide +kernel,by simp [wd],by rw [e1];exact Int.tmod_nonneg _ (by omega),?_⟩
   show List.set [((m.val / 32:Nat):Int)] 0 (Go.bits .or .u64 ((m.val / 32:Nat):Int) (shl .u64 1 (Int.tmod (wrap64 (v - 0)) 64)))=_
   rw [hh.1]
   unfold wd
   rw [hs.1,hs.2,e0];rfl
theorem wd_D (neg pos:Bool) (m:Fin 2048) (hm:m.val≠0) (hn:neg=true↔¬(∀v∈LL m,0≤v)) (hp:pos=true↔¬(∀v∈LL m,v<0)):off neg=(D m).f0∧wd neg pos m.val=(D m).f1:=by
 obtain ⟨h1,h2⟩:=low_all m
 rw [←h1] at hn
 rw [←h2] at hp
 unfold D DM
 cases neg with
 | false =>
  have e:m.val%32=0:=Classical.byContradiction fun h=>absurd (hn.2 h) (by decide)
  have ep:pos=true:=hp.2 (by omega)
  rw [if_pos e,ep];exact ⟨rfl,rfl⟩
 | true =>
  rw [if_neg (hn.1 rfl)]
  cases pos with
  | false =>
   have e:m.val / 32=0:=Classical.byContradiction fun h=>absurd (hp.2 h) (by decide)
   rw [if_pos e];exact ⟨rfl,rfl⟩
  | true=>rw [if_neg (hp.1 rfl)];exact ⟨rfl,rfl⟩
theorem of_l0 (neg pos:Bool) (l:List Int) (hl:l.length≤2000) (hr:Near l) (hn:∀v∈l,v<0→neg=true) (hp:∀v∈l,0≤v→pos=true):∀(m j k:Nat),l.length=j+m→m+20<k →
  dom_Of.l0 k l (l.length:Int) (j:Int) (off neg) (wd neg pos (msk (l.take j))) 0 0 0=(dom_made.f (k - m - 1) (off neg) (wd neg pos (msk l))).bind fun bt=>some (bt.1,bt.2.1,bt.2.2.1,bt.2.2.2.1,bt.2.2.2.2,0)
 | 0,j,k+1,e,hk=>by
  rw [dom_Of.l0,ino_,List.take_of_length_le (by omega)]
  rfl
 | m+1,j,k+1,e,hk=>by
  have hj:j<l.length:=by omega
  have hv:=getD_mem l 0 hj
  have hnt:Near (l.take j):=fun u hu=>hr u (List.mem_of_mem_take hu)
  obtain ⟨i,e1,e2,e3,e4⟩:=put_one neg pos ⟨msk (l.take j),msk_lt hnt⟩ (hr _ hv) (hn _ hv) (hp _ hv)
  simp only [] at e2 e4
  have e5:msk (l.take (j+1))=msk (l.take j) ||| 1 <<< (l.getD j 0+5).toNat:=by
   rw [←take_step l 0 hj,msk_append,msk,msk,Nat.zero_or]
  rw [dom_Of.l0,if_pos (nlt hj),ipo_,if_pos (nlt hj),rd_at,e1,ipo_,if_pos (nlt e2),if_pos e3,Int.toNat_natCast,e4,←e5,wsu_,of_l0 neg pos l hl hr hn hp m (j+1) k (by omega) (by omega)]
  rw [show k+1 - (m+1) - 1=k - m - 1 by omega]
theorem idx_of (l:List Int) (hl:l.length≤2000) (hr:Near l):∀(m j k:Nat),l.length=j+m→m<k→slices_IndexFunc_int_int_87_at_dom_Of_1.l0 k l (l.length:Int) (j:Int)=some (-1)
 | 0,j,k+1,e,_=>by rw [slices_IndexFunc_int_int_87_at_dom_Of_1.l0,ino_]
 | m+1,j,k+1,e,hk=>by
  have hj:j<l.length:=by omega
  have hv:=hr _ (getD_mem l 0 hj)
  have hf:dom_Of_1.f (l.getD j 0)=some false:=by
   unfold dom_Of_1.f dom_in.f
   rw [ipo_,obs_,decide_eq_true (by omega)];rfl
  rw [slices_IndexFunc_int_int_87_at_dom_Of_1.l0,if_pos (nlt hj),ipo_,if_pos (nlt hj),rd_at,hf,obs_,ind_,wsu_]
  exact idx_of l hl hr m (j+1) k (by omega) (by omega)
theorem room_f {a b:Int} (ha : -5≤a∧a≤5) (hb : -5≤b∧b≤5) (hab:a≤b):dom_room.f a b=some (off (decide (a<0)),wd (decide (a<0)) (decide (0≤b)) 0,0,0,0):=by
 unfold dom_room.f
 rw [place_one ha,obs_,place_one hb,obs_,obs_]
 by_cases h1:a<0
 ·
  rw [if_pos h1,decide_eq_true h1]
  by_cases h2:b<0
  ·
   rw [if_pos h2,decide_eq_false (by omega)];decide +kernel
  ·
   rw [if_neg h2,decide_eq_true (by omega)];decide +kernel
 ·
  rw [if_neg h1,if_neg (show ¬b<0 by omega),decide_eq_false h1,decide_eq_true (by omega)];decide +kernel
theorem of_list (l:List Int) (h0:l≠[]) (hl:l.length≤2000) (hr:Near l) {k:Nat} (hk:l.length+20<k):dom_Of.f k l=some ((D (mk l)).f0,(D (mk l)).f1,(D (mk l)).f2,(D (mk l)).f3,(D (mk l)).f4,0):=by
 have hp:0<l.length:=List.length_pos_iff.2 h0
 have h00:=getD_mem l 0 hp
 obtain ⟨a1,a2,a3⟩:=fold_mn l (rd l 0)
 obtain ⟨b1,b2,b3⟩:=fold_mx l (rd l 0)
 have ham:l.foldl mn (rd l 0)∈l:=by
  rcases a3 with h | h
  ·
   rw [h];exact h00
  ·
   exact h
 have hbm:l.foldl mx (rd l 0)∈l:=by
  rcases b3 with h | h
  ·
   rw [h];exact h00
  ·
   exact h
 have hra:=hr _ ham
 have hrb:=hr _ hbm
 have emin:slices_Min_int.f l=some (l.foldl mn (rd l 0)):=by unfold slices_Min_int.f;rw [if_neg h0]
 have emax:slices_Max_int.f l=some (l.foldl mx (rd l 0)):=by unfold slices_Max_int.f;rw [if_neg h0]
 have hidx:slices_IndexFunc_int_int_87_at_dom_Of_1.l0 k l (l.length:Int) 0=some (-1):=idx_of l hl hr l.length 0 k (by omega) (by omega)
 generalize l.foldl mn (rd l 0)=a at *
 generalize l.foldl mx (rd l 0)=b at *
 have hw:wrap64 (b - a)=b - a:=wrap_id (by omega) (by omega)
 have hc:slices_ContainsFunc_int_int_61_at_dom_Of_1.f k l=some false:=by
  unfold slices_ContainsFunc_int_int_61_at_dom_Of_1.f slices_IndexFunc_int_int_87_at_dom_Of_1.f
  rw [hidx,obs_];rfl
 unfold dom_Of.f
 rw [ino_,hc,obs_,ind_,emax,obs_,emin,obs_,hw,ino_,obs_,obs_,room_f hra hrb (by omega),obs_]
 have hcall:=of_l0 (decide (a<0)) (decide (0≤b)) l hl hr (fun v hv h=>decide_eq_true (by have:=a2 v hv;omega)) (fun v hv h=>decide_eq_true (by have:=b2 v hv;omega)) l.length 0 k (by omega) (by omega)
 have hcall':dom_Of.l0 k l (l.length:Int) 0 (off (decide (a<0))) (wd (decide (a<0)) (decide (0≤b)) 0) 0 0 0=_:=hcall
 rw [hcall']
 have hne:=mk_ne hr h0
 obtain ⟨w1,w2⟩:=wd_D (decide (a<0)) (decide (0≤b)) (mk l) hne (by
   rw [decide_eq_true_iff]
   constructor
   ·
    exact fun h h'=>by have:=h' a ((mem_mk hr).2 ham);omega
   ·
    exact fun h=>Classical.byContradiction fun h'=>h fun v hv=>by have:=a2 v ((mem_mk hr).1 hv);omega) (by
   rw [decide_eq_true_iff]
   constructor
   ·
    exact fun h h'=>by have:=h' b ((mem_mk hr).2 hbm);omega
   ·
    exact fun h=>Classical.byContradiction fun h'=>h fun v hv=>by have:=b2 v ((mem_mk hr).1 hv);omega)
 rw [mk_val hr] at w2
 rw [w1,w2]
 have hm:=up (f:=fun k=>dom_made.f k (D (mk l)).f0 (D (mk l)).f1) (dom_made.mono _ _) (made_all _ hne) (show 10≤k - l.length - 1 by omega)
 rw [hm,obs_]
theorem of_one {m:Fin 2048} (hm:m.val≠0) {k:Nat} (hk:40≤k):dom_Of.f k (LL m)=some ((D m).f0,(D m).f1,(D m).f2,(D m).f3,(D m).f4,0):=by
 have h:=of_list (LL m) (fun h=>ne_all m hm (by rw [h];rfl)) (by have:=(len_all m).1;omega) (near_LL m) (k:=k) (by have:=(len_all m).1;omega)
 rwa [mk_LL] at h
theorem hi_lt (m:Fin 2048):m.val / 32<64:=by have:=m.isLt;omega
def Rep (r:Nat) (m:Fin 2048):Prop:=(r=0→m.val%32=0)∧(r=1→m.val / 32=0)
theorem rep_D (m:Fin 2048):∃r,Rep r m∧D m=DR r m:=by
 by_cases h0:m.val%32=0
 ·
  refine ⟨0,⟨fun _=>h0,fun h=>absurd h (by decide)⟩,?_⟩
  unfold D DM DR
  rw [if_pos h0,if_pos rfl,if_pos rfl];rfl
 ·
  by_cases h1:m.val / 32=0
  ·
   refine ⟨1,⟨fun h=>absurd h (by decide),fun _=>h1⟩,?_⟩
   unfold D DM DR
   rw [if_neg h0,if_pos h1,ind_,ind_,if_pos rfl];rfl
  ·
   refine ⟨2,⟨fun h=>absurd h (by decide),fun h=>absurd h (by decide)⟩,?_⟩
   unfold D DM DR
   rw [if_neg h0,if_neg h1,ind_,ind_,ind_];rfl
theorem and63 (m:Fin 2048):(m.val / 32 &&& 63)=m.val / 32:=by rw [show (63:Nat)=2 ^ 6 - 1 from rfl,Nat.and_two_pow_sub_one_eq_mod];exact Nat.mod_eq_of_lt (hi_lt m)
theorem and31 (m:Fin 2048):(m.val%32 &&& 31)=m.val%32:=by rw [show (31:Nat)=2 ^ 5 - 1 from rfl,Nat.and_two_pow_sub_one_eq_mod];exact Nat.mod_eq_of_lt (Nat.mod_lt _ (by decide))
theorem mem_LL {m:Fin 2048} {v:Int}:v∈LL m↔(-5≤v∧v≤5)∧m.val.testBit (v+5).toNat=true:=mem_L
theorem place64 {v:Int} (hv : -5≤v∧v≤5):dom_place.f v=some (if v<0 then -64 else 0):=place_one hv
theorem low_bit (m:Fin 2048) (j:Nat) (hj:j<5):(m.val%32).testBit j=m.val.testBit j:=by
 rw [show (32:Nat)=2 ^ 5 from rfl,Nat.testBit_mod_two_pow,decide_eq_true hj,Bool.true_and]
theorem high_bit (m:Fin 2048) (j:Nat):(m.val / 32).testBit j=m.val.testBit (j+5):=by
 rw [show (32:Nat)=2 ^ 5 from rfl,Nat.testBit_div_two_pow]
theorem word_lo {r:Nat} {m:Fin 2048} (h:Rep r m) (a b c:Int):dom_Dom_word.f (DR r m).f0 (DR r m).f1 a b c (-64)=some (lo m):=by
 unfold DR dom_Dom_word.f
 by_cases h0:r=0
 ·
  have e:lo m=0:=by unfold lo;rw [h.1 h0];rfl
  simp only [if_pos h0]
  rw [if_pos (by decide),e]
 ·
  simp only [if_neg h0]
  have e1:wrap64 (Int.tdiv (wrap64 (-64 - -64)) 64)=0:=by decide +kernel
  rw [ind_,e1]
  by_cases h1:r=1
  ·
   rw [if_pos h1,if_neg (by simp),if_pos (by decide),if_pos (by simp)];rfl
  ·
   rw [if_neg h1,if_neg (by simp),if_pos (by decide),if_pos (by simp)];rfl
theorem word_hi {r:Nat} {m:Fin 2048} (h:Rep r m) (a b c:Int):dom_Dom_word.f (DR r m).f0 (DR r m).f1 a b c 0=some (hi m):=by
 unfold DR dom_Dom_word.f
 by_cases h0:r=0
 ·
  simp only [if_pos h0]
  have e1:wrap64 (Int.tdiv (wrap64 (0 - 0)) 64)=0:=by decide +kernel
  rw [ind_,e1,if_neg (by simp),if_pos (by decide),if_pos (by simp)];rfl
 ·
  simp only [if_neg h0]
  have e1:wrap64 (Int.tdiv (wrap64 (0 - -64)) 64)=1:=by decide +kernel
  rw [ind_,e1]
  by_cases h1:r=1
  ·
   have e:hi m=0:=by unfold hi;rw [h.2 h1];rfl
   rw [if_pos h1,if_pos (by simp),e]
  ·
   rw [if_neg h1,if_neg (by simp),if_pos (by decide),if_pos (by simp)];rfl
theorem has_dr {r:Nat} {m:Fin 2048} (h:Rep r m) {v:Int} (hv : -5≤v∧v≤5) (a b c:Int):dom_Dom_Has.f (DR r m).f0 (DR r m).f1 a b c v=some (decide (v∈LL m)):=by
 have hin:dom_in.f v=some true:=by unfold dom_in.f;rw [ipo_,decide_eq_true (by omega)]
 unfold dom_Dom_Has.f
 rw [hin,obs_,if_pos rfl,place64 hv,obs_]
 by_cases hn:v<0
 ·
  have hw:wrap64 (v - -64)=((((v+5).toNat:Nat):Int)+59):=by rw [wrap_id (by omega) (by omega)];omega
  have hb:=bit_lo_all ⟨m.val%32,Nat.mod_lt _ (by decide)⟩ ⟨(v+5).toNat,by omega⟩
  simp only [] at hb
  rw [if_pos hn,word_lo h,obs_,obs_,hw,ipo_]
  unfold lo
  rw [hb,low_bit m _ (by omega)]
  congr 1
  rw [Bool.eq_iff_iff,decide_eq_true_iff,mem_LL]
  exact ⟨fun h=>⟨hv,h⟩,fun h=>h.2⟩
 ·
  have hw:wrap64 (v - 0)=((v.toNat:Nat):Int):=by rw [wrap_id (by omega) (by omega)];omega
  have hb:=bit_hi_all ⟨m.val / 32,hi_lt m⟩ ⟨v.toNat,by omega⟩
  simp only [] at hb
  rw [if_neg hn,word_hi h,obs_,obs_,hw,ipo_]
  unfold hi
  rw [hb,high_bit,show v.toNat+5=(v+5).toNat by omega]
  congr 1
  rw [Bool.eq_iff_iff,decide_eq_true_iff,mem_LL]
  exact ⟨fun h=>⟨hv,h⟩,fun h=>h.2⟩
theorem size_dr (r:Nat) (m:Fin 2048):dom_Dom_Size.f (DR r m).f0 (DR r m).f1 (DR r m).f2 (DR r m).f3 (DR r m).f4=some ((LL m).length:Int):=rfl
theorem made_dr {r:Nat} {m:Fin 2048} (h:Rep r m) (hm:m.val≠0) {k:Nat} (hk:10≤k):dom_made.f k (DR r m).f0 (DR r m).f1=some ((DR r m).f0,(DR r m).f1,(DR r m).f2,(DR r m).f3,(DR r m).f4):=by
 refine up (f:=fun k=>dom_made.f k (DR r m).f0 (DR r m).f1) (dom_made.mono _ _) ?_ hk
 unfold DR
 by_cases h0:r=0
 ·
  simp only [if_pos h0]
  have hz:=h.1 h0
  have e:=rmade0_all ⟨m.val / 32,hi_lt m⟩ (by simp only [];omega)
  simp only [] at e
  rw [show m.val / 32 * 32=m.val by omega] at e
  exact e
 ·
  simp only [if_neg h0]
  by_cases h1:r=1
  ·
   have hz:=h.2 h1
   have e:=rmade1_all ⟨m.val%32,Nat.mod_lt _ (by decide)⟩ (by simp only [];omega)
   simp only [] at e
   simp only [if_pos h1]
   have e2:m.val%32=m.val:=by omega
   unfold lo LL
   rw [e2] at e ⊢
   exact e
  ·
   simp only [if_neg h1]
   exact rmade2_all m hm
def wo (m:Fin 2048) (v:Int):Fin 2048:=cutm m (2047 ^^^ 1 <<< (v+5).toNat)
def on (m:Fin 2048) (v:Int):Fin 2048:=cutm m (1 <<< (v+5).toNat)
theorem mem_wo {m:Fin 2048} {v:Int} (hv : -5≤v∧v≤5) {u:Int}:u∈LL (wo m v)↔u∈LL m∧u≠v:=by
 rw [mem_LL,mem_LL]
 show _∧(m.val &&& (2047 ^^^ 1 <<< (v+5).toNat)).testBit _=true↔_
 rw [Nat.testBit_and,Nat.testBit_xor,show (2047:Nat)=2 ^ 11 - 1 from rfl,Nat.testBit_two_pow_sub_one,Nat.one_shiftLeft,Nat.testBit_two_pow]
 constructor
 ·
  rintro ⟨hu,h⟩
  rw [decide_eq_true (show (u+5).toNat<11 by omega),Bool.and_eq_true] at h
  refine ⟨⟨hu,h.1⟩,fun e=>?_⟩
  rw [e,decide_eq_true rfl] at h
  exact absurd h.2 (by decide)
 ·
  rintro ⟨⟨hu,h⟩,hne⟩
  refine ⟨hu,?_⟩
  rw [h,decide_eq_true (show (u+5).toNat<11 by omega),decide_eq_false (by omega)]
  rfl
theorem mem_on {m:Fin 2048} {v:Int} (hv : -5≤v∧v≤5) {u:Int}:u∈LL (on m v)↔u∈LL m∧u=v:=by
 rw [mem_LL,mem_LL]
 show _∧(m.val &&& 1 <<< (v+5).toNat).testBit _=true↔_
 rw [Nat.testBit_and,Nat.one_shiftLeft,Nat.testBit_two_pow,Bool.and_eq_true,decide_eq_true_iff]
 constructor
 ·
  rintro ⟨hu,h⟩
  exact ⟨⟨hu,h.1⟩,by omega⟩
 ·
  rintro ⟨⟨hu,h⟩,e⟩
  exact ⟨hu,h,by rw [e]⟩
theorem LL_wo {m:Fin 2048} {v:Int} (hv : -5≤v∧v≤5):LL (wo m v)=(LL m).filter fun u=>decide (u≠v) :=
 L_filter fun u _ _=>by
  show u∈LL (wo m v)↔u∈LL m∧_
  rw [mem_wo hv,decide_eq_true_iff]
theorem LL_on {m:Fin 2048} {v:Int} (hv : -5≤v∧v≤5):LL (on m v)=(LL m).filter fun u=>decide (u=v) :=
 L_filter fun u _ _=>by
  show u∈LL (on m v)↔u∈LL m∧_
  rw [mem_on hv,decide_eq_true_iff]
theorem without_at {v:Int} (hv : -5≤v∧v≤5) (m:Fin 2048) (w:Int) :
  (∃t,dom_Dom_Without_1.f (-64) w v=some t∧Go.bits .and .u64 (lo m) t=lo (wo m v))∧(∃t,dom_Dom_Without_1.f 0 w v=some t∧Go.bits .and .u64 (hi m) t=hi (wo m v)):=by
 have hs:=wsplit_all m ⟨(v+5).toNat,by omega⟩
 simp only [] at hs
 have ah:=and_hi_all ⟨m.val / 32,hi_lt m⟩
 have al:=and_lo_all ⟨m.val%32,Nat.mod_lt _ (by decide)⟩
 simp only [] at ah al
 unfold dom_Dom_Without_1.f
 rw [place64 hv,obs_,obs_]
 by_cases hn:v<0
 ·
  have hw:wrap64 (v - -64)=((((v+5).toNat:Nat):Int)+59):=by rw [wrap_id (by omega) (by omega)];omega
  have hb:=wo_lo_all ⟨m.val%32,Nat.mod_lt _ (by decide)⟩ ⟨(v+5).toNat,by omega⟩
  simp only [] at hb
  rw [ipo_,ipo_] at hs
  rw [if_pos hn,if_pos rfl,if_neg (show ¬(0:Int) = -64 by decide),hw,ipo_]
  refine ⟨⟨_,rfl,?_⟩,⟨_,rfl,?_⟩⟩
  ·
   show Go.bits .and .u64 ((m.val%32 * 576460752303423488:Nat):Int) _=(((wo m v).val%32 * 576460752303423488:Nat):Int)
   rw [hb]
   show _=(((m.val &&& _)%32 * 576460752303423488:Nat):Int)
   rw [hs.1]
  ·
   show Go.bits .and .u64 ((m.val / 32:Nat):Int) _=(((m.val &&& _) / 32:Nat):Int)
   rw [hs.2]
   rw [and63];exact ah.1
 ·
  have hw:wrap64 (v - 0)=((v.toNat:Nat):Int):=by rw [wrap_id (by omega) (by omega)];omega
  have hb:=wo_hi_all ⟨m.val / 32,hi_lt m⟩ ⟨v.toNat,by omega⟩
  simp only [] at hb
  rw [ino_,ino_,show (v+5).toNat - 5=v.toNat by omega] at hs
  rw [if_neg hn,if_neg (show ¬(-64:Int)=0 by decide),if_pos rfl,hw,ipo_]
  refine ⟨⟨_,rfl,?_⟩,⟨_,rfl,?_⟩⟩
  ·
   show Go.bits .and .u64 ((m.val%32 * 576460752303423488:Nat):Int) _=(((m.val &&& _)%32 * 576460752303423488:Nat):Int)
   rw [hs.1]
   rw [and31];exact al.1
  ·
   show Go.bits .and .u64 ((m.val / 32:Nat):Int) _=(((m.val &&& _) / 32:Nat):Int)
   rw [hs.2]
   exact hb
theorem without_rep {r:Nat} {m:Fin 2048} (h:Rep r m) (v:Int):Rep r (wo m v):=by
 refine ⟨fun e=>?_,fun e=>?_⟩
 ·
  have h0:=h.1 e
  show (m.val &&& _)%32=0
  apply Nat.eq_of_testBit_eq
  intro i
  rw [show (32:Nat)=2 ^ 5 from rfl,Nat.testBit_mod_two_pow,Nat.zero_testBit,Nat.testBit_and]
  by_cases hi:i<5
  ·
   have:=low_bit m i hi
   rw [h0,Nat.zero_testBit] at this
   rw [←this,Bool.false_and,Bool.and_false]
  ·
   rw [decide_eq_false hi,Bool.false_and]
 ·
  have h1:=h.2 e
  show (m.val &&& _) / 32=0
  have h2:(m.val &&& (2047 ^^^ 1 <<< (v+5).toNat))≤m.val:=Nat.and_le_left
  omega
theorem without_dr {r:Nat} {m:Fin 2048} (h:Rep r m) {v:Int} (hv : -5≤v∧v≤5) (hz:(wo m v).val≠0) (hl:(LL (wo m v)).length<(LL m).length) {k:Nat} (hk:20≤k) :
  ∃c,dom_Dom_Without.f k (DR r m).f0 (DR r m).f1 (DR r m).f2 (DR r m).f3 (DR r m).f4 v=some ((DR r (wo m v)).f0,(DR r (wo m v)).f1,(DR r (wo m v)).f2,(DR r (wo m v)).f3,(DR r (wo m v)).f4,c):=by
 have hr:=without_rep h v
 have hne:(LL (wo m v)).length≠0:=ne_all _ hz
 have fin:∀k,10≤k→∃c,((dom_made.f k (DR r (wo m v)).f0 (DR r (wo m v)).f1).bind fun bt=>(if bt.2.2.2.2=(DR r m).f4 then (none:Option (Int×List Int×Int×Int×Int×Int)) else (if bt.2.2.2.2=0 then none else (if bt.2.2.2.2=1 then (some (bt.1,bt.2.1,bt.2.2.1,bt.2.2.2.1,bt.2.2.2.2,3)) else (if bt.2.2.1=(DR r m).f2 then (if bt.2.2.2.1=(DR r m).f3 then (some (bt.1,bt.2.1,bt.2.2.1,bt.2.2.2.1,bt.2.2.2.2,1)) else (some (bt.1,bt.2.1,bt.2.2.1,bt.2.2.2.1,bt.2.2.2.2,2))) else (some (bt.1,bt.2.1,bt.2.2.1,bt.2.2.2.1,bt.2.2.2.2,2)))))))=some ((DR r (wo m v)).f0,(DR r (wo m v)).f1,(DR r (wo m v)).f2,(DR r (wo m v)).f3,(DR r (wo m v)).f4,c):=by
  intro k hk
  rw [made_dr hr hz hk,obs_]
  simp only []
  rw [if_neg (show ¬(DR r (wo m v)).f4=(DR r m).f4 from fun e=>by have:((LL (wo m v)).length:Int)=((LL m).length:Int):=e;omega),if_neg (show ¬(DR r (wo m v)).f4=0 from fun e=>by have:((LL (wo m v)).length:Int)=0:=e;omega)]
  split
  ·
   exact ⟨3,rfl⟩
  ·
   split
   ·
    split
    ·
     exact ⟨1,rfl⟩
    ·
     exact ⟨2,rfl⟩
   ·
    exact ⟨2,rfl⟩
 obtain ⟨⟨t1,a1,b1⟩,⟨t2,a2,b2⟩⟩:=(without_at hv m 0)
 have a1':∀w,dom_Dom_Without_1.f (-64) w v=some t1:=fun w=>a1
 have a2':∀w,dom_Dom_Without_1.f 0 w v=some t2:=fun w=>a2
 unfold dom_Dom_Without.f pPairs.f slices_CloneU64.f
 obtain ⟨k,rfl⟩:∃k',k=k'+3:=⟨k - 3,by omega⟩
 have w0:wrap64 (64 * 0)=0:=by decide +kernel
 have w1:wrap64 (64 * 1)=64:=by decide +kernel
 have w2:wrap64 (0+1)=1:=by decide +kernel
 have w3:wrap64 (1+1)=2:=by decide +kernel
 have w4:wrap64 (-64+0) = -64:=by decide +kernel
 have w5:wrap64 (-64+64)=0:=by decide +kernel
 have w6:wrap64 (0+0)=0:=by decide +kernel
 by_cases h0:r=0
 ·
  obtain ⟨c,e⟩:=fin (k+1) (by omega)
  refine ⟨c,?_⟩
  have ef:(DR r m).f1=[hi m]:=by unfold DR;simp only [if_pos h0]
  have eo:(DR r m).f0=0:=by unfold DR;simp only [if_pos h0]
  have ef':(DR r (wo m v)).f1=[hi (wo m v)]:=by unfold DR;simp only [if_pos h0]
  have eo':(DR r (wo m v)).f0=0:=by unfold DR;simp only [if_pos h0]
  rw [ef,eo,if_pos (by simp),obs_,pPairs.l0,if_pos (by simp),if_pos (by decide),if_pos (by simp),w0,w6,a2',obs_,w2]
  show (pPairs.l0 dom_Dom_Without_1.f (k+2) [Go.bits .and .u64 (hi m) t2] 1 1 0 [hi m] _ _ _ v).bind _=_
  rw [b2,pPairs.l0,ind_]
  rw [eo',ef'] at e
  rw [ef',eo']
  rw [show k+1=k+1 from rfl] at e
  have e2:=e
  rw [e2]
  rfl
 ·
  by_cases h1:r=1
  ·
   obtain ⟨c,e⟩:=fin (k+1) (by omega)
   refine ⟨c,?_⟩
   have ef:(DR r m).f1=[lo m]:=by unfold DR;simp only [if_neg h0,if_pos h1]
   have eo:(DR r m).f0 = -64:=by unfold DR;simp only [if_neg h0]
   have ef':(DR r (wo m v)).f1=[lo (wo m v)]:=by unfold DR;simp only [if_neg h0,if_pos h1]
   have eo':(DR r (wo m v)).f0 = -64:=by unfold DR;simp only [if_neg h0]
   rw [ef,eo,if_pos (by simp),obs_,pPairs.l0,if_pos (by simp),if_pos (by decide),if_pos (by simp),w0,w4,a1',obs_,w2]
   show (pPairs.l0 dom_Dom_Without_1.f (k+2) [Go.bits .and .u64 (lo m) t1] 1 1 (-64) [lo m] _ _ _ v).bind _=_
   rw [b1,pPairs.l0,ind_]
   rw [eo',ef'] at e
   rw [ef',eo',e]
   rfl
  ·
   obtain ⟨c,e⟩:=fin k (by omega)
   refine ⟨c,?_⟩
   have ef:(DR r m).f1=[lo m,hi m]:=by unfold DR;simp only [if_neg h0,if_neg h1]
   have eo:(DR r m).f0 = -64:=by unfold DR;simp only [if_neg h0]
   have ef':(DR r (wo m v)).f1=[lo (wo m v),hi (wo m v)]:=by unfold DR;simp only [if_neg h0,if_neg h1]
   have eo':(DR r (wo m v)).f0 = -64:=by unfold DR;simp only [if_neg h0]
   rw [ef,eo,if_pos (by simp),obs_,pPairs.l0,if_pos (by simp),if_pos (by decide),if_pos (by simp),w0,w4,a1',obs_,w2]
   show (pPairs.l0 dom_Dom_Without_1.f (k+2) [Go.bits .and .u64 (lo m) t1,hi m] 2 1 (-64) [lo m,hi m] _ _ _ v).bind _=_
   rw [pPairs.l0,if_pos (by decide),if_pos (by decide),if_pos (by simp),w1,w5,a2',obs_,w3]
   show (pPairs.l0 dom_Dom_Without_1.f (k+1) [Go.bits .and .u64 (lo m) t1,Go.bits .and .u64 (hi m) t2] 2 2 (-64) [lo m,hi m] _ _ _ v).bind _=_
   rw [b1,b2,pPairs.l0,ind_]
   rw [eo',ef'] at e
   rw [ef',eo',e]
   rfl
theorem only_at {v:Int} (hv : -5≤v∧v≤5) (m:Fin 2048) (w:Int) :
  (∃t,dom_Dom_Only_1.f (-64) w v=some t∧Go.bits .and .u64 (lo m) t=lo (on m v))∧(∃t,dom_Dom_Only_1.f 0 w v=some t∧Go.bits .and .u64 (hi m) t=hi (on m v)):=by
 have hs:=osplit_all m ⟨(v+5).toNat,by omega⟩
 simp only [] at hs
 have ah:=and_hi_all ⟨m.val / 32,hi_lt m⟩
 have al:=and_lo_all ⟨m.val%32,Nat.mod_lt _ (by decide)⟩
 simp only [] at ah al
 unfold dom_Dom_Only_1.f
 rw [place64 hv,obs_,obs_]
 by_cases hn:v<0
 ·
  have hw:wrap64 (v - -64)=((((v+5).toNat:Nat):Int)+59):=by rw [wrap_id (by omega) (by omega)];omega
  have hb:=on_lo_all ⟨m.val%32,Nat.mod_lt _ (by decide)⟩ ⟨(v+5).toNat,by omega⟩
  simp only [] at hb
  rw [ipo_,ipo_] at hs
  rw [if_pos hn,if_pos rfl,if_neg (show ¬(0:Int) = -64 by decide),hw,ipo_]
  refine ⟨⟨_,rfl,?_⟩,⟨_,rfl,?_⟩⟩
  ·
   show Go.bits .and .u64 ((m.val%32 * 576460752303423488:Nat):Int) _=(((on m v).val%32 * 576460752303423488:Nat):Int)
   rw [hb]
   show _=(((m.val &&& _)%32 * 576460752303423488:Nat):Int)
   rw [hs.1]
  ·
   show Go.bits .and .u64 ((m.val / 32:Nat):Int) _=(((m.val &&& _) / 32:Nat):Int)
   rw [hs.2]
   rw [ah.2,Nat.and_zero];rfl
 ·
  have hw:wrap64 (v - 0)=((v.toNat:Nat):Int):=by rw [wrap_id (by omega) (by omega)];omega
  have hb:=on_hi_all ⟨m.val / 32,hi_lt m⟩ ⟨v.toNat,by omega⟩
  simp only [] at hb
  rw [ino_,ino_,show (v+5).toNat - 5=v.toNat by omega] at hs
  rw [if_neg hn,if_neg (show ¬(-64:Int)=0 by decide),if_pos rfl,hw,ipo_]
  refine ⟨⟨_,rfl,?_⟩,⟨_,rfl,?_⟩⟩
  ·
   show Go.bits .and .u64 ((m.val%32 * 576460752303423488:Nat):Int) _=(((m.val &&& _)%32 * 576460752303423488:Nat):Int)
   rw [hs.1]
   rw [al.2,Nat.and_zero];rfl
  ·
   show Go.bits .and .u64 ((m.val / 32:Nat):Int) _=(((m.val &&& _) / 32:Nat):Int)
   rw [hs.2]
   exact hb
theorem only_rep {r:Nat} {m:Fin 2048} (h:Rep r m) (v:Int):Rep r (on m v):=by
 refine ⟨fun e=>?_,fun e=>?_⟩
 ·
  have h0:=h.1 e
  show (m.val &&& _)%32=0
  apply Nat.eq_of_testBit_eq
  intro i
  rw [show (32:Nat)=2 ^ 5 from rfl,Nat.testBit_mod_two_pow,Nat.zero_testBit,Nat.testBit_and]
  by_cases hi:i<5
  ·
   have:=low_bit m i hi
   rw [h0,Nat.zero_testBit] at this
   rw [←this,Bool.false_and,Bool.and_false]
  ·
   rw [decide_eq_false hi,Bool.false_and]
 ·
  have h1:=h.2 e
  show (m.val &&& _) / 32=0
  have h2:(m.val &&& 1 <<< (v+5).toNat)≤m.val:=Nat.and_le_left
  omega
theorem only_dr {r:Nat} {m:Fin 2048} (h:Rep r m) {v:Int} (hv : -5≤v∧v≤5) (hz:(on m v).val≠0) (hl:(LL (on m v)).length<(LL m).length) {k:Nat} (hk:20≤k) :
  ∃c,dom_Dom_Only.f k (DR r m).f0 (DR r m).f1 (DR r m).f2 (DR r m).f3 (DR r m).f4 v=some ((DR r (on m v)).f0,(DR r (on m v)).f1,(DR r (on m v)).f2,(DR r (on m v)).f3,(DR r (on m v)).f4,c):=by
 have hr:=only_rep h v
 have hne:(LL (on m v)).length≠0:=ne_all _ hz
 have fin:∀k,10≤k→∃c,((dom_made.f k (DR r (on m v)).f0 (DR r (on m v)).f1).bind fun bt=>(if bt.2.2.2.2=(DR r m).f4 then (none:Option (Int×List Int×Int×Int×Int×Int)) else (if bt.2.2.2.2=0 then none else (if bt.2.2.2.2=1 then (some (bt.1,bt.2.1,bt.2.2.1,bt.2.2.2.1,bt.2.2.2.2,3)) else (if bt.2.2.1=(DR r m).f2 then (if bt.2.2.2.1=(DR r m).f3 then (some (bt.1,bt.2.1,bt.2.2.1,bt.2.2.2.1,bt.2.2.2.2,1)) else (some (bt.1,bt.2.1,bt.2.2.1,bt.2.2.2.1,bt.2.2.2.2,2))) else (some (bt.1,bt.2.1,bt.2.2.1,bt.2.2.2.1,bt.2.2.2.2,2)))))))=some ((DR r (on m v)).f0,(DR r (on m v)).f1,(DR r (on m v)).f2,(DR r (on m v)).f3,(DR r (on m v)).f4,c):=by
  intro k hk
  rw [made_dr hr hz hk,obs_]
  simp only []
  rw [if_neg (show ¬(DR r (on m v)).f4=(DR r m).f4 from fun e=>by have:((LL (on m v)).length:Int)=((LL m).length:Int):=e;omega),if_neg (show ¬(DR r (on m v)).f4=0 from fun e=>by have:((LL (on m v)).length:Int)=0:=e;omega)]
  split
  ·
   exact ⟨3,rfl⟩
  ·
   split
   ·
    split
    ·
     exact ⟨1,rfl⟩
    ·
     exact ⟨2,rfl⟩
   ·
    exact ⟨2,rfl⟩
 obtain ⟨⟨t1,a1,b1⟩,⟨t2,a2,b2⟩⟩:=(only_at hv m 0)
 have a1':∀w,dom_Dom_Only_1.f (-64) w v=some t1:=fun w=>a1
 have a2':∀w,dom_Dom_Only_1.f 0 w v=some t2:=fun w=>a2
 unfold dom_Dom_Only.f pPairs.f slices_CloneU64.f
 obtain ⟨k,rfl⟩:∃k',k=k'+3:=⟨k - 3,by omega⟩
 have w0:wrap64 (64 * 0)=0:=by decide +kernel
 have w1:wrap64 (64 * 1)=64:=by decide +kernel
 have w2:wrap64 (0+1)=1:=by decide +kernel
 have w3:wrap64 (1+1)=2:=by decide +kernel
 have w4:wrap64 (-64+0) = -64:=by decide +kernel
 have w5:wrap64 (-64+64)=0:=by decide +kernel
 have w6:wrap64 (0+0)=0:=by decide +kernel
 by_cases h0:r=0
 ·
  obtain ⟨c,e⟩:=fin (k+1) (by omega)
  refine ⟨c,?_⟩
  have ef:(DR r m).f1=[hi m]:=by unfold DR;simp only [if_pos h0]
  have eo:(DR r m).f0=0:=by unfold DR;simp only [if_pos h0]
  have ef':(DR r (on m v)).f1=[hi (on m v)]:=by unfold DR;simp only [if_pos h0]
  have eo':(DR r (on m v)).f0=0:=by unfold DR;simp only [if_pos h0]
  rw [ef,eo,if_pos (by simp),obs_,pPairs.l0,if_pos (by simp),if_pos (by decide),if_pos (by simp),w0,w6,a2',obs_,w2]
  show (pPairs.l0 dom_Dom_Only_1.f (k+2) [Go.bits .and .u64 (hi m) t2] 1 1 0 [hi m] _ _ _ v).bind _=_
  rw [b2,pPairs.l0,ind_]
  rw [eo',ef'] at e
  rw [ef',eo']
  rw [show k+1=k+1 from rfl] at e
  have e2:=e
  rw [e2]
  rfl
 ·
  by_cases h1:r=1
  ·
   obtain ⟨c,e⟩:=fin (k+1) (by omega)
   refine ⟨c,?_⟩
   have ef:(DR r m).f1=[lo m]:=by unfold DR;simp only [if_neg h0,if_pos h1]
   have eo:(DR r m).f0 = -64:=by unfold DR;simp only [if_neg h0]
   have ef':(DR r (on m v)).f1=[lo (on m v)]:=by unfold DR;simp only [if_neg h0,if_pos h1]
   have eo':(DR r (on m v)).f0 = -64:=by unfold DR;simp only [if_neg h0]
   rw [ef,eo,if_pos (by simp),obs_,pPairs.l0,if_pos (by simp),if_pos (by decide),if_pos (by simp),w0,w4,a1',obs_,w2]
   show (pPairs.l0 dom_Dom_Only_1.f (k+2) [Go.bits .and .u64 (lo m) t1] 1 1 (-64) [lo m] _ _ _ v).bind _=_
   rw [b1,pPairs.l0,ind_]
   rw [eo',ef'] at e
   rw [ef',eo',e]
   rfl
  ·
   obtain ⟨c,e⟩:=fin k (by omega)
   refine ⟨c,?_⟩
   have ef:(DR r m).f1=[lo m,hi m]:=by unfold DR;simp only [if_neg h0,if_neg h1]
   have eo:(DR r m).f0 = -64:=by unfold DR;simp only [if_neg h0]
   have ef':(DR r (on m v)).f1=[lo (on m v),hi (on m v)]:=by unfold DR;simp only [if_neg h0,if_neg h1]
   have eo':(DR r (on m v)).f0 = -64:=by unfold DR;simp only [if_neg h0]
   rw [ef,eo,if_pos (by simp),obs_,pPairs.l0,if_pos (by simp),if_pos (by decide),if_pos (by simp),w0,w4,a1',obs_,w2]
   show (pPairs.l0 dom_Dom_Only_1.f (k+2) [Go.bits .and .u64 (lo m) t1,hi m] 2 1 (-64) [lo m,hi m] _ _ _ v).bind _=_
   rw [pPairs.l0,if_pos (by decide),if_pos (by decide),if_pos (by simp),w1,w5,a2',obs_,w3]
   show (pPairs.l0 dom_Dom_Only_1.f (k+1) [Go.bits .and .u64 (lo m) t1,Go.bits .and .u64 (hi m) t2] 2 2 (-64) [lo m,hi m] _ _ _ v).bind _=_
   rw [b1,b2,pPairs.l0,ind_]
   rw [eo',ef'] at e
   rw [ef',eo',e]
   rfl
abbrev Pd:=Nat×Fin 2048
def dp (p:Pd):S58:=DR p.1 p.2
def Fine (st:List Pd):Prop:=∀p∈st,Rep p.1 p.2∧p.2.val≠0
def isIn (v:Int) (p:Pd):Bool:=decide (v∈LL p.2)
def sg (v:Int) (p:Pd):Bool:=isIn v p&&decide ((LL p.2).length=1)
def hit (v:Int) (p:Pd):Bool:=isIn v p&&decide (1<(LL p.2).length)
def cS (v:Int) (st:List Pd):Nat:=st.countP (sg v)
def cC (v:Int) (st:List Pd):Nat:=st.countP (isIn v)
def Fw (v:Int) (p:Pd):Pd:=if hit v p=true then (p.1,wo p.2 v) else p
def Go1 (v:Int) (p:Pd):Pd:=if hit v p=true then (p.1,on p.2 v) else p
def HasOk (v:Int):Prop:=∀(r:Nat) (m:Fin 2048),Rep r m→∀a b c:Int,dom_Dom_Has.f (DR r m).f0 (DR r m).f1 a b c v=some (decide (v∈LL m))
theorem has_near {v:Int} (hv : -5≤v∧v≤5):HasOk v:=fun _ _ h a b c=>has_dr h hv a b c
theorem vals_nodup:vals.Nodup:=by decide
theorem LL_nodup (m:Fin 2048):(LL m).Nodup:=by unfold LL L;exact List.Pairwise.filter _ vals_nodup
theorem other {m:Fin 2048} (h:1<(LL m).length) (v:Int):∃u,u∈LL m∧u≠v:=by
 have hn:=LL_nodup m
 match e:LL m with
 | []=>rw [e] at h;exact absurd h (by decide)
 | [_]=>rw [e] at h;exact absurd h (by simp)
 | a::b::l =>
  rw [e] at hn
  have hab:a≠b:=(List.pairwise_cons.1 hn).1 b List.mem_cons_self
  by_cases c:a=v
  ·
   exact ⟨b,by simp,fun h=>hab (c.trans h.symm)⟩
  ·
   exact ⟨a,by simp,c⟩
theorem near_in {v:Int} {m:Fin 2048} (h:v∈LL m) : -5≤v∧v≤5:=(len_all m).2 v h
theorem hit_iff {v:Int} {p:Pd}:hit v p=true↔v∈LL p.2∧1<(LL p.2).length:=by
 unfold hit isIn
 rw [Bool.and_eq_true,decide_eq_true_iff,decide_eq_true_iff]
theorem ne_of_mem {m:Fin 2048} {u:Int} (h:u∈LL m):m.val≠0:=fun hz=>by
 have:m=⟨0,by decide⟩:=Fin.ext hz
 have h0:LL (⟨0,by decide⟩:Fin 2048)=[]:=by decide +kernel
 rw [this,h0] at h
 cases h
theorem wo_good {m:Fin 2048} {v:Int} (hv:v∈LL m) (h1:1<(LL m).length):(wo m v).val≠0∧(LL (wo m v)).length<(LL m).length:=by
 have hr:=near_in hv
 obtain ⟨u,hu,hne⟩:=other h1 v
 refine ⟨ne_of_mem ((mem_wo hr).2 ⟨hu,hne⟩),?_⟩
 rw [LL_wo hr]
 refine Nat.lt_of_le_of_ne (List.length_filter_le _ _) fun e=>?_
 have:=List.length_filter_eq_length_iff.1 e v hv
 simp at this
theorem on_good {m:Fin 2048} {v:Int} (hv:v∈LL m) (h1:1<(LL m).length):(on m v).val≠0∧(LL (on m v)).length<(LL m).length:=by
 have hr:=near_in hv
 obtain ⟨u,hu,hne⟩:=other h1 v
 refine ⟨ne_of_mem ((mem_on hr).2 ⟨hv,rfl⟩),?_⟩
 rw [LL_on hr]
 refine Nat.lt_of_le_of_ne (List.length_filter_le _ _) fun e=>?_
 have:=List.length_filter_eq_length_iff.1 e u hu
 simp at this
 exact hne this
theorem fine_F {v:Int} {p:Pd} (h:Rep p.1 p.2∧p.2.val≠0):Rep (Fw v p).1 (Fw v p).2∧(Fw v p).2.val≠0:=by
 unfold Fw
 by_cases c:hit v p=true
 ·
  rw [if_pos c]
  obtain ⟨h1,h2⟩:=hit_iff.1 c
  exact ⟨without_rep h.1 v,(wo_good h1 h2).1⟩
 ·
  rw [if_neg c];exact h
theorem fine_G {v:Int} {p:Pd} (h:Rep p.1 p.2∧p.2.val≠0):Rep (Go1 v p).1 (Go1 v p).2∧(Go1 v p).2.val≠0:=by
 unfold Go1
 by_cases c:hit v p=true
 ·
  rw [if_pos c]
  obtain ⟨h1,h2⟩:=hit_iff.1 c
  exact ⟨only_rep h.1 v,(on_good h1 h2).1⟩
 ·
  rw [if_neg c];exact h
theorem fine_map {f:Pd→Pd} (hf:∀p,Rep p.1 p.2∧p.2.val≠0→Rep (f p).1 (f p).2∧(f p).2.val≠0) {st:List Pd} (h:Fine st):Fine (st.map f):=fun q hq=>by
 obtain ⟨p,hp,rfl⟩:=List.mem_map.1 hq
 exact hf p (h p hp)
theorem mid {α:Type} (A B:List α) (a z:α):(A++a::B).getD A.length z=a:=by
 rw [List.getD_eq_getElem?_getD,List.getElem?_append_right (Nat.le_refl _),Nat.sub_self];rfl
theorem mid_map (A B:List Pd) (a:Pd) (z:S58):((A++a::B).map dp).getD A.length z=dp a:=by
 rw [List.map_append,List.map_cons]
 have:=mid (A.map dp) (B.map dp) (dp a) z
 rwa [List.length_map] at this
theorem mid_set (A B:List Pd) (a b:Pd):((A++a::B).map dp).set A.length (dp b)=((A++[b])++B).map dp:=by
 rw [List.map_append,List.map_cons,List.append_assoc,List.map_append]
 have:(A.map dp++dp a::B.map dp).set (A.map dp).length (dp b)=A.map dp++dp b::B.map dp:=by
  rw [List.set_append_right _ _ (Nat.le_refl _),Nat.sub_self];rfl
 rw [List.length_map] at this
 exact this
theorem counts_l0 {v:Int} (hV:HasOk v):∀(suf pre:List Pd) (k a b:Nat),Fine suf→(pre++suf).length≤100→a+suf.length≤1000→b+suf.length≤1000→suf.length<k →
  gcc_counts.l0 k v (a:Int) (b:Int) ((pre++suf).map dp) ((pre++suf).length:Int) (pre.length:Int)=some (((a+cS v suf:Nat):Int),((b+cC v suf:Nat):Int))
 | [],pre,k+1,a,b,_,hl,_,_,_=>by
  rw [gcc_counts.l0,if_neg (by simp)]
  simp [cS,cC]
 | p::suf,pre,k+1,a,b,hg,hl,ha,hb,hk=>by
  have hp:=hg p List.mem_cons_self
  have hs:Fine suf:=fun q hq=>hg q (List.mem_cons_of_mem _ hq)
  have hlen:pre.length<(pre++p::suf).length:=by simp
  have e1:pre++p::suf=(pre++[p])++suf:=by simp
  have hl':((pre++[p])++suf).length≤100:=by rw [←e1];exact hl
  have e2:((pre++[p]).length:Int)=wrap64 ((pre.length:Int)+1):=by rw [wsu_];simp
  rw [List.length_cons] at ha hb hk
  have step:∀a' b':Nat,a'+suf.length≤1000→b'+suf.length≤1000→gcc_counts.l0 k v (a':Int) (b':Int) ((pre++p::suf).map dp) ((pre++p::suf).length:Int) (wrap64 ((pre.length:Int)+1))=some (((a'+cS v suf:Nat):Int),((b'+cC v suf:Nat):Int)):=by
   intro a' b' h1 h2
   have h:=counts_l0 hV suf (pre++[p]) k a' b' hs hl' h1 h2 (by omega)
   rw [←e1,e2] at h
   exact h
  have hcount:∀f:Pd→Bool,(p::suf).countP f=suf.countP f+if f p=true then 1 else 0:=fun f=>List.countP_cons
  rw [gcc_counts.l0,if_pos (nlt hlen),ipo_,List.length_map,if_pos (nlt hlen),rdD_at,mid_map]
  have hh:=hV p.1 p.2 hp.1 (DR p.1 p.2).f2 (DR p.1 p.2).f3 (DR p.1 p.2).f4
  show (dom_Dom_Has.f (DR p.1 p.2).f0 (DR p.1 p.2).f1 (DR p.1 p.2).f2 (DR p.1 p.2).f3 (DR p.1 p.2).f4 v).bind _=_
  rw [hh,obs_]
  have s0:cS v (p::suf)=cS v suf+if sg v p=true then 1 else 0:=hcount _
  have c0:cC v (p::suf)=cC v suf+if isIn v p=true then 1 else 0:=hcount _
  rw [s0,c0]
  by_cases c:v∈LL p.2
  ·
   rw [if_pos (decide_eq_true c)]
   have e3:isIn v p=true:=decide_eq_true c
   show (dom_Dom_Size.f (DR p.1 p.2).f0 (DR p.1 p.2).f1 (DR p.1 p.2).f2 (DR p.1 p.2).f3 (DR p.1 p.2).f4).bind _=_
   rw [size_dr,obs_,if_pos e3]
   by_cases c1:(LL p.2).length=1
   ·
    have e4:sg v p=true:=by unfold sg;rw [e3,decide_eq_true c1];rfl
    rw [ipo_,if_pos e4,wrap_succ (j:=a) (by omega),wrap_succ (j:=b) (by omega),step (a+1) (b+1) (by omega) (by omega)]
    congr 3 <;> omega
   ·
    have e4:sg v p=false:=by unfold sg;rw [e3,decide_eq_false c1];rfl
    rw [ino_,e4,ind_,wrap_succ (j:=b) (by omega),step a (b+1) (by omega) (by omega)]
    congr 3;omega
  ·
   have e3:isIn v p=false:=decide_eq_false c
   have e4:sg v p=false:=by unfold sg;rw [e3];rfl
   rw [if_neg (by simpa using c),e3,e4,ind_,step a b (by omega) (by omega)]
   rfl
theorem counts_f {v:Int} (hV:HasOk v) (st:List Pd) (hg:Fine st) (hl:st.length≤100) {k:Nat} (hk:200≤k):gcc_counts.f k (st.map dp) v=some ((cS v st:Int),(cC v st:Int)):=by
 have h:=counts_l0 hV st [] k 0 0 hg (by simpa using hl) (by omega) (by omega) (by omega)
 unfold gcc_counts.f
 rw [List.length_map]
 simpa using h
theorem one_l1 {v:Int} (hV:HasOk v) (lo' c:Int) (N:Nat):∀(suf pre:List Pd) (k:Nat) (ch:Bool),Fine suf→(pre++suf).length=N→N≤100→suf.length+40<k →
  gcc_one.l1 k v lo' c ch (N:Int) (pre.length:Int) ((pre++suf).map dp)=some ((pre++suf.map (Go1 v)).map dp,ch||suf.any (hit v),c==lo')
 | [],pre,k+1,ch,_,hN,hl,_=>by
  rw [gcc_one.l1,if_neg (by rw [←hN];simp)]
  simp
 | p::suf,pre,k+1,ch,hg,hN,hl,hk=>by
  have hp:=hg p List.mem_cons_self
  have hs:Fine suf:=fun q hq=>hg q (List.mem_cons_of_mem _ hq)
  have hlen:pre.length<N:=by rw [←hN];simp
  have hlen2:pre.length<(pre++p::suf).length:=by simp
  rw [List.length_cons] at hk
  have step:∀(q:Pd) (ch':Bool),gcc_one.l1 k v lo' c ch' (N:Int) (wrap64 ((pre.length:Int)+1)) (((pre++[q])++suf).map dp)=some (((pre++[q])++suf.map (Go1 v)).map dp,ch'||suf.any (hit v),c==lo'):=by
   intro q ch'
   have h:=one_l1 hV lo' c N suf (pre++[q]) k ch' hs (by rw [←hN];simp) hl (by omega)
   rw [wsu_]
   simpa using h
  rw [gcc_one.l1,if_pos (nlt hlen),ipo_,List.length_map,if_pos (nlt hlen2),rdD_at,mid_map]
  have hh:=hV p.1 p.2 hp.1 (DR p.1 p.2).f2 (DR p.1 p.2).f3 (DR p.1 p.2).f4
  show (dom_Dom_Has.f (DR p.1 p.2).f0 (DR p.1 p.2).f1 (DR p.1 p.2).f2 (DR p.1 p.2).f3 (DR p.1 p.2).f4 v).bind _=_
  rw [hh,obs_,List.map_cons,List.any_cons]
  have same:hit v p=false→gcc_one.l1 k v lo' c ch (N:Int) (wrap64 ((pre.length:Int)+1)) ((pre++p::suf).map dp)=some ((pre++Go1 v p::suf.map (Go1 v)).map dp,ch||(hit v p||suf.any (hit v)),c==lo'):=by
   intro h0
   have e:Go1 v p=p:=by unfold Go1;rw [h0,ind_]
   have h:=step p ch
   rw [h0,Bool.false_or,e]
   simpa using h
  by_cases cv:v∈LL p.2
  ·
   rw [if_pos (decide_eq_true cv)]
   show (dom_Dom_Size.f (DR p.1 p.2).f0 (DR p.1 p.2).f1 (DR p.1 p.2).f2 (DR p.1 p.2).f3 (DR p.1 p.2).f4).bind _=_
   rw [size_dr,obs_]
   by_cases c1:1<(LL p.2).length
   ·
    have h1:hit v p=true:=hit_iff.2 ⟨cv,c1⟩
    obtain ⟨g1,g2⟩:=on_good cv c1
    obtain ⟨cc,e⟩:=only_dr hp.1 (near_in cv) g1 g2 (k:=k) (by omega)
    rw [ipo_]
    show (dom_Dom_Only.f k (DR p.1 p.2).f0 (DR p.1 p.2).f1 (DR p.1 p.2).f2 (DR p.1 p.2).f3 (DR p.1 p.2).f4 v).bind _=_
    rw [e,obs_,h1]
    have e2:Go1 v p=(p.1,on p.2 v):=by unfold Go1;rw [if_pos h1]
    have h:=step (Go1 v p) true
    have e7:(pre++[Go1 v p])++suf.map (Go1 v)=pre++Go1 v p::suf.map (Go1 v):=by simp
    rw [←mid_set pre suf p (Go1 v p),e7,Bool.true_or,e2] at h
    have h2:(((pre.length:Int)).toNat)=pre.length:=Int.toNat_natCast _
    rw [e2,h2,Bool.true_or,Bool.or_true]
    exact h
   ·
    rw [ino_]
    exact same (by unfold hit;rw [decide_eq_false c1,Bool.and_false])
  ·
   rw [if_neg (by simpa using cv)]
   exact same (by unfold hit isIn;rw [decide_eq_false cv,Bool.false_and])
theorem one_l0 {v:Int} (hV:HasOk v) (lo' hi' s:Int) (N:Nat):∀(suf pre:List Pd) (k:Nat) (ch:Bool),Fine suf→(pre++suf).length=N→N≤100→suf.length+40<k →
  ∃k',k'+suf.length+1=k∧gcc_one.l0 k v lo' hi' s ch (N:Int) (pre.length:Int) ((pre++suf).map dp)=(gcc_counts.f k' ((pre++(if s=hi' then suf.map (Fw v) else suf)).map dp) v).bind fun bt=>(if bt.2>lo' then some ((pre++(if s=hi' then suf.map (Fw v) else suf)).map dp,ch||(decide (s=hi')&&suf.any (hit v)),true) else gcc_one.l1 k' v lo' bt.2 (ch||(decide (s=hi')&&suf.any (hit v))) (((pre++(if s=hi' then suf.map (Fw v) else suf)).map dp).length:Int) 0 ((pre++(if s=hi' then suf.map (Fw v) else suf)).map dp))
 | [],pre,k+1,ch,_,hN,hl,_=>by
  refine ⟨k,rfl,?_⟩
  rw [gcc_one.l0,if_neg (by rw [←hN];simp)]
  simp
 | p::suf,pre,k+1,ch,hg,hN,hl,hk=>by
  have hp:=hg p List.mem_cons_self
  have hs:Fine suf:=fun q hq=>hg q (List.mem_cons_of_mem _ hq)
  have hlen:pre.length<N:=by rw [←hN];simp
  have hlen2:pre.length<(pre++p::suf).length:=by simp
  rw [List.length_cons] at hk
  rw [gcc_one.l0,if_pos (nlt hlen),ipo_,List.length_map,if_pos (nlt hlen2),rdD_at,mid_map,wsu_]
  have step:∀(q:Pd) (ch':Bool),∃k',k'+suf.length+1=k∧gcc_one.l0 k v lo' hi' s ch' (N:Int) ((pre.length+1:Nat):Int) ((pre++q::suf).map dp)=(gcc_counts.f k' ((pre++q::(if s=hi' then suf.map (Fw v) else suf)).map dp) v).bind fun bt=>(if bt.2>lo' then some ((pre++q::(if s=hi' then suf.map (Fw v) else suf)).map dp,ch'||(decide (s=hi')&&suf.any (hit v)),true) else gcc_one.l1 k' v lo' bt.2 (ch'||(decide (s=hi')&&suf.any (hit v))) (((pre++q::(if s=hi' then suf.map (Fw v) else suf)).map dp).length:Int) 0 ((pre++q::(if s=hi' then suf.map (Fw v) else suf)).map dp)):=by
   intro q ch'
   obtain ⟨k',h1,h2⟩:=one_l0 hV lo' hi' s N suf (pre++[q]) k ch' hs (by rw [←hN];simp) hl (by omega)
   refine ⟨k',h1,?_⟩
   have ea:∀X:List Pd,(pre++[q])++X=pre++q::X:=fun X=>by simp
   rw [ea,ea] at h2
   rw [←h2]
   simp
  by_cases cs:s=hi'
  ·
   rw [if_pos cs,if_pos cs,decide_eq_true cs,Bool.true_and,List.map_cons,List.any_cons]
   simp only [if_pos cs,decide_eq_true cs,Bool.true_and] at step
   have same:hit v p=false→∃k',k'+(suf.length+1)+1=k+1∧gcc_one.l0 k v lo' hi' s ch (N:Int) ((pre.length+1:Nat):Int) ((pre++p::suf).map dp)=(gcc_counts.f k' ((pre++Fw v p::suf.map (Fw v)).map dp) v).bind fun bt=>(if bt.2>lo' then some ((pre++Fw v p::suf.map (Fw v)).map dp,ch||(hit v p||suf.any (hit v)),true) else gcc_one.l1 k' v lo' bt.2 (ch||(hit v p||suf.any (hit v))) (((pre++Fw v p::suf.map (Fw v)).map dp).length:Int) 0 ((pre++Fw v p::suf.map (Fw v)).map dp)):=by
    intro h0
    have e:Fw v p=p:=by unfold Fw;rw [h0,ind_]
    obtain ⟨k',h1,h2⟩:=step p ch
    exact ⟨k',by omega,by rw [e,h0,Bool.false_or];exact h2⟩
   have hh:=hV p.1 p.2 hp.1 (DR p.1 p.2).f2 (DR p.1 p.2).f3 (DR p.1 p.2).f4
   show ∃k',_∧(dom_Dom_Has.f (DR p.1 p.2).f0 (DR p.1 p.2).f1 (DR p.1 p.2).f2 (DR p.1 p.2).f3 (DR p.1 p.2).f4 v).bind _=_
   rw [hh,obs_]
   by_cases cv:v∈LL p.2
   ·
    rw [if_pos (decide_eq_true cv)]
    show ∃k',_∧(dom_Dom_Size.f (DR p.1 p.2).f0 (DR p.1 p.2).f1 (DR p.1 p.2).f2 (DR p.1 p.2).f3 (DR p.1 p.2).f4).bind _=_
    rw [size_dr,obs_]
    by_cases c1:1<(LL p.2).length
    ·
     have h1:hit v p=true:=hit_iff.2 ⟨cv,c1⟩
     obtain ⟨g1,g2⟩:=wo_good cv c1
     obtain ⟨cc,e⟩:=without_dr hp.1 (near_in cv) g1 g2 (k:=k) (by omega)
     rw [ipo_]
     show ∃k',_∧(dom_Dom_Without.f k (DR p.1 p.2).f0 (DR p.1 p.2).f1 (DR p.1 p.2).f2 (DR p.1 p.2).f3 (DR p.1 p.2).f4 v).bind _=_
     rw [e,obs_,h1,Bool.true_or]
     have e2:Fw v p=(p.1,wo p.2 v):=by unfold Fw;rw [if_pos h1]
     obtain ⟨k',h3,h4⟩:=step (Fw v p) true
     have h5:=mid_set pre suf p (Fw v p)
     refine ⟨k',by simp only [List.length_cons];omega,?_⟩
     rw [Bool.or_true]
     have e6:(pre++[Fw v p])++suf=pre++Fw v p::suf:=by simp
     rw [e6] at h5
     rw [←h5] at h4
     have h2:(((pre.length:Int)).toNat)=pre.length:=Int.toNat_natCast _
     rw [h2]
     rw [Bool.true_or,e2] at h4
     rw [e2]
     exact h4
    ·
     rw [ino_]
     exact same (by unfold hit;rw [decide_eq_false c1,Bool.and_false])
   ·
    rw [if_neg (by simpa using cv)]
    exact same (by unfold hit isIn;rw [decide_eq_false cv,Bool.false_and])
  ·
   rw [if_neg cs]
   obtain ⟨k',h1,h2⟩:=step p ch
   refine ⟨k',by simp only [List.length_cons];omega,?_⟩
   simp only [if_neg cs,decide_eq_false cs,Bool.false_and] at h2 ⊢
   exact h2
theorem and_high (x:Nat) (hx:x<18446744073709551616):x &&& 18446744073709551552=x / 64 * 64:=by
 have e:(18446744073709551552:Nat)=(2 ^ 58 - 1) * 2 ^ 6:=by decide
 apply Nat.eq_of_testBit_eq
 intro i
 rw [Nat.testBit_and,e,show x / 64 * 64=(x / 2 ^ 6) * 2 ^ 6 from rfl,Nat.testBit_mul_two_pow,Nat.testBit_mul_two_pow,Nat.testBit_two_pow_sub_one,Nat.testBit_div_two_pow]
 by_cases h6:6≤i
 ·
  rw [decide_eq_true h6,Bool.true_and,Bool.true_and,show i - 6+6=i by omega]
  by_cases h64:i - 6<58
  ·
   rw [decide_eq_true h64,Bool.and_true]
  ·
   have:x.testBit i=false:=Nat.testBit_lt_two_pow (Nat.lt_of_lt_of_le hx (by rw [show (18446744073709551616:Nat)=2 ^ 64 from rfl];exact Nat.pow_le_pow_right (by decide) (by omega)))
   rw [this,Bool.false_and]
 ·
  rw [decide_eq_false h6,Bool.false_and,Bool.false_and,Bool.and_false]
theorem place_gen {v:Int} (hv : -1000000≤v∧v≤1000000):dom_place.f v=some (v / 64 * 64):=by
 unfold dom_place.f
 congr 1
 show IntKind.i64.wrap ((BitVec.ofInt 64 v &&& ~~~BitVec.ofInt 64 63).toNat:Int)=_
 have e1:(BitVec.ofInt 64 v).toNat=(v%18446744073709551616).toNat:=by rw [BitVec.toNat_ofInt];rfl
 have e2:(~~~BitVec.ofInt 64 63).toNat=18446744073709551552:=by decide
 have hlt:(v%18446744073709551616).toNat<18446744073709551616:=by omega
 rw [BitVec.toNat_and,e1,e2,and_high _ hlt]
 rw [IntKind.wrap_i64]
 obtain ⟨x,hx⟩:∃x:Nat,x=(v%18446744073709551616).toNat:=⟨_,rfl⟩
 rw [←hx]
 have hx2:(x:Int)=v%18446744073709551616:=by omega
 have e3:((x / 64 * 64:Nat):Int)=(x:Int) / 64 * 64:=by omega
 rw [e3,hx2]
 omega
theorem has_far {r:Nat} {m:Fin 2048} (h:Rep r m) {v:Int} (hf:v < -5∨5<v) (a b c:Int):dom_Dom_Has.f (DR r m).f0 (DR r m).f1 a b c v=some false:=by
 unfold dom_Dom_Has.f
 by_cases hv : -1000000≤v∧v≤1000000
 ·
  have hin:dom_in.f v=some true:=by unfold dom_in.f;rw [ipo_,decide_eq_true (by omega)]
  have hw:wrap64 (v - v / 64 * 64)=v%64:=by rw [wrap_id (by omega) (by omega)];omega
  rw [hin,obs_,if_pos rfl,place_gen hv,obs_]
  have key:∃x:Int,dom_Dom_word.f (DR r m).f0 (DR r m).f1 a b c (v / 64 * 64)=some x∧(Go.bits .and .u64 (shr .u64 x (v%64)) 1==1)=false:=by
   by_cases c1:v / 64 * 64=0
   ·
    refine ⟨hi m,by rw [c1];exact word_hi h a b c,?_⟩
    have hb:=bit_far_hi ⟨m.val / 32,hi_lt m⟩ ⟨(v - 6).toNat,by omega⟩
    simp only [] at hb
    have e:v%64=(((v - 6).toNat:Nat):Int)+6:=by omega
    rw [e];exact hb
   ·
    by_cases c2:v / 64 * 64 = -64
    ·
     refine ⟨lo m,by rw [c2];exact word_lo h a b c,?_⟩
     have hb:=bit_far_lo ⟨m.val%32,Nat.mod_lt _ (by decide)⟩ ⟨(v+64).toNat,by omega⟩
     simp only [] at hb
     have e:v%64=(((v+64).toNat:Nat):Int):=by omega
     rw [e];exact hb
    ·
     refine ⟨0,?_,?_⟩
     ·
      unfold dom_Dom_word.f
      have hoff:(DR r m).f0=0∨(DR r m).f0 = -64:=by unfold DR;simp only [];split <;> simp
      have hlen:((DR r m).f1.length:Int)≤(if (DR r m).f0=0 then 1 else 2):=by unfold DR;simp only [];by_cases g0:r=0 <;> by_cases g1:r=1 <;> simp [g0,g1]
      by_cases c3:v / 64 * 64<(DR r m).f0
      ·
       rw [if_pos c3]
      ·
       have q1:wrap64 (v / 64 * 64 - (DR r m).f0)=v / 64 * 64 - (DR r m).f0:=wrap_id (by omega) (by omega)
       have q2:Int.tdiv (v / 64 * 64 - (DR r m).f0) 64=(v / 64 * 64 - (DR r m).f0) / 64:=Int.tdiv_eq_ediv_of_nonneg (by omega)
       have q3:wrap64 ((v / 64 * 64 - (DR r m).f0) / 64)=(v / 64 * 64 - (DR r m).f0) / 64:=wrap_id (by omega) (by omega)
       rw [if_neg c3,q1,q2,q3,if_pos (by rcases hoff with g | g <;> rw [g] at hlen c3 ⊢ <;> simp at hlen <;> omega)]
     ·
      have hz:∀j:Fin 64,(Go.bits .and .u64 (shr .u64 0 (j.val:Int)) 1==1)=false:=by decide +kernel
      have hj:=hz ⟨(v%64).toNat,by omega⟩
      simp only [] at hj
      have e:v%64=(((v%64).toNat:Nat):Int):=by omega
      rw [e];exact hj
  obtain ⟨x,k1,k2⟩:=key
  rw [k1,obs_,obs_,hw,ipo_,k2]
 ·
  have hin:dom_in.f v=some false:=by
   unfold dom_in.f
   by_cases c:v ≥ -1000000
   ·
    rw [if_pos c,decide_eq_false (by omega)]
   ·
    rw [if_neg c]
  rw [hin,obs_,ind_]
theorem has_ok (v:Int):HasOk v:=by
 by_cases hv : -5≤v∧v≤5
 ·
  exact has_near hv
 ·
  intro r m h a b c
  rw [has_far h (by omega),decide_eq_false]
  exact fun hm=>hv (near_in hm)
def st1 (v hi':Int) (st:List Pd):List Pd:=if (cS v st:Int)=hi' then st.map (Fw v) else st
def one1 (v lo' hi':Int) (st:List Pd):Option (List Pd×Bool) :=
 if (cS v st:Int)>hi'∨(cC v st:Int)<lo' then none
 else if (cC v (st1 v hi' st):Int)>lo' then some (st1 v hi' st,decide ((cS v st:Int)=hi')&&st.any (hit v))
 else if (cC v (st1 v hi' st):Int)=lo' then some ((st1 v hi' st).map (Go1 v),(decide ((cS v st:Int)=hi')&&st.any (hit v))||(st1 v hi' st).any (hit v))
 else none
theorem fine_st1 {v hi':Int} {st:List Pd} (h:Fine st):Fine (st1 v hi' st):=by
 unfold st1
 split
 ·
  exact fine_map (fun _=>fine_F) h
 ·
  exact h
theorem st1_len (v hi':Int) (st:List Pd):(st1 v hi' st).length=st.length:=by
 unfold st1
 split <;> simp
theorem one1_fine {v lo' hi':Int} {st st':List Pd} {ch:Bool} (h:Fine st) (e:one1 v lo' hi' st=some (st',ch)):Fine st'∧st'.length=st.length:=by
 unfold one1 at e
 split at e
 ·
  cases e
 ·
  split at e
  ·
   obtain ⟨rfl,_⟩:=Prod.mk.inj (Option.some.inj e)
   exact ⟨fine_st1 h,st1_len _ _ _⟩
  ·
   split at e
   ·
    obtain ⟨rfl,_⟩:=Prod.mk.inj (Option.some.inj e)
    exact ⟨fine_map (fun _=>fine_G) (fine_st1 h),by rw [List.length_map,st1_len]⟩
   ·
    cases e
theorem one_f {v:Int} (hV:HasOk v) (lo' hi':Int) (st:List Pd) (hg:Fine st) (hl:st.length≤100) {k:Nat} (hk:400≤k) :
  (one1 v lo' hi' st=none∧∃X c,gcc_one.f k (st.map dp) v lo' hi'=some (X,c,false))∨(∃st' ch,one1 v lo' hi' st=some (st',ch)∧gcc_one.f k (st.map dp) v lo' hi'=some (st'.map dp,ch,true)):=by
 have hc:=counts_f hV st hg hl (k:=k) (by omega)
 obtain ⟨k,rfl⟩:∃k',k=k'+1:=⟨k - 1,by omega⟩
 have e0:gcc_one.f (k+1) (st.map dp) v lo' hi'=if (cS v st:Int)>hi'∨(cC v st:Int)<lo' then some (st.map dp,false,false) else gcc_one.l0 k v lo' hi' (cS v st:Int) false ((st.map dp).length:Int) 0 (st.map dp):=by
  unfold gcc_one.f
  rw [hc,obs_]
  by_cases c1:(cS v st:Int)>hi'
  ·
   rw [if_pos c1,if_pos (.inl c1),gcc_one.j0,if_pos rfl]
  ·
   rw [if_neg c1]
   by_cases c2:(cC v st:Int)<lo'
   ·
    rw [if_pos (.inr c2),decide_eq_true c2,gcc_one.j0,if_pos rfl]
   ·
    rw [if_neg (fun h=>h.elim c1 c2),decide_eq_false c2,gcc_one.j0,ind_]
 rw [e0]
 unfold one1
 by_cases c:(cS v st:Int)>hi'∨(cC v st:Int)<lo'
 ·
  rw [if_pos c,if_pos c]
  exact .inl ⟨rfl,_,_,rfl⟩
 ·
  rw [if_neg c,if_neg c]
  obtain ⟨k',h1,h2⟩:=one_l0 hV lo' hi' (cS v st:Int) st.length st [] k false hg rfl hl (by omega)
  simp only [List.nil_append] at h2
  have e1:(if (cS v st:Int)=hi' then st.map (Fw v) else st)=st1 v hi' st:=rfl
  rw [e1] at h2
  have hlen:((st.map dp).length:Int)=(st.length:Int):=by simp
  have h2':=(show gcc_one.l0 k v lo' hi' (cS v st:Int) false ((st.map dp).length:Int) 0 (st.map dp)=gcc_one.l0 k v lo' hi' (cS v st:Int) false ((st.length:Nat):Int) ((([]:List Pd).length:Nat):Int) (st.map dp) by rw [hlen];rfl).trans h2
  rw [h2',counts_f hV (st1 v hi' st) (fine_st1 hg) (by rw [st1_len];exact hl) (by omega),obs_,Bool.false_or]
  simp only []
  by_cases d:(cC v (st1 v hi' st):Int)>lo'
  ·
   rw [if_pos d,if_pos d]
   exact .inr ⟨_,_,rfl,rfl⟩
  ·
   rw [if_neg d,if_neg d]
   have h3:=one_l1 hV lo' (cC v (st1 v hi' st):Int) (st1 v hi' st).length (st1 v hi' st) [] k' (decide ((cS v st:Int)=hi')&&st.any (hit v)) (fine_st1 hg) rfl (by rw [st1_len];exact hl) (by rw [st1_len];omega)
   simp only [List.nil_append] at h3
   have hlen2:(((st1 v hi' st).map dp).length:Int)=((st1 v hi' st).length:Int):=by simp
   have h3':=(show gcc_one.l1 k' v lo' (cC v (st1 v hi' st):Int) (decide ((cS v st:Int)=hi')&&st.any (hit v)) (((st1 v hi' st).map dp).length:Int) 0 ((st1 v hi' st).map dp)=gcc_one.l1 k' v lo' (cC v (st1 v hi' st):Int) (decide ((cS v st:Int)=hi')&&st.any (hit v)) ((st1 v hi' st).length:Int) ((([]:List Pd).length:Nat):Int) ((st1 v hi' st).map dp) by rw [hlen2];rfl).trans h3
   rw [h3']
   by_cases f:(cC v (st1 v hi' st):Int)=lo'
   ·
    rw [if_pos f,f,beq_self_eq_true]
    exact .inr ⟨_,_,rfl,rfl⟩
   ·
    rw [if_neg f,beq_eq_false_iff_ne.2 f]
    exact .inl ⟨rfl,_,_,rfl⟩
def wt (st:List Pd):Nat:=(st.map fun p=>(LL p.2).length).sum
theorem wt_cons (p:Pd) (st:List Pd):wt (p::st)=(LL p.2).length+wt st:=by simp [wt]
theorem wt_map {f:Pd→Pd} {h:Pd→Bool} (hf:∀p,h p=false→f p=p) (hf2:∀p,h p=true→(LL (f p).2).length<(LL p.2).length):∀st:List Pd,wt (st.map f)≤wt st∧(st.any h=true→wt (st.map f)<wt st)∧(st.any h=false→st.map f=st)
 | []=>⟨Nat.le_refl _,fun h=>by simp at h,fun _=>rfl⟩
 | p::st=>by
  obtain ⟨h1,h2,h3⟩:=wt_map hf hf2 st
  rw [List.map_cons,wt_cons,wt_cons,List.any_cons]
  by_cases c:h p=true
  ·
   have:=hf2 p c
   refine ⟨by omega,fun _=>by omega,fun e=>?_⟩
   rw [c] at e;cases e
  ·
   have c':h p=false:=by simpa using c
   rw [c',Bool.false_or,hf p c']
   exact ⟨by omega,fun e=>by have:=h2 e;omega,fun e=>by rw [h3 e]⟩
theorem wt_F (v:Int) (st:List Pd):wt (st.map (Fw v))≤wt st∧(st.any (hit v)=true→wt (st.map (Fw v))<wt st)∧(st.any (hit v)=false→st.map (Fw v)=st):=wt_map (f:=Fw v) (h:=hit v) (fun p h=>by unfold Fw;rw [h,ind_]) (fun p h=>by
 unfold Fw;rw [if_pos h];obtain ⟨h1,h2⟩:=hit_iff.1 h;exact (wo_good h1 h2).2) st
theorem wt_G (v:Int) (st:List Pd):wt (st.map (Go1 v))≤wt st∧(st.any (hit v)=true→wt (st.map (Go1 v))<wt st)∧(st.any (hit v)=false→st.map (Go1 v)=st):=wt_map (f:=Go1 v) (h:=hit v) (fun p h=>by unfold Go1;rw [h,ind_]) (fun p h=>by
 unfold Go1;rw [if_pos h];obtain ⟨h1,h2⟩:=hit_iff.1 h;exact (on_good h1 h2).2) st
theorem wt_st1 (v hi':Int) (st:List Pd):wt (st1 v hi' st)≤wt st∧((decide ((cS v st:Int)=hi')&&st.any (hit v))=true→wt (st1 v hi' st)<wt st)∧((decide ((cS v st:Int)=hi')&&st.any (hit v))=false→st1 v hi' st=st):=by
 unfold st1
 by_cases c:(cS v st:Int)=hi'
 ·
  rw [if_pos c,decide_eq_true c,Bool.true_and]
  exact wt_F v st
 ·
  rw [if_neg c,decide_eq_false c,Bool.false_and]
  exact ⟨Nat.le_refl _,fun h=>(by cases h),fun _=>rfl⟩
theorem one1_wt {v lo' hi':Int} {st st':List Pd} {ch:Bool} (e:one1 v lo' hi' st=some (st',ch)):wt st'≤wt st∧(ch=true→wt st'<wt st)∧(ch=false→st'=st):=by
 obtain ⟨a1,a2,a3⟩:=wt_st1 v hi' st
 unfold one1 at e
 split at e
 ·
  cases e
 ·
  split at e
  ·
   obtain ⟨rfl,rfl⟩:=Prod.mk.inj (Option.some.inj e)
   exact ⟨a1,a2,a3⟩
  ·
   split at e
   ·
    obtain ⟨rfl,rfl⟩:=Prod.mk.inj (Option.some.inj e)
    obtain ⟨b1,b2,b3⟩:=wt_G v (st1 v hi' st)
    refine ⟨by omega,fun h=>?_,fun h=>?_⟩
    ·
     rw [Bool.or_eq_true] at h
     rcases h with h | h
     ·
      have:=a2 h;omega
     ·
      have:=b2 h;omega
    ·
     rw [Bool.or_eq_false_iff] at h
     rw [b3 h.2,a3 h.1]
   ·
    cases e
def rnd:List (Int×Int×Int)→List Pd→Bool→Option (List Pd×Bool)
 | [],st,ch=>some (st,ch)
 | t::T,st,ch=>match one1 t.1 t.2.1 t.2.2 st with
  | none=>none
  | some r=>rnd T r.1 (ch||r.2)
theorem rnd_fine:∀(T:List (Int×Int×Int)) {st st':List Pd} {ch ch':Bool},Fine st→rnd T st ch=some (st',ch')→Fine st'∧st'.length=st.length
 | [],st,st',ch,ch',h,e=>by
  obtain ⟨rfl,_⟩:=Prod.mk.inj (Option.some.inj e)
  exact ⟨h,rfl⟩
 | t::T,st,st',ch,ch',h,e=>by
  unfold rnd at e
  split at e
  ·
   cases e
  ·
   rename_i r hr
   obtain ⟨g1,g2⟩:=one1_fine (st':=r.1) (ch:=r.2) h hr
   obtain ⟨g3,g4⟩:=rnd_fine T g1 e
   exact ⟨g3,g4.trans g2⟩
theorem rnd_wt:∀(T:List (Int×Int×Int)) {st st':List Pd} {ch':Bool},rnd T st false=some (st',ch')→wt st'≤wt st∧(ch'=true→wt st'<wt st)∧(ch'=false→st'=st):=by
 have key:∀(T:List (Int×Int×Int)) {st st':List Pd} {ch ch':Bool},rnd T st ch=some (st',ch')→wt st'≤wt st∧(ch=true→ch'=true)∧(ch=false→ch'=true→wt st'<wt st)∧(ch'=false→st'=st):=by
  intro T
  induction T with
  | nil =>
   intro st st' ch ch' e
   obtain ⟨rfl,rfl⟩:=Prod.mk.inj (Option.some.inj e)
   exact ⟨Nat.le_refl _,id,fun h1 h2=>(by rw [h1] at h2;cases h2),fun _=>rfl⟩
  | cons t T ih =>
   intro st st' ch ch' e
   unfold rnd at e
   split at e
   ·
    cases e
   ·
    rename_i r hr
    obtain ⟨a1,a2,a3⟩:=one1_wt (st':=r.1) (ch:=r.2) hr
    obtain ⟨b1,b2,b3,b4⟩:=ih e
    refine ⟨by omega,fun h=>b2 (by rw [h,Bool.true_or]),fun h1 h2=>?_,fun h=>?_⟩
    ·
     subst h1
     cases hr2:r.2 with
     | true=>have:=a2 hr2;omega
     | false =>
      have:=b3 (by rw [hr2];rfl) h2
      omega
    ·
     have h3:=b4 h
     cases hr2:r.2 with
     | true =>
      have:=b2 (by rw [hr2,Bool.or_true])
      rw [h] at this;cases this
     | false=>rw [h3,a3 hr2]
 intro T st st' ch' e
 obtain ⟨h1,_,h3,h4⟩:=key T e
 exact ⟨h1,h3 rfl,h4⟩
def fil (T:List (Int×Int×Int)):Nat→List Pd→Option (List Pd)
 | 0,_=>none
 | n+1,st=>match rnd T st false with
  | none=>none
  | some r=>if r.2=true then fil T n r.1 else some r.1
def outP:Option (List Pd)→List S58×Bool
 | none=>([],false)
 | some st=>(st.map dp,true)
abbrev Cs (T:List (Int×Int×Int)):List Int:=T.map fun t=>t.1
abbrev Ds (T:List (Int×Int×Int)):List Int:=T.map fun t=>t.2.1
abbrev Es (T:List (Int×Int×Int)):List Int:=T.map fun t=>t.2.2
theorem mid_g {β:Type} (f:Int×Int×Int→β) (A B:List (Int×Int×Int)) (a:Int×Int×Int) (z:β):((A++a::B).map f).getD A.length z=f a:=by
 rw [List.map_append,List.map_cons]
 have:=mid (A.map f) (B.map f) (f a) z
 rwa [List.length_map] at this
theorem prog_l1 (kd:Int) (A B:List Int) (K:Int) (R:List (List Int)) (T0:List (Int×Int×Int)) (hT:∀t∈T0,HasOk t.1) (h0:T0.length≤100):∀(suf pre:List (Int×Int×Int)) (st:List Pd) (ch:Bool) (k:Nat),T0=pre++suf→Fine st→st.length≤100→suf.length+410<k →
  (rnd suf st ch=none∧gcc_Filter.l1 k (st.map dp) ch (Cs T0) ((Cs T0).length:Int) (pre.length:Int) kd A B (Cs T0) (Ds T0) (Es T0) K R=some ([],false)) ∨
  ∃st' ch' k',rnd suf st ch=some (st',ch')∧k'+suf.length+1=k∧gcc_Filter.l1 k (st.map dp) ch (Cs T0) ((Cs T0).length:Int) (pre.length:Int) kd A B (Cs T0) (Ds T0) (Es T0) K R=if ch'=true then gcc_Filter.l0 k' (st'.map dp) kd A B (Cs T0) (Ds T0) (Es T0) K R else some (st'.map dp,true)
 | [],pre,st,ch,k+1,e,_,_,_=>by
  refine .inr ⟨st,ch,k,rfl,rfl,?_⟩
  rw [gcc_Filter.l1,if_neg (by rw [List.length_map,e];simp)]
 | t::suf,pre,st,ch,k+1,e,hg,hl,hk=>by
  rw [List.length_cons] at hk
  have hlen:pre.length<T0.length:=by rw [e];simp
  have c1:pre.length<(Cs T0).length:=by rw [List.length_map];exact hlen
  have c2:pre.length<(Ds T0).length:=by rw [List.length_map];exact hlen
  have c3:pre.length<(Es T0).length:=by rw [List.length_map];exact hlen
  have g1:(Cs T0).getD pre.length 0=t.1:=by rw [e];exact mid_g _ pre suf t 0
  have g2:(Ds T0).getD pre.length 0=t.2.1:=by rw [e];exact mid_g _ pre suf t 0
  have g3:(Es T0).getD pre.length 0=t.2.2:=by rw [e];exact mid_g _ pre suf t 0
  have hV:=hT t (by rw [e];simp)
  rw [gcc_Filter.l1,if_pos (nlt c1),ipo_,if_pos (nlt c1),if_pos (nlt c2),if_pos (nlt c3),rd_at,rd_at,rd_at,g1,g2,g3,wsu_]
  rcases one_f hV t.2.1 t.2.2 st hg hl (k:=k) (by omega) with ⟨e1,X,c,e2⟩ | ⟨st',ch',e1,e2⟩
  ·
   refine .inl ⟨by unfold rnd;rw [e1],?_⟩
   rw [e2,obs_,if_neg (by simp)]
  ·
   obtain ⟨f1,f2⟩:=one1_fine hg e1
   have er:rnd (t::suf) st ch=rnd suf st' (ch||ch'):=by
    conv=>lhs;unfold rnd
    rw [e1]
   rw [e2,obs_,if_pos rfl,er]
   have h:=prog_l1 kd A B K R T0 hT h0 suf (pre++[t]) st' (ch||ch') k (by rw [e];simp) f1 (by omega) (by omega)
   have el:((pre++[t]).length:Int)=((pre.length+1:Nat):Int):=by simp
   rw [el] at h
   have ew:(if ch=true then gcc_Filter.l1 k (st'.map dp) true (Cs T0) ((Cs T0).length:Int) ((pre.length+1:Nat):Int) kd A B (Cs T0) (Ds T0) (Es T0) K R else gcc_Filter.l1 k (st'.map dp) ch' (Cs T0) ((Cs T0).length:Int) ((pre.length+1:Nat):Int) kd A B (Cs T0) (Ds T0) (Es T0) K R)=gcc_Filter.l1 k (st'.map dp) (ch||ch') (Cs T0) ((Cs T0).length:Int) ((pre.length+1:Nat):Int) kd A B (Cs T0) (Ds T0) (Es T0) K R:=by
    cases ch <;> rfl
   show (_∧(if ch=true then gcc_Filter.l1 k (st'.map dp) true (Cs T0) ((Cs T0).length:Int) ((pre.length+1:Nat):Int) kd A B (Cs T0) (Ds T0) (Es T0) K R else gcc_Filter.l1 k (st'.map dp) ch' (Cs T0) ((Cs T0).length:Int) ((pre.length+1:Nat):Int) kd A B (Cs T0) (Ds T0) (Es T0) K R)=_)∨∃st'' ch'' k',_∧_∧(if ch=true then gcc_Filter.l1 k (st'.map dp) true (Cs T0) ((Cs T0).length:Int) ((pre.length+1:Nat):Int) kd A B (Cs T0) (Ds T0) (Es T0) K R else gcc_Filter.l1 k (st'.map dp) ch' (Cs T0) ((Cs T0).length:Int) ((pre.length+1:Nat):Int) kd A B (Cs T0) (Ds T0) (Es T0) K R)=_
   rw [ew]
   rcases h with h | ⟨st'',ch'',k',h1,h2,h3⟩
   ·
    exact .inl h
   ·
    exact .inr ⟨st'',ch'',k',h1,by rw [List.length_cons];omega,h3⟩
theorem prog_l0 (kd:Int) (A B:List Int) (K:Int) (R:List (List Int)) (T0:List (Int×Int×Int)) (hT:∀t∈T0,HasOk t.1) (h0:T0.length≤100):∀(n:Nat) (st:List Pd) (k:Nat),Fine st→st.length≤100→wt st<n→n * 110+500<k →
  gcc_Filter.l0 k (st.map dp) kd A B (Cs T0) (Ds T0) (Es T0) K R=some (outP (fil T0 n st))
 | n+1,st,k+1,hg,hl,hw,hk=>by
  have h:=prog_l1 kd A B K R T0 hT h0 T0 [] st false k rfl hg hl (by omega)
  rw [gcc_Filter.l0]
  unfold fil
  rcases h with ⟨e1,e2⟩ | ⟨st',ch',k',e1,e2,e3⟩
  ·
   rw [e1]
   exact e2
  ·
   rw [e1]
   obtain ⟨w1,w2,w3⟩:=rnd_wt T0 e1
   obtain ⟨f1,f2⟩:=rnd_fine T0 hg e1
   refine e3.trans ?_
   simp only []
   cases ch' with
   | false=>rw [ind_,ind_];rfl
   | true =>
    rw [if_pos rfl,if_pos rfl]
    have:=w2 rfl
    exact prog_l0 kd A B K R T0 hT h0 n st' k' f1 (by omega) (by omega) (by omega)
theorem fil_fine (T:List (Int×Int×Int)):∀(n:Nat) (st st':List Pd),Fine st→fil T n st=some st'→Fine st'∧st'.length=st.length
 | 0,st,st',_,e=>by cases e
 | n+1,st,st',hg,e=>by
  unfold fil at e
  split at e
  ·
   cases e
  ·
   rename_i r hr
   have hr':rnd T st false=some (r.1,r.2):=hr
   obtain ⟨f1,f2⟩:=rnd_fine T hg hr'
   split at e
   ·
    obtain ⟨g1,g2⟩:=fil_fine T n _ _ f1 e
    exact ⟨g1,g2.trans f2⟩
   ·
    obtain rfl:=Option.some.inj e
    exact ⟨f1,f2⟩
def Bytes (l:List Int):Prop:=∀x∈l,0≤x∧x≤255
def Within (lo hi:Int) (l:List Int):Prop:=∀x∈l,lo≤x∧x≤hi
theorem no_ {P:Prop} (h:¬P):((false=true)↔P):=⟨fun h'=>absurd h' (by decide),fun h'=>absurd h' h⟩
theorem rin_g (lo hi:Int) (l:List Int) (hl:l.length≤100):∀(m j k:Nat),l.length=j+m→m<k→∃b:Bool,(b=true↔Within lo hi (l.drop j))∧jigsawref06_in.l0 k l lo hi (j:Int)=some b
 | 0,j,k+1,e,_=>⟨true,⟨fun _=>by rw [List.drop_eq_nil_of_le (by omega)];exact fun x hx=>absurd hx List.not_mem_nil,fun _=>rfl⟩,by rw [jigsawref06_in.l0,ino_]⟩
 | m+1,j,k+1,e,hk=>by
  have hj:j<l.length:=by omega
  have hd:l.drop j=l.getD j 0::l.drop (j+1):=by rw [getD_lt l 0 hj];exact List.drop_eq_getElem_cons hj
  obtain ⟨b,hb,hr⟩:=rin_g lo hi l hl m (j+1) k (by omega) (by omega)
  rw [jigsawref06_in.l0,if_pos (nlt hj),ipo_,rd_at,wsu_,hr,hd]
  by_cases h1:l.getD j 0<lo
  ·
   exact ⟨false,no_ (fun h=>by have:=h _ List.mem_cons_self;omega),by rw [if_pos h1]⟩
  ·
   by_cases h2:l.getD j 0>hi
   ·
    exact ⟨false,no_ (fun h=>by have:=h _ List.mem_cons_self;omega),by rw [if_neg h1,if_pos h2]⟩
   ·
    refine ⟨b,hb.trans ⟨fun h x hx=>?_,fun h x hx=>h x (List.mem_cons_of_mem _ hx)⟩,by rw [if_neg h1,if_neg h2]⟩
    rcases List.mem_cons.1 hx with rfl | hx
    ·
     omega
    ·
     exact h x hx
theorem rin_f (lo hi:Int) (l:List Int) (hl:l.length≤100) {k:Nat} (hk:200≤k):∃b:Bool,(b=true↔Within lo hi l)∧jigsawref06_in.f k l lo hi=some b:=by
 obtain ⟨b,h1,h2⟩:=rin_g lo hi l hl l.length 0 k (by omega) (by omega)
 exact ⟨b,h1,h2⟩
theorem bounded_g0 (lo:Int) (l:List Int) (hl:l.length≤100):∀(m j k:Nat),l.length=j+m→m<k→∃i:Int,(i<0↔Within lo 1000000 (l.drop j))∧slices_IndexFunc_int_int_87_at_model_bounded_1.l0 k l (l.length:Int) (j:Int) lo=some i
 | 0,j,k+1,e,_=>⟨-1,⟨fun _=>by rw [List.drop_eq_nil_of_le (by omega)];exact fun x hx=>absurd hx List.not_mem_nil,fun _=>by decide⟩,by rw [slices_IndexFunc_int_int_87_at_model_bounded_1.l0,ino_]⟩
 | m+1,j,k+1,e,hk=>by
  have hj:j<l.length:=by omega
  have hd:l.drop j=l.getD j 0::l.drop (j+1):=by rw [getD_lt l 0 hj];exact List.drop_eq_getElem_cons hj
  obtain ⟨b,hb,hr⟩:=bounded_g0 lo l hl m (j+1) k (by omega) (by omega)
  rw [slices_IndexFunc_int_int_87_at_model_bounded_1.l0,if_pos (nlt hj),ipo_,if_pos (nlt hj),rd_at,wsu_,hr,hd]
  unfold model_bounded_1.f
  by_cases h1:l.getD j 0<lo
  ·
   exact ⟨j,⟨fun h=>absurd h (by omega),fun h=>by have:=h _ List.mem_cons_self;omega⟩,by rw [if_pos h1,obs_,if_pos rfl]⟩
  ·
   by_cases h2:l.getD j 0>1000000
   ·
    exact ⟨j,⟨fun h=>absurd h (by omega),fun h=>by have:=h _ List.mem_cons_self;omega⟩,by rw [if_neg h1,obs_,if_pos (decide_eq_true h2)]⟩
   ·
    refine ⟨b,hb.trans ⟨fun h x hx=>?_,fun h x hx=>h x (List.mem_cons_of_mem _ hx)⟩,by rw [if_neg h1,obs_,if_neg (by simpa using h2)]⟩
    rcases List.mem_cons.1 hx with rfl | hx
    ·
     omega
    ·
     exact h x hx
theorem bounded_g (lo:Int) (l:List Int) (hl:l.length≤100) {k:Nat} (hk:200≤k):∃b:Bool,(b=true↔Within lo 1000000 l)∧model_bounded.f k l lo=some b:=by
 obtain ⟨i,hi,hr⟩:=bounded_g0 lo l hl l.length 0 k (by omega) (by omega)
 have hr':slices_IndexFunc_int_int_87_at_model_bounded_1.l0 k l (l.length:Int) 0 lo=some i:=hr
 unfold model_bounded.f slices_ContainsFunc_int_int_61_at_model_bounded_1.f slices_IndexFunc_int_int_87_at_model_bounded_1.f
 rw [hr',obs_,obs_]
 rw [List.drop_zero] at hi
 refine ⟨_,?_,rfl⟩
 rw [←hi]
 by_cases c:i≥0
 ·
  rw [decide_eq_true c];exact no_ (by omega)
 ·
  rw [decide_eq_false c];exact ⟨fun _=>by omega,fun _=>rfl⟩
def Ord (D' E:List Int) (n:Nat):Prop:=∀i,i<n→D'.getD i 0≤E.getD i 0
def Apart (C:List Int):Prop:=∀i,i<C.length→∀j,j<i→C.getD i 0≠C.getD j 0
theorem apart_nodup (C:List Int):Apart C↔C.Nodup:=by
 rw [List.Nodup,List.pairwise_iff_getElem]
 constructor
 ·
  intro h i j hi hj hij e
  exact h j hj i hij (by rw [getD_lt _ _ hi,getD_lt _ _ hj];exact e.symm)
 ·
  intro h i hi j hij e
  exact h j i (by omega) hi hij (by rw [getD_lt _ _ hi,getD_lt _ _ (by omega:j<C.length)] at e;exact e.symm)
theorem sorted_apart (S:List Int) (hs:S.Pairwise (· ≤ ·)):(∀i,i<S.length→0<i→S.getD i 0≠S.getD (i - 1) 0)↔Apart S:=by
 constructor
 ·
  intro h i hi j hij e
  have h1:=h i hi (by omega)
  have le:∀a b,a≤b→b<S.length→S.getD a 0≤S.getD b 0:=fun a b hab hb=>by
   rcases Nat.lt_or_eq_of_le hab with g | g
   ·
    rw [getD_lt _ _ (by omega:a<S.length),getD_lt _ _ hb]
    exact List.pairwise_iff_getElem.1 hs a b (by omega) hb g
   ·
    rw [g];exact Int.le_refl _
  have a1:=le j (i - 1) (by omega) (by omega)
  have a2:=le (i - 1) i (by omega) hi
  omega
 ·
  intro h i hi h0
  exact h i hi (i - 1) (by omega)
theorem isrt_apart (C:List Int):Apart (Srt.isrt C)↔Apart C:=by
 rw [apart_nodup,apart_nodup]
 exact (Srt.isrt_perm C).nodup_iff
theorem mcounts_g0 (A B:List Int) (K:Int) (R:List (List Int)) (S C D' E:List Int) (n:Nat) (hn:n≤100) (hS:S.length=n) (hD:D'.length=n) (hE:E.length=n):∀(m j k:Nat),n=j+m→m<k →
  ∃b:Bool,(b=true↔∀i,j≤i→i<n→D'.getD i 0≤E.getD i 0∧(0<i→S.getD i 0≠S.getD (i - 1) 0))∧model_counts.l0 k S (n:Int) (j:Int) 21 A B C D' E K R=some b
 | 0,j,k+1,e,_=>⟨true,⟨fun _ i h1 h2=>by omega,fun _=>rfl⟩,by rw [model_counts.l0,ino_]⟩
 | m+1,j,k+1,e,hk=>by
  have hj:j<n:=by omega
  obtain ⟨b,hb,ih⟩:=mcounts_g0 A B K R S C D' E n hn hS hD hE m (j+1) k (by omega) (by omega)
  rw [model_counts.l0,if_pos (nlt hj),ipo_,ipo_,ipo_,rd_at,rd_at,wsu_,ih]
  by_cases c1:D'.getD j 0>E.getD j 0
  ·
   exact ⟨false,no_ (fun h=>by have:=(h j (Nat.le_refl _) hj).1;omega),by rw [if_pos c1]⟩
  rw [if_neg c1]
  have go:(0<j→S.getD j 0≠S.getD (j - 1) 0)→(b=true↔∀i,j≤i→i<n→D'.getD i 0≤E.getD i 0∧(0<i→S.getD i 0≠S.getD (i - 1) 0)):=fun hne=>hb.trans ⟨fun h i h1 h2=>by
   by_cases ei:i=j
   ·
    rw [ei];exact ⟨by omega,hne⟩
   ·
    exact h i (by omega) h2,fun h i h1 h2=>h i (by omega) h2⟩
  by_cases h0:(j:Int)>0
  ·
   have ew:wrap64 ((j:Int) - 1)=((j - 1:Nat):Int):=by rw [wrap_id (by omega) (by omega)];omega
   rw [if_pos h0,ipo_,ew,ipo_,ipo_,rd_at,rd_at]
   by_cases c2:S.getD j 0=S.getD (j - 1) 0
   ·
    exact ⟨false,no_ (fun h=>(h j (Nat.le_refl _) hj).2 (by omega) c2),by rw [if_pos c2]⟩
   ·
    exact ⟨b,go fun _=>c2,by rw [if_neg c2]⟩
  ·
   exact ⟨b,go fun h=>by omega,by rw [if_neg h0]⟩
theorem mcounts_g (A B:List Int) (K:Int) (R:List (List Int)) (C D' E:List Int) (n:Nat) (h1:1≤n) (hn:n≤100) (hC:C.length=n) (hD:D'.length=n) (hE:E.length=n) {k:Nat} (hk:200≤k) :
  ∃b:Bool,(b=true↔Ord D' E n∧Apart C)∧model_counts.f k 21 A B C D' E K R=some b:=by
 have hl:(Srt.isrt C).length=n:=by rw [(Srt.isrt_perm C).length_eq];exact hC
 have hs:slices_Sorted.f C=some (Srt.isrt C):=by
  unfold slices_Sorted.f
  rw [if_pos ⟨by omega,by omega⟩]
 obtain ⟨b,hb,e⟩:=mcounts_g0 A B K R (Srt.isrt C) C D' E n hn hl hD hE n 0 k (by omega) (by omega)
 refine ⟨b,hb.trans ?_,?_⟩
 ·
  rw [←isrt_apart,←sorted_apart _ (Srt.isrt_pair C)]
  exact ⟨fun h=>⟨fun i hi=>(h i (Nat.zero_le _) hi).1,fun i hi h0=>(h i (Nat.zero_le _) (by omega)).2 h0⟩,fun h i _ hi=>⟨h.1 i hi,h.2 i (by omega)⟩⟩
 ·
  unfold model_counts.f
  rw [if_pos rfl,hs,obs_,hC]
  exact e
theorem rhas_l0 (l:List Int) (v:Int) (hl:l.length≤100):∀(m j k:Nat),l.length=j+m→m<k→jigsawref02_Has.l0 k l v (j:Int)=some (decide (v∈l.drop j))
 | 0,j,k+1,e,_=>by
  rw [jigsawref02_Has.l0,ino_,List.drop_eq_nil_of_le (by omega)];rfl
 | m+1,j,k+1,e,hk=>by
  have hj:j<l.length:=by omega
  have hd:l.drop j=l[j]::l.drop (j+1):=List.drop_eq_getElem_cons hj
  rw [jigsawref02_Has.l0,if_pos (nlt hj),ipo_,rd_at,getD_lt _ _ hj]
  by_cases h:l[j]=v
  ·
   rw [if_pos h,hd];congr 1;symm;exact decide_eq_true (by rw [h];exact List.mem_cons_self)
  ·
   rw [if_neg h,wsu_,rhas_l0 l v hl m (j+1) k (by omega) (by omega),hd]
   congr 1
   rw [decide_eq_decide]
   constructor
   ·
    exact fun h'=>List.mem_cons_of_mem _ h'
   ·
    intro h'
    rcases List.mem_cons.1 h' with h2 | h2
    ·
     exact absurd h2.symm h
    ·
     exact h2
theorem rhas_f (l:List Int) (v:Int) (hl:l.length≤100) {k:Nat} (hk:200≤k):jigsawref02_Has.f k l v=some (decide (v∈l)):=by
 have h:=rhas_l0 l v hl l.length 0 k (by omega) (by omega)
 exact h
def insR:Bool→Int→List Int→List Int
 | true,_,r=>r
 | false,v,r=>ins v r
theorem of_l2 (x:List Int) (hx:x.length≤100) (i:Nat) (hi:i<x.length) (l:List Int) (hl:l.length≤100):∀(m j k:Nat) (acc:List Int) (done:Bool),l.length=j+m→acc.length≤2 * j→m<k →
  ∃k',k'+m+1=k∧jigsawref02_Of.l2 k x l (i:Int) acc done (j:Int)=jigsawref02_Of.l1 k' x (acc++insR done (x.getD i 0) (l.drop j)) (((i+1:Nat)):Int)
 | 0,j,k+1,acc,done,e,ha,hk=>by
  refine ⟨k,rfl,?_⟩
  rw [jigsawref02_Of.l2,ino_,List.drop_eq_nil_of_le (by omega)]
  cases done with
  | true=>rw [if_pos rfl,wsu_];simp [insR]
  | false=>rw [ind_,ipo_,if_pos (nlt hi),ipo_,wsu_,rd_at];rfl
 | m+1,j,k+1,acc,done,e,ha,hk=>by
  have hj:j<l.length:=by omega
  have hd:l.drop j=l.getD j 0::l.drop (j+1):=by rw [getD_lt _ _ hj];exact List.drop_eq_getElem_cons hj
  rw [jigsawref02_Of.l2,if_pos (nlt hj),ipo_,ipo_,if_pos (nlt hi),rd_at,rd_at,wsu_,hd]
  by_cases h:l.getD j 0>x.getD i 0
  ·
   rw [if_pos h]
   cases done with
   | true =>
    rw [if_pos rfl,ipo_]
    obtain ⟨k',hk',h'⟩:=of_l2 x hx i hi l hl m (j+1) k (acc++[l.getD j 0]) true (by omega) (by simp;omega) (by omega)
    refine ⟨k',by omega,?_⟩
    rw [h'];simp [insR]
   | false =>
    rw [ind_,ipo_,obs_,if_pos (by simp;omega)]
    obtain ⟨k',hk',h'⟩:=of_l2 x hx i hi l hl m (j+1) k ((acc++[x.getD i 0])++[l.getD j 0]) true (by omega) (by simp;omega) (by omega)
    refine ⟨k',by omega,?_⟩
    have e1:insR false (x.getD i 0) (l.getD j 0::l.drop (j+1))=x.getD i 0::l.getD j 0::l.drop (j+1):=by show ins _ _=_;rw [ins,if_pos h]
    rw [h',e1];simp [insR]
  ·
   rw [if_neg h,ipo_]
   obtain ⟨k',hk',h'⟩:=of_l2 x hx i hi l hl m (j+1) k (acc++[l.getD j 0]) done (by omega) (by simp;omega) (by omega)
   refine ⟨k',by omega,?_⟩
   rw [h']
   cases done with
   | true=>simp [insR]
   | false =>
    have e1:insR false (x.getD i 0) (l.getD j 0::l.drop (j+1))=l.getD j 0::ins (x.getD i 0) (l.drop (j+1)):=by show ins _ _=_;rw [ins,if_neg h]
    rw [e1];simp [insR]
theorem of_l1 (x:List Int) (hx:x.length≤6) (hn:Near x):∀(m j k:Nat) (b:Fin 2048),x.length=j+m→300 * m+300<k→(0<j→b.val≠0) →
  ∃c:Fin 2048,(0<x.length→c.val≠0)∧jigsawref02_Of.l1 k x (LL b) (j:Int)=some (LL c,0)
 | 0,j,k+1,b,e,hk,hb=>by
  refine ⟨b,fun h=>hb (by omega),?_⟩
  rw [jigsawref02_Of.l1,ino_]
 | m+1,j,k+1,b,e,hk,hb=>by
  have hj:j<x.length:=by omega
  have hv:=hn (x.getD j 0) (by rw [getD_lt _ _ hj];exact List.getElem_mem _)
  have hl:=(len_all b).1
  rw [jigsawref02_Of.l1,if_pos (nlt hj),ipo_,rd_at,rhas_f (LL b) _ (by omega) (by omega),obs_]
  by_cases h:x.getD j 0∈LL b
  ·
   rw [if_pos (decide_eq_true h),wsu_]
   refine of_l1 x hx hn m (j+1) k b (by omega) (by omega) (fun _ h0=>?_)
   have:LL b=[]:=by unfold LL;rw [h0];decide +kernel
   rw [this] at h;cases h
  ·
   rw [if_neg (by simpa using h)]
   obtain ⟨k',hk',h'⟩:=of_l2 x (by omega) j hj (LL b) (by omega) (LL b).length 0 k [] false (by omega) (by simp) (by omega)
   have e0:jigsawref02_Of.l2 k x (LL b) (j:Int) [] false 0=_:=h'
   rw [e0]
   have hins:=ins_all b ⟨(x.getD j 0+5).toNat,by omega⟩
   simp only [] at hins
   rw [show (((x.getD j 0+5).toNat:Nat):Int) - 5=x.getD j 0 by omega] at hins
   obtain ⟨h1,h2⟩:=hins h
   rw [List.nil_append,List.drop_zero,insR,h1]
   exact of_l1 x hx hn m (j+1) k' _ (by omega) (by omega) (fun _=>h2)
theorem rof_l0 (x:List Int) (hx:x.length≤6) (hn:Near x):∀(m j k:Nat) (lo hi:Int),x.length=j+m→m+3000<k → -5≤lo→lo≤5 → -5≤hi→hi≤5 →
  ∃c:Fin 2048,(0<x.length→c.val≠0)∧jigsawref02_Of.l0 k x lo hi (j:Int)=some (LL c,0)
 | 0,j,k+1,lo,hi,e,hk,h1,h2,h3,h4=>by
  have ew:wrap64 (hi - lo)=hi - lo:=wrap_id (by omega) (by omega)
  rw [jigsawref02_Of.l0,ino_,ew,ino_]
  have h0:LL 0=[]:=by decide +kernel
  have h:=of_l1 x hx hn x.length 0 k 0 (by omega) (by omega) (fun h=>absurd h (by decide))
  rw [h0] at h
  exact h
 | m+1,j,k+1,lo,hi,e,hk,h1,h2,h3,h4=>by
  have hj:j<x.length:=by omega
  have hv:=hn (x.getD j 0) (by rw [getD_lt _ _ hj];exact List.getElem_mem _)
  rw [jigsawref02_Of.l0,if_pos (nlt hj),ipo_,rd_at,ino_,ino_,wsu_]
  split <;> split <;> exact rof_l0 x hx hn m (j+1) k _ _ (by omega) (by omega) (by omega) (by omega) (by omega) (by omega)
theorem rof_f (x:List Int) (hx:x.length≤6) (h0:0<x.length) (hn:Near x) {k:Nat} (hk:4000≤k):∃c:Fin 2048,c.val≠0∧jigsawref02_Of.f k x=some (LL c,0):=by
 have hv:=hn (x.getD 0 0) (by rw [getD_lt _ _ h0];exact List.getElem_mem _)
 obtain ⟨c,h1,h2⟩:=rof_l0 x hx hn x.length 0 k (x.getD 0 0) (x.getD 0 0) (by omega) (by omega) hv.1 hv.2 hv.1 hv.2
 refine ⟨c,h1 h0,?_⟩
 unfold jigsawref02_Of.f
 rw [ino_,ipo_]
 exact h2
theorem mod_near (v:Int) : -5≤Int.tmod v 6∧Int.tmod v 6≤5:=by
 have h1:=Int.tmod_lt_of_pos v (show (0:Int)<6 by decide)
 have h2:=Int.lt_tmod_of_pos v (show (0:Int)<6 by decide)
 omega
theorem small_l0 (l:List Int) (h0:0<l.length):∀(m j k:Nat) (acc:List Int),6=j+m→j≤l.length→m+4100<k→acc.length=j→Near acc →
  ∃c:Fin 2048,c.val≠0∧jigsawref02_Small.l0 k l 6 6 acc (j:Int)=some (LL c)
 | m,j,k+1,acc,e,hjl,hk,ha,hn=>by
  have fin:∀(hx:0<acc.length),∃c:Fin 2048,c.val≠0∧((jigsawref02_Of.f k acc).bind fun bt=>some bt.1)=some (LL c):=by
   intro hx
   obtain ⟨c,h1,h2⟩:=rof_f acc (by omega) hx hn (k:=k) (by omega)
   exact ⟨c,h1,by rw [h2,obs_]⟩
  rw [jigsawref02_Small.l0]
  by_cases hj:j<l.length
  ·
   rw [if_pos (nlt hj)]
   by_cases h6:j<6
   ·
    obtain ⟨m,rfl⟩:∃m',m=m'+1:=⟨m - 1,by omega⟩
    rw [ipo_,ipo_,ind_,ipo_,wsu_]
    refine small_l0 l h0 m (j+1) k _ (by omega) (by omega) (by omega) (by simp [ha]) (fun v hv=>?_)
    rcases List.mem_append.1 hv with h | h
    ·
     exact hn v h
    ·
     rw [List.mem_singleton] at h;rw [h];exact mod_near _
   ·
    rw [ino_]
    exact fin (by omega)
  ·
   rw [if_neg (nge hj)]
   exact fin (by omega)
theorem small_f (l:List Int) (h0:0<l.length) {k:Nat} (hk:4200≤k):∃c:Fin 2048,c.val≠0∧jigsawref02_Small.f k l 6 6=some (LL c) :=
 small_l0 l h0 6 0 k [] rfl (by omega) (by omega) rfl (fun v hv=>by simp at hv)
def Places (n:Nat) (r:List Int):Prop:=r.length=n∧∀x∈r,0≤x∧x≤4
theorem places_l0 (l:List Int) (hl:∀x∈l,0≤x∧x≤255) (n:Nat) (hn:n≤4):∀(m j k:Nat) (acc:List Int),n=j+m→m<k→Places j acc→∃r,jigsawref06_places.l0 k l (n:Int) 5 acc (j:Int)=some r∧Places n r
 | 0,j,k+1,acc,e,_,ha=>by
  obtain rfl:n=j:=by omega
  refine ⟨acc,?_,ha⟩
  rw [jigsawref06_places.l0,ino_]
 | m+1,j,k+1,acc,e,hk,ha=>by
  have hj:j<n:=by omega
  obtain ⟨h1,h2⟩:=ha
  have hlen:acc.length<17592186044416:=by omega
  by_cases hx:j<l.length
  ·
   have hm:=hl (l.getD j 0) (by rw [getD_lt _ _ hx];exact List.getElem_mem _)
   obtain ⟨r,hr,hp⟩:=places_l0 l hl n hn m (j+1) k (acc++[Int.tmod (wrap64 (rd l (j:Int))) 5]) (by omega) (by omega) ⟨by simp [h1],fun x hx=>by
    rcases List.mem_append.1 hx with h | h
    ·
     exact h2 x h
    ·
     rw [List.mem_singleton] at h
     rw [h,rd_at,wrap_id (by omega) (by omega),Int.tmod_eq_emod_of_nonneg (by omega)]
     omega⟩
   refine ⟨r,?_,hp⟩
   rw [jigsawref06_places.l0,if_pos (nlt hj),if_pos (nlt hx),ipo_,ind_,if_pos hlen,wsu_]
   exact hr
  ·
   obtain ⟨r,hr,hp⟩:=places_l0 l hl n hn m (j+1) k (acc++[Int.tmod (j:Int) 5]) (by omega) (by omega) ⟨by simp [h1],fun x hx=>by
    rcases List.mem_append.1 hx with h | h
    ·
     exact h2 x h
    ·
     rw [List.mem_singleton] at h
     rw [h,Int.tmod_eq_emod_of_nonneg (by omega)]
     omega⟩
   refine ⟨r,?_,hp⟩
   rw [jigsawref06_places.l0,if_pos (nlt hj),if_neg (nge hx),ind_,if_pos hlen,wsu_]
   exact hr
theorem places_f (l:List Int) (hl:∀x∈l,0≤x∧x≤255) (n:Nat) (hn:n≤4) {k:Nat} (hk:5≤k):∃r,jigsawref06_places.f k l (n:Int) 5=some r∧Places n r :=
 places_l0 l hl n hn n 0 k [] (by omega) (by omega) ⟨rfl,fun x hx=>by simp at hx⟩
theorem has_f {s:ByteArray} {c r:Int} (h:jigsawref06_has.f 6 s c=some r) {k:Nat} (hk:6≤k):jigsawref06_has.f k s c=some r :=
 up (f:=fun k=>jigsawref06_has.f k s c) (jigsawref06_has.mono _ _) h hk
def Ok21 (A B C D' E:List Int) (K:Int):Prop:=(K=0∧1≤A.length∧B=[]∧1≤C.length∧D'.length=C.length∧E.length=C.length)∧Bytes A∧Within (-1000000) 1000000 C∧Within 0 1000000 D'∧Within 0 1000000 E∧Ord D' E C.length∧Apart C
theorem rc_l2g (A B C D' E:List Int) (K:Int) (n:Nat) (hn:n≤100) (hC:C.length=n) (i:Nat) (hi:i<n) (P:Prop) {k0:Nat} (next:∀k,k0≤k→∃b:Bool,(b=true↔P)∧jigsawref06_Coefs.l1 k (((i+1:Nat)):Int) 21 A B C D' E K []=some b):∀(m j k:Nat),i=j+m→m+k0<k →
  ∃b:Bool,(b=true↔(∀t,j≤t→t<i→C.getD i 0≠C.getD t 0)∧P)∧jigsawref06_Coefs.l2 k (i:Int) (j:Int) 21 A B C D' E K []=some b
 | 0,j,k+1,e,hk=>by
  obtain ⟨b,hb,h⟩:=next k (by omega)
  refine ⟨b,hb.trans ⟨fun h=>⟨fun t h1 h2=>by omega,h⟩,fun h=>h.2⟩,?_⟩
  rw [jigsawref06_Coefs.l2,ino_,wsu_]
  exact h
 | m+1,j,k+1,e,hk=>by
  obtain ⟨b,hb,h⟩:=rc_l2g A B C D' E K n hn hC i hi P next m (j+1) k (by omega) (by omega)
  rw [jigsawref06_Coefs.l2,ipo_,ipo_,ipo_,ipo_,ipo_,rd_at,rd_at,wsu_]
  by_cases c:C.getD i 0=C.getD j 0
  ·
   exact ⟨false,no_ (fun g=>g.1 j (Nat.le_refl _) (by omega) c),by rw [if_pos c]⟩
  ·
   refine ⟨b,hb.trans ⟨fun g=>⟨fun t h1 h2=>?_,g.2⟩,fun g=>⟨fun t h1 h2=>g.1 t (by omega) h2,g.2⟩⟩,by rw [if_neg c,h]⟩
   by_cases et:t=j
   ·
    rw [et];exact c
   ·
    exact g.1 t (by omega) h2
theorem rc_l1g (A B C D' E:List Int) (K:Int) (n:Nat) (hn:n≤100) (hC:C.length=n) (hD:D'.length=n) (hE:E.length=n):∀(m i k:Nat),n=i+m→m * 110<k →
  ∃b:Bool,(b=true↔∀a,i≤a→a<n→D'.getD a 0≤E.getD a 0∧∀t,t<a→C.getD a 0≠C.getD t 0)∧jigsawref06_Coefs.l1 k (i:Int) 21 A B C D' E K []=some b
 | 0,i,k+1,e,_=>⟨true,⟨fun _ a h1 h2=>by omega,fun _=>rfl⟩,by rw [jigsawref06_Coefs.l1,if_pos rfl,ino_]⟩
 | m+1,i,k+1,e,hk=>by
  have hi:i<n:=by omega
  rw [jigsawref06_Coefs.l1,if_pos rfl,ipo_,ipo_,ipo_,ipo_,rd_at,rd_at]
  by_cases c:D'.getD i 0>E.getD i 0
  ·
   exact ⟨false,no_ (fun g=>by have:=(g i (Nat.le_refl _) hi).1;omega),by rw [if_pos c]⟩
  ·
   obtain ⟨b,hb,h⟩:=rc_l2g A B C D' E K n hn hC i hi (∀a,i+1≤a→a<n→D'.getD a 0≤E.getD a 0∧∀t,t<a→C.getD a 0≠C.getD t 0) (k0:=m * 110+1) (fun k hk=>rc_l1g A B C D' E K n hn hC hD hE m (i+1) k (by omega) (by omega)) i 0 k (by omega) (by omega)
   refine ⟨b,hb.trans ⟨fun g a h1 h2=>?_,fun g=>⟨fun t _ h2=>(g i (Nat.le_refl _) hi).2 t h2,fun a h1 h2=>g a (by omega) h2⟩⟩,by rw [if_neg c];exact h⟩
   by_cases ea:a=i
   ·
    rw [ea];exact ⟨by omega,fun t ht=>g.1 t (Nat.zero_le _) ht⟩
   ·
    exact g.2 a (by omega) h2
theorem rcoefs_g (A B C D' E:List Int) (n:Nat) (hn:n≤5) (hC:C.length=n) (hD:D'.length=n) (hE:E.length=n) {k:Nat} (hk:700≤k) :
  ∃b:Bool,(b=true↔Within (-1000000) 1000000 C∧Within 0 1000000 D'∧Within 0 1000000 E∧Ord D' E n∧Apart C)∧jigsawref06_Coefs.f k 21 A B C D' E 0 []=some b:=by
 obtain ⟨k,rfl⟩:∃k',k=k'+2:=⟨k - 2,by omega⟩
 obtain ⟨x,hx,ex⟩:=rin_f (-1000000) 1000000 C (by omega) (k:=k+2) (by omega)
 obtain ⟨y,hy,ey⟩:=rin_f 0 1000000 D' (by omega) (k:=k+2) (by omega)
 obtain ⟨z,hz,ez⟩:=rin_f 0 1000000 E (by omega) (k:=k+2) (by omega)
 unfold jigsawref06_Coefs.f
 rw [ind_,if_pos rfl,ex,obs_,ey,obs_,ez,obs_]
 cases x with
 | false=>exact ⟨false,no_ (fun h=>absurd (hx.2 h.1) (by decide)),by rw [ind_,jigsawref06_Coefs.j0,if_pos rfl]⟩
 | true =>
  rw [if_pos rfl]
  cases y with
  | false=>exact ⟨false,no_ (fun h=>absurd (hy.2 h.2.1) (by decide)),by rw [ind_,jigsawref06_Coefs.j0,if_pos rfl]⟩
  | true =>
   rw [if_pos rfl]
   cases z with
   | false=>exact ⟨false,no_ (fun h=>absurd (hz.2 h.2.2.1) (by decide)),by rw [ind_,jigsawref06_Coefs.j0,if_pos rfl]⟩
   | true =>
    obtain ⟨b,hb,h⟩:=rc_l1g A B C D' E 0 n (by omega) hC hD hE n 0 k (by omega) (by omega)
    refine ⟨b,hb.trans ⟨fun g=>⟨hx.1 rfl,hy.1 rfl,hz.1 rfl,fun i hi=>(g i (Nat.zero_le _) hi).1,fun i hi j hij=>(g i (Nat.zero_le _) (by omega)).2 j hij⟩,fun g a _ ha=>⟨g.2.2.2.1 a ha,fun t ht=>g.2.2.2.2 a (by omega) t ht⟩⟩,?_⟩
    rw [if_pos rfl,ind_,decide_eq_false (by decide),jigsawref06_Coefs.j0,ind_,jigsawref06_Coefs.l0,ind_]
    exact h
theorem j1_no (s:ByteArray) (A B C D' E:List Int) (K:Int) {k:Nat} (hk:1≤k):jigsawref06_Arity.j1 k s true 21 A B C D' E K []=some false:=by
 obtain ⟨k,rfl⟩:∃k',k=k'+1:=⟨k - 1,by omega⟩
 rw [jigsawref06_Arity.j1,if_pos rfl]
theorem lst1 {n:Nat} (h:n≤5) (o:Int):jigsawref06_list.f (n:Int) o 1=some (decide (1≤n)):=by
 unfold jigsawref06_list.f
 rw [if_pos (by decide)]
 by_cases c:1≤n
 ·
  rw [ipo_,decide_eq_true c,decide_eq_true (by omega)]
 ·
  rw [ino_,decide_eq_false c]
theorem lst0 (n:Int):jigsawref06_list.f n 0 0=some (n==0):=by
 unfold jigsawref06_list.f
 rw [ind_]
theorem len0 {l:List Int}:(l.length:Int)=0↔l=[]:=by rw [←List.length_eq_zero_iff];omega
theorem rarity_g (A B C D' E:List Int) (K:Int) (hA:A.length≤5) (hC:C.length≤5) (hD:D'.length≤5) (hE:E.length≤5) {k:Nat} (hk:30≤k):∃b:Bool,(b=true↔K=0∧1≤A.length∧B=[]∧1≤C.length∧D'.length=C.length∧E.length=C.length)∧jigsawref06_Arity.f k 21 A B C D' E K [] (⟨#[86,99,100,101]⟩:ByteArray)=some b:=by
 obtain ⟨k,rfl⟩:∃k',k=k'+4:=⟨k - 4,by omega⟩
 unfold jigsawref06_Arity.f
 by_cases hK:K=0
 ·
  rw [if_pos hK,jigsawref06_Arity.j0,ind_,ind_,has_f (r:=0) (by decide +kernel) (by omega),obs_,has_f (r:=1) (by decide +kernel) (by omega),obs_,lst1 hA,obs_,has_f (r:=0) (by decide +kernel) (by omega),obs_,has_f (r:=0) (by decide +kernel) (by omega),obs_,lst0,obs_,has_f (r:=1) (by decide +kernel) (by omega),obs_,lst1 hC,obs_,has_f (r:=1) (by decide +kernel) (by omega),obs_,lst1 hD,obs_,has_f (r:=1) (by decide +kernel) (by omega),obs_,lst1 hE,obs_]
  by_cases c1:1≤A.length
  ·
   rw [if_pos (decide_eq_true c1)]
   by_cases c2:(B.length:Int)=0
   ·
    rw [if_pos (by rw [c2];rfl)]
    by_cases c3:1≤C.length
    ·
     rw [if_pos (decide_eq_true c3)]
     by_cases c4:1≤D'.length
     ·
      rw [if_pos (decide_eq_true c4)]
      by_cases c5:1≤E.length
      ·
       rw [decide_eq_true c5,jigsawref06_Arity.j1,ind_,has_f (r:=0) (by decide +kernel) (by omega),obs_,if_pos rfl,ind_,obs_,ind_,ind_,ind_,if_pos rfl]
       by_cases c6:D'.length=C.length
       ·
        rw [ipo_]
        by_cases c7:E.length=C.length
        ·
         exact ⟨true,⟨fun _=>⟨hK,c1,len0.1 c2,c3,c6,c7⟩,fun _=>rfl⟩,by rw [ipo_,ind_,jigsawref06_Arity.j2,ind_,jigsawref06_Arity.l0,ind_]⟩
        ·
         exact ⟨false,no_ (fun h=>c7 h.2.2.2.2.2),by rw [ino_,jigsawref06_Arity.j2,if_pos rfl]⟩
       ·
        exact ⟨false,no_ (fun h=>c6 h.2.2.2.2.1),by rw [ino_,jigsawref06_Arity.j2,if_pos rfl]⟩
      ·
       exact ⟨false,no_ (fun h=>by have:=h.2.2.2;omega),by rw [decide_eq_false c5];exact j1_no _ _ _ _ _ _ _ (by omega)⟩
     ·
      exact ⟨false,no_ (fun h=>by have:=h.2.2.2;omega),by rw [if_neg (by simpa using c4)];exact j1_no _ _ _ _ _ _ _ (by omega)⟩
    ·
     exact ⟨false,no_ (fun h=>c3 h.2.2.2.1),by rw [if_neg (by simpa using c3)];exact j1_no _ _ _ _ _ _ _ (by omega)⟩
   ·
    exact ⟨false,no_ (fun h=>c2 (len0.2 h.2.2.1)),by rw [if_neg (by rw [beq_iff_eq];exact c2)];exact j1_no _ _ _ _ _ _ _ (by omega)⟩
  ·
   exact ⟨false,no_ (fun h=>c1 h.2.1),by rw [if_neg (by simpa using c1)];exact j1_no _ _ _ _ _ _ _ (by omega)⟩
 ·
  rw [if_neg hK,has_f (r:=0) (by decide +kernel) (by omega),obs_,jigsawref06_Arity.j0,if_pos (by decide)]
  exact ⟨false,no_ (fun h=>hK h.1),rfl⟩
theorem in_nil (lo hi:Int) {k:Nat} (hk:1≤k):jigsawref06_in.f k [] lo hi=some true:=by
 obtain ⟨k,rfl⟩:∃k',k=k'+1:=⟨k - 1,by omega⟩
 show jigsawref06_in.l0 (k+1) [] lo hi 0=_
 rw [jigsawref06_in.l0,ind_]
theorem rright_g (A B C D' E:List Int) (K:Int) (hA:A.length≤5) (hC:C.length≤5) (hD:D'.length≤5) (hE:E.length≤5) {k:Nat} (hk:800≤k) (hB:B.length≤5):∃e:Int,(e=0↔Ok21 A B C D' E K)∧jigsawref06_Right.f k 21 A B C D' E K [] 256=some e:=by
 have hs:jigsawref06_Shapes.f=some ((jigsawref06_Shapes.f).getD []):=by rfl
 have hlen:((jigsawref06_Shapes.f).getD []).length=24:=by decide +kernel
 have hvw:rdOf ByteArray.empty ((jigsawref06_Shapes.f).getD []) 21=(⟨#[86,99,100,101]⟩:ByteArray):=by rfl
 have e5:wrap64 (256 - 1)=255:=by decide +kernel
 obtain ⟨b,hb,ha⟩:=rarity_g A B C D' E K hA hC hD hE (k:=k) (by omega)
 obtain ⟨x,hx,hxr⟩:=rin_f 0 255 A (by omega) (k:=k) (by omega)
 unfold jigsawref06_Right.f
 rw [ind_,ind_,hs,obs_,hlen,if_pos (by decide),if_pos (by decide),hvw,ha,obs_]
 cases b with
 | false =>
  refine ⟨10,⟨fun h=>absurd h (by decide),fun h=>?_⟩,by rw [ind_]⟩
  have:=hb.2 h.1
  cases this
 | true =>
  have h0:=hb.1 rfl
  obtain ⟨rfl,h1,rfl,h2,h3,h4⟩:=hb.1 rfl
  rw [if_pos rfl,if_pos (by decide),e5,hxr,obs_,in_nil _ _ (by omega),obs_]
  obtain ⟨k,rfl⟩:∃k',k=k'+1:=⟨k - 1,by omega⟩
  cases x with
  | false=>exact ⟨7,⟨fun h=>absurd h (by decide),fun h=>absurd (hx.2 h.2.1) (by decide)⟩,by rw [ind_,jigsawref06_Right.j0,if_pos rfl]⟩
  | true =>
   obtain ⟨c,hc,hcr⟩:=rcoefs_g A [] C D' E C.length hC rfl h3 h4 (k:=k) (by omega)
   rw [if_pos rfl,jigsawref06_Right.j0,ind_,hcr,obs_]
   cases c with
   | false=>exact ⟨11,⟨fun h=>absurd h (by decide),fun h=>absurd (hc.2 h.2.2) (by decide)⟩,by rw [ind_]⟩
   | true=>exact ⟨0,⟨fun _=>⟨h0,hx.1 rfl,hc.1 rfl⟩,fun _=>rfl⟩,by rw [if_pos rfl]⟩
theorem idx_right_g (l:List Int) (hl:l.length≤100):∀(m j k:Nat),l.length=j+m→m<k→∃i:Int,(i<0↔Bytes (l.drop j))∧slices_IndexFunc_int_int_87_at_model_Right_1.l0 k l (l.length:Int) (j:Int) 256=some i
 | 0,j,k+1,e,_=>⟨-1,⟨fun _=>by rw [List.drop_eq_nil_of_le (by omega)];exact fun x hx=>absurd hx List.not_mem_nil,fun _=>by decide⟩,by rw [slices_IndexFunc_int_int_87_at_model_Right_1.l0,ino_]⟩
 | m+1,j,k+1,e,hk=>by
  have hj:j<l.length:=by omega
  have hd:l.drop j=l.getD j 0::l.drop (j+1):=by rw [getD_lt l 0 hj];exact List.drop_eq_getElem_cons hj
  obtain ⟨b,hb,hr⟩:=idx_right_g l hl m (j+1) k (by omega) (by omega)
  rw [slices_IndexFunc_int_int_87_at_model_Right_1.l0,if_pos (nlt hj),ipo_,if_pos (nlt hj),rd_at,wsu_,hr,hd]
  unfold model_Right_1.f
  by_cases h1:l.getD j 0<0
  ·
   exact ⟨j,⟨fun h=>absurd h (by omega),fun h=>by have:=h _ List.mem_cons_self;omega⟩,by rw [if_pos h1,obs_,if_pos rfl]⟩
  ·
   by_cases h2:l.getD j 0≥256
   ·
    exact ⟨j,⟨fun h=>absurd h (by omega),fun h=>by have:=h _ List.mem_cons_self;omega⟩,by rw [if_neg h1,obs_,if_pos (decide_eq_true h2)]⟩
   ·
    refine ⟨b,hb.trans ⟨fun h x hx=>?_,fun h x hx=>h x (List.mem_cons_of_mem _ hx)⟩,by rw [if_neg h1,obs_,if_neg (by simpa using h2)]⟩
    rcases List.mem_cons.1 hx with rfl | hx
    ·
     omega
    ·
     exact h x hx
theorem vars_g (kd:Int) (A B:List Int) (C D E:List Int) (K:Int) (hA:A.length≤5) (hB:B.length≤5) {k:Nat} (hk:20≤k):model_Vars.f k kd A B C D E K []=some (A++B):=by
 obtain ⟨k,rfl⟩:∃k',k=k'+6:=⟨k - 6,by omega⟩
 have r0:rd_L7 [A,B] 0=A:=rfl
 have r1:rd_L7 [A,B] 1=B:=rfl
 have e1:wrap64 (0+(A.length:Int))=(A.length:Int):=by rw [wrap_id (by omega) (by omega)];omega
 have e2:wrap64 ((A.length:Int)+(B.length:Int))=(A.length:Int)+B.length:=wrap_id (by omega) (by omega)
 have w1:wrap64 (0+1)=1:=by decide +kernel
 have w2:wrap64 (1+1)=2:=by decide +kernel
 have hlen:(([A,B]:List (List Int)).length:Int)=2:=rfl
 unfold model_Vars.f slices_Concat_int_int.f
 rw [hlen,slices_Concat_int_int.l0,if_pos (by decide),if_pos (by decide),hlen,if_pos (by decide),r0,e1,ino_,w1,slices_Concat_int_int.l0,if_pos (by decide),if_pos (by decide),hlen,if_pos (by decide),r1,e2,ino_,w2,slices_Concat_int_int.l0,ind_]
 have hg:slices_GrowNil.f ((A.length:Int)+B.length)=some []:=by unfold slices_GrowNil.f;rw [if_pos ⟨by omega,by omega⟩]
 rw [hg,obs_,hlen,slices_Concat_int_int.l1,if_pos (by decide),if_pos (by decide),hlen,if_pos (by decide),r0,if_pos (by simp;omega),w1,slices_Concat_int_int.l1,if_pos (by decide),if_pos (by decide),hlen,if_pos (by decide),r1,if_pos (by simp;omega),w2,slices_Concat_int_int.l1,ind_,obs_]
 simp
theorem nam1 {n:Nat} (h:n≤5) {c d:UInt8} (hc:strings_Contains.f (⟨#[86,99,100,101]⟩:ByteArray) ⟨#[d]⟩=some true):model_named.f (n:Int) (⟨#[86,99,100,101]⟩:ByteArray) ⟨#[c]⟩ ⟨#[d]⟩=some (decide (1≤n)):=by
 unfold model_named.f model_within.f
 rw [hc,obs_,if_pos rfl]
 by_cases c:1≤n
 ·
  rw [ipo_,decide_eq_true c,obs_,decide_eq_true (by omega)]
 ·
  rw [ino_,decide_eq_false c,obs_]
theorem nam0 {n:Int} {c d:UInt8} (hc:strings_Contains.f (⟨#[86,99,100,101]⟩:ByteArray) ⟨#[d]⟩=some false) (h:strings_Count.f (⟨#[86,99,100,101]⟩:ByteArray) ⟨#[c]⟩=some 0):model_named.f n (⟨#[86,99,100,101]⟩:ByteArray) ⟨#[c]⟩ ⟨#[d]⟩=some (n==0):=by
 unfold model_named.f
 rw [hc,obs_,ind_,h,obs_]
theorem mcounted_g (A B C D' E:List Int) (K:Int) (hA:A.length≤5) (hC:C.length≤5) (hD:D'.length≤5) (hE:E.length≤5):∃b:Bool,(b=true↔1≤A.length∧B=[]∧1≤C.length∧1≤D'.length∧1≤E.length)∧model_counted.f 21 A B C D' E K [] (⟨#[86,99,100,101]⟩:ByteArray)=some b:=by
 have ne:∀x:Int,¬x=0→¬(x==0)=true:=fun x h=>by rw [beq_iff_eq];exact h
 unfold model_counted.f
 rw [ind_,show strings_Contains.f (⟨#[86,99,100,101]⟩:ByteArray) ⟨#[114]⟩=some false by decide +kernel,obs_,ind_,if_pos (by decide),nam1 hA (by decide +kernel),obs_]
 by_cases c1:1≤A.length
 ·
  rw [if_pos (decide_eq_true c1),nam0 (by decide +kernel) (by decide +kernel),obs_]
  by_cases c2:(B.length:Int)=0
  ·
   rw [if_pos (by rw [c2];rfl),nam1 hC (by decide +kernel),obs_]
   by_cases c3:1≤C.length
   ·
    rw [if_pos (decide_eq_true c3),nam1 hD (by decide +kernel),obs_]
    by_cases c4:1≤D'.length
    ·
     rw [if_pos (decide_eq_true c4),nam1 hE (by decide +kernel),obs_]
     refine ⟨_,?_,rfl⟩
     rw [decide_eq_true_iff]
     exact ⟨fun h=>⟨c1,len0.1 c2,c3,c4,h⟩,fun h=>h.2.2.2.2⟩
    ·
     exact ⟨false,no_ (fun h=>c4 h.2.2.2.1),by rw [if_neg (by simpa using c4)]⟩
   ·
    exact ⟨false,no_ (fun h=>c3 h.2.2.1),by rw [if_neg (by simpa using c3)]⟩
  ·
   exact ⟨false,no_ (fun h=>c2 (len0.2 h.2.1)),by rw [if_neg (ne _ c2)]⟩
 ·
  exact ⟨false,no_ (fun h=>c1 h.1),by rw [if_neg (by simpa using c1)]⟩
theorem mnumbers_g (A B C D' E:List Int) (hC:C.length≤5) (hD:D'.length≤5) (hE:E.length≤5) {k:Nat} (hk:300≤k):∃b:Bool,(b=true↔Within (-1000000) 1000000 C∧Within 0 1000000 D'∧Within 0 1000000 E)∧model_numbers.f k 21 A B C D' E 0 []=some b:=by
 obtain ⟨k,rfl⟩:∃k',k=k'+1:=⟨k - 1,by omega⟩
 obtain ⟨x,hx,ex⟩:=bounded_g (-1000000) C (by omega) (k:=k) (by omega)
 obtain ⟨y,hy,ey⟩:=bounded_g 0 D' (by omega) (k:=k) (by omega)
 obtain ⟨z,hz,ez⟩:=bounded_g 0 E (by omega) (k:=k) (by omega)
 unfold model_numbers.f
 rw [ind_,if_pos rfl,model_numbers.l0,ind_,ex,obs_]
 cases x with
 | false=>exact ⟨false,no_ (fun h=>absurd (hx.2 h.1) (by decide)),by rw [ind_]⟩
 | true =>
  rw [if_pos rfl,ey,obs_]
  cases y with
  | false=>exact ⟨false,no_ (fun h=>absurd (hy.2 h.2.1) (by decide)),by rw [ind_]⟩
  | true =>
   rw [if_pos rfl,ez,obs_]
   cases z with
   | false=>exact ⟨false,no_ (fun h=>absurd (hz.2 h.2.2) (by decide)),by rw [ind_]⟩
   | true=>exact ⟨true,⟨fun _=>⟨hx.1 rfl,hy.1 rfl,hz.1 rfl⟩,fun _=>rfl⟩,by rw [if_pos rfl,if_pos (by decide)];rfl⟩
theorem mright_g (A B C D' E:List Int) (K:Int) (hA:A.length≤5) (hB:B.length≤5) (hC:C.length≤5) (hD:D'.length≤5) (hE:E.length≤5) {k:Nat} (hk:800≤k):∃e:Int,(e=0↔Ok21 A B C D' E K)∧model_Right.f k 21 A B C D' E K [] 256=some e:=by
 obtain ⟨k,rfl⟩:∃k',k=k'+1:=⟨k - 1,by omega⟩
 have hs:model_Shape.f 21=some (⟨#[86,99,100,101]⟩:ByteArray):=by decide +kernel
 have hct:strings_Contains.f (⟨#[86,99,100,101]⟩:ByteArray) (⟨#[107]⟩:ByteArray)=some false:=by decide +kernel
 have ha:model_alike.f 21 A B C D' E K []=some (decide (D'.length=C.length∧E.length=C.length)):=by
  unfold model_alike.f
  rw [ind_,ind_,ind_,ind_,ind_,if_pos rfl]
  by_cases c1:D'.length=C.length
  ·
   rw [ipo_]
   by_cases c2:E.length=C.length
   ·
    rw [decide_eq_true ⟨c1,c2⟩,c2,beq_self_eq_true]
   ·
    rw [decide_eq_false (fun h=>c2 h.2),beq_eq_false_iff_ne.2 (by omega)]
  ·
   rw [ino_,decide_eq_false (fun h=>c1 h.1)]
 obtain ⟨b,hb,hcr⟩:=mcounted_g A B C D' E K hA hC hD hE
 unfold model_Right.f
 rw [hs,obs_,if_neg (by decide +kernel),hcr,obs_]
 cases b with
 | false =>
  refine ⟨10,⟨fun h=>absurd h (by decide),fun h=>?_⟩,by rw [ind_,model_Right.j0,if_pos rfl]⟩
  obtain ⟨g1,g2,g3,g4,g5,g6⟩:=h.1
  have:=hb.2 ⟨g2,g3,g4,by omega,by omega⟩
  cases this
 | true =>
  obtain ⟨h1,rfl,h2,_,_⟩:=hb.1 rfl
  rw [if_pos rfl,ha,obs_]
  by_cases h3:D'.length=C.length∧E.length=C.length
  case neg =>
   rw [decide_eq_false h3,ind_]
   exact ⟨10,⟨fun h=>absurd h (by decide),fun h=>absurd h.1.2.2.2.2 h3⟩,by rw [model_Right.j0,if_pos rfl]⟩
  rw [decide_eq_true h3,if_pos rfl]
  by_cases hK:K=0
  ·
   subst hK
   rw [if_pos rfl,model_Right.j0,ind_,vars_g 21 A [] C D' E 0 hA (by simp) (by omega),obs_,List.append_nil]
   obtain ⟨i,hi,hir⟩:=idx_right_g A (by omega) A.length 0 k (by omega) (by omega)
   have hir':slices_IndexFunc_int_int_87_at_model_Right_1.l0 k A (A.length:Int) 0 256=some i:=hir
   have hco:slices_ContainsFunc_int_int_61_at_model_Right_1.f k A 256=some (decide (i≥0)):=by
    unfold slices_ContainsFunc_int_int_61_at_model_Right_1.f slices_IndexFunc_int_int_87_at_model_Right_1.f
    rw [hir',obs_]
   rw [List.drop_zero] at hi
   rw [hco,obs_]
   by_cases h4:i≥0
   ·
    exact ⟨7,⟨fun h=>absurd h (by decide),fun h=>by have:=hi.2 h.2.1;omega⟩,by rw [if_pos (decide_eq_true h4)]⟩
   ·
    obtain ⟨x,hx,ex⟩:=mnumbers_g A [] C D' E hC hD hE (k:=k) (by omega)
    obtain ⟨y,hy,ey⟩:=mcounts_g A [] 0 [] C D' E C.length h2 (by omega) rfl h3.1 h3.2 (k:=k) (by omega)
    rw [if_neg (by simpa using h4),ex,obs_]
    cases x with
    | false=>exact ⟨11,⟨fun h=>absurd h (by decide),fun h=>absurd (hx.2 ⟨h.2.2.1,h.2.2.2.1,h.2.2.2.2.1⟩) (by decide)⟩,by rw [ind_]⟩
    | true =>
     rw [if_pos rfl,ey,obs_]
     cases y with
     | false=>exact ⟨11,⟨fun h=>absurd h (by decide),fun h=>absurd (hy.2 h.2.2.2.2.2) (by decide)⟩,by rw [ind_]⟩
     | true =>
      obtain ⟨n1,n2,n3⟩:=hx.1 rfl
      exact ⟨0,⟨fun _=>⟨⟨rfl,h1,rfl,h2,h3.1,h3.2⟩,hi.1 (by omega),n1,n2,n3,hy.1 rfl⟩,fun _=>rfl⟩,by rw [if_pos rfl]⟩
  ·
   rw [if_neg hK,hct,obs_,model_Right.j0,if_pos (by decide)]
   exact ⟨10,⟨fun h=>absurd h (by decide),fun h=>absurd h.1.1 hK⟩,rfl⟩
def DZ (m:Fin 2048):S58:=if m.val=0 then ⟨0,[],0,0,0⟩ else D m
theorem LL0 {m:Fin 2048} (h:m.val=0):LL m=[]:=by unfold LL;rw [h];decide +kernel
theorem dz_of (m:Fin 2048) {k:Nat} (hk:40≤k):∃e,dom_Of.f k (LL m)=some ((DZ m).f0,(DZ m).f1,(DZ m).f2,(DZ m).f3,(DZ m).f4,e):=by
 unfold DZ
 by_cases h:m.val=0
 ·
  rw [if_pos h,LL0 h]
  refine ⟨4,up (f:=fun k=>dom_Of.f k []) (dom_Of.mono []) (k:=10) ?_ (by omega)⟩
  show dom_Of.f 10 []=_
  decide +kernel
 ·
  rw [if_neg h]
  exact ⟨0,of_one h hk⟩
theorem dz_size (m:Fin 2048):(DZ m).f4=0↔m.val=0:=by
 unfold DZ
 by_cases h:m.val=0
 ·
  rw [if_pos h];exact ⟨fun _=>h,fun _=>rfl⟩
 ·
  rw [if_neg h];exact ⟨fun h'=>absurd h' (size_all m h),fun h'=>absurd h' h⟩
theorem domz_l0 (ms:List (Fin 2048)) (hl:ms.length≤100):∀(m j k:Nat),ms.length=j+m→m+50<k →
  jigsawlaw20_doms.l0 k ((ms.take j).map DZ) (ms.map LL) (ms.length:Int) (j:Int)=some (ms.map DZ)
 | 0,j,k+1,e,_=>by
  rw [jigsawlaw20_doms.l0,ino_,List.take_of_length_le (by omega)]
 | m+1,j,k+1,e,hk=>by
  have hj:j<ms.length:=by omega
  obtain ⟨e',he⟩:=dz_of (ms.getD j 0) (k:=k) (by omega)
  rw [jigsawlaw20_doms.l0,if_pos (nlt hj),ipo_,if_pos (by rw [List.length_map];exact nlt hj),rdL_at,getD_map LL ms 0 [] hj,he,obs_,if_pos (by simp;omega),wsu_]
  have h:=domz_l0 ms hl m (j+1) k (by omega) (by omega)
  rw [←take_step ms 0 hj,List.map_append] at h
  exact h
theorem domz_f (ms:List (Fin 2048)) (hl:ms.length≤100) {k:Nat} (hk:200≤k):jigsawlaw20_doms.f k (ms.map LL)=some (ms.map DZ):=by
 have h:=domz_l0 ms hl ms.length 0 k (by omega) (by omega)
 unfold jigsawlaw20_doms.f
 rw [List.length_map]
 exact h
def OkAll (kd:Int) (A B C D' E:List Int) (K:Int) (ms:List (Fin 2048)):Prop:=kd=21∧Ok21 A B C D' E K∧ms.length=A.length+B.length∧∀c∈ms,c.val≠0
def Short (kd:Int) (C D' E:List Int) (R:List (List Int)):Prop:=kd=21→R=[]∧C.length≤5∧D'.length≤5∧E.length≤5
theorem idx_fits_g (ms:List (Fin 2048)) (hl:ms.length≤100):∀(m j k:Nat),ms.length=j+m→m<k→∃i:Int,(i<0↔∀c∈ms.drop j,c.val≠0)∧dom_Dom_75_at_prop_Fits_1.l0 k (ms.map DZ) (ms.length:Int) (j:Int)=some i
 | 0,j,k+1,e,_=>⟨-1,⟨fun _=>by rw [List.drop_eq_nil_of_le (by omega)];exact fun x hx=>absurd hx List.not_mem_nil,fun _=>by decide⟩,by rw [dom_Dom_75_at_prop_Fits_1.l0,ino_]⟩
 | m+1,j,k+1,e,hk=>by
  have hj:j<ms.length:=by omega
  have hd:ms.drop j=ms.getD j 0::ms.drop (j+1):=by rw [getD_lt ms 0 hj];exact List.drop_eq_getElem_cons hj
  obtain ⟨b,hb,hr⟩:=idx_fits_g ms hl m (j+1) k (by omega) (by omega)
  have hf:prop_Fits_1.f (DZ (ms.getD j 0)).f0 (DZ (ms.getD j 0)).f1 (DZ (ms.getD j 0)).f2 (DZ (ms.getD j 0)).f3 (DZ (ms.getD j 0)).f4=some ((DZ (ms.getD j 0)).f4==0):=rfl
  rw [dom_Dom_75_at_prop_Fits_1.l0,if_pos (nlt hj),ipo_,if_pos (by rw [List.length_map];exact nlt hj),rdD_at,getD_map DZ ms 0 z58 hj,hf,obs_,wsu_,hr,hd]
  by_cases h:(ms.getD j 0).val=0
  ·
   exact ⟨j,⟨fun h'=>absurd h' (by omega),fun h'=>absurd h (h' _ List.mem_cons_self)⟩,by rw [if_pos (beq_iff_eq.2 ((dz_size _).2 h))]⟩
  ·
   refine ⟨b,hb.trans ⟨fun h' x hx=>?_,fun h' x hx=>h' x (List.mem_cons_of_mem _ hx)⟩,by rw [if_neg (by rw [beq_iff_eq,dz_size];exact h)]⟩
   rcases List.mem_cons.1 hx with rfl | hx
   ·
    exact h
   ·
    exact h' x hx
theorem fits_g (kd:Int) (A B C D' E:List Int) (K:Int) (R:List (List Int)) (hR:Short kd C D' E R) (hA:A.length≤5) (hB:B.length≤5) (ms:List (Fin 2048)) (hl:ms.length≤20) {k:Nat} (hk:900≤k) :
  ∃b:Bool,(b=true↔OkAll kd A B C D' E K ms)∧prop_Fits.f k kd A B C D' E K R (ms.map DZ) 21 21=some b:=by
 obtain ⟨i,hi,hir⟩:=idx_fits_g ms (by omega) ms.length 0 k (by omega) (by omega)
 rw [List.drop_zero] at hi
 have hir':dom_Dom_75_at_prop_Fits_1.l0 k (ms.map DZ) (((ms.map DZ).length:Nat):Int) 0=some i:=by rw [List.length_map];exact hir
 have hco:dom_Dom_55_at_prop_Fits_1.f k (ms.map DZ)=some (decide (i≥0)):=by
  unfold dom_Dom_55_at_prop_Fits_1.f dom_Dom_75_at_prop_Fits_1.f
  rw [hir',obs_]
 have hw:wrap64 ((A.length:Int)+(B.length:Int))=(A.length:Int)+B.length:=wrap_id (by omega) (by omega)
 unfold prop_Fits.f
 rw [hco,obs_]
 by_cases h1:kd=21
 ·
  subst h1
  obtain ⟨rfl,hC,hD,hE⟩:=hR rfl
  obtain ⟨e,he,her⟩:=mright_g A B C D' E K hA hB hC hD hE (k:=k) (by omega)
  rw [if_pos (by decide),if_pos (by decide),her,obs_,hw,List.length_map]
  by_cases h2:e=0
  ·
   rw [if_pos h2]
   by_cases h3:(ms.length:Int)=(A.length:Int)+B.length
   ·
    rw [if_pos h3]
    refine ⟨_,?_,rfl⟩
    constructor
    ·
     intro h
     have:¬i≥0:=by simpa using h
     exact ⟨rfl,he.1 h2,by omega,hi.1 (by omega)⟩
    ·
     rintro ⟨_,_,_,h⟩
     have:=hi.2 h
     simp;omega
   ·
    rw [if_neg h3]
    exact ⟨false,⟨fun h=>absurd h (by decide),fun h=>absurd h.2.2.1 (by omega)⟩,rfl⟩
  ·
   rw [if_neg h2]
   exact ⟨false,⟨fun h=>absurd h (by decide),fun h=>absurd (he.2 h.2.1) h2⟩,rfl⟩
 ·
  refine ⟨false,⟨fun h=>absurd h (by decide),fun h=>absurd h.1 h1⟩,?_⟩
  by_cases h2:kd≥21
  ·
   rw [if_pos h2,ino_]
  ·
   rw [if_neg h2]
theorem rfits_g0 (ms:List (Fin 2048)) (hl:ms.length≤100):∀(m j k:Nat),ms.length=j+m→m<k→∃b:Bool,(b=true↔∀c∈ms.drop j,c.val≠0)∧jigsawref10_Fits.l0 k (ms.map LL) (j:Int)=some b
 | 0,j,k+1,e,_=>⟨true,⟨fun _=>by rw [List.drop_eq_nil_of_le (by omega)];exact fun x hx=>absurd hx List.not_mem_nil,fun _=>rfl⟩,by rw [jigsawref10_Fits.l0,List.length_map,ino_]⟩
 | m+1,j,k+1,e,hk=>by
  have hj:j<ms.length:=by omega
  have hd:ms.drop j=ms.getD j 0::ms.drop (j+1):=by rw [getD_lt ms 0 hj];exact List.drop_eq_getElem_cons hj
  obtain ⟨b,hb,hr⟩:=rfits_g0 ms hl m (j+1) k (by omega) (by omega)
  rw [jigsawref10_Fits.l0,List.length_map,if_pos (nlt hj),ipo_,rdL_at,getD_map LL ms 0 [] hj,wsu_,hr,hd]
  by_cases h:(ms.getD j 0).val=0
  ·
   exact ⟨false,⟨fun h'=>absurd h' (by decide),fun h'=>absurd h (h' _ List.mem_cons_self)⟩,by rw [if_pos (by rw [LL0 h];rfl)]⟩
  ·
   refine ⟨b,hb.trans ⟨fun h' x hx=>?_,fun h' x hx=>h' x (List.mem_cons_of_mem _ hx)⟩,by rw [if_neg (by have:=ne_all _ h;omega)]⟩
   rcases List.mem_cons.1 hx with rfl | hx
   ·
    exact h
   ·
    exact h' x hx
theorem rfits_g (kd:Int) (A B C D' E:List Int) (K:Int) (R:List (List Int)) (hR:Short kd C D' E R) (hA:A.length≤5) (hB:B.length≤5) (ms:List (Fin 2048)) (hl:ms.length≤20) {k:Nat} (hk:900≤k) :
  ∃b:Bool,(b=true↔OkAll kd A B C D' E K ms)∧jigsawref10_Fits.f k kd A B C D' E K R (ms.map LL) 21 21=some b:=by
 obtain ⟨k,rfl⟩:∃k',k=k'+1:=⟨k - 1,by omega⟩
 have hw:wrap64 ((A.length:Int)+(B.length:Int))=(A.length:Int)+B.length:=wrap_id (by omega) (by omega)
 unfold jigsawref10_Fits.f
 by_cases h1:kd=21
 ·
  subst h1
  obtain ⟨rfl,hC,hD,hE⟩:=hR rfl
  obtain ⟨e,he,her⟩:=rright_g A B C D' E K hA hC hD hE (k:=k) (by omega) hB
  obtain ⟨b,hb,hbr⟩:=rfits_g0 ms (by omega) ms.length 0 k (by omega) (by omega)
  rw [List.drop_zero] at hb
  have hbr':jigsawref10_Fits.l0 k (ms.map LL) 0=some b:=hbr
  rw [ind_,ind_,jigsawref10_Fits.j0,hw,List.length_map]
  by_cases h3:(ms.length:Int)=(A.length:Int)+B.length
  ·
   rw [if_neg (by rw [bne_iff_ne];exact fun h=>h h3),her,obs_]
   by_cases h2:e=0
   ·
    rw [if_pos h2,hbr']
    exact ⟨b,hb.trans ⟨fun h=>⟨rfl,he.1 h2,by omega,h⟩,fun h=>h.2.2.2⟩,rfl⟩
   ·
    rw [if_neg h2]
    exact ⟨false,⟨fun h=>absurd h (by decide),fun h=>absurd (he.2 h.2.1) h2⟩,rfl⟩
  ·
   rw [if_pos (by rw [bne_iff_ne];exact h3)]
   exact ⟨false,⟨fun h=>absurd h (by decide),fun h=>absurd h.2.2.1 (by omega)⟩,rfl⟩
 ·
  refine ⟨false,⟨fun h=>absurd h (by decide),fun h=>absurd h.1 h1⟩,?_⟩
  by_cases h2:kd<21
  ·
   rw [if_pos h2,jigsawref10_Fits.j0,if_pos rfl]
  ·
   rw [if_neg h2,ipo_,jigsawref10_Fits.j0,if_pos rfl]
theorem lift_st:∀ms:List (Fin 2048),(∀c∈ms,c.val≠0)→∃st:List Pd,Fine st∧st.map Prod.snd=ms∧st.map dp=ms.map D
 | [],_=>⟨[],fun _ h=>by simp at h,rfl,rfl⟩
 | m::ms,h=>by
  obtain ⟨st,h1,h2,h3⟩:=lift_st ms fun c hc=>h c (List.mem_cons_of_mem _ hc)
  obtain ⟨r,hr,e⟩:=rep_D m
  refine ⟨(r,m)::st,fun p hp=>?_,?_,?_⟩
  ·
   rcases List.mem_cons.1 hp with rfl | hp
   ·
    exact ⟨hr,h m (List.mem_cons_self ..)⟩
   ·
    exact h1 p hp
  ·
   rw [List.map_cons,h2]
  ·
   rw [List.map_cons,List.map_cons,h3,e];rfl
theorem wt_le:∀st:List Pd,wt st≤11 * st.length
 | []=>Nat.le_refl _
 | p::st=>by
  have:=wt_le st
  have:=(len_all p.2).1
  rw [wt_cons,List.length_cons];omega
theorem zip3:∀(C D' E:List Int),D'.length=C.length→E.length=C.length→∃T:List (Int×Int×Int),Cs T=C∧Ds T=D'∧Es T=E
 | [],[],[],_,_=>⟨[],rfl,rfl,rfl⟩
 | c::C,d::D',e::E,h1,h2=>by
  obtain ⟨T,t1,t2,t3⟩:=zip3 C D' E (by simpa using h1) (by simpa using h2)
  exact ⟨(c,d,e)::T,by simp [Cs,←t1],by simp [Ds,←t2],by simp [Es,←t3]⟩
 | [],d::D',_,h1,_=>by simp at h1
 | [],[],e::E,_,h2=>by simp at h2
 | c::C,[],_,h1,_=>by simp at h1
 | c::C,d::D',[],_,h2=>by simp at h2
theorem filter_g (A B C D' E:List Int) (K:Int) (hok:Ok21 A B C D' E K) (hC:C.length≤5) (ms:List (Fin 2048)) (h9:ms.length≤9) (hz:∀c∈ms,c.val≠0) {k:Nat} (hk:14000≤k) (hf:prop_Fits.f k 21 A B C D' E K [] (ms.map D) 21 21=some true) :
  ∃r,gcc_Filter.f k 21 A B C D' E K [] (ms.map D)=some r∧(r.2=true→r.1.length=ms.length):=by
 obtain ⟨st,s1,s2,s3⟩:=lift_st ms hz
 have sl:st.length=ms.length:=by rw [←s2,List.length_map]
 have hw:=wt_le st
 obtain ⟨T,rfl,rfl,rfl⟩:=zip3 C D' E hok.1.2.2.2.2.1 hok.1.2.2.2.2.2
 have hTl:T.length≤5:=by simpa using hC
 have h:=prog_l0 21 A B K [] T (fun t _=>has_ok t.1) (by omega) 100 st k s1 (by omega) (by omega) (by omega)
 refine ⟨outP (fil T 100 st),?_,fun hb=>?_⟩
 ·
  unfold gcc_Filter.f slices_CloneDom.f
  rw [hf,obs_,if_pos rfl,if_pos (by rw [List.length_map];omega),obs_,←s3]
  exact h
 ·
  cases e:fil T 100 st with
  | none=>rw [e] at hb;cases hb
  | some st' =>
   have:=(fil_fine T 100 st st' s1 e).2
   show (st'.map dp).length=_
   rw [List.length_map];omega
theorem both (kd:Int) (A B C D' E:List Int) (K:Int) (R:List (List Int)) (hR:Short kd C D' E R) (hA:A.length≤5) (hB:B.length≤5) (ms:List (Fin 2048)) (hl:ms.length≤9) {k:Nat} (hk:14000≤k) :
  ∃(r:List S58×Bool) (t:Bool),gcc_Filter.f k kd A B C D' E K R (ms.map DZ)=some r∧jigsawref10_Fits.f k kd A B C D' E K R (ms.map LL) 21 21=some t∧(t=true→r.2=true→r.1.length=ms.length)∧(t=false→r=([],false)):=by
 obtain ⟨b,hb,hbr⟩:=fits_g kd A B C D' E K R hR hA hB ms (by omega) (k:=k) (by omega)
 obtain ⟨t,ht,htr⟩:=rfits_g kd A B C D' E K R hR hA hB ms (by omega) (k:=k) (by omega)
 have hbt:b=t:=by rw [Bool.eq_iff_iff,hb,ht]
 subst hbt
 cases b with
 | false=>exact ⟨([],false),false,by unfold gcc_Filter.f;rw [hbr,obs_,ind_],htr,fun h=>absurd h (by decide),fun _=>rfl⟩
 | true =>
  obtain ⟨rfl,hok,h3,h4⟩:=hb.1 rfl
  obtain ⟨rfl,hC,_,_⟩:=hR rfl
  have hDZ:ms.map DZ=ms.map D:=List.map_congr_left fun c hc=>by unfold DZ;rw [if_neg (h4 c hc)]
  rw [hDZ] at hbr ⊢
  obtain ⟨r,h5,h6⟩:=filter_g A B C D' E K hok hC ms hl h4 (k:=k) (by omega) hbr
  exact ⟨r,true,h5,htr,fun _ h=>h6 h,fun h=>absurd h (by decide)⟩
theorem has_g0 (s:ByteArray) (c:Int) (hs:s.size≤4):∀(m j k n:Nat),s.size=j+m→m<k→n+m≤100→∃r:Nat,jigsawref06_has.l0 k s c (n:Int) (j:Int)=some (r:Int)∧r≤n+m
 | 0,j,k+1,n,e,_,_=>⟨n,by rw [jigsawref06_has.l0,ino_],by omega⟩
 | m+1,j,k+1,n,e,hk,hn=>by
  have hj:j<s.size:=by omega
  rw [jigsawref06_has.l0,if_pos (nlt hj),ipo_,wsu_,wsu_]
  by_cases h:bt s (j:Int)=c
  ·
   obtain ⟨r,h1,h2⟩:=has_g0 s c hs m (j+1) k (n+1) (by omega) (by omega) (by omega)
   exact ⟨r,by rw [if_pos h];exact h1,by omega⟩
  ·
   obtain ⟨r,h1,h2⟩:=has_g0 s c hs m (j+1) k n (by omega) (by omega) (by omega)
   exact ⟨r,by rw [if_neg h];exact h1,by omega⟩
theorem numbers_g0 (l:List Int) (from_:Nat) (hf:from_≤1000) (n:Nat) (hn:n≤50) (least wide:Int) (hw:wide≠0):∀(m j k:Nat) (acc:List Int),n=j+m→m<k→acc.length=j→∃r,jigsawref06_numbers.l0 k l (from_:Int) (n:Int) least wide acc (j:Int)=some r∧r.length=n
 | 0,j,k+1,acc,e,_,ha=>⟨acc,by rw [jigsawref06_numbers.l0,ino_],by omega⟩
 | m+1,j,k+1,acc,e,hk,ha=>by
  have hj:j<n:=by omega
  have hlen:acc.length<17592186044416:=by omega
  have ew:wrap64 ((from_:Int)+(j:Int))=((from_+j:Nat):Int):=by rw [wrap_id (by omega) (by omega)];omega
  have step:∀v,∃r,jigsawref06_numbers.l0 k l (from_:Int) (n:Int) least wide (acc++[v]) (((j+1:Nat)):Int)=some r∧r.length=n:=fun v =>
   numbers_g0 l from_ hf n hn least wide hw m (j+1) k (acc++[v]) (by omega) (by omega) (by simp [ha])
  rw [jigsawref06_numbers.l0,if_pos (nlt hj),ew,wsu_]
  simp only [if_pos hlen,if_neg hw]
  (repeat' split) <;> first | exact step _ | (exfalso;omega)
theorem numbers_g (l:List Int) (from_:Nat) (hf:from_≤1000) (n:Nat) (hn:n≤50) (least wide:Int) (hw:wide≠0) {k:Nat} (hk:60≤k):∃r,jigsawref06_numbers.f k l (from_:Int) (n:Int) least wide=some r∧r.length=n :=
 numbers_g0 l from_ hf n hn least wide hw n 0 k [] (by omega) (by omega) rfl
abbrev Con:=Int×List Int×List Int×List Int×List Int×List Int×Int×List (List Int)
def Ends (kd:Int) (p q:List Int) (o:Option Con):Prop:=∃C D E K R,o=some (kd,p,q,C,D,E,K,R)∧Short kd C D E R
section
variable (a0 a4 a5 kd : Int) (l1 l2 l3 : List Int) (n : Nat) (hn : 1 ≤ n ∧ n ≤ 4)
include hn
theorem mk_l2 (h18:kd=18) (p q C D E:List Int) (K:Int) (N:Nat) (hN:N≤6):∀(m j k:Nat) (R:List (List Int)),N=j+m→m+70<k→R.length=j→Ends kd p q (jigsawref06_Make.l2 k (n:Int) (N:Int) (j:Int) a0 l1 l2 l3 a4 a5 kd p q C D E K R)
 | 0,j,k+1,R,e,_,hR=>⟨C,D,E,K,R,by rw [jigsawref06_Make.l2,ino_],fun h=>by omega⟩
 | m+1,j,k+1,R,e,hk,hR=>by
  have hm:j * n≤6 * 4:=Nat.mul_le_mul (by omega) hn.2
  have ew:wrap64 ((j:Int) * (n:Int))=((j * n:Nat):Int):=by rw [←Int.natCast_mul];exact wrap_id (by omega) (by omega)
  obtain ⟨r,h1,_⟩:=numbers_g l3 (j * n) (by omega) n (by omega) (-1) 4 (by decide) (k:=k) (by omega)
  rw [jigsawref06_Make.l2,ipo_,ew,h1,obs_,ipo_,wsu_]
  exact mk_l2 h18 p q C D E K N hN m (j+1) k (R++[r]) (by omega) (by omega) (by simp [hR])
theorem mk_j11 (p q C D E:List Int) (K:Int) (hX:Short kd C D E []) {k:Nat} (hk:80≤k):Ends kd p q (jigsawref06_Make.j11 k (n:Int) a0 l1 l2 l3 a4 a5 kd p q C D E K):=by
 obtain ⟨k,rfl⟩:∃k',k=k'+1:=⟨k - 1,by omega⟩
 rw [jigsawref06_Make.j11]
 split
 ·
  rename_i h18
  have e:(1:Int)+((l3.length:Int)%6)=((1+l3.length%6:Nat):Int):=by omega
  rw [e]
  exact mk_l2 a0 a4 a5 kd l1 l2 l3 n hn h18 p q C D E K _ (by omega) (1+l3.length%6) 0 k [] (by omega) (by omega) rfl
 ·
  exact ⟨C,D,E,K,[],rfl,hX⟩
theorem mk_l1 (p q C D:List Int) (K:Int) (N:Nat) (hN:N≤3) (hC:C.length≤5) (hD:D.length=N):∀(m j k:Nat) (E:List Int),N=j+m→m+90<k→E.length=j→Ends kd p q (jigsawref06_Make.l1 k (n:Int) (N:Int) (j:Int) a0 l1 l2 l3 a4 a5 kd p q C D E K)
 | 0,j,k+1,E,e,hk,hE=>by
  rw [jigsawref06_Make.l1,ino_]
  exact mk_j11 a0 a4 a5 kd l1 l2 l3 n hn p q C D E K (fun _=>⟨rfl,hC,by omega,by omega⟩) (by omega)
 | m+1,j,k+1,E,e,hk,hE=>by
  rw [jigsawref06_Make.l1,ipo_,ipo_,ipo_,ipo_,wsu_]
  exact mk_l1 p q C D K N hN hC hD m (j+1) k _ (by omega) (by omega) (by simp [hE])
theorem mk_l0 (p q D:List Int) (K:Int) (N:Nat) (hN:1≤N∧N≤3):∀(m j k:Nat) (C:List Int),N=j+m→m+100<k→C.length=j→Ends kd p q (jigsawref06_Make.l0 k (n:Int) (N:Int) (j:Int) a0 l1 l2 l3 a4 a5 kd p q C D K)
 | 0,j,k+1,C,e,hk,hC=>by
  obtain ⟨r,h1,h2⟩:=numbers_g l3 0 (by omega) N (by omega) 0 2 (by decide) (k:=k) (by omega)
  have h1':jigsawref06_numbers.f k l3 0 (N:Int) 0 2=some r:=h1
  rw [jigsawref06_Make.l0,ino_,h1',obs_]
  exact mk_l1 a0 a4 a5 kd l1 l2 l3 n hn p q C r K N hN.2 (by omega) h2 N 0 k [] (by omega) (by omega) rfl
 | m+1,j,k+1,C,e,hk,hC=>by
  rw [jigsawref06_Make.l0,ipo_,ipo_,wsu_]
  exact mk_l0 p q D K N hN m (j+1) k _ (by omega) (by omega) (by simp [hC])
theorem mk_j8 (p q C D:List Int) (K:Int) {k:Nat} (hk:120≤k):Ends kd p q (jigsawref06_Make.j8 k (n:Int) a0 l1 l2 l3 a4 a5 kd p q C D K):=by
 obtain ⟨k,rfl⟩:∃k',k=k'+1:=⟨k - 1,by omega⟩
 rw [jigsawref06_Make.j8]
 split
 ·
  have e:(1:Int)+((l3.length:Int)%3)=((1+l3.length%3:Nat):Int):=by omega
  rw [e]
  exact mk_l0 a0 a4 a5 kd l1 l2 l3 n hn p q D K _ (by omega) (1+l3.length%3) 0 k [] (by omega) (by omega) rfl
 ·
  rename_i h21
  exact mk_j11 a0 a4 a5 kd l1 l2 l3 n hn p q C D [] K (fun h=>absurd h h21) (by omega)
theorem mk_j7 (p q C:List Int) (K:Int) {k:Nat} (hk:130≤k):Ends kd p q (jigsawref06_Make.j7 k (n:Int) a0 l1 l2 l3 a4 a5 kd p q C K):=by
 obtain ⟨k,rfl⟩:∃k',k=k'+1:=⟨k - 1,by omega⟩
 rw [jigsawref06_Make.j7]
 split
 ·
  obtain ⟨r,h1,_⟩:=numbers_g l3 0 (by omega) n (by omega) 0 4 (by decide) (k:=k) (by omega)
  obtain ⟨r2,h2,_⟩:=numbers_g l3 n (by omega) n (by omega) 0 4 (by decide) (k:=k) (by omega)
  have h1':jigsawref06_numbers.f k l3 0 (n:Int) 0 4=some r:=h1
  rw [h1',obs_,h2,obs_]
  split <;> exact mk_j8 a0 a4 a5 kd l1 l2 l3 n hn p q _ _ _ (by omega)
 ·
  exact mk_j8 a0 a4 a5 kd l1 l2 l3 n hn p q C [] K (by omega)
theorem mk_j6 (s:ByteArray) (hs:s.size≤4) (p q C:List Int) (K:Int) {k:Nat} (hk:140≤k):Ends kd p q (jigsawref06_Make.j6 k s (n:Int) a0 l1 l2 l3 a4 a5 kd p q C K):=by
 obtain ⟨k,rfl⟩:∃k',k=k'+1:=⟨k - 1,by omega⟩
 obtain ⟨r,h,_⟩:=has_g0 s 107 hs s.size 0 k 0 (by omega) (by omega) (by omega)
 have h':jigsawref06_has.f k s 107=some (r:Int):=h
 rw [jigsawref06_Make.j6,h',obs_]
 split <;> exact mk_j7 a0 a4 a5 kd l1 l2 l3 n hn p q C _ (by omega)
theorem mk_j5 (s:ByteArray) (hs:s.size≤4) (p q C:List Int) (K:Int) {k:Nat} (hk:150≤k):Ends kd p q (jigsawref06_Make.j5 k s (n:Int) a0 l1 l2 l3 a4 a5 kd p q C K):=by
 obtain ⟨k,rfl⟩:∃k',k=k'+1:=⟨k - 1,by omega⟩
 rw [jigsawref06_Make.j5]
 split
 ·
  have e:(1:Int)+((l3.length:Int)%5)=((1+l3.length%5:Nat):Int):=by omega
  obtain ⟨r,h1,_⟩:=numbers_g l3 0 (by omega) (1+l3.length%5) (by omega) (-1) 5 (by decide) (k:=k) (by omega)
  have h1':jigsawref06_numbers.f k l3 0 ((1+l3.length%5:Nat):Int) (-1) 5=some r:=h1
  rw [e,h1',obs_]
  exact mk_j6 a0 a4 a5 kd l1 l2 l3 n hn s hs p q r K (by omega)
 ·
  exact mk_j6 a0 a4 a5 kd l1 l2 l3 n hn s hs p q C K (by omega)
theorem mk_j4 (s:ByteArray) (hs:s.size≤4) (p q:List Int) (K:Int) {k:Nat} (hk:160≤k):Ends kd p q (jigsawref06_Make.j4 k s (n:Int) a0 l1 l2 l3 a4 a5 kd p q K):=by
 obtain ⟨k,rfl⟩:∃k',k=k'+1:=⟨k - 1,by omega⟩
 obtain ⟨r,h,_⟩:=has_g0 s 99 hs s.size 0 k 0 (by omega) (by omega) (by omega)
 have h':jigsawref06_has.f k s 99=some (r:Int):=h
 rw [jigsawref06_Make.j4,h',obs_]
 split
 ·
  obtain ⟨r,h1,_⟩:=numbers_g l3 0 (by omega) n (by omega) (-1) 5 (by decide) (k:=k) (by omega)
  have h1':jigsawref06_numbers.f k l3 0 (n:Int) (-1) 5=some r:=h1
  rw [h1',obs_]
  exact mk_j5 a0 a4 a5 kd l1 l2 l3 n hn s hs p q r K (by omega)
 ·
  exact mk_j5 a0 a4 a5 kd l1 l2 l3 n hn s hs p q [] K (by omega)
end
def EndsP (kd:Int) (o:Option Con):Prop:=∃(n m:Nat) (p q:List Int),1≤n∧n≤4∧m≤4∧Places n p∧Places m q∧Ends kd p q o
section
variable (a0 a4 a5 kd : Int) (l1 l2 l3 : List Int) (h1 : ∀ x ∈ l1, 0 ≤ x ∧ x ≤ 255) (h2 : ∀ x ∈ l2, 0 ≤ x ∧ x ≤ 255) (s : ByteArray) (hs : s.size ≤ 4)
include h2 hs
theorem mk_j3 (n m:Nat) (hn:1≤n∧n≤4) (hm:m≤4) (p q:List Int) (hp:Places n p) (hq:Places m q) (K:Int) {k:Nat} (hk:170≤k):EndsP kd (jigsawref06_Make.j3 k 5 s (n:Int) a0 l1 l2 l3 a4 a5 kd p q K):=by
 obtain ⟨k,rfl⟩:∃k',k=k'+1:=⟨k - 1,by omega⟩
 obtain ⟨r,h,_⟩:=has_g0 s 87 hs s.size 0 k 0 (by omega) (by omega) (by omega)
 have h':jigsawref06_has.f k s 87=some (r:Int):=h
 rw [jigsawref06_Make.j3,h',obs_]
 split
 ·
  obtain ⟨t,h1,h3⟩:=places_f l2 h2 n hn.2 (k:=k) (by omega)
  rw [h1,obs_]
  exact ⟨n,n,p,t,hn.1,hn.2,hn.2,hp,h3,mk_j4 a0 a4 a5 kd l1 l2 l3 n hn s hs p t K (by omega)⟩
 ·
  exact ⟨n,m,p,q,hn.1,hn.2,hm,hp,hq,mk_j4 a0 a4 a5 kd l1 l2 l3 n hn s hs p q K (by omega)⟩
include h1
theorem mk_j2 (n:Nat) (hn:1≤n∧n≤4) (K:Int) {k:Nat} (hk:180≤k):EndsP kd (jigsawref06_Make.j2 k 5 s (n:Int) a0 l1 l2 l3 a4 a5 kd K):=by
 obtain ⟨k,rfl⟩:∃k',k=k'+1:=⟨k - 1,by omega⟩
 obtain ⟨p,hp,hpp⟩:=places_f l1 h1 n hn.2 (k:=k) (by omega)
 obtain ⟨r,h,_⟩:=has_g0 s 119 hs s.size 0 k 0 (by omega) (by omega) (by omega)
 have h':jigsawref06_has.f k s 119=some (r:Int):=h
 rw [jigsawref06_Make.j2,hp,obs_,h',obs_]
 split
 ·
  obtain ⟨t,h3,h4⟩:=places_f l2 h2 1 (by omega) (k:=k) (by omega)
  have h3':jigsawref06_places.f k l2 1 5=some t:=h3
  rw [h3',obs_]
  exact mk_j3 a0 a4 a5 kd l1 l2 l3 h2 s hs n 1 hn (by omega) p t hpp h4 K (by omega)
 ·
  exact mk_j3 a0 a4 a5 kd l1 l2 l3 h2 s hs n 0 hn (by omega) p [] hpp ⟨rfl,fun x hx=>absurd hx List.not_mem_nil⟩ K (by omega)
theorem mk_j1 (n:Nat) (hn:1≤n∧n≤4) (K:Int) {k:Nat} (hk:190≤k):EndsP kd (jigsawref06_Make.j1 k 5 s (n:Int) a0 l1 l2 l3 a4 a5 kd K):=by
 obtain ⟨k,rfl⟩:∃k',k=k'+1:=⟨k - 1,by omega⟩
 obtain ⟨r,h,hr⟩:=has_g0 s 118 hs s.size 0 k 0 (by omega) (by omega) (by omega)
 have h':jigsawref06_has.f k s 118=some (r:Int):=h
 rw [jigsawref06_Make.j1,h',obs_]
 split
 ·
  rw [obs_]
  exact mk_j2 a0 a4 a5 kd l1 l2 l3 h1 h2 s hs r (by omega) K (by omega)
 ·
  exact mk_j2 a0 a4 a5 kd l1 l2 l3 h1 h2 s hs n hn K (by omega)
theorem mk_j0 (n:Nat) (hn:1≤n) (K:Int) {k:Nat} (hk:200≤k):EndsP kd (jigsawref06_Make.j0 k 5 s (n:Int) a0 l1 l2 l3 a4 a5 kd K):=by
 obtain ⟨k,rfl⟩:∃k',k=k'+1:=⟨k - 1,by omega⟩
 rw [jigsawref06_Make.j0]
 split
 ·
  exact mk_j1 a0 a4 a5 kd l1 l2 l3 h1 h2 s hs 4 (by omega) K (by omega)
 ·
  exact mk_j1 a0 a4 a5 kd l1 l2 l3 h1 h2 s hs n (by omega) K (by omega)
end
theorem shape_size:∀i:Fin 24,(rdOf ByteArray.empty ((jigsawref06_Shapes.f).getD []) (i.val:Int)).size≤4:=by decide +kernel
theorem kd_back {kd:Int} (h:1≤kd∧kd≤23):wrap64 (1+Int.tmod (wrap64 ((wrap64 (kd - 1))%256)) 23)=kd:=by
 have e0:wrap64 (kd - 1)=kd - 1:=wrap_id (by omega) (by omega)
 have e1:(kd - 1)%256=kd - 1:=by omega
 have e2:Int.tmod (kd - 1) 23=kd - 1:=by rw [Int.tmod_eq_emod_of_nonneg (by omega)];omega
 rw [e0,e1,e0,e2,wrap_id (by omega) (by omega)];omega
theorem make_any (kd:Int) (hkd:1≤kd∧kd≤23) (l1 l2 l3:List Int) (a4 a5:Int) (h1:∀x∈l1,0≤x∧x≤255) (h2:∀x∈l2,0≤x∧x≤255) {k:Nat} (hk:300≤k) :
  EndsP kd (jigsawref06_Make.f k ((wrap64 (kd - 1))%256) l1 l2 l3 a4 a5 5):=by
 have hs:jigsawref06_Shapes.f=some ((jigsawref06_Shapes.f).getD []):=by rfl
 have hlen:((jigsawref06_Shapes.f).getD []).length=24:=by decide +kernel
 have hsz:=shape_size ⟨kd.toNat,by omega⟩
 simp only [] at hsz
 rw [show ((kd.toNat:Nat):Int)=kd by omega] at hsz
 unfold jigsawref06_Make.f
 rw [hs,obs_,kd_back hkd,hlen,ipo_,ipo_]
 split
 ·
  exact mk_j0 _ a4 a5 kd l1 l2 l3 h1 h2 _ hsz 1 (by omega) 0 (by omega)
 ·
  exact mk_j0 _ a4 a5 kd l1 l2 l3 h1 h2 _ hsz l1.length (by omega) 0 (by omega)
theorem case_g0 (kd K:Int) (p q C D E:List Int) (R:List (List Int)) (N:Nat) (hN:p.length+q.length=N) (hn:N≤8) (a0 a4 a5:Int) (l1 l2 l3:List Int) (l6:List (List Int)):∀(m j k:Nat) (ms:List (Fin 2048)),N=j+m→m+4300<k→ms.length=j→(∀c∈ms,c.val≠0) →
  ∃ms':List (Fin 2048),ms'.length=N∧(∀c∈ms',c.val≠0)∧jigsawref10_Make.l0 k 6 (ms.map LL) (j:Int) a0 l1 l2 l3 a4 a5 l6 kd p q C D E K R=some (kd,p,q,C,D,E,K,R,ms'.map LL)
 | 0,j,k+1,ms,e,hk,hl,hs=>by
  have hw:wrap64 ((p.length:Int)+(q.length:Int))=(N:Int):=by rw [wrap_id (by omega) (by omega)];omega
  refine ⟨ms,by omega,hs,?_⟩
  rw [jigsawref10_Make.l0,hw,ino_]
 | m+1,j,k+1,ms,e,hk,hl,hs=>by
  have hw:wrap64 ((p.length:Int)+(q.length:Int))=(N:Int):=by rw [wrap_id (by omega) (by omega)];omega
  have step:∀c:Fin 2048,c.val≠0→∃ms':List (Fin 2048),ms'.length=N∧(∀c∈ms',c.val≠0)∧jigsawref10_Make.l0 k 6 ((ms.map LL)++[LL c]) (wrap64 ((j:Int)+1)) a0 l1 l2 l3 a4 a5 l6 kd p q C D E K R=some (kd,p,q,C,D,E,K,R,ms'.map LL):=by
   intro c hc
   have h:=case_g0 kd K p q C D E R N hN hn a0 a4 a5 l1 l2 l3 l6 m (j+1) k (ms++[c]) (by omega) (by omega) (by simp [hl]) (fun x hx=>by
    rcases List.mem_append.1 hx with h | h
    ·
     exact hs x h
    ·
     rw [List.mem_singleton] at h;rw [h];exact hc)
   rw [wsu_]
   rwa [List.map_append] at h
  have hlm:(ms.map LL).length<5864062014805:=by simp;omega
  rw [jigsawref10_Make.l0,hw,ipo_,obs_]
  have dflt:∃c:Fin 2048,c.val≠0∧jigsawref02_Small.f k [Int.tmod (j:Int) 3,1] 6 6=some (LL c):=small_f _ (by simp) (by omega)
  by_cases hx:j<l6.length
  ·
   rw [if_pos (nlt hx),ipo_,rdL_at]
   by_cases hz:((l6.getD j []).length:Int)>0
   ·
    obtain ⟨c,hc,h⟩:=small_f (l6.getD j []) (by omega) (k:=k) (by omega)
    rw [if_pos hz,h,obs_,if_pos hlm]
    exact step c hc
   ·
    obtain ⟨c,hc,h⟩:=dflt
    rw [if_neg hz,h,obs_,if_pos hlm]
    exact step c hc
  ·
   obtain ⟨c,hc,h⟩:=dflt
   rw [if_neg (nge hx),h,obs_,if_pos hlm]
   exact step c hc
theorem case_all (kd:Int) (hkd:1≤kd∧kd≤23) (a0 a4 a5:Int) (l1 l2 l3:List Int) (l6:List (List Int)) (h1:∀x∈l1,0≤x∧x≤255) (h2:∀x∈l2,0≤x∧x≤255) {k:Nat} (hk:4400≤k) :
  ∃(p q C D E:List Int) (K:Int) (R:List (List Int)) (ms:List (Fin 2048)),1≤p.length∧p.length≤4∧q.length≤4∧ms.length=p.length+q.length∧(∀c∈ms,c.val≠0)∧Short kd C D E R∧jigsawref10_Make.f k a0 l1 l2 l3 a4 a5 l6 kd 6=some (kd,p,q,C,D,E,K,R,ms.map LL):=by
 have fin:∀(p q C D E:List Int) (K:Int) (R:List (List Int)),1≤p.length→p.length≤4→q.length≤4→Short kd C D E R→jigsawref06_Make.f k ((wrap64 (kd - 1))%256) l1 l2 l3 a4 a5 5=some (kd,p,q,C,D,E,K,R)→∃(p q C D E:List Int) (K:Int) (R:List (List Int)) (ms:List (Fin 2048)),1≤p.length∧p.length≤4∧q.length≤4∧ms.length=p.length+q.length∧(∀c∈ms,c.val≠0)∧Short kd C D E R∧jigsawref10_Make.f k a0 l1 l2 l3 a4 a5 l6 kd 6=some (kd,p,q,C,D,E,K,R,ms.map LL):=by
  intro p q C D E K R g1 g2 g3 g4 e
  obtain ⟨ms,f1,f2,f3⟩:=case_g0 kd K p q C D E R (p.length+q.length) rfl (by omega) ((wrap64 (kd - 1))%256) a4 a5 l1 l2 l3 l6 (p.length+q.length) 0 k [] (by omega) (by omega) rfl (fun c hc=>by simp at hc)
  refine ⟨p,q,C,D,E,K,R,ms,g1,g2,g3,f1,f2,g4,?_⟩
  unfold jigsawref10_Make.f
  rw [e,obs_]
  exact f3
 obtain ⟨n,m,p,q,e1,e2,e3,e4,e5,C,D,E,K,R,e6,e7⟩:=make_any kd hkd l1 l2 l3 a4 a5 h1 h2 (k:=k) (by omega)
 exact fin p q C D E K R (by rw [e4.1];exact e1) (by rw [e4.1];exact e2) (by rw [e5.1];exact e3) e7 e6
theorem wakes_true {k:Nat} (hk:100≤k):jigsawlaw20_wakes.f k=some true :=
 up (f:=fun k=>jigsawlaw20_wakes.f k) jigsawlaw20_wakes.mono (by decide +kernel) hk
theorem wf_u8 {x:Int} (h:(Lit.int .u8 x).wf=true):0≤x∧x≤255:=by
 simp only [Lit.wf,IntKind.min,IntKind.max,IntKind.signed,IntKind.bits,Bool.and_eq_true] at h
 simp at h
 omega
theorem tail0 (ms:List (Fin 2048)) (r:List S58×Bool) (t:Bool) (h1:t=true→r.2=true→r.1.length=ms.length) (h2:t=false→r=([],false)):jigsawlaw20_GccRefuses.j1 (99998+1) (ms.map LL) r.1 r.2 t=some true:=by
 rw [jigsawlaw20_GccRefuses.j1]
 cases t with
 | false=>rw [h2 rfl,ind_,wakes_true (by decide),obs_,if_pos rfl,ind_];rfl
 | true =>
  rw [if_pos rfl,wakes_true (by decide),obs_,if_pos rfl]
  by_cases h:r.2=true
  ·
   rw [if_pos h,List.length_map,h1 rfl h];simp
  ·
   rw [if_neg h]
theorem tail1 (ms:List (Fin 2048)) (r:List S58×Bool) (t:Bool) (h1:t=true→r.2=true→r.1.length=ms.length) (h2:t=false→r=([],false)):jigsawlaw20_GccRefuses.j2 (99998+1) (ms.map LL) r.1 r.2 t=some true:=by
 rw [jigsawlaw20_GccRefuses.j2]
 cases t with
 | false=>rw [h2 rfl,ind_,wakes_true (by decide),obs_,if_pos rfl,ind_];rfl
 | true =>
  rw [if_pos rfl,wakes_true (by decide),obs_,if_pos rfl]
  by_cases h:r.2=true
  ·
   rw [if_pos h,List.length_map,h1 rfl h];simp
  ·
   rw [if_neg h]
theorem tail2 (ms:List (Fin 2048)) (r:List S58×Bool) (t:Bool) (h1:t=true→r.2=true→r.1.length=ms.length) (h2:t=false→r=([],false)):jigsawlaw20_GccRefuses.j3 (99998+1) (ms.map LL) r.1 r.2 t=some true:=by
 rw [jigsawlaw20_GccRefuses.j3]
 cases t with
 | false=>rw [h2 rfl,ind_,wakes_true (by decide),obs_,if_pos rfl,ind_];rfl
 | true =>
  rw [if_pos rfl,wakes_true (by decide),obs_,if_pos rfl]
  by_cases h:r.2=true
  ·
   rw [if_pos h,List.length_map,h1 rfl h];simp
  ·
   rw [if_neg h]
theorem tail3 (ms:List (Fin 2048)) (r:List S58×Bool) (t:Bool) (h1:t=true→r.2=true→r.1.length=ms.length) (h2:t=false→r=([],false)):jigsawlaw20_GccRefuses.j4 (99998+1) (ms.map LL) r.1 r.2 t=some true:=by
 rw [jigsawlaw20_GccRefuses.j4]
 cases t with
 | false=>rw [h2 rfl,ind_,wakes_true (by decide),obs_,if_pos rfl,ind_];rfl
 | true =>
  rw [if_pos rfl,wakes_true (by decide),obs_,if_pos rfl]
  by_cases h:r.2=true
  ·
   rw [if_pos h,List.length_map,h1 rfl h];simp
  ·
   rw [if_neg h]
theorem tail4 (ms:List (Fin 2048)) (r:List S58×Bool) (t:Bool) (h1:t=true→r.2=true→r.1.length=ms.length) (h2:t=false→r=([],false)):jigsawlaw20_GccRefuses.j5 (99998+1) (ms.map LL) r.1 r.2 t=some true:=by
 rw [jigsawlaw20_GccRefuses.j5]
 cases t with
 | false=>rw [h2 rfl,ind_,wakes_true (by decide),obs_,if_pos rfl,ind_];rfl
 | true =>
  rw [if_pos rfl,wakes_true (by decide),obs_,if_pos rfl]
  by_cases h:r.2=true
  ·
   rw [if_pos h,List.length_map,h1 rfl h];simp
  ·
   rw [if_neg h]
theorem short_f (l:List Int):∃s:List Int,s.length≤5∧jigsawlaw20_GccRefuses_1.f l=some s:=by
 unfold jigsawlaw20_GccRefuses_1.f
 have h:0≤mn (l.length:Int) 5∧mn (l.length:Int) 5≤(l.length:Int)∧mn (l.length:Int) 5≤5:=by unfold mn;split <;> omega
 exact ⟨l.take (mn (l.length:Int) 5).toNat,by rw [List.length_take];omega,by rw [if_pos h.1,if_pos h.2.1]⟩
theorem gccRefuses (a0:Int) (l1 l3 l4:List Int) (a4 a5:Int) (l6:List (List Int)) (b0:Int) (m1 m2 m3 m4 m5:List Int) (b6:Int) (m7:List (List Int)) (a2:Int) (hw1:∀x∈l1,(Lit.int .u8 x).wf=true) (hw3:∀x∈l3,(Lit.int .u8 x).wf=true) (hwa:(Lit.int .u8 a2).wf=true) :
  ∃k,jigsawlaw20_GccRefuses.f k a0 l1 l3 l4 a4 a5 l6 b0 m1 m2 m3 m4 m5 b6 m7 a2=some true:=by
 refine ⟨100000,?_⟩
 have ha:=wf_u8 hwa
 obtain ⟨kd,hkd,hk⟩:∃kd:Int,(1≤kd∧kd≤23)∧wrap64 (1+Int.tmod (wrap64 (a2 / 8)) 23)=kd:=by
  have e1:wrap64 (a2 / 8)=a2 / 8:=wrap_id (by omega) (by omega)
  have e2:Int.tmod (a2 / 8) 23=(a2 / 8)%23:=Int.tmod_eq_emod_of_nonneg (by omega)
  have e3:wrap64 (1+(a2 / 8)%23)=1+(a2 / 8)%23:=wrap_id (by omega) (by omega)
  exact ⟨1+(a2 / 8)%23,by omega,by rw [e1,e2,e3]⟩
 obtain ⟨p,q,C,D',E,K,R,ms,g1,g2,g3,hl,hs,g4,hm⟩:=case_all kd hkd a0 a4 a5 l1 l3 l4 l6 (fun x hx=>wf_u8 (hw1 x hx)) (fun x hx=>wf_u8 (hw3 x hx)) (k:=100000) (by decide)
 have ew:wrap64 (((ms.map LL).length:Int) - 1)=((ms.length - 1:Nat):Int):=by rw [List.length_map,wrap_id (by omega) (by omega)];omega
 unfold jigsawlaw20_GccRefuses.f
 rw [hk,hm,obs_]
 show jigsawlaw20_GccRefuses.j0 (99999+1) _ _ _ _ _ _ _ _ _ _ _ _ _ _ _ _ _ _=some true
 rw [jigsawlaw20_GccRefuses.j0]
 show (if Int.tmod a2 5=0 then (if 0≤wrap64 (((ms.map LL).length:Int) - 1) then (if wrap64 (((ms.map LL).length:Int) - 1)≤((ms.map LL).length:Int) then (some ((ms.map LL).take (wrap64 (((ms.map LL).length:Int) - 1)).toNat)).bind _ else none) else none) else _)=some true
 by_cases c0:Int.tmod a2 5=0
 ·
  rw [if_pos c0,ew,ipo_,if_pos (by rw [List.length_map];omega),obs_,Int.toNat_natCast,←List.map_take]
  obtain ⟨r,t,e1,e2,e3,e4⟩:=both kd p q C D' E K R g4 (by omega) (by omega) (ms.take (ms.length - 1)) (by rw [List.length_take];omega) (k:=99999) (by decide)
  rw [domz_f _ (by rw [List.length_take];omega) (by decide),obs_]
  show (gcc_Filter.f 99999 kd p q C D' E K R _).bind _=_
  rw [e1,obs_]
  show (jigsawref10_Fits.f 99999 kd p q C D' E K R _ 21 21).bind _=_
  rw [e2,obs_]
  exact tail0 _ r t e3 e4
 rw [if_neg c0]
 by_cases c1:Int.tmod a2 5=1
 ·
  rw [if_pos c1]
  show (if 0<((ms.map LL).length:Int) then (some ((ms.map LL).set (0:Int).toNat [])).bind _ else none)=some true
  have e0:(ms.map LL).set (0:Int).toNat []=(ms.set 0 0).map LL:=by
   rw [List.map_set,LL0 (m:=0) rfl];rfl
  rw [if_pos (by rw [List.length_map];omega),obs_,e0]
  obtain ⟨r,t,e1,e2,e3,e4⟩:=both kd p q C D' E K R g4 (by omega) (by omega) (ms.set 0 0) (by rw [List.length_set];omega) (k:=99999) (by decide)
  rw [domz_f _ (by rw [List.length_set];omega) (by decide),obs_]
  show (gcc_Filter.f 99999 kd p q C D' E K R _).bind _=_
  rw [e1,obs_]
  show (jigsawref10_Fits.f 99999 kd p q C D' E K R _ 21 21).bind _=_
  rw [e2,obs_]
  exact tail1 _ r t e3 e4
 rw [if_neg c1]
 by_cases c2:Int.tmod a2 5=2
 ·
  rw [if_pos c2]
  show (if (ms.map LL).length<5864062014805 then (some ((ms.map LL)++[[1]])).bind _ else none)=some true
  have e0:(ms.map LL)++[[1]]=(ms++[64]).map LL:=by
   rw [List.map_append]
   have h64:LL 64=[1]:=by decide +kernel
   show _=ms.map LL++[LL 64]
   rw [h64]
  rw [if_pos (by rw [List.length_map];omega),obs_,e0]
  obtain ⟨r,t,e1,e2,e3,e4⟩:=both kd p q C D' E K R g4 (by omega) (by omega) (ms++[64]) (by simp;omega) (k:=99999) (by decide)
  rw [domz_f _ (by simp;omega) (by decide),obs_]
  show (gcc_Filter.f 99999 kd p q C D' E K R _).bind _=_
  rw [e1,obs_]
  show (jigsawref10_Fits.f 99999 kd p q C D' E K R _ 21 21).bind _=_
  rw [e2,obs_]
  exact tail2 _ r t e3 e4
 rw [if_neg c2]
 by_cases c3:Int.tmod a2 5=3
 ·
  rw [if_pos c3]
  obtain ⟨s1,f1,h1⟩:=short_f m1
  obtain ⟨s2,f2,h2⟩:=short_f m2
  obtain ⟨s3,f3,h3⟩:=short_f m3
  obtain ⟨s4,f4,h4⟩:=short_f m4
  obtain ⟨s5,f5,h5⟩:=short_f m5
  rw [h1,obs_,h2,obs_,h3,obs_,h4,obs_,h5,obs_]
  obtain ⟨r,t,e1,e2,e3,e4⟩:=both b0 s1 s2 s3 s4 s5 b6 [] (fun _=>⟨rfl,f3,f4,f5⟩) f1 f2 ms (by omega) (k:=99999) (by decide)
  show (jigsawlaw20_doms.f 99999 (ms.map LL)).bind _=_
  rw [domz_f _ (by omega) (by decide),obs_]
  show (gcc_Filter.f 99999 b0 s1 s2 s3 s4 s5 b6 [] _).bind _=_
  rw [e1,obs_]
  show (jigsawref10_Fits.f 99999 b0 s1 s2 s3 s4 s5 b6 [] (ms.map LL) 21 21).bind _=_
  rw [e2,obs_]
  exact tail3 _ r t e3 e4
 ·
  rw [if_neg c3]
  obtain ⟨r,t,e1,e2,e3,e4⟩:=both kd p q C D' E K R g4 (by omega) (by omega) ms (by omega) (k:=99999) (by decide)
  show (jigsawlaw20_doms.f 99999 (ms.map LL)).bind _=_
  rw [domz_f _ (by omega) (by decide),obs_]
  show (gcc_Filter.f 99999 kd p q C D' E K R _).bind _=_
  rw [e1,obs_]
  show (jigsawref10_Fits.f 99999 kd p q C D' E K R (ms.map LL) 21 21).bind _=_
  rw [e2,obs_]
  exact tail4 _ r t e3 e4
end Go.Proofs.YtijjhobjmehhoaaGreatDoor.Pure
