-- by xprint.py, a program of this session, over the kit's print
import Derived.Test.YtijjhobjmehhoaaGreatDoorXGRex0
import Derived.Test.YtijjhobjmehhoaaGreatDoorSq
namespace Go.Proofs.YtijjhobjmehhoaaGreatDoor.XGccRefuses
open Go.RowKit Go.Proofs.YtijjhobjmehhoaaGreatDoor.Sq Go.Proofs.YtijjhobjmehhoaaGreatDoorW.PrintWords Go.Proofs.YtijjhobjmehhoaaGreatDoorW.PrintLast Go.Proofs.YtijjhobjmehhoaaGreatDoorW.PrintMore
attribute [local go_sem] max2_int min2_int max_two min_two max_three min_three max_four min_four   -- for this text's walks alone
set_option linter.unusedVariables false
set_option maxHeartbeats 8000000
set_option maxRecDepth 100000
set_option linter.unusedSimpArgs false
-- NOT PRINTED: function 75 (dom_Dom_75)
-- NOT PRINTED: function 55 (dom_Dom_55)
def dom_Dom_Size.f (b:Int) (c:List Int) (d:Int) (e:Int) (a:Int):Option (Int):=some a
theorem dom_Dom_Size.calls (b:Int) (c:Option Addr) (c0_1:Nat) (a:List Int) (d:Int) (g:Int) (l:Int) (r:Int) (w:World) (n:Kd.C (Kd.int .u64) w c a.length a) (m:a.length≤c0_1) (h:dom_Dom_Size.f b a d g l=some r) :
  Calls Tryz.prog 23 #[.agg #[.int .i64 b,.slice c a.length c0_1,.int .i64 d,.int .i64 g,.int .i64 l]] w fun e w'=>e = .returned (.int .i64 r)∧Below w.heap.size w w':=by
 have hu58:=Tryz.underlying58
 have s:=a_ m
 clear n m
 have HB:=a_ (Below.refl w.heap.size w)
 unfold dom_Dom_Size.f at h
 have H:=h
 clear h
 obtain rfl:=si_ H
 go_enter Tryz.func23,Tryz.ntmps23
 go_wp2_with (first|((with_reducible refine gate_dst (N:=1) rfl ?_);refine bxe_ (N:=1) (cs:=#[.int .i64 b,.slice c a.length c0_1,.int .i64 d,.int .i64 g,.int .i64 l]) (t:=58) ?_;intro o hg w2 hbox hb;have p:=a_ (hbox);have q:=a_ (by rw [hg];exact (bz_ bel_):w.heap.size≤o);have u:=q;replace HB:=hq_ hb;clear hb hbox hg;obtain ⟨_,_,_,_,_,_,_,_,_,_⟩:=cel5_ p.out))
 go_ret
 exact ⟨er_,bel_⟩
def prop_Fits_1.f (a:Int) (b:List Int) (c:Int) (d:Int) (e:Int):Option (Bool):=(dom_Dom_Size.f a b c d e).bind fun g=>(some (g==0))
theorem prop_Fits_1.calls (b:Int) (l:Option Addr) (c0_1:Nat) (a:List Int) (c:Int) (d:Int) (g:Int) (r:Bool) (w:World) (m:Kd.C (Kd.int .u64) w l a.length a) (n:a.length≤c0_1) (h:prop_Fits_1.f b a c d g=some r) :
  Calls Tryz.prog 56 #[.agg #[.int .i64 b,.slice l a.length c0_1,.int .i64 c,.int .i64 d,.int .i64 g]] w fun e w'=>e = .returned (.bool r)∧Below w.heap.size w w':=by
 have hu58:=Tryz.underlying58
 have o:=a_ m
 have p:=a_ n
 clear m n
 have HB:=a_ (Below.refl w.heap.size w)
 unfold prop_Fits_1.f at h
 have H:=h
 clear h
 replace H:=bo_ H
 obtain ⟨v,y,H⟩:=H
 try dsimp only at H
 obtain rfl:=si_ H
 go_enter Tryz.func56,Tryz.ntmps56
 go_wp2_with (first|((with_reducible refine gate_dst (N:=1) rfl ?_);refine bxe_ (N:=1) (cs:=#[.int .i64 b,.slice l a.length c0_1,.int .i64 c,.int .i64 d,.int .i64 g]) (t:=58) ?_;intro q hg w3 hbox hb;have s:=a_ (hbox);have u:=a_ (by rw [hg];exact (bz_ bel_):w.heap.size≤q);have x:=u;replace HB:=hq_ hb;clear hb hbox hg;obtain ⟨_,_,_,_,_,_,_,_,_,_⟩:=cel5_ s.out)|((with_reducible refine gate_callee (f:=23) rfl ?_);refine goesL_ (some 4) rfl rfl Tryz.func23 kr_ rfl #[.agg #[.int .i64 b,.slice l a.length c0_1,.int .i64 c,.int .i64 d,.int .i64 g]] rfl ar_ ?_;(with_reducible refine (dom_Dom_Size.calls b _ _ a c d g v _ ?_ ?_ y.out).mono ?_);exact ca_ ((cb_ o.out HB.out));exact p.out;rintro e w5 ⟨rfl,hb⟩;refine ⟨_,rfl,?_⟩;replace HB:=hq_ hb;clear hb))
 go_ret
 exact ⟨er_,bel_⟩
-- NOT PRINTED: function 87 (slices_IndexFunc_int_int_87)
-- NOT PRINTED: function 61 (slices_ContainsFunc_int_int_61)
def model_forms.f  : Option ((List (S125))):=some (([(⟨(⟨#[108,105,110,95,101,113]⟩:ByteArray),(⟨#[99,86,107]⟩:ByteArray)⟩:S125),(⟨(⟨#[108,105,110,95,108,101]⟩:ByteArray),(⟨#[99,86,107]⟩:ByteArray)⟩:S125),(⟨(⟨#[108,105,110,95,110,101]⟩:ByteArray),(⟨#[99,86,107]⟩:ByteArray)⟩:S125),(⟨(⟨#[108,105,110,95,114,101,105,102]⟩:ByteArray),(⟨#[99,86,107,119]⟩:ByteArray)⟩:S125),(⟨(⟨#[116,105,109,101,115]⟩:ByteArray),(⟨#[118,118,118]⟩:ByteArray)⟩:S125),(⟨(⟨#[100,105,118]⟩:ByteArray),(⟨#[118,118,118]⟩:ByteArray)⟩:S125),(⟨(⟨#[109,111,100]⟩:ByteArray),(⟨#[118,118,118]⟩:ByteArray)⟩:S125),(⟨(⟨#[97,98,115]⟩:ByteArray),(⟨#[118,118]⟩:ByteArray)⟩:S125),(⟨(⟨#[109,105,110]⟩:ByteArray),(⟨#[118,118,118]⟩:ByteArray)⟩:S125),(⟨(⟨#[109,97,120]⟩:ByteArray),(⟨#[118,118,118]⟩:ByteArray)⟩:S125),(⟨(⟨#[101,108,101,109,101,110,116]⟩:ByteArray),(⟨#[118,99,118]⟩:ByteArray)⟩:S125),(⟨(⟨#[99,108,97,117,115,101]⟩:ByteArray),(⟨#[86,87]⟩:ByteArray)⟩:S125),(⟨(⟨#[101,113,95,114,101,105,102]⟩:ByteArray),(⟨#[118,107,119]⟩:ByteArray)⟩:S125),(⟨(⟨#[108,101,95,114,101,105,102]⟩:ByteArray),(⟨#[118,107,119]⟩:ByteArray)⟩:S125),(⟨(⟨#[101,113,95,105,109,112]⟩:ByteArray),(⟨#[118,107,119]⟩:ByteArray)⟩:S125),(⟨(⟨#[108,101,95,105,109,112]⟩:ByteArray),(⟨#[118,107,119]⟩:ByteArray)⟩:S125),(⟨(⟨#[97,108,108,95,100,105,102,102,101,114,101,110,116]⟩:ByteArray),(⟨#[86]⟩:ByteArray)⟩:S125),(⟨(⟨#[116,97,98,108,101]⟩:ByteArray),(⟨#[86,114]⟩:ByteArray)⟩:S125),(⟨(⟨#[99,117,109,117,108,97,116,105,118,101]⟩:ByteArray),(⟨#[86,99,100,107]⟩:ByteArray)⟩:S125),(⟨(⟨#[99,105,114,99,117,105,116]⟩:ByteArray),(⟨#[86]⟩:ByteArray)⟩:S125),(⟨(⟨#[103,99,99]⟩:ByteArray),(⟨#[86,99,100,101]⟩:ByteArray)⟩:S125),(⟨(⟨#[108,101,120,95,108,101]⟩:ByteArray),(⟨#[86,87]⟩:ByteArray)⟩:S125),(⟨(⟨#[105,110,118,101,114,115,101]⟩:ByteArray),(⟨#[86,87]⟩:ByteArray)⟩:S125)]:List (S125)))
theorem model_forms.calls  (r:List (S125)) (w:World) (h:model_forms.f  = some r) :
  Calls Tryz.prog 94 #[] w fun e w'=>∃g:Value,e = .returned (g)∧Kd.R k125 125 w' w.heap.size (fun _=>True) g r∧Below w.heap.size w w':=by
 have hu125:=Tryz.underlying125
 have HB:=a_ (Below.refl w.heap.size w)
 unfold model_forms.f at h
 have H:=h
 clear h
 obtain ⟨l,a⟩:∃y_:List (S125),y_=(([(⟨(⟨#[108,105,110,95,101,113]⟩:ByteArray),(⟨#[99,86,107]⟩:ByteArray)⟩:S125),(⟨(⟨#[108,105,110,95,108,101]⟩:ByteArray),(⟨#[99,86,107]⟩:ByteArray)⟩:S125),(⟨(⟨#[108,105,110,95,110,101]⟩:ByteArray),(⟨#[99,86,107]⟩:ByteArray)⟩:S125),(⟨(⟨#[108,105,110,95,114,101,105,102]⟩:ByteArray),(⟨#[99,86,107,119]⟩:ByteArray)⟩:S125),(⟨(⟨#[116,105,109,101,115]⟩:ByteArray),(⟨#[118,118,118]⟩:ByteArray)⟩:S125),(⟨(⟨#[100,105,118]⟩:ByteArray),(⟨#[118,118,118]⟩:ByteArray)⟩:S125),(⟨(⟨#[109,111,100]⟩:ByteArray),(⟨#[118,118,118]⟩:ByteArray)⟩:S125),(⟨(⟨#[97,98,115]⟩:ByteArray),(⟨#[118,118]⟩:ByteArray)⟩:S125),(⟨(⟨#[109,105,110]⟩:ByteArray),(⟨#[118,118,118]⟩:ByteArray)⟩:S125),(⟨(⟨#[109,97,120]⟩:ByteArray),(⟨#[118,118,118]⟩:ByteArray)⟩:S125),(⟨(⟨#[101,108,101,109,101,110,116]⟩:ByteArray),(⟨#[118,99,118]⟩:ByteArray)⟩:S125),(⟨(⟨#[99,108,97,117,115,101]⟩:ByteArray),(⟨#[86,87]⟩:ByteArray)⟩:S125),(⟨(⟨#[101,113,95,114,101,105,102]⟩:ByteArray),(⟨#[118,107,119]⟩:ByteArray)⟩:S125),(⟨(⟨#[108,101,95,114,101,105,102]⟩:ByteArray),(⟨#[118,107,119]⟩:ByteArray)⟩:S125),(⟨(⟨#[101,113,95,105,109,112]⟩:ByteArray),(⟨#[118,107,119]⟩:ByteArray)⟩:S125),(⟨(⟨#[108,101,95,105,109,112]⟩:ByteArray),(⟨#[118,107,119]⟩:ByteArray)⟩:S125),(⟨(⟨#[97,108,108,95,100,105,102,102,101,114,101,110,116]⟩:ByteArray),(⟨#[86]⟩:ByteArray)⟩:S125),(⟨(⟨#[116,97,98,108,101]⟩:ByteArray),(⟨#[86,114]⟩:ByteArray)⟩:S125),(⟨(⟨#[99,117,109,117,108,97,116,105,118,101]⟩:ByteArray),(⟨#[86,99,100,107]⟩:ByteArray)⟩:S125),(⟨(⟨#[99,105,114,99,117,105,116]⟩:ByteArray),(⟨#[86]⟩:ByteArray)⟩:S125),(⟨(⟨#[103,99,99]⟩:ByteArray),(⟨#[86,99,100,101]⟩:ByteArray)⟩:S125),(⟨(⟨#[108,101,120,95,108,101]⟩:ByteArray),(⟨#[86,87]⟩:ByteArray)⟩:S125),(⟨(⟨#[105,110,118,101,114,115,101]⟩:ByteArray),(⟨#[86,87]⟩:ByteArray)⟩:S125)]:List (S125))):=⟨_,rfl⟩
 replace H:(some l)=some r:=h2_ H a
 have c:=a_ a
 clear a
 obtain rfl:=si_ H
 go_enter Tryz.func94,Tryz.ntmps94
 go_wp2_with (first|((with_reducible refine gate_dst (N:=24) rfl ?_);refine Kd.R_lit k125 _ 125 ?hg (N:=24) ?hd (xs:=([(⟨(⟨#[108,105,110,95,101,113]⟩:ByteArray),(⟨#[99,86,107]⟩:ByteArray)⟩:S125),(⟨(⟨#[108,105,110,95,108,101]⟩:ByteArray),(⟨#[99,86,107]⟩:ByteArray)⟩:S125),(⟨(⟨#[108,105,110,95,110,101]⟩:ByteArray),(⟨#[99,86,107]⟩:ByteArray)⟩:S125),(⟨(⟨#[108,105,110,95,114,101,105,102]⟩:ByteArray),(⟨#[99,86,107,119]⟩:ByteArray)⟩:S125),(⟨(⟨#[116,105,109,101,115]⟩:ByteArray),(⟨#[118,118,118]⟩:ByteArray)⟩:S125),(⟨(⟨#[100,105,118]⟩:ByteArray),(⟨#[118,118,118]⟩:ByteArray)⟩:S125),(⟨(⟨#[109,111,100]⟩:ByteArray),(⟨#[118,118,118]⟩:ByteArray)⟩:S125),(⟨(⟨#[97,98,115]⟩:ByteArray),(⟨#[118,118]⟩:ByteArray)⟩:S125),(⟨(⟨#[109,105,110]⟩:ByteArray),(⟨#[118,118,118]⟩:ByteArray)⟩:S125),(⟨(⟨#[109,97,120]⟩:ByteArray),(⟨#[118,118,118]⟩:ByteArray)⟩:S125),(⟨(⟨#[101,108,101,109,101,110,116]⟩:ByteArray),(⟨#[118,99,118]⟩:ByteArray)⟩:S125),(⟨(⟨#[99,108,97,117,115,101]⟩:ByteArray),(⟨#[86,87]⟩:ByteArray)⟩:S125),(⟨(⟨#[101,113,95,114,101,105,102]⟩:ByteArray),(⟨#[118,107,119]⟩:ByteArray)⟩:S125),(⟨(⟨#[108,101,95,114,101,105,102]⟩:ByteArray),(⟨#[118,107,119]⟩:ByteArray)⟩:S125),(⟨(⟨#[101,113,95,105,109,112]⟩:ByteArray),(⟨#[118,107,119]⟩:ByteArray)⟩:S125),(⟨(⟨#[108,101,95,105,109,112]⟩:ByteArray),(⟨#[118,107,119]⟩:ByteArray)⟩:S125),(⟨(⟨#[97,108,108,95,100,105,102,102,101,114,101,110,116]⟩:ByteArray),(⟨#[86]⟩:ByteArray)⟩:S125),(⟨(⟨#[116,97,98,108,101]⟩:ByteArray),(⟨#[86,114]⟩:ByteArray)⟩:S125),(⟨(⟨#[99,117,109,117,108,97,116,105,118,101]⟩:ByteArray),(⟨#[86,99,100,107]⟩:ByteArray)⟩:S125),(⟨(⟨#[99,105,114,99,117,105,116]⟩:ByteArray),(⟨#[86]⟩:ByteArray)⟩:S125),(⟨(⟨#[103,99,99]⟩:ByteArray),(⟨#[86,99,100,101]⟩:ByteArray)⟩:S125),(⟨(⟨#[108,101,120,95,108,101]⟩:ByteArray),(⟨#[86,87]⟩:ByteArray)⟩:S125),(⟨(⟨#[105,110,118,101,114,115,101]⟩:ByteArray),(⟨#[86,87]⟩:ByteArray)⟩:S125)]:List (S125))) (inner:=[.string (⟨#[108,105,110,95,101,113]⟩:ByteArray),.string (⟨#[99,86,107]⟩:ByteArray),.string (⟨#[108,105,110,95,108,101]⟩:ByteArray),.string (⟨#[99,86,107]⟩:ByteArray),.string (⟨#[108,105,110,95,110,101]⟩:ByteArray),.string (⟨#[99,86,107]⟩:ByteArray),.string (⟨#[108,105,110,95,114,101,105,102]⟩:ByteArray),.string (⟨#[99,86,107,119]⟩:ByteArray),.string (⟨#[116,105,109,101,115]⟩:ByteArray),.string (⟨#[118,118,118]⟩:ByteArray),.string (⟨#[100,105,118]⟩:ByteArray),.string (⟨#[118,118,118]⟩:ByteArray),.string (⟨#[109,111,100]⟩:ByteArray),.string (⟨#[118,118,118]⟩:ByteArray),.string (⟨#[97,98,115]⟩:ByteArray),.string (⟨#[118,118]⟩:ByteArray),.string (⟨#[109,105,110]⟩:ByteArray),.string (⟨#[118,118,118]⟩:ByteArray),.string (⟨#[109,97,120]⟩:ByteArray),.string (⟨#[118,118,118]⟩:ByteArray),.string (⟨#[101,108,101,109,101,110,116]⟩:ByteArray),.string (⟨#[118,99,118]⟩:ByteArray),.string (⟨#[99,108,97,117,115,101]⟩:ByteArray),.string (⟨#[86,87]⟩:ByteArray),.string (⟨#[101,113,95,114,101,105,102]⟩:ByteArray),.string (⟨#[118,107,119]⟩:ByteArray),.string (⟨#[108,101,95,114,101,105,102]⟩:ByteArray),.string (⟨#[118,107,119]⟩:ByteArray),.string (⟨#[101,113,95,105,109,112]⟩:ByteArray),.string (⟨#[118,107,119]⟩:ByteArray),.string (⟨#[108,101,95,105,109,112]⟩:ByteArray),.string (⟨#[118,107,119]⟩:ByteArray),.string (⟨#[97,108,108,95,100,105,102,102,101,114,101,110,116]⟩:ByteArray),.string (⟨#[86]⟩:ByteArray),.string (⟨#[116,97,98,108,101]⟩:ByteArray),.string (⟨#[86,114]⟩:ByteArray),.string (⟨#[99,117,109,117,108,97,116,105,118,101]⟩:ByteArray),.string (⟨#[86,99,100,107]⟩:ByteArray),.string (⟨#[99,105,114,99,117,105,116]⟩:ByteArray),.string (⟨#[86]⟩:ByteArray),.string (⟨#[103,99,99]⟩:ByteArray),.string (⟨#[86,99,100,101]⟩:ByteArray),.string (⟨#[108,101,120,95,108,101]⟩:ByteArray),.string (⟨#[86,87]⟩:ByteArray),.string (⟨#[105,110,118,101,114,115,101]⟩:ByteArray),.string (⟨#[86,87]⟩:ByteArray)]) (ok:=fun _=>True) (okp:=fun _=>True) ?hr ?hp (fun _ hk=>hk) trivial (Below.refl _ _) (lr_ _) (by simp) ?_;(case hd=>rfl);(case hg=>rfl);(case hr=>first|(go_simp;done)|(go_simp;rfl));(case hp=>exact (Reps.c2 (show Kd.M k125 _ _ _ (⟨(⟨#[108,105,110,95,101,113]⟩:ByteArray),(⟨#[99,86,107]⟩:ByteArray)⟩:S125) [.string (⟨#[108,105,110,95,101,113]⟩:ByteArray),.string (⟨#[99,86,107]⟩:ByteArray)] from (k125_mkM _ _ _ (⟨(⟨#[108,105,110,95,101,113]⟩:ByteArray),(⟨#[99,86,107]⟩:ByteArray)⟩:S125) )) (Reps.c2 (show Kd.M k125 _ _ _ (⟨(⟨#[108,105,110,95,108,101]⟩:ByteArray),(⟨#[99,86,107]⟩:ByteArray)⟩:S125) [.string (⟨#[108,105,110,95,108,101]⟩:ByteArray),.string (⟨#[99,86,107]⟩:ByteArray)] from (k125_mkM _ _ _ (⟨(⟨#[108,105,110,95,108,101]⟩:ByteArray),(⟨#[99,86,107]⟩:ByteArray)⟩:S125) )) (Reps.c2 (show Kd.M k125 _ _ _ (⟨(⟨#[108,105,110,95,110,101]⟩:ByteArray),(⟨#[99,86,107]⟩:ByteArray)⟩:S125) [.string (⟨#[108,105,110,95,110,101]⟩:ByteArray),.string (⟨#[99,86,107]⟩:ByteArray)] from (k125_mkM _ _ _ (⟨(⟨#[108,105,110,95,110,101]⟩:ByteArray),(⟨#[99,86,107]⟩:ByteArray)⟩:S125) )) (Reps.c2 (show Kd.M k125 _ _ _ (⟨(⟨#[108,105,110,95,114,101,105,102]⟩:ByteArray),(⟨#[99,86,107,119]⟩:ByteArray)⟩:S125) [.string (⟨#[108,105,110,95,114,101,105,102]⟩:ByteArray),.string (⟨#[99,86,107,119]⟩:ByteArray)] from (k125_mkM _ _ _ (⟨(⟨#[108,105,110,95,114,101,105,102]⟩:ByteArray),(⟨#[99,86,107,119]⟩:ByteArray)⟩:S125) )) (Reps.c2 (show Kd.M k125 _ _ _ (⟨(⟨#[116,105,109,101,115]⟩:ByteArray),(⟨#[118,118,118]⟩:ByteArray)⟩:S125) [.string (⟨#[116,105,109,101,115]⟩:ByteArray),.string (⟨#[118,118,118]⟩:ByteArray)] from (k125_mkM _ _ _ (⟨(⟨#[116,105,109,101,115]⟩:ByteArray),(⟨#[118,118,118]⟩:ByteArray)⟩:S125) )) (Reps.c2 (show Kd.M k125 _ _ _ (⟨(⟨#[100,105,118]⟩:ByteArray),(⟨#[118,118,118]⟩:ByteArray)⟩:S125) [.string (⟨#[100,105,118]⟩:ByteArray),.string (⟨#[118,118,118]⟩:ByteArray)] from (k125_mkM _ _ _ (⟨(⟨#[100,105,118]⟩:ByteArray),(⟨#[118,118,118]⟩:ByteArray)⟩:S125) )) (Reps.c2 (show Kd.M k125 _ _ _ (⟨(⟨#[109,111,100]⟩:ByteArray),(⟨#[118,118,118]⟩:ByteArray)⟩:S125) [.string (⟨#[109,111,100]⟩:ByteArray),.string (⟨#[118,118,118]⟩:ByteArray)] from (k125_mkM _ _ _ (⟨(⟨#[109,111,100]⟩:ByteArray),(⟨#[118,118,118]⟩:ByteArray)⟩:S125) )) (Reps.c2 (show Kd.M k125 _ _ _ (⟨(⟨#[97,98,115]⟩:ByteArray),(⟨#[118,118]⟩:ByteArray)⟩:S125) [.string (⟨#[97,98,115]⟩:ByteArray),.string (⟨#[118,118]⟩:ByteArray)] from (k125_mkM _ _ _ (⟨(⟨#[97,98,115]⟩:ByteArray),(⟨#[118,118]⟩:ByteArray)⟩:S125) )) (Reps.c2 (show Kd.M k125 _ _ _ (⟨(⟨#[109,105,110]⟩:ByteArray),(⟨#[118,118,118]⟩:ByteArray)⟩:S125) [.string (⟨#[109,105,110]⟩:ByteArray),.string (⟨#[118,118,118]⟩:ByteArray)] from (k125_mkM _ _ _ (⟨(⟨#[109,105,110]⟩:ByteArray),(⟨#[118,118,118]⟩:ByteArray)⟩:S125) )) (Reps.c2 (show Kd.M k125 _ _ _ (⟨(⟨#[109,97,120]⟩:ByteArray),(⟨#[118,118,118]⟩:ByteArray)⟩:S125) [.string (⟨#[109,97,120]⟩:ByteArray),.string (⟨#[118,118,118]⟩:ByteArray)] from (k125_mkM _ _ _ (⟨(⟨#[109,97,120]⟩:ByteArray),(⟨#[118,118,118]⟩:ByteArray)⟩:S125) )) (Reps.c2 (show Kd.M k125 _ _ _ (⟨(⟨#[101,108,101,109,101,110,116]⟩:ByteArray),(⟨#[118,99,118]⟩:ByteArray)⟩:S125) [.string (⟨#[101,108,101,109,101,110,116]⟩:ByteArray),.string (⟨#[118,99,118]⟩:ByteArray)] from (k125_mkM _ _ _ (⟨(⟨#[101,108,101,109,101,110,116]⟩:ByteArray),(⟨#[118,99,118]⟩:ByteArray)⟩:S125) )) (Reps.c2 (show Kd.M k125 _ _ _ (⟨(⟨#[99,108,97,117,115,101]⟩:ByteArray),(⟨#[86,87]⟩:ByteArray)⟩:S125) [.string (⟨#[99,108,97,117,115,101]⟩:ByteArray),.string (⟨#[86,87]⟩:ByteArray)] from (k125_mkM _ _ _ (⟨(⟨#[99,108,97,117,115,101]⟩:ByteArray),(⟨#[86,87]⟩:ByteArray)⟩:S125) )) (Reps.c2 (show Kd.M k125 _ _ _ (⟨(⟨#[101,113,95,114,101,105,102]⟩:ByteArray),(⟨#[118,107,119]⟩:ByteArray)⟩:S125) [.string (⟨#[101,113,95,114,101,105,102]⟩:ByteArray),.string (⟨#[118,107,119]⟩:ByteArray)] from (k125_mkM _ _ _ (⟨(⟨#[101,113,95,114,101,105,102]⟩:ByteArray),(⟨#[118,107,119]⟩:ByteArray)⟩:S125) )) (Reps.c2 (show Kd.M k125 _ _ _ (⟨(⟨#[108,101,95,114,101,105,102]⟩:ByteArray),(⟨#[118,107,119]⟩:ByteArray)⟩:S125) [.string (⟨#[108,101,95,114,101,105,102]⟩:ByteArray),.string (⟨#[118,107,119]⟩:ByteArray)] from (k125_mkM _ _ _ (⟨(⟨#[108,101,95,114,101,105,102]⟩:ByteArray),(⟨#[118,107,119]⟩:ByteArray)⟩:S125) )) (Reps.c2 (show Kd.M k125 _ _ _ (⟨(⟨#[101,113,95,105,109,112]⟩:ByteArray),(⟨#[118,107,119]⟩:ByteArray)⟩:S125) [.string (⟨#[101,113,95,105,109,112]⟩:ByteArray),.string (⟨#[118,107,119]⟩:ByteArray)] from (k125_mkM _ _ _ (⟨(⟨#[101,113,95,105,109,112]⟩:ByteArray),(⟨#[118,107,119]⟩:ByteArray)⟩:S125) )) (Reps.c2 (show Kd.M k125 _ _ _ (⟨(⟨#[108,101,95,105,109,112]⟩:ByteArray),(⟨#[118,107,119]⟩:ByteArray)⟩:S125) [.string (⟨#[108,101,95,105,109,112]⟩:ByteArray),.string (⟨#[118,107,119]⟩:ByteArray)] from (k125_mkM _ _ _ (⟨(⟨#[108,101,95,105,109,112]⟩:ByteArray),(⟨#[118,107,119]⟩:ByteArray)⟩:S125) )) (Reps.c2 (show Kd.M k125 _ _ _ (⟨(⟨#[97,108,108,95,100,105,102,102,101,114,101,110,116]⟩:ByteArray),(⟨#[86]⟩:ByteArray)⟩:S125) [.string (⟨#[97,108,108,95,100,105,102,102,101,114,101,110,116]⟩:ByteArray),.string (⟨#[86]⟩:ByteArray)] from (k125_mkM _ _ _ (⟨(⟨#[97,108,108,95,100,105,102,102,101,114,101,110,116]⟩:ByteArray),(⟨#[86]⟩:ByteArray)⟩:S125) )) (Reps.c2 (show Kd.M k125 _ _ _ (⟨(⟨#[116,97,98,108,101]⟩:ByteArray),(⟨#[86,114]⟩:ByteArray)⟩:S125) [.string (⟨#[116,97,98,108,101]⟩:ByteArray),.string (⟨#[86,114]⟩:ByteArray)] from (k125_mkM _ _ _ (⟨(⟨#[116,97,98,108,101]⟩:ByteArray),(⟨#[86,114]⟩:ByteArray)⟩:S125) )) (Reps.c2 (show Kd.M k125 _ _ _ (⟨(⟨#[99,117,109,117,108,97,116,105,118,101]⟩:ByteArray),(⟨#[86,99,100,107]⟩:ByteArray)⟩:S125) [.string (⟨#[99,117,109,117,108,97,116,105,118,101]⟩:ByteArray),.string (⟨#[86,99,100,107]⟩:ByteArray)] from (k125_mkM _ _ _ (⟨(⟨#[99,117,109,117,108,97,116,105,118,101]⟩:ByteArray),(⟨#[86,99,100,107]⟩:ByteArray)⟩:S125) )) (Reps.c2 (show Kd.M k125 _ _ _ (⟨(⟨#[99,105,114,99,117,105,116]⟩:ByteArray),(⟨#[86]⟩:ByteArray)⟩:S125) [.string (⟨#[99,105,114,99,117,105,116]⟩:ByteArray),.string (⟨#[86]⟩:ByteArray)] from (k125_mkM _ _ _ (⟨(⟨#[99,105,114,99,117,105,116]⟩:ByteArray),(⟨#[86]⟩:ByteArray)⟩:S125) )) (Reps.c2 (show Kd.M k125 _ _ _ (⟨(⟨#[103,99,99]⟩:ByteArray),(⟨#[86,99,100,101]⟩:ByteArray)⟩:S125) [.string (⟨#[103,99,99]⟩:ByteArray),.string (⟨#[86,99,100,101]⟩:ByteArray)] from (k125_mkM _ _ _ (⟨(⟨#[103,99,99]⟩:ByteArray),(⟨#[86,99,100,101]⟩:ByteArray)⟩:S125) )) (Reps.c2 (show Kd.M k125 _ _ _ (⟨(⟨#[108,101,120,95,108,101]⟩:ByteArray),(⟨#[86,87]⟩:ByteArray)⟩:S125) [.string (⟨#[108,101,120,95,108,101]⟩:ByteArray),.string (⟨#[86,87]⟩:ByteArray)] from (k125_mkM _ _ _ (⟨(⟨#[108,101,120,95,108,101]⟩:ByteArray),(⟨#[86,87]⟩:ByteArray)⟩:S125) )) (Reps.c2 (show Kd.M k125 _ _ _ (⟨(⟨#[105,110,118,101,114,115,101]⟩:ByteArray),(⟨#[86,87]⟩:ByteArray)⟩:S125) [.string (⟨#[105,110,118,101,114,115,101]⟩:ByteArray),.string (⟨#[86,87]⟩:ByteArray)] from (k125_mkM _ _ _ (⟨(⟨#[105,110,118,101,114,115,101]⟩:ByteArray),(⟨#[86,87]⟩:ByteArray)⟩:S125) )) (Reps.none _ _)))))))))))))))))))))))));intro m w1 b hb hg_ hnew_;clear hg_ hnew_;(first | rw [←c.out] at b | (simp only [Int.reduceToNat] at b;rw [←c.out] at b));have d:=a_ (Kd.R_lower b (bz_ bel_));replace HB:=hq_ hb;clear hb b))
 go_ret
 exact ⟨_,er_,vR_ d.out,bel_⟩
def model_Word.f (a:Int):Option (ByteArray×Bool):=if a<1 then (none) else ((model_forms.f).bind fun c=>(if a>(c.length:Int) then (none) else ((model_forms.f).bind fun b=>(if 0≤(wrap64 (a - 1)) then (if (wrap64 (a - 1))<(b.length:Int) then (some ((rd_T125 b (wrap64 (a - 1))).f0,true)) else (none)) else (none)))))
theorem model_Word.calls (d:Int) (p:ByteArray) (q:Bool) (w:World) (h:model_Word.f d=some (p,q)) :
  Calls Tryz.prog 93 #[.int .i64 d] w fun e w'=>e = .returned (.tuple #[.string p,.bool q])∧Below w.heap.size w w':=by
 have HB:=a_ (Below.refl w.heap.size w)
 unfold model_Word.f at h
 have H:=h
 clear h
 replace H:=gn_ H
 obtain ⟨c2,H⟩:=H
 have c2b0:decide (d<1)=false:=df_ c2
 clear c2
 replace H:=bo_ H
 obtain ⟨l,x,H⟩:=H
 try dsimp only at H
 replace H:=gn_ H
 obtain ⟨c4,H⟩:=H
 have c4b0:decide ((l.length:Int)<d)=false:=df_ c4
 clear c4
 replace H:=bo_ H
 obtain ⟨b,y,H⟩:=H
 try dsimp only at H
 obtain ⟨a,c⟩:∃j_:Int,(wrap64 (d - 1))=j_:=⟨_,rfl⟩
 replace H:(if 0≤(a) then (if (a)<(b.length:Int) then (some ((rd_T125 b (a)).f0,true)) else (none)) else (none))=some (p,q):=by first|(rw [c] at H;exact H)|(simp only [c] at H ⊢;exact H)
 (try rw [c] at x)
 (try rw [c] at y)
 have hji6w:(IntKind.i64.wrap (d - 1))=a:=(i64_w _).trans c
 replace H:=gu_ H
 obtain ⟨c7b0,H⟩:=H
 replace H:=gu_ H
 obtain ⟨c8b0,H⟩:=H
 simp only [Option.some.injEq,Prod.mk.injEq] at H
 obtain ⟨rfl,rfl⟩:=H
 go_enter Tryz.func93,Tryz.ntmps93
 go_wp2_with (first|(go_at_call 94;(with_reducible refine (model_forms.calls l _ x.out).mono ?_);rintro e w9 ⟨A,rfl,g,hb⟩;have n:=a_ (Kd.R_lower g (bz_ bel_));replace HB:=hq_ hb;clear hb g;obtain ⟨B,C,r⟩:=Kd.R_slice n.out;subst r)|((with_reducible refine gate_callee (f:=94) rfl ?_);refine goesL_ (some 12) rfl rfl Tryz.func94 kr_ rfl #[] rfl ar_ ?_;(with_reducible refine (model_forms.calls b _ y.out).mono ?_);rintro e w11 ⟨E,rfl,g,hb⟩;refine ⟨_,rfl,?_⟩;have o:=a_ (Kd.R_lower (Kd.R_new' g (rl_ (vR_ n.out))) (bz_ bel_));replace HB:=hq_ hb;clear hb g;obtain ⟨F,G,s⟩:=Kd.R_slice o.out;subst s;have p285:0≤((a):Int):=dq_;have m:(a)<(b.length:Int):=dq_;obtain ⟨z,t,u,v⟩:=at_T125 (rr_ o.out).2.2 (a) p285 m;cases t;replace p285:=et_ p285;replace m:=et_ m))
 go_ret2
 exact ⟨by first | rfl | (simp [errW_none,errW_some] <;> rfl)|(simp only [←c];first | rfl | (simp [errW_none,errW_some] <;> rfl))|(simp [*,errW_none,errW_some] <;> rfl),bel_⟩
def model_Shape.f (b:Int):Option (ByteArray):=(model_Word.f b).bind fun c=>(if c.2=true then ((model_forms.f).bind fun a=>(if 0≤(wrap64 (b - 1)) then (if (wrap64 (b - 1))<(a.length:Int) then (some ((rd_T125 a (wrap64 (b - 1))).f1)) else (none)) else (none))) else (none))
theorem model_Shape.calls (l:Int) (r:ByteArray) (w:World) (h:model_Shape.f l=some r) :
  Calls Tryz.prog 76 #[.int .i64 l] w fun e w'=>e = .returned (.string r)∧Below w.heap.size w w':=by
 have HB:=a_ (Below.refl w.heap.size w)
 unfold model_Shape.f at h
 have H:=h
 clear h
 replace H:=bs_.mp H
 obtain ⟨⟨o,p⟩,m,H⟩:=H
 try dsimp only at H
 have v:=a_ m
 clear m
 replace H:=gp_ H
 obtain ⟨rfl,H⟩:=H
 replace H:=bo_ H
 obtain ⟨b,x,H⟩:=H
 try dsimp only at H
 obtain ⟨a,c⟩:∃j_:Int,(wrap64 (l - 1))=j_:=⟨_,rfl⟩
 replace H:(if 0≤(a) then (if (a)<(b.length:Int) then (some ((rd_T125 b (a)).f1)) else (none)) else (none))=some r:=by first|(rw [c] at H;exact H)|(simp only [c] at H ⊢;exact H)
 (try rw [c] at v)
 (try rw [c] at x)
 have hji5w:(IntKind.i64.wrap (l - 1))=a:=(i64_w _).trans c
 replace H:=gu_ H
 obtain ⟨c6b0,H⟩:=H
 replace H:=gu_ H
 obtain ⟨c7b0,H⟩:=H
 obtain rfl:=si_ H
 go_enter Tryz.func76,Tryz.ntmps76
 go_wp2_with (first|((with_reducible refine gate_callee (f:=93) rfl ?_);refine goesL_ (some 7) rfl rfl Tryz.func93 kr_ rfl #[.int .i64 l] rfl ar_ ?_;(with_reducible refine (model_Word.calls l o true _ v.out).mono ?_);rintro e w8 ⟨rfl,hb⟩;refine ⟨_,rfl,?_⟩;replace HB:=hq_ hb;clear hb)|((with_reducible refine gate_callee (f:=94) rfl ?_);refine goesL_ (some 12) rfl rfl Tryz.func94 kr_ rfl #[] rfl ar_ ?_;(with_reducible refine (model_forms.calls  b _ x.out).mono ?_);rintro e w9 ⟨z,rfl,n,hb⟩;refine ⟨_,rfl,?_⟩;have g:=a_ (Kd.R_lower n (bz_ bel_));replace HB:=hq_ hb;clear hb n;obtain ⟨A,B,q⟩:=Kd.R_slice g.out;subst q;have p291:0≤((a):Int):=dq_;have d:(a)<(b.length:Int):=dq_;obtain ⟨y,s,t,u⟩:=at_T125 (rr_ g.out).2.2 (a) p291 d;cases s;replace p291:=et_ p291;replace d:=et_ d))
 go_ret
 exact ⟨by first | rfl | (simp [errW_none,errW_some] <;> rfl)|(simp only [←c];first | rfl | (simp [errW_none,errW_some] <;> rfl))|(simp [*,errW_none,errW_some] <;> rfl),bel_⟩
def strings_Contains.f (a:ByteArray) (b:ByteArray):Option Bool:=match b.data.toList with
 | [c]=>some (decide (0≤Lib.indexByte a.data.toList c))
 | _=>none
theorem one_byte (s:ByteArray) (c:UInt8) (h:s.data.toList=[c]):s=⟨#[c]⟩:=by
 obtain ⟨⟨l⟩⟩:=s
 simp only at h
 subst h;rfl
theorem strings_Contains.calls (a:ByteArray) (b:ByteArray) (r:Bool) (w:World) (h:strings_Contains.f a b=some r) :
  Calls Tryz.prog 79 #[.string a,.string b] w fun e w'=>e = .returned (.bool r)∧Drawn0 w w':=by
 unfold strings_Contains.f at h
 split at h
 ·
  rename_i c hc
  obtain rfl:=Option.some.inj h
  rw [one_byte b c hc]
  exact (Tryz.strings_Contains_one a c w).mono (fun e w' ⟨he,hw⟩=>⟨he,by subst hw;exact Drawn0.refl _⟩)
 cases h
def model_within.f (a:Int) (b:Int) (c:Int):Option (Bool):=if a≥b then (some (decide (a≤c))) else (some false)
theorem model_within.calls (a:Int) (b:Int) (c:Int) (r:Bool) (w:World) (h:model_within.f a b c=some r) :
  Calls Tryz.prog 95 #[.int .i64 a,.int .i64 b,.int .i64 c] w fun e w'=>e = .returned (.bool r)∧Drawn0 w w':=by
 unfold model_within.f at h
 have H:=h
 clear h
 by_cases c4:a≥b
 ·
  rw [ip_ c4] at H
  have c4b0:decide (b≤a)=true:=dt_ c4
  clear c4
  obtain rfl:=si_ H
  go_enter Tryz.func95,Tryz.ntmps95
  go_wp2
  go_ret
  exact ⟨by first | rfl | (simp;done)|(simp [*];done),by repeat (first | exact d0_ _ | apply Drawn0.step)⟩
 rw [ig_ c4] at H
 have c4b0:decide (b≤a)=false:=df_ c4
 clear c4
 obtain rfl:=si_ H
 go_enter Tryz.func95,Tryz.ntmps95
 go_wp2
 go_ret
 exact ⟨by first | rfl | (simp;done)|(simp [*];done),by repeat (first | exact d0_ _ | apply Drawn0.step)⟩
def strings_Count.f (a:ByteArray) (b:ByteArray):Option Int:=match b.data.toList with
 | [c]=>some (Lib.countByte a.data.toList c:Nat)
 | _=>none
theorem strings_Count.calls (a:ByteArray) (b:ByteArray) (r:Int) (w:World) (h:strings_Count.f a b=some r) :
  Calls Tryz.prog 106 #[.string a,.string b] w fun e w'=>e = .returned (.int .i64 r)∧Drawn0 w w':=by
 unfold strings_Count.f at h
 split at h
 ·
  rename_i c hc
  obtain rfl:=Option.some.inj h
  rw [one_byte b c hc]
  exact (Tryz.strings_Count_one a c w).mono (fun e w' ⟨he,hw⟩=>⟨he,by subst hw;exact Drawn0.refl _⟩)
 cases h
def model_named.f (d:Int) (e:ByteArray) (g:ByteArray) (l:ByteArray):Option (Bool):=(strings_Contains.f e l).bind fun a=>(if a=true then ((model_within.f d 1 64).bind fun b=>(some b)) else ((strings_Count.f e g).bind fun c=>(some (d==c))))
theorem model_named.calls (d:Int) (a:ByteArray) (g:ByteArray) (c:ByteArray) (r:Bool) (w:World) (h:model_named.f d a g c=some r) :
  Calls Tryz.prog 96 #[.int .i64 d,.string a,.string g,.string c] w fun e w'=>e = .returned (.bool r)∧Drawn0 w w':=by
 unfold model_named.f at h
 have H:=h
 clear h
 replace H:=bo_ H
 obtain ⟨l,n,H⟩:=H
 try dsimp only at H
 replace H:=ht_ H
 rcases H with ⟨rfl,H⟩ | ⟨rfl,H⟩
 ·
  replace H:=bo_ H
  obtain ⟨m,o,H⟩:=H
  try dsimp only at H
  obtain rfl:=si_ H
  go_enter Tryz.func96,Tryz.ntmps96
  go_wp2_with (first|((with_reducible refine gate_callee (f:=79) rfl ?_);refine goesL_ (some 11) rfl rfl Tryz.func79 kr_ rfl #[.string a,.string c] rfl ar_ ?_;(with_reducible refine (strings_Contains.calls a c true _ n.out).mono ?_);rintro e w' ⟨rfl,⟨nd,rfl⟩⟩;refine ⟨_,rfl,?_⟩)|((with_reducible refine gate_callee (f:=95) rfl ?_);refine goesL_ (some 13) rfl rfl Tryz.func95 kr_ rfl #[.int .i64 d,.int .i64 1,.int .i64 64] rfl ar_ ?_;(with_reducible refine (model_within.calls d 1 64 m _ o.out).mono ?_);rintro e w' ⟨rfl,⟨nd,rfl⟩⟩;refine ⟨_,rfl,?_⟩))
  go_ret
  exact ⟨by first | rfl | (simp;done)|(simp [*];done),by repeat (first | exact d0_ _ | apply Drawn0.step)⟩
 replace H:=bo_ H
 obtain ⟨b,p,H⟩:=H
 try dsimp only at H
 obtain rfl:=si_ H
 go_enter Tryz.func96,Tryz.ntmps96
 go_wp2_with (first|((with_reducible refine gate_callee (f:=79) rfl ?_);refine goesL_ (some 11) rfl rfl Tryz.func79 kr_ rfl #[.string a,.string c] rfl ar_ ?_;(with_reducible refine (strings_Contains.calls a c false _ n.out).mono ?_);rintro e w' ⟨rfl,⟨nd,rfl⟩⟩;refine ⟨_,rfl,?_⟩)|((with_reducible refine gate_callee (f:=106) rfl ?_);refine goesL_ (some 17) rfl rfl Tryz.func106 kr_ rfl #[.string a,.string g] rfl ar_ ?_;(with_reducible refine (strings_Count.calls a g b _ p.out).mono ?_);rintro e w' ⟨rfl,⟨nd,rfl⟩⟩;refine ⟨_,rfl,?_⟩))
 go_ret
 exact ⟨by first | rfl | (simp;done)|(simp [*];done),by repeat (first | exact d0_ _ | apply Drawn0.step)⟩
def model_counted.f (b:Int) (c:List Int) (d:List Int) (e:List Int) (g:List Int) (l:List Int) (t:Int) (m:List (List Int)) (a:ByteArray):Option (Bool):=if b=12 then (none) else ((strings_Contains.f a (⟨#[114]⟩:ByteArray)).bind fun n=>(if n=true then (none) else (if (m.length:Int)=0 then ((model_named.f (c.length:Int) a (⟨#[118]⟩:ByteArray) (⟨#[86]⟩:ByteArray)).bind fun o=>(if o=true then ((model_named.f (d.length:Int) a (⟨#[119]⟩:ByteArray) (⟨#[87]⟩:ByteArray)).bind fun p=>(if p=true then ((model_named.f (e.length:Int) a (⟨#[45]⟩:ByteArray) (⟨#[99]⟩:ByteArray)).bind fun q=>(if q=true then ((model_named.f (g.length:Int) a (⟨#[45]⟩:ByteArray) (⟨#[100]⟩:ByteArray)).bind fun r=>(if r=true then ((model_named.f (l.length:Int) a (⟨#[45]⟩:ByteArray) (⟨#[101]⟩:ByteArray)).bind fun s=>(some s)) else (some false))) else (some false))) else (some false))) else (some false))) else (some false))))
theorem model_counted.calls (q:Int) (s:Option Addr) (c0_1:Nat) (b:List Int) (u:Option Addr) (c0_2:Nat) (d:List Int) (v:Option Addr) (c0_3:Nat) (g:List Int) (x:Option Addr) (c0_4:Nat) (l:List Int) (y:Option Addr) (c0_5:Nat) (p:List Int) (z:Int) (A:Option Addr) (c0_7:Nat) (a:List (List Int)) (c:ByteArray) (r:Bool) (w:World) (Y:Kd.C (Kd.int .i64) w s b.length b) (K:b.length≤c0_1) (Z:Kd.C (Kd.int .i64) w u d.length d) (M:d.length≤c0_2) (aa:Kd.C (Kd.int .i64) w v g.length g) (O:g.length≤c0_3) (ab:Kd.C (Kd.int .i64) w x l.length l) (P:l.length≤c0_4) (ac:Kd.C (Kd.int .i64) w y p.length p) (Q:p.length≤c0_5) (ad:Kd.C (Kd.slice 3 (Kd.int .i64)) w A a.length a) (U:a.length≤c0_7) (h:model_counted.f q b d g l p z a c=some r) :
  Calls Tryz.prog 77 #[.agg #[.int .i64 q,.slice s b.length c0_1,.slice u d.length c0_2,.slice v g.length c0_3,.slice x l.length c0_4,.slice y p.length c0_5,.int .i64 z,.slice A a.length c0_7],.string c] w fun e w'=>e = .returned (.bool r)∧Below w.heap.size w w':=by
 have hu32:=Tryz.underlying32
 have ai:=a_ K
 clear Y K
 have aj:=a_ M
 clear Z M
 have ak:=a_ O
 clear aa O
 have al:=a_ P
 clear ab P
 have am:=a_ Q
 clear ac Q
 have an:=a_ U
 clear ad U
 have HB:=a_ (Below.refl w.heap.size w)
 unfold model_counted.f at h
 have H:=h
 clear h
 replace H:=gz_ H
 obtain ⟨c3,c3b0,c3b1,H⟩:=H
 replace H:=bo_ H
 obtain ⟨ag,V,H⟩:=H
 try dsimp only at H
 replace H:=gf_ H
 obtain ⟨rfl,H⟩:=H
 replace H:=ef_ H
 rcases H with ⟨c6,c6b0,c6b1,H⟩ | ⟨-,c6b0,c6b1,H⟩
 ·
  have c6b2:¬(a=[]):=fun h_=>c6 (by rw [h_];rfl)
  obtain rfl:=si_ H
  go_enter Tryz.func77,Tryz.ntmps77
  go_wp2_with (first|((with_reducible refine gate_dst (N:=2) rfl ?_);(try (refine gate_guard (by rfl) ?_;dsimp only));refine bxe_ (N:=2) (cs:=#[.int .i64 q,.slice s b.length c0_1,.slice u d.length c0_2,.slice v g.length c0_3,.slice x l.length c0_4,.slice y p.length c0_5,.int .i64 z,.slice A a.length c0_7]) (t:=32) ?_;intro m hg w26 hbox hb;have n:=a_ (hbox);have o:=a_ (by rw [hg];exact (bz_ bel_):w.heap.size≤m);have B:=o;replace HB:=hq_ hb;clear hb hbox hg;obtain ⟨_,_,_,_,_,_,_,_,_,_,_,_,_,_,_,_⟩:=cel8_ n.out)|((with_reducible refine gate_callee (f:=79) rfl ?_);refine goesL_ (some 50) rfl rfl Tryz.func79 kr_ rfl #[.string c,.string (⟨#[114]⟩:ByteArray)] rfl ar_ ?_;(with_reducible refine (strings_Contains.calls c (⟨#[114]⟩:ByteArray) false _ V.out).mono ?_);rintro e w' ⟨rfl,⟨nd,rfl⟩⟩;refine ⟨_,rfl,?_⟩))
  go_ret
  exact ⟨er_,bel_⟩
 replace H:=bo_ H
 obtain ⟨E,W,H⟩:=H
 try dsimp only at H
 replace H:=hf_ H
 rcases H with ⟨rfl,H⟩ | ⟨rfl,H⟩
 ·
  obtain rfl:=si_ H
  go_enter Tryz.func77,Tryz.ntmps77
  go_wp2_with (first|((with_reducible refine gate_dst (N:=2) rfl ?_);(try (refine gate_guard (by rfl) ?_;dsimp only));refine bxe_ (N:=2) (cs:=#[.int .i64 q,.slice s b.length c0_1,.slice u d.length c0_2,.slice v g.length c0_3,.slice x l.length c0_4,.slice y p.length c0_5,.int .i64 z,.slice A a.length c0_7]) (t:=32) ?_;intro m hg w24 hbox hb;have n:=a_ (hbox);have o:=a_ (by rw [hg];exact (bz_ bel_):w.heap.size≤m);have B:=o;replace HB:=hq_ hb;clear hb hbox hg;obtain ⟨_,_,_,_,_,_,_,_,_,_,_,_,_,_,_,_⟩:=cel8_ n.out)|((with_reducible refine gate_callee (f:=79) rfl ?_);refine goesL_ (some 50) rfl rfl Tryz.func79 kr_ rfl #[.string c,.string (⟨#[114]⟩:ByteArray)] rfl ar_ ?_;(with_reducible refine (strings_Contains.calls c (⟨#[114]⟩:ByteArray) false _ V.out).mono ?_);rintro e w' ⟨rfl,⟨nd,rfl⟩⟩;refine ⟨_,rfl,?_⟩)|(go_at_call 96;(with_reducible refine (model_named.calls (b.length:Int) c (⟨#[118]⟩:ByteArray) (⟨#[86]⟩:ByteArray) false _ W.out).mono ?_);rintro e w' ⟨rfl,⟨nd,rfl⟩⟩))
  go_ret
  exact ⟨er_,bel_⟩
 replace H:=bo_ H
 obtain ⟨F,A9,H⟩:=H
 try dsimp only at H
 replace H:=hf_ H
 rcases H with ⟨rfl,H⟩ | ⟨rfl,H⟩
 ·
  obtain rfl:=si_ H
  go_enter Tryz.func77,Tryz.ntmps77
  go_wp2_with (first|((with_reducible refine gate_dst (N:=2) rfl ?_);(try (refine gate_guard (by rfl) ?_;dsimp only));refine bxe_ (N:=2) (cs:=#[.int .i64 q,.slice s b.length c0_1,.slice u d.length c0_2,.slice v g.length c0_3,.slice x l.length c0_4,.slice y p.length c0_5,.int .i64 z,.slice A a.length c0_7]) (t:=32) ?_;intro m hg w22 hbox hb;have n:=a_ (hbox);have o:=a_ (by rw [hg];exact (bz_ bel_):w.heap.size≤m);have B:=o;replace HB:=hq_ hb;clear hb hbox hg;obtain ⟨_,_,_,_,_,_,_,_,_,_,_,_,_,_,_,_⟩:=cel8_ n.out)|((with_reducible refine gate_callee (f:=79) rfl ?_);refine goesL_ (some 50) rfl rfl Tryz.func79 kr_ rfl #[.string c,.string (⟨#[114]⟩:ByteArray)] rfl ar_ ?_;(with_reducible refine (strings_Contains.calls c (⟨#[114]⟩:ByteArray) false _ V.out).mono ?_);rintro e w' ⟨rfl,⟨nd,rfl⟩⟩;refine ⟨_,rfl,?_⟩)|(go_at_call 96;(with_reducible refine (model_named.calls (b.length:Int) c (⟨#[118]⟩:ByteArray) (⟨#[86]⟩:ByteArray) true _ W.out).mono ?_);rintro e w' ⟨rfl,⟨nd,rfl⟩⟩)|(go_at_call 96;(with_reducible refine (model_named.calls (d.length:Int) c (⟨#[119]⟩:ByteArray) (⟨#[87]⟩:ByteArray) false _ A9.out).mono ?_);rintro e w' ⟨rfl,⟨nd,rfl⟩⟩))
  go_ret
  exact ⟨er_,bel_⟩
 replace H:=bo_ H
 obtain ⟨G,X,H⟩:=H
 try dsimp only at H
 replace H:=hf_ H
 rcases H with ⟨rfl,H⟩ | ⟨rfl,H⟩
 ·
  obtain rfl:=si_ H
  go_enter Tryz.func77,Tryz.ntmps77
  go_wp2_with (first|((with_reducible refine gate_dst (N:=2) rfl ?_);(try (refine gate_guard (by rfl) ?_;dsimp only));refine bxe_ (N:=2) (cs:=#[.int .i64 q,.slice s b.length c0_1,.slice u d.length c0_2,.slice v g.length c0_3,.slice x l.length c0_4,.slice y p.length c0_5,.int .i64 z,.slice A a.length c0_7]) (t:=32) ?_;intro m hg w20 hbox hb;have n:=a_ (hbox);have o:=a_ (by rw [hg];exact (bz_ bel_):w.heap.size≤m);have B:=o;replace HB:=hq_ hb;clear hb hbox hg;obtain ⟨_,_,_,_,_,_,_,_,_,_,_,_,_,_,_,_⟩:=cel8_ n.out)|((with_reducible refine gate_callee (f:=79) rfl ?_);refine goesL_ (some 50) rfl rfl Tryz.func79 kr_ rfl #[.string c,.string (⟨#[114]⟩:ByteArray)] rfl ar_ ?_;(with_reducible refine (strings_Contains.calls c (⟨#[114]⟩:ByteArray) false _ V.out).mono ?_);rintro e w' ⟨rfl,⟨nd,rfl⟩⟩;refine ⟨_,rfl,?_⟩)|(go_at_call 96;(with_reducible refine (model_named.calls (b.length:Int) c (⟨#[118]⟩:ByteArray) (⟨#[86]⟩:ByteArray) true _ W.out).mono ?_);rintro e w' ⟨rfl,⟨nd,rfl⟩⟩)|(go_at_call 96;(with_reducible refine (model_named.calls (d.length:Int) c (⟨#[119]⟩:ByteArray) (⟨#[87]⟩:ByteArray) true _ A9.out).mono ?_);rintro e w' ⟨rfl,⟨nd,rfl⟩⟩)|(go_at_call 96;(with_reducible refine (model_named.calls (g.length:Int) c (⟨#[45]⟩:ByteArray) (⟨#[99]⟩:ByteArray) false _ X.out).mono ?_);rintro e w' ⟨rfl,⟨nd,rfl⟩⟩))
  go_ret
  exact ⟨er_,bel_⟩
 replace H:=bo_ H
 obtain ⟨I,af,H⟩:=H
 try dsimp only at H
 replace H:=hf_ H
 rcases H with ⟨rfl,H⟩ | ⟨rfl,H⟩
 ·
  obtain rfl:=si_ H
  go_enter Tryz.func77,Tryz.ntmps77
  go_wp2_with (first|((with_reducible refine gate_dst (N:=2) rfl ?_);(try (refine gate_guard (by rfl) ?_;dsimp only));refine bxe_ (N:=2) (cs:=#[.int .i64 q,.slice s b.length c0_1,.slice u d.length c0_2,.slice v g.length c0_3,.slice x l.length c0_4,.slice y p.length c0_5,.int .i64 z,.slice A a.length c0_7]) (t:=32) ?_;intro m hg w18 hbox hb;have n:=a_ (hbox);have o:=a_ (by rw [hg];exact (bz_ bel_):w.heap.size≤m);have B:=o;replace HB:=hq_ hb;clear hb hbox hg;obtain ⟨_,_,_,_,_,_,_,_,_,_,_,_,_,_,_,_⟩:=cel8_ n.out)|((with_reducible refine gate_callee (f:=79) rfl ?_);refine goesL_ (some 50) rfl rfl Tryz.func79 kr_ rfl #[.string c,.string (⟨#[114]⟩:ByteArray)] rfl ar_ ?_;(with_reducible refine (strings_Contains.calls c (⟨#[114]⟩:ByteArray) false _ V.out).mono ?_);rintro e w' ⟨rfl,⟨nd,rfl⟩⟩;refine ⟨_,rfl,?_⟩)|(go_at_call 96;(with_reducible refine (model_named.calls (b.length:Int) c (⟨#[118]⟩:ByteArray) (⟨#[86]⟩:ByteArray) true _ W.out).mono ?_);rintro e w' ⟨rfl,⟨nd,rfl⟩⟩)|(go_at_call 96;(with_reducible refine (model_named.calls (d.length:Int) c (⟨#[119]⟩:ByteArray) (⟨#[87]⟩:ByteArray) true _ A9.out).mono ?_);rintro e w' ⟨rfl,⟨nd,rfl⟩⟩)|(go_at_call 96;(with_reducible refine (model_named.calls (g.length:Int) c (⟨#[45]⟩:ByteArray) (⟨#[99]⟩:ByteArray) true _ X.out).mono ?_);rintro e w' ⟨rfl,⟨nd,rfl⟩⟩)|(go_at_call 96;(with_reducible refine (model_named.calls (l.length:Int) c (⟨#[45]⟩:ByteArray) (⟨#[100]⟩:ByteArray) false _ af.out).mono ?_);rintro e w' ⟨rfl,⟨nd,rfl⟩⟩))
  go_ret
  exact ⟨er_,bel_⟩
 replace H:=bo_ H
 obtain ⟨J,ah,H⟩:=H
 try dsimp only at H
 obtain rfl:=si_ H
 go_enter Tryz.func77,Tryz.ntmps77
 go_wp2_with (first|((with_reducible refine gate_dst (N:=2) rfl ?_);(try (refine gate_guard (by rfl) ?_;dsimp only));refine bxe_ (N:=2) (cs:=#[.int .i64 q,.slice s b.length c0_1,.slice u d.length c0_2,.slice v g.length c0_3,.slice x l.length c0_4,.slice y p.length c0_5,.int .i64 z,.slice A a.length c0_7]) (t:=32) ?_;intro m hg w16 hbox hb;have n:=a_ (hbox);have o:=a_ (by rw [hg];exact (bz_ bel_):w.heap.size≤m);have B:=o;replace HB:=hq_ hb;clear hb hbox hg;obtain ⟨_,_,_,_,_,_,_,_,_,_,_,_,_,_,_,_⟩:=cel8_ n.out)|((with_reducible refine gate_callee (f:=79) rfl ?_);refine goesL_ (some 50) rfl rfl Tryz.func79 kr_ rfl #[.string c,.string (⟨#[114]⟩:ByteArray)] rfl ar_ ?_;(with_reducible refine (strings_Contains.calls c (⟨#[114]⟩:ByteArray) false _ V.out).mono ?_);rintro e w' ⟨rfl,⟨nd,rfl⟩⟩;refine ⟨_,rfl,?_⟩)|(go_at_call 96;(with_reducible refine (model_named.calls (b.length:Int) c (⟨#[118]⟩:ByteArray) (⟨#[86]⟩:ByteArray) true _ W.out).mono ?_);rintro e w' ⟨rfl,⟨nd,rfl⟩⟩)|(go_at_call 96;(with_reducible refine (model_named.calls (d.length:Int) c (⟨#[119]⟩:ByteArray) (⟨#[87]⟩:ByteArray) true _ A9.out).mono ?_);rintro e w' ⟨rfl,⟨nd,rfl⟩⟩)|(go_at_call 96;(with_reducible refine (model_named.calls (g.length:Int) c (⟨#[45]⟩:ByteArray) (⟨#[99]⟩:ByteArray) true _ X.out).mono ?_);rintro e w' ⟨rfl,⟨nd,rfl⟩⟩)|(go_at_call 96;(with_reducible refine (model_named.calls (l.length:Int) c (⟨#[45]⟩:ByteArray) (⟨#[100]⟩:ByteArray) true _ af.out).mono ?_);rintro e w' ⟨rfl,⟨nd,rfl⟩⟩)|(go_at_call 96;(with_reducible refine (model_named.calls (p.length:Int) c (⟨#[45]⟩:ByteArray) (⟨#[101]⟩:ByteArray) J _ ah.out).mono ?_);rintro e w' ⟨rfl,⟨nd,rfl⟩⟩))
 go_ret
 exact ⟨er_,bel_⟩
def model_alike.f (a:Int) (e:List Int) (g:List Int) (b:List Int) (c:List Int) (d:List Int) (l:Int) (m:List (List Int)):Option (Bool):=if a=1 then (none) else (if a=2 then (none) else (if a=3 then (none) else (if a=4 then (none) else (if a=19 then (none) else (if a=21 then (if (c.length:Int)=(b.length:Int) then (some ((d.length:Int)==(b.length:Int))) else (some false)) else (none))))))
theorem model_alike.calls (a:Int) (n:Option Addr) (c0_1:Nat) (d:List Int) (o:Option Addr) (c0_2:Nat) (g:List Int) (p:Option Addr) (c0_3:Nat) (b:List Int) (q:Option Addr) (c0_4:Nat) (c:List Int) (s:Option Addr) (c0_5:Nat) (l:List Int) (u:Int) (v:Option Addr) (c0_7:Nat) (m:List (List Int)) (r:Bool) (w:World) (J:Kd.C (Kd.int .i64) w n d.length d) (A:d.length≤c0_1) (K:Kd.C (Kd.int .i64) w o g.length g) (B:g.length≤c0_2) (M:Kd.C (Kd.int .i64) w p b.length b) (E:b.length≤c0_3) (O:Kd.C (Kd.int .i64) w q c.length c) (F:c.length≤c0_4) (P:Kd.C (Kd.int .i64) w s l.length l) (G:l.length≤c0_5) (Q:Kd.C (Kd.slice 3 (Kd.int .i64)) w v m.length m) (I:m.length≤c0_7) (h:model_alike.f a d g b c l u m=some r) :
  Calls Tryz.prog 78 #[.agg #[.int .i64 a,.slice n d.length c0_1,.slice o g.length c0_2,.slice p b.length c0_3,.slice q c.length c0_4,.slice s l.length c0_5,.int .i64 u,.slice v m.length c0_7]] w fun e w'=>e = .returned (.bool r)∧Below w.heap.size w w':=by
 have hu32:=Tryz.underlying32
 have V:=a_ A
 clear J A
 have W:=a_ B
 clear K B
 have X:=a_ E
 clear M E
 have Y:=a_ F
 clear O F
 have Z:=a_ G
 clear P G
 have aa:=a_ I
 clear Q I
 have HB:=a_ (Below.refl w.heap.size w)
 unfold model_alike.f at h
 have H:=h
 clear h
 replace H:=gz_ H
 obtain ⟨c2,c2b0,c2b1,H⟩:=H
 replace H:=gz_ H
 obtain ⟨c3,c3b0,c3b1,H⟩:=H
 replace H:=gz_ H
 obtain ⟨c4,c4b0,c4b1,H⟩:=H
 replace H:=gz_ H
 obtain ⟨c5,c5b0,c5b1,H⟩:=H
 replace H:=gz_ H
 obtain ⟨c6,c6b0,c6b1,H⟩:=H
 replace H:=gq_ H
 obtain ⟨c7b0,c7b1,H⟩:=H
 replace H:=eg_ H
 rcases H with ⟨c8,c8b0,c8b1,H⟩ | ⟨c8,c8b0,c8b1,H⟩
 ·
  have c8b2:(c.length==b.length)=true:=by first | simpa using c8 | (simp at c8 ⊢;omega)
  clear c8
  obtain rfl:=si_ H
  go_enter Tryz.func78,Tryz.ntmps78
  go_wp2_with (first|((with_reducible refine gate_dst (N:=1) rfl ?_);(try (refine gate_guard (by rfl) ?_;dsimp only));refine bxe_ (N:=1) (cs:=#[.int .i64 a,.slice n d.length c0_1,.slice o g.length c0_2,.slice p b.length c0_3,.slice q c.length c0_4,.slice s l.length c0_5,.int .i64 u,.slice v m.length c0_7]) (t:=32) ?_;intro x hg w9 hbox hb;have y:=a_ (hbox);have z:=a_ (by rw [hg];exact (bz_ bel_):w.heap.size≤x);have U:=z;replace HB:=hq_ hb;clear hb hbox hg;obtain ⟨_,_,_,_,_,_,_,_,_,_,_,_,_,_,_,_⟩:=cel8_ y.out))
  go_ret
  exact ⟨er_,bel_⟩
 have c8b2:(c.length==b.length)=false:=by first | simpa using c8 | (simp at c8 ⊢;omega)
 obtain rfl:=si_ H
 go_enter Tryz.func78,Tryz.ntmps78
 go_wp2_with (first|((with_reducible refine gate_dst (N:=1) rfl ?_);(try (refine gate_guard (by rfl) ?_;dsimp only));refine bxe_ (N:=1) (cs:=#[.int .i64 a,.slice n d.length c0_1,.slice o g.length c0_2,.slice p b.length c0_3,.slice q c.length c0_4,.slice s l.length c0_5,.int .i64 u,.slice v m.length c0_7]) (t:=32) ?_;intro x hg w11 hbox hb;have y:=a_ (hbox);have z:=a_ (by rw [hg];exact (bz_ bel_):w.heap.size≤x);have U:=z;replace HB:=hq_ hb;clear hb hbox hg;obtain ⟨_,_,_,_,_,_,_,_,_,_,_,_,_,_,_,_⟩:=cel8_ y.out))
 go_ret
 exact ⟨er_,bel_⟩
def slices_GrowNil.f (a:Int):Option (List Int):=if 0≤a∧a≤17592186044415 then some [] else none
theorem infoGrow:(Tryz.prog.info? 3).map (fun i=>(i.zero,i.size,i.bytes))=some (some (.int .i64 0),1,8):=by kernel_rfl
theorem slices_GrowNil.calls (a:Int) (r:List Int) (w:World) (h:slices_GrowNil.f a=some r) :
  Calls Tryz.prog 109 #[.slice none 0 0,.int .i64 a] w fun e w'=>∃v_:Value,e = .returned v_∧Kd.R (Kd.int .i64) 3 w' w.heap.size (fun _=>True) v_ r∧Below w.heap.size w w':=by
 unfold slices_GrowNil.f at h
 by_cases hb:0≤a∧a≤17592186044415
 rotate_left
 · rw [if_neg hb] at h;cases h
 rw [if_pos hb] at h
 obtain rfl:=Option.some.inj h
 obtain ⟨h0,h1⟩:=hb
 have d1:decide (a<0)=false:=decide_eq_false (by omega)
 by_cases hz:a=0
 ·
  subst hz
  go_enter Tryz.func109,Tryz.ntmps109
  go_wp2
  go_ret
  exact ⟨_,rfl,Kd.R_nil _ _ _ _ _,Below.refl _ _⟩
 have d2:decide (0<a)=true:=decide_eq_true (by omega)
 have hn:a.toNat * 8≤140737488355328:=by omega
 clear h
 go_enter Tryz.func109,Tryz.ntmps109
 go_wp2_with ((with_reducible refine gate_builtin (b := .append) (xs:=#[.tmp 20,.tmp 21]) rfl ?_);at_builtin;refine Kd.R_append_zeros (Kd.int .i64) (w0:=w) w.heap.size rfl (.tmp 20) (.tmp 21) 30 3 3 (.int .i64 0) 8 rfl Tryz.underlying30 Tryz.underlying3 infoGrow rfl (by decide) (by omega) (.slice none 0 0) [] (0:Int) a (fun _=>True) rfl rfl rfl (fun _ _=>trivial) (Kd.R_nil _ _ _ _ _) h0 (Below.refl _ _) (Nat.le_refl _) (by simp only [List.length_nil];omega) ?_;intro c w1 hR hB hG hat;(obtain ⟨d,c1,rfl⟩:=Kd.R_slice hR);have HR:=Aside0.mk hR;have HB:=Aside0.mk hB;clear hR hB hG hat)
 go_ret
 exact ⟨_,rfl,Kd.R_take HR.out (Nat.zero_le _),HB.out⟩
end Go.Proofs.YtijjhobjmehhoaaGreatDoor.XGccRefuses
