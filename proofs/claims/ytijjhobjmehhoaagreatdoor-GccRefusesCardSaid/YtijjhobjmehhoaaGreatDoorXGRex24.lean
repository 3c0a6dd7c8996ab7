-- by xprint.py, a program of this session, over the kit's print
import Derived.Test.YtijjhobjmehhoaaGreatDoorXGRex0
import Derived.Test.YtijjhobjmehhoaaGreatDoorSq
namespace Go.Proofs.YtijjhobjmehhoaaGreatDoor.XGccRefuses
open Go.RowKit Go.Proofs.YtijjhobjmehhoaaGreatDoor.Sq Go.Proofs.YtijjhobjmehhoaaGreatDoorW.PrintWords Go.Proofs.YtijjhobjmehhoaaGreatDoorW.PrintLast Go.Proofs.YtijjhobjmehhoaaGreatDoorW.PrintMore
attribute [local go_sem] max2_int min2_int max_two min_two max_three min_three max_four min_four   -- for this text's walks alone
set_option linter.unusedVariables false
set_option maxHeartbeats 8000000
set_option maxRecDepth 100000
set_option linter.unusedSimpArgs false
def jigsawlaw20_GccRefuses_1.f (a:List Int):Option (List Int):=if 0≤(mn (a.length:Int) 5) then (if (mn (a.length:Int) 5)≤(a.length:Int) then (some (a.take ((mn (a.length:Int) 5):Int).toNat)) else (none)) else (none)
theorem jigsawlaw20_GccRefuses_1.calls (P0_:Nat→Prop) (o:Option Addr) (c0:Nat) (b:List Int) (r:List Int) (w:World) (y:Kd.V (Kd.int .i64) 3 w w.heap.size (fun l=>P0_ l) (.slice o b.length c0) b) (h:jigsawlaw20_GccRefuses_1.f b=some r) :
  Calls Tryz.prog 16 #[.slice o b.length c0] w fun e w'=>∃u:Value,e = .returned (u)∧Kd.V (Kd.int .i64) 3 w' w.heap.size (fun l=>(P0_ l∨w.heap.size≤l)) u r∧Below w.heap.size w w':=by
 have v:=a_ (show Kd.V (Kd.int .i64) 3 w w.heap.size (fun l=>(P0_ l∨w.heap.size≤l)) (.slice o b.length c0) b from vm_ y (fun l hk => .inl hk))
 have HB:=a_ (Below.refl w.heap.size w)
 unfold jigsawlaw20_GccRefuses_1.f at h
 have H:=h
 clear h
 obtain ⟨a,d⟩:∃j_:Int,(mn (b.length:Int) 5)=j_:=⟨_,rfl⟩
 replace H:(if 0≤(a) then (if (a)≤(b.length:Int) then (some (b.take ((a):Int).toNat)) else (none)) else (none))=some r:=by first|(rw [d] at H;exact H)|(simp only [d] at H ⊢;exact H)
 (try (have hji2h:a≤5:=by (rw [←d];unfold mn;(repeat' split) <;> omega)))
 (try (have hji2g:a≤64:=by omega))
 (try (have hji2l:0≤a:=by (rw [←d];unfold mn;(repeat' split) <;> omega)))
 (try (have hji2m:0≤a:=by omega))
 have z:(if 5<(b.length:Int) then 5 else (b.length:Int))=a:=d
 replace H:=ge_ H
 obtain ⟨c3b0,c3b1,H⟩:=H
 replace H:=ge_ H
 obtain ⟨c4b0,c4b1,H⟩:=H
 obtain ⟨g,c⟩:∃y_:List Int,y_=(b.take ((a):Int).toNat):=⟨_,rfl⟩
 replace H:(some g)=some r:=h2_ H c
 have n:=a_ c
 clear c
 obtain rfl:=si_ H
 have x:((a):Int)≤((b.length:Int):Int):=dq_
 obtain ⟨i05,p,_,hsz5,_⟩:=info_parts info3
 have hroom5:b.length≤c0:=(Kd.V_reads' v.out).2.1
 have hC5:Kd.F (Kd.int .i64) _ _ o b.length b:=(Kd.V_at (base:=w.heap.size) v.out).2.2
 have hcut5:=cut_to (P:=Tryz.prog) 30 3 .i64 Tryz.underlying30 p o b.length c0 (a) (dq_) x hroom5
 have q:=Kd.F_take (m:=((a):Int).toNat) hC5 (by omega)
 have s:g.length=((a):Int).toNat:=(by rw [n.out,List.length_take];omega)
 rw [←n.out] at q
 rw [←s] at hcut5
 have t:=a_ (show Kd.V (Kd.int .i64) 3 _ w.heap.size _ (.slice o g.length c0) g from Kd.V_mk (by omega) q)
 have A:=a_ (show g.length≤c0 from by omega)
 clear q hC5 hroom5 p hsz5
 have KY5:=a_ s
 clear s
 replace x:=et_ x
 go_enter Tryz.func16,Tryz.ntmps16
 go_wp2
 go_ret
 exact ⟨_,by first | rfl | (simp [errW_none,errW_some] <;> rfl)|(simp only [←d];first | rfl | (simp [errW_none,errW_some] <;> rfl))|(simp [*,errW_none,errW_some] <;> rfl),vV_ t.out,bel_⟩
def jigsawref06_list.f (a:Int) (b:Int) (c:Int):Option (Bool):=if c>0 then (if a≥1 then (some (decide (a≤64))) else (some false)) else (some (a==b))
theorem jigsawref06_list.calls (a:Int) (c:Int) (b:Int) (r:Bool) (w:World) (h:jigsawref06_list.f a c b=some r) :
  Calls Tryz.prog 91 #[.int .i64 a,.int .i64 c,.int .i64 b] w fun e w'=>e = .returned (.bool r)∧Drawn0 w w':=by
 unfold jigsawref06_list.f at h
 have H:=h
 clear h
 by_cases c4:b>0
 rotate_left
 ·
  rw [ig_ c4] at H
  have c4b0:decide (0<b)=false:=df_ c4
  clear c4
  obtain rfl:=si_ H
  go_enter Tryz.func91,Tryz.ntmps91
  go_wp2
  go_ret
  exact ⟨by first | rfl | (simp;done)|(simp [*];done),by repeat (first | exact d0_ _ | apply Drawn0.step)⟩
 rw [ip_ c4] at H
 have c4b0:decide (0<b)=true:=dt_ c4
 clear c4
 by_cases c5:a≥1
 ·
  rw [ip_ c5] at H
  have c5b0:decide (1≤a)=true:=dt_ c5
  clear c5
  obtain rfl:=si_ H
  go_enter Tryz.func91,Tryz.ntmps91
  go_wp2
  go_ret
  exact ⟨by first | rfl | (simp;done)|(simp [*];done),by repeat (first | exact d0_ _ | apply Drawn0.step)⟩
 rw [ig_ c5] at H
 have c5b0:decide (1≤a)=false:=df_ c5
 clear c5
 obtain rfl:=si_ H
 go_enter Tryz.func91,Tryz.ntmps91
 go_wp2
 go_ret
 exact ⟨by first | rfl | (simp;done)|(simp [*];done),by repeat (first | exact d0_ _ | apply Drawn0.step)⟩
end Go.Proofs.YtijjhobjmehhoaaGreatDoor.XGccRefuses
