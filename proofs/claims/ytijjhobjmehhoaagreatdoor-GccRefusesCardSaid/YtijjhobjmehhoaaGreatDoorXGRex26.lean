-- by xprint.py, a program of this session, over the kit's print
import Derived.Test.YtijjhobjmehhoaaGreatDoorXGRex0
import Derived.Test.YtijjhobjmehhoaaGreatDoorSq
namespace Go.Proofs.YtijjhobjmehhoaaGreatDoor.XGccRefuses
open Go.RowKit Go.Proofs.YtijjhobjmehhoaaGreatDoor.Sq Go.Proofs.YtijjhobjmehhoaaGreatDoorW.PrintWords Go.Proofs.YtijjhobjmehhoaaGreatDoorW.PrintLast Go.Proofs.YtijjhobjmehhoaaGreatDoorW.PrintMore
attribute [local go_sem] max2_int min2_int max_two min_two max_three min_three max_four min_four   -- for this text's walks alone
set_option linter.unusedVariables false
set_option linter.unusedSimpArgs false
def jigsawref06_in.l0:Nat→List Int→Int→Int→Int→Option (Bool)
 | 0,_,_,_,_=>none
 | k+1,b,c,d,a=>if a<(b.length:Int) then (if 0≤a then (if (rd b a)<c then (some false) else (if (rd b a)>d then (some false) else (jigsawref06_in.l0 k b c d (wrap64 (a+1))))) else (none)) else (some true)
def jigsawref06_in.f (k:Nat) (a:List Int) (b:Int) (c:Int):Option (Bool):=jigsawref06_in.l0 k a b c 0
theorem jigsawref06_in.mono_l:∀k,(∀a b c d,LeO (jigsawref06_in.l0 k a b c d) (jigsawref06_in.l0 (k+1) a b c d))
 | 0=>by intros;exact LeO.none _
 | k+1=>by
  have ih0:=jigsawref06_in.mono_l k
  intro a b c d
  unfold jigsawref06_in.l0
  exact leo_
theorem jigsawref06_in.mono:∀a b c k,LeO (jigsawref06_in.f k a b c) (jigsawref06_in.f (k+1) a b c):=by
 intro a b c k
 have ih0:=jigsawref06_in.mono_l k
 unfold jigsawref06_in.f
 exact leo_
set_option maxHeartbeats 8000000 in
set_option maxRecDepth 100000 in
theorem jigsawref06_in.calls (k:Nat) (y:Option Addr) (c0:Nat) (c:List Int) (q:Int) (s:Int) (r:Bool) (w:World) (u:Kd.C (Kd.int .i64) w y c.length c) (v:c.length≤c0) (h:jigsawref06_in.f k c q s=some r) :
  Calls Tryz.prog 70 #[.slice y c.length c0,.int .i64 q,.int .i64 s] w fun e w'=>e = .returned (.bool r)∧Drawn0 w w':=by
 have o:=a_ u
 have A:=a_ v
 clear u v
 unfold jigsawref06_in.f at h
 have H:=h
 clear h
 have H':=a_ H
 clear H
 go_enter Tryz.func70,Tryz.ntmps70
 go_wp2
 go_loopg [7] k (fun kq z w'=>∃(a:Int),z = .int .i64 a∧Aside0 (jigsawref06_in.l0 kq c q s a=some r)∧Aside0 (kq≤k)∧Drawn0 w w')
 case atStart=>exact ⟨(0),eq_,H',⟨lr_ _⟩,by repeat (first | exact d0_ _ | apply Drawn0.step)⟩
 clear H'
 try clear p2
 obtain ⟨a,rfl,HA,x,⟨m1,rfl⟩⟩:=hrel
 cases gk with
 | zero=>exact absurd HA.out (by simp [jigsawref06_in.l0])
 | succ k1 =>
  have H:=HA.out
  clear HA
  simp only [jigsawref06_in.l0] at H
  replace H:=cf_ H
  rcases H with ⟨c4b0,H⟩ | ⟨c4b0,H⟩
  ·
   obtain rfl:=si_ H
   go_wp2
   go_ret
   exact ⟨by first | rfl | (simp;done)|(simp [*];done),by repeat (first | exact d0_ _ | apply Drawn0.step)⟩
  replace H:=gu_ H
  obtain ⟨c5b0,H⟩:=H
  replace H:=ct_ H
  rcases H with ⟨c6b0,H⟩ | ⟨c6b0,H⟩
  ·
   obtain rfl:=si_ H
   obtain ⟨g,l,m,p658,b⟩:=ak_ o a
   cases l
   go_wp2
   go_ret
   exact ⟨by first | rfl | (simp;done)|(simp [*];done),by repeat (first | exact d0_ _ | apply Drawn0.step)⟩
  by_cases c7:(rd c a)>s
  ·
   rw [ip_ c7] at H
   have c7b0:decide (s<(rd c a))=true:=dt_ c7
   clear c7
   obtain rfl:=si_ H
   obtain ⟨g,l,m,p658,b⟩:=ak_ o a
   cases l
   have p659:0≤(a:Int):=dq_
   have d:a<(c.length:Int):=dq_
   obtain ⟨n,p,t⟩:=ai_ o.out a p659 d
   obtain rfl:g=n:=(by injection p)
   replace p659:=et_ p659
   replace d:=et_ d
   go_wp2
   go_ret
   exact ⟨by first | rfl | (simp;done)|(simp [*];done),by repeat (first | exact d0_ _ | apply Drawn0.step)⟩
  rw [ig_ c7] at H
  have c7b0:decide (s<(rd c a))=false:=df_ c7
  clear c7
  have H':=a_ H
  clear H
  obtain ⟨g,l,m,p658,b⟩:=ak_ o a
  cases l
  have p659:0≤(a:Int):=dq_
  have d:a<(c.length:Int):=dq_
  obtain ⟨n,p,t⟩:=ai_ o.out a p659 d
  obtain rfl:g=n:=(by injection p)
  replace p659:=et_ p659
  replace d:=et_ d
  go_wp2
  go_roundg k1
  case measure=>have:=x.out;omega
  exact ⟨(wrap64 (a+1)),eq_,H',⟨by have:=x.out;omega⟩,by repeat (first | exact d0_ _ | apply Drawn0.step)⟩
end Go.Proofs.YtijjhobjmehhoaaGreatDoor.XGccRefuses
