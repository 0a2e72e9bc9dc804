/- Part of a proof. -/
import Derived.Test.YtpnadocbfbbboaaGreatH

set_option maxRecDepth 100000
set_option maxHeartbeats 8000000
namespace CL
open Ax Go bY
theorem adh:(aZ S).call 0 0 14 [] []=some (.bool true,[]):=by
 have h:abm ((Qg S 400).call 0 0 14 [] [])=true:=by kernel_rfl
 exact abl (Xs h)
end CL
namespace CL
open Ax Go bY V7 kN lZ tj K9 S9 N7 U7
theorem YP(r:Rs):(lE r).cC=r.cC/\(lE r).out=r.out:=by unfold lE;split<;>exact⟨rfl,rfl⟩
theorem YQ(C:Cx)(main:Int)(mZ:List Int):(run C main mZ).out.length<=C.fuel:=by
 have G0:Gd C 0 (r0 C mZ):=⟨by simp[r0],by simp[r0],by simp[r0],by simp[r0],by simp[r0]⟩;have:=(O6 (zj C.fuel).2 main [] (r0 C mZ) G0).1;unfold run;rw[(YP _).2];have h1:=this.o;have h2:=this.st;omega
theorem YR(p:Pg)(l:List Int)(n:Nat):(Da p l n).out.length<=n:=by
 unfold Da;split;simp[vk];split;simp[vk];exact YQ _ _ _
end CL
