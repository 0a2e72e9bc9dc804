/- Part of a proof. -/
import Derived.Test.YtpnadocbfbbboaaGreatCode2
import Derived.KernelRfl
import Derived.Test.YtpnadocbfbbboaaGreatA6
import Derived.Test.YtpnadocbfbbboaaGreatH

set_option maxRecDepth 100000
set_option maxHeartbeats 8000000
namespace Bp
open Ax Go bX
theorem aed:(aT S).call 0 0 14 [] []=some (.bool true,[]):=by
 have h:acA ((QW S 400).call 0 0 14 [] [])=true:=by kernel_rfl
 exact acz (Yn h)
end Bp
namespace Bp
open Ax Go bX V7 lf mG zj K9 S9 N7 U7
theorem Zz(r:Rs):(uw r).cZ=r.cZ/\(uw r).out=r.out:=by unfold uw;split<;>exact⟨rfl,rfl⟩
theorem ZA(C:Cx)(main:Int)(qG:List Int):(run C main qG).out.length<=C.eC:=by
 have G0:Gd C 0 (r0 C qG):=⟨by simp[r0],by simp[r0],by simp[r0],by simp[r0],by simp[r0]⟩;have:=(Pe (Ho C.eC).2 main [] (r0 C qG) G0).1;unfold run;rw[(Zz _).2];have h1:=this.o;have h2:=this.st;omega
theorem ZB(p:Pg)(l:List Int)(n:Nat):(E7 p l n).out.length<=n:=by
 unfold E7;split;simp[E6];split;simp[E6];exact ZA _ _ _
end Bp
