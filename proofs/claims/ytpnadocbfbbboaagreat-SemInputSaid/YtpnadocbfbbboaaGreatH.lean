/-
  SemMore, SemInput.
-/
import Derived.Test.YtpnadocbfbbboaaGreatG
import Derived.Test.YtpnadocbfbbboaaGreatK

set_option maxRecDepth 100000
set_option maxHeartbeats 8000000
namespace E11
open Ax Go Code11 V7 Par Chk Run K9 S9 N7 U7
theorem endR_st (r:Rs):(endR r).steps=r.steps/\(endR r).out=r.out:=by unfold endR;split<;>exact⟨rfl,rfl⟩
theorem run_gdR (C:Cx)(main:Int)(inp:List Int):(run C main inp).out.length<=C.fuel:=by
 have G0:Gd C 0 (r0 C inp):=⟨by simp[r0],by simp[r0],by simp[r0],by simp[r0],by simp[r0]⟩
 have:=(call_gd (ev_gd C.fuel).2 main [] (r0 C inp) G0).1
 unfold run
 rw[(endR_st _).2]
 have h1:=this.o
 have h2:=this.st
 omega
theorem few_out (p:Pg)(l:List Int)(n:Nat):(semR p l n).out.length<=n:=by
 unfold semR
 split
 ·simp[zeroR]
 split
 ·simp[zeroR]
 ·exact run_gdR _ _ _
theorem sem_input (p:Pg)(l w:List Int)(n:Nat) :
  ((semR p l n).e=2/\(semR p l n).code=5/\(semR p l n).steps<=(semR p (l++w) n).steps/\∃r,(semR p (l++w) n).out=(semR p l n).out++r)\/
  ((semR p (l++w) n).e=(semR p l n).e/\(semR p (l++w) n).code=(semR p l n).code/\(semR p (l++w) n).out=(semR p l n).out/\(semR p (l++w) n).steps=(semR p l n).steps):=by
 unfold semR
 split
 ·exact .inr ⟨rfl,rfl,rfl,rfl⟩
 split
 ·exact .inr ⟨rfl,rfl,rfl,rfl⟩
 ·rename_i bs _
  rcases run_input (cxOf (hdOf p) bs n) w (mainP p) l with⟨h1,h2,h3,h4⟩|h
  ·exact .inl ⟨h1,h2,h4,h3⟩
  ·rw[h];exact .inr ⟨rfl,rfl,rfl,rfl⟩
end E11
