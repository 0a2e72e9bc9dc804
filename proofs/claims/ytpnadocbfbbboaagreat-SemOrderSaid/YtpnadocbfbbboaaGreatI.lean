/-
  SemInput.
-/
import Derived.Test.YtpnadocbfbbboaaGreatH

set_option maxRecDepth 100000
set_option maxHeartbeats 8000000
namespace E11
open Ax Go Code11 V7 Par Chk Run K9 S9 N7 U7
theorem isI_lstV {l:List Int}:isI (lstV 1 (ints l))=true:=by
 cases l with
 |nil=>rfl
 |cons a b=>simp[lstV,mkL,ints,isI,fits,AV.view]
theorem no_lstV {l:List Int}:notOwn (lstV 1 (ints l))=true:=by cases l<;>rfl
theorem dI_lstV {l:List Int}:Ax.dI (lstV 1 (ints l))=l:=by
 unfold Ax.dI
 rw[rowsL_lstV]
 exact dI_ints l
end E11
