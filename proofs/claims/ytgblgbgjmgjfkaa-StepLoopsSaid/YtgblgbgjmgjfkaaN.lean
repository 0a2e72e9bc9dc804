/- Part of a proof. -/
import Derived.Test.YtgblgbgjmgjfkaaM

set_option maxRecDepth 100000
set_option maxHeartbeats 4000000
namespace U12
open Ax Go Code14 IrV
def onlyT (a b c n:Bool)(i:ID):Bool:=(a||decide (i.a=0))&&(b||decide (i.b=0))&&(c||decide (i.c=0))&&(n||decide (i.n=0))&&(decide (i.op=13)||decide ((dI i.args).length=0))
def idAV (i:ID):AV:=.agg [.int .i64 i.op,.int .i64 i.a,.int .i64 i.b,.int .i64 i.c,.int .i64 i.n,i.args]
theorem only_ok (wl lim:Nat)(i:ID)(a b c n:Bool)(st:Store)(hi:isI i.args=true)(hno:notOwn i.args=true) :
  (orcL S).call wl lim 66 [idAV i,.bool a,.bool b,.bool c,.bool n] st=some (.bool (onlyT a b c n i),st):=by
 have hs:=isSl_I hi
 have hv:=view_notOwn hno hs
 refine call_pure (sf:=s66) rfl rfl (by simp[idAV,hs]) rfl (by simp) ?_
 unfold onlyT idAV
 cases a with
 |true=>
  cases b with
  |true=>
   cases c with
   |true=>
    cases n with
    |true=>
     by_cases ho:i.op=13
     ·simp[s66,hs,ho]
     ·by_cases hl:((dI i.args).length:Int)=0
      ·have hl2:(dI i.args).length=0:=by omega
       simp[s66,hs,hv,ho,hl2,rowsL_I hi]
      ·have hl2:¬(dI i.args).length=0:=by omega
       simp[s66,hs,hv,ho,hl2,rowsL_I hi]
    |false=>
     by_cases hn:i.n=0
     ·skip
      by_cases ho:i.op=13
      ·simp[s66,hs,hn,ho]
      ·by_cases hl:((dI i.args).length:Int)=0
       ·have hl2:(dI i.args).length=0:=by omega
        simp[s66,hs,hv,hn,ho,hl2,rowsL_I hi]
       ·have hl2:¬(dI i.args).length=0:=by omega
        simp[s66,hs,hv,hn,ho,hl2,rowsL_I hi]
     ·simp[s66,hs,hn]
   |false=>
    by_cases hc:i.c=0
    ·skip
     cases n with
     |true=>
      by_cases ho:i.op=13
      ·simp[s66,hs,hc,ho]
      ·by_cases hl:((dI i.args).length:Int)=0
       ·have hl2:(dI i.args).length=0:=by omega
        simp[s66,hs,hv,hc,ho,hl2,rowsL_I hi]
       ·have hl2:¬(dI i.args).length=0:=by omega
        simp[s66,hs,hv,hc,ho,hl2,rowsL_I hi]
     |false=>
      by_cases hn:i.n=0
      ·skip
       by_cases ho:i.op=13
       ·simp[s66,hs,hc,hn,ho]
       ·by_cases hl:((dI i.args).length:Int)=0
        ·have hl2:(dI i.args).length=0:=by omega
         simp[s66,hs,hv,hc,hn,ho,hl2,rowsL_I hi]
        ·have hl2:¬(dI i.args).length=0:=by omega
         simp[s66,hs,hv,hc,hn,ho,hl2,rowsL_I hi]
      ·simp[s66,hs,hc,hn]
    ·simp[s66,hs,hc]
  |false=>
   by_cases hb:i.b=0
   ·skip
    cases c with
    |true=>
     cases n with
     |true=>
      by_cases ho:i.op=13
      ·simp[s66,hs,hb,ho]
      ·by_cases hl:((dI i.args).length:Int)=0
       ·have hl2:(dI i.args).length=0:=by omega
        simp[s66,hs,hv,hb,ho,hl2,rowsL_I hi]
       ·have hl2:¬(dI i.args).length=0:=by omega
        simp[s66,hs,hv,hb,ho,hl2,rowsL_I hi]
     |false=>
      by_cases hn:i.n=0
      ·skip
       by_cases ho:i.op=13
       ·simp[s66,hs,hb,hn,ho]
       ·by_cases hl:((dI i.args).length:Int)=0
        ·have hl2:(dI i.args).length=0:=by omega
         simp[s66,hs,hv,hb,hn,ho,hl2,rowsL_I hi]
        ·have hl2:¬(dI i.args).length=0:=by omega
         simp[s66,hs,hv,hb,hn,ho,hl2,rowsL_I hi]
      ·simp[s66,hs,hb,hn]
    |false=>
     by_cases hc:i.c=0
     ·skip
      cases n with
      |true=>
       by_cases ho:i.op=13
       ·simp[s66,hs,hb,hc,ho]
       ·by_cases hl:((dI i.args).length:Int)=0
        ·have hl2:(dI i.args).length=0:=by omega
         simp[s66,hs,hv,hb,hc,ho,hl2,rowsL_I hi]
        ·have hl2:¬(dI i.args).length=0:=by omega
         simp[s66,hs,hv,hb,hc,ho,hl2,rowsL_I hi]
      |false=>
       by_cases hn:i.n=0
       ·skip
        by_cases ho:i.op=13
        ·simp[s66,hs,hb,hc,hn,ho]
        ·by_cases hl:((dI i.args).length:Int)=0
         ·have hl2:(dI i.args).length=0:=by omega
          simp[s66,hs,hv,hb,hc,hn,ho,hl2,rowsL_I hi]
         ·have hl2:¬(dI i.args).length=0:=by omega
          simp[s66,hs,hv,hb,hc,hn,ho,hl2,rowsL_I hi]
       ·simp[s66,hs,hb,hc,hn]
     ·simp[s66,hs,hb,hc]
   ·simp[s66,hs,hb]
 |false=>
  by_cases ha:i.a=0
  ·skip
   cases b with
   |true=>
    cases c with
    |true=>
     cases n with
     |true=>
      by_cases ho:i.op=13
      ·simp[s66,hs,ha,ho]
      ·by_cases hl:((dI i.args).length:Int)=0
       ·have hl2:(dI i.args).length=0:=by omega
        simp[s66,hs,hv,ha,ho,hl2,rowsL_I hi]
       ·have hl2:¬(dI i.args).length=0:=by omega
        simp[s66,hs,hv,ha,ho,hl2,rowsL_I hi]
     |false=>
      by_cases hn:i.n=0
      ·skip
       by_cases ho:i.op=13
       ·simp[s66,hs,ha,hn,ho]
       ·by_cases hl:((dI i.args).length:Int)=0
        ·have hl2:(dI i.args).length=0:=by omega
         simp[s66,hs,hv,ha,hn,ho,hl2,rowsL_I hi]
        ·have hl2:¬(dI i.args).length=0:=by omega
         simp[s66,hs,hv,ha,hn,ho,hl2,rowsL_I hi]
      ·simp[s66,hs,ha,hn]
    |false=>
     by_cases hc:i.c=0
     ·skip
      cases n with
      |true=>
       by_cases ho:i.op=13
       ·simp[s66,hs,ha,hc,ho]
       ·by_cases hl:((dI i.args).length:Int)=0
        ·have hl2:(dI i.args).length=0:=by omega
         simp[s66,hs,hv,ha,hc,ho,hl2,rowsL_I hi]
        ·have hl2:¬(dI i.args).length=0:=by omega
         simp[s66,hs,hv,ha,hc,ho,hl2,rowsL_I hi]
      |false=>
       by_cases hn:i.n=0
       ·skip
        by_cases ho:i.op=13
        ·simp[s66,hs,ha,hc,hn,ho]
        ·by_cases hl:((dI i.args).length:Int)=0
         ·have hl2:(dI i.args).length=0:=by omega
          simp[s66,hs,hv,ha,hc,hn,ho,hl2,rowsL_I hi]
         ·have hl2:¬(dI i.args).length=0:=by omega
          simp[s66,hs,hv,ha,hc,hn,ho,hl2,rowsL_I hi]
       ·simp[s66,hs,ha,hc,hn]
     ·simp[s66,hs,ha,hc]
   |false=>
    by_cases hb:i.b=0
    ·skip
     cases c with
     |true=>
      cases n with
      |true=>
       by_cases ho:i.op=13
       ·simp[s66,hs,ha,hb,ho]
       ·by_cases hl:((dI i.args).length:Int)=0
        ·have hl2:(dI i.args).length=0:=by omega
         simp[s66,hs,hv,ha,hb,ho,hl2,rowsL_I hi]
        ·have hl2:¬(dI i.args).length=0:=by omega
         simp[s66,hs,hv,ha,hb,ho,hl2,rowsL_I hi]
      |false=>
       by_cases hn:i.n=0
       ·skip
        by_cases ho:i.op=13
        ·simp[s66,hs,ha,hb,hn,ho]
        ·by_cases hl:((dI i.args).length:Int)=0
         ·have hl2:(dI i.args).length=0:=by omega
          simp[s66,hs,hv,ha,hb,hn,ho,hl2,rowsL_I hi]
         ·have hl2:¬(dI i.args).length=0:=by omega
          simp[s66,hs,hv,ha,hb,hn,ho,hl2,rowsL_I hi]
       ·simp[s66,hs,ha,hb,hn]
     |false=>
      by_cases hc:i.c=0
      ·skip
       cases n with
       |true=>
        by_cases ho:i.op=13
        ·simp[s66,hs,ha,hb,hc,ho]
        ·by_cases hl:((dI i.args).length:Int)=0
         ·have hl2:(dI i.args).length=0:=by omega
          simp[s66,hs,hv,ha,hb,hc,ho,hl2,rowsL_I hi]
         ·have hl2:¬(dI i.args).length=0:=by omega
          simp[s66,hs,hv,ha,hb,hc,ho,hl2,rowsL_I hi]
       |false=>
        by_cases hn:i.n=0
        ·skip
         by_cases ho:i.op=13
         ·simp[s66,hs,ha,hb,hc,hn,ho]
         ·by_cases hl:((dI i.args).length:Int)=0
          ·have hl2:(dI i.args).length=0:=by omega
           simp[s66,hs,hv,ha,hb,hc,hn,ho,hl2,rowsL_I hi]
          ·have hl2:¬(dI i.args).length=0:=by omega
           simp[s66,hs,hv,ha,hb,hc,hn,ho,hl2,rowsL_I hi]
        ·simp[s66,hs,ha,hb,hc,hn]
      ·simp[s66,hs,ha,hb,hc]
    ·simp[s66,hs,ha,hb]
  ·simp[s66,hs,ha]
end U12
namespace U12
open Ax Go Code14 IrV
def bareT (i:ID):Bool:=
 if i.op=1\/i.op=11\/i.op=19\/i.op=20 then onlyT true false false true i else
 if i.op=2\/i.op=14\/i.op=15\/i.op=18 then onlyT true false false false i else
 if i.op=3\/i.op=10 then onlyT true true false false i else
 if i.op=5\/i.op=12 then onlyT true true false true i else
 if i.op=6\/i.op=7\/i.op=8\/i.op=9 then onlyT true true true false i else
 if i.op=4 then onlyT true true true true i else
 if i.op=13 then onlyT true false true false i else
 if i.op=16 then onlyT false false false true i else
 if i.op=17 then onlyT true false true true i else
 false
theorem bare_ok (wl lim:Nat)(i:ID)(st:Store)(hi:isI i.args=true)(hno:notOwn i.args=true) :
  (orcL S).call wl lim 64 [idAV i] st=some (.bool (bareT i),st):=by
 have hs:=isSl_I hi
 have hv:=view_notOwn hno hs
 have oc:=fun op x y z m a b c n=>only_ok 0 0 ⟨op,x,y,z,m,i.args⟩ a b c n [] hi hno
 simp only[idAV]at oc
 refine call_pure (sf:=s64) rfl rfl (by simp[idAV,hs]) rfl (by simp) ?_
 unfold bareT
 unfold idAV
 by_cases h1:i.op=1
 ·simp[s64,hs,hv,oc,onlyT,h1]
 ·by_cases h11:i.op=11
  ·simp[s64,hs,hv,oc,onlyT,h11]
  ·by_cases h19:i.op=19
   ·simp[s64,hs,hv,oc,onlyT,h19]
   ·by_cases h20:i.op=20
    ·simp[s64,hs,hv,oc,onlyT,h20]
    ·by_cases h2:i.op=2
     ·simp[s64,hs,hv,oc,onlyT,h2]
     ·by_cases h14:i.op=14
      ·simp[s64,hs,hv,oc,onlyT,h14]
      ·by_cases h15:i.op=15
       ·simp[s64,hs,hv,oc,onlyT,h15]
       ·by_cases h18:i.op=18
        ·simp[s64,hs,hv,oc,onlyT,h18]
        ·by_cases h3:i.op=3
         ·simp[s64,hs,hv,oc,onlyT,h3]
         ·by_cases h10:i.op=10
          ·simp[s64,hs,hv,oc,onlyT,h10]
          ·by_cases h5:i.op=5
           ·simp[s64,hs,hv,oc,onlyT,h5]
           ·by_cases h12:i.op=12
            ·simp[s64,hs,hv,oc,onlyT,h12]
            ·by_cases h6:i.op=6
             ·simp[s64,hs,hv,oc,onlyT,h6]
             ·by_cases h7:i.op=7
              ·simp[s64,hs,hv,oc,onlyT,h7]
              ·by_cases h8:i.op=8
               ·simp[s64,hs,hv,oc,onlyT,h8]
               ·by_cases h9:i.op=9
                ·simp[s64,hs,hv,oc,onlyT,h9]
                ·by_cases h4:i.op=4
                 ·simp[s64,hs,hv,oc,onlyT,h4]
                 ·by_cases h13:i.op=13
                  ·simp[s64,hs,hv,oc,onlyT,h13]
                  ·by_cases h16:i.op=16
                   ·simp[s64,hs,hv,oc,onlyT,h16]
                   ·by_cases h17:i.op=17
                    ·simp[s64,hs,hv,oc,onlyT,h17]
                    ·simp[s64,hs,h1,h11,h19,h20,h2,h14,h15,h18,h3,h10,h5,h12,h6,h7,h8,h9,h4,h13,h16,h17]
end U12
namespace U12
open Ax Go Code14 IrV
theorem VW.any {x:XD}{c:CD}{i:ID}(h:VW x c i)(p q r s t:Int):VW x c ⟨p,q,r,s,t,i.args⟩:=⟨h.x,h.vars,h.ins,h.args,h.nargs⟩
theorem ints1 (wl lim:Nat){x:XD}{f:Int}{c:CD}{i:ID}(a:Int)(st:Store)(h:VW x c i) :
  (orcL S).call wl lim 67 [vw x f c i,.lst 1 [[.int .i64 a]]] st=some (.bool (isT (dTs c.vars) tInt [a]),st):=by
 have:=ints_ok wl lim (f:=f) (.lst 1 [[.int .i64 a]]) st h (by simp) (by simp)
 simpa using this
theorem ints2 (wl lim:Nat){x:XD}{f:Int}{c:CD}{i:ID}(a b:Int)(st:Store)(h:VW x c i) :
  (orcL S).call wl lim 67 [vw x f c i,.lst 1 [[.int .i64 a],[.int .i64 b]]] st=some (.bool (isT (dTs c.vars) tInt [a,b]),st):=by
 have:=ints_ok wl lim (f:=f) (.lst 1 [[.int .i64 a],[.int .i64 b]]) st h (by simp) (by simp)
 simpa using this
theorem ints3 (wl lim:Nat){x:XD}{f:Int}{c:CD}{i:ID}(a b d:Int)(st:Store)(h:VW x c i) :
  (orcL S).call wl lim 67 [vw x f c i,.lst 1 [[.int .i64 a],[.int .i64 b],[.int .i64 d]]] st=some (.bool (isT (dTs c.vars) tInt [a,b,d]),st):=by
 have:=ints_ok wl lim (f:=f) (.lst 1 [[.int .i64 a],[.int .i64 b],[.int .i64 d]]) st h (by simp) (by simp)
 simpa using this
theorem bools1 (wl lim:Nat){x:XD}{f:Int}{c:CD}{i:ID}(a:Int)(st:Store)(h:VW x c i) :
  (orcL S).call wl lim 68 [vw x f c i,.lst 1 [[.int .i64 a]]] st=some (.bool (isT (dTs c.vars) tBool [a]),st):=by
 have:=bools_ok wl lim (f:=f) (.lst 1 [[.int .i64 a]]) st h (by simp) (by simp)
 simpa using this
theorem bools2 (wl lim:Nat){x:XD}{f:Int}{c:CD}{i:ID}(a b:Int)(st:Store)(h:VW x c i) :
  (orcL S).call wl lim 68 [vw x f c i,.lst 1 [[.int .i64 a],[.int .i64 b]]] st=some (.bool (isT (dTs c.vars) tBool [a,b]),st):=by
 have:=bools_ok wl lim (f:=f) (.lst 1 [[.int .i64 a],[.int .i64 b]]) st h (by simp) (by simp)
 simpa using this
theorem bools3 (wl lim:Nat){x:XD}{f:Int}{c:CD}{i:ID}(a b d:Int)(st:Store)(h:VW x c i) :
  (orcL S).call wl lim 68 [vw x f c i,.lst 1 [[.int .i64 a],[.int .i64 b],[.int .i64 d]]] st=some (.bool (isT (dTs c.vars) tBool [a,b,d]),st):=by
 have:=bools_ok wl lim (f:=f) (.lst 1 [[.int .i64 a],[.int .i64 b],[.int .i64 d]]) st h (by simp) (by simp)
 simpa using this
theorem is1o (wl lim:Nat){x:XD}{f:Int}{c:CD}{i:ID}(n a:Int)(st:Store)(h:VW x c i) :
  (orcL S).call wl lim 70 [vw x f c i,.agg (ofT (dTs c.vars) n).cells,.lst 1 [[.int .i64 a]]] st=some (.bool (isT (dTs c.vars) (ofT (dTs c.vars) n) [a]),st):=is1 wl lim _ a st h
def twoT (vs:List T3)(i:ID):Bool:=
 if i.n=14\/i.n=15\/i.n=16\/i.n=17\/i.n=18 then isT vs tInt [i.a,i.b,i.c] else
 if i.n=19\/i.n=20 then isT vs tBool [i.a]&&isT vs tInt [i.b,i.c] else
 if i.n=21\/i.n=22 then isT vs tBool [i.a]&&isT vs (ofT vs i.b) [i.c] else
 if i.n=23\/i.n=24 then isT vs tBool [i.a,i.b,i.c] else false
theorem two_ok (wl lim:Nat){x:XD}{f:Int}{c:CD}{i:ID}(st:Store)(h:VW x c i) :
  (orcL S).call wl lim 71 [vw x f c i] st=some (.bool (twoT (dTs c.vars) i),st):=by
 have hs:=h.sl
 have hI2:=fun p q r s t a b=>ints2 0 0 (f:=f) (i:=⟨p,q,r,s,t,i.args⟩) a b [] (h.any p q r s t)
 have hI3:=fun p q r s t a b d=>ints3 0 0 (f:=f) (i:=⟨p,q,r,s,t,i.args⟩) a b d [] (h.any p q r s t)
 have hB1:=fun p q r s t a=>bools1 0 0 (f:=f) (i:=⟨p,q,r,s,t,i.args⟩) a [] (h.any p q r s t)
 have hB3:=fun p q r s t a b d=>bools3 0 0 (f:=f) (i:=⟨p,q,r,s,t,i.args⟩) a b d [] (h.any p q r s t)
 have hC:=fun p q r s t n a=>is1o 0 0 (f:=f) (i:=⟨p,q,r,s,t,i.args⟩) n a [] (h.any p q r s t)
 have hO:=fun p q r s t n=>of_ok 0 0 x f c ⟨p,q,r,s,t,i.args⟩ n [] (h.any p q r s t)
 simp only[vw,T3.cells]at hI3 hI2 hB3 hB1 hC hO
 refine call_pure (sf:=s71) rfl rfl (by simp[h.pure]) rfl (by simp) ?_
 by_cases h14:i.n=14
 ·skip
  simp[s71,vw,hs,hI3,twoT,h14]
 ·skip
  by_cases h15:i.n=15
  ·skip
   simp[s71,vw,hs,hI3,twoT,h15]
  ·skip
   by_cases h16:i.n=16
   ·skip
    simp[s71,vw,hs,hI3,twoT,h16]
   ·skip
    by_cases h17:i.n=17
    ·skip
     simp[s71,vw,hs,hI3,twoT,h17]
    ·skip
     by_cases h18:i.n=18
     ·skip
      simp[s71,vw,hs,hI3,twoT,h18]
     ·skip
      by_cases h19:i.n=19
      ·skip
       cases ea:isT (dTs c.vars) tBool [i.a] with
       |true=>
        simp[s71,vw,hs,hI2,hB1,twoT,h19,ea]
       |false=>
        simp[s71,vw,hs,hB1,twoT,h19,ea]
      ·skip
       by_cases h20:i.n=20
       ·skip
        cases ea:isT (dTs c.vars) tBool [i.a] with
        |true=>
         simp[s71,vw,hs,hI2,hB1,twoT,h20,ea]
        |false=>
         simp[s71,vw,hs,hB1,twoT,h20,ea]
       ·skip
        by_cases h21:i.n=21
        ·skip
         cases ea:isT (dTs c.vars) tBool [i.a] with
         |true=>
          simp[s71,W_draw0,noBoxes,vw,hs,hB1,hC,hO,twoT,h21,ea]
         |false=>
          simp[s71,W_draw0,noBoxes,vw,hs,hB1,twoT,h21,ea]
        ·skip
         by_cases h22:i.n=22
         ·skip
          cases ea:isT (dTs c.vars) tBool [i.a] with
          |true=>
           simp[s71,W_draw0,noBoxes,vw,hs,hB1,hC,hO,twoT,h22,ea]
          |false=>
           simp[s71,W_draw0,noBoxes,vw,hs,hB1,twoT,h22,ea]
         ·skip
          by_cases h23:i.n=23
          ·skip
           simp[s71,vw,hs,hB3,twoT,h23]
          ·skip
           by_cases h24:i.n=24
           ·skip
            simp[s71,vw,hs,hB3,twoT,h24]
           ·skip
            simp[s71,vw,hs,twoT,h14,h15,h16,h17,h18,h19,h20,h21,h22,h23,h24]
end U12
namespace U12
open Ax Go Code14 IrV
def calG (vs:List T3)(i:ID)(g:CD):Bool:=decide (((dI i.args).length:Int)=g.params)&&decide (g.params<=(dTs g.vars).length) &&
  ((dI i.args).zip (dTs g.vars)).all (fun p=>isT vs p.2 [p.1])&&(decide (i.a = -1)||g.has&&isT vs g.res [i.a])
def calT (cs:List CD)(vs:List T3)(i:ID):Bool:=match getZ cs i.c with
 |none=>false
 |some g=>calG vs i g
def zall {α β:Type}(p:α->β->Bool)(l:List α)(m:List β)(k:Nat):Prop:=∀j (h1:j<l.length)(h2:j<m.length),j<k->p l[j] m[j]=true
theorem zall_zero {α β:Type}{p:α->β->Bool}{l:List α}{m:List β}:zall p l m 0:=fun _ _ _ h=>absurd h (by omega)
theorem zall_succ {α β:Type}{p:α->β->Bool}{l:List α}{m:List β}{k:Nat}(h:zall p l m k)(h1:k<l.length)(h2:k<m.length)(hp:p l[k] m[k]=true):zall p l m (k+1):=by
 intro j j1 j2 hj
 rcases Nat.lt_or_ge j k with hjk|hjk
 ·exact h j j1 j2 hjk
 ·have:j=k:=by omega
  subst this;exact hp
theorem zall_all {α β:Type}{p:α->β->Bool}{l:List α}{m:List β}(h:zall p l m l.length):(l.zip m).all (fun q=>p q.1 q.2)=true:=by
 rw[List.all_eq_true]
 intro q hq
 obtain⟨j,hj,rfl⟩:=List.mem_iff_getElem.1 hq
 have h1:j<l.length:=by simp at hj;omega
 have h2:j<m.length:=by simp at hj;omega
 simpa using h j h1 h2 h1
theorem zall_false {α β:Type}{p:α->β->Bool}{l:List α}{m:List β}{k:Nat}(h1:k<l.length)(h2:k<m.length)(hp:p l[k] m[k]=false):(l.zip m).all (fun q=>p q.1 q.2)=false:=by
 rw[List.all_eq_false]
 refine⟨(l[k],m[k]),?_,by simp[hp]⟩
 rw[List.mem_iff_getElem]
 exact⟨k,by simp;omega,by simp⟩
theorem call_ok (wl lim:Nat){x:XD}{f:Int}{c:CD}{i:ID}(st:Store)(h:VW x c i)(hb:∀g∈dCs x.codes,(dTs g.vars).length<1000000000) :
  (orcL S).call wl lim 76 [vw x f c i] st=some (.bool (calT (dCs x.codes) (dTs c.vars) i),st):=by
 have hs:=h.sl
 have hG:=h.x.codes
 have hA:=h.args
 have hC:=fun t a=>is1 0 0 (f:=f) t a [] h
 have hi':=fun (g:CD) a=>is1 0 0 (f:=f) g.res a [] h
 simp only[vw,T3.cells]at hC hi'
 refine call_pure (sf:=s76) rfl rfl (by simp[h.pure]) rfl (by simp) ?_
 unfold calT
 cases hg:getZ (dCs x.codes) i.c with
 |none=>
  rcases getZ_none hg with h0|⟨h0,h1⟩
  ·simp[s76,vw,hs,h0]
  ·have h0':¬i.c<0:=by omega
   simp[s76,vw,hs,h0',h1,hG,rowsL_C hG]
 |some g=>
  obtain⟨k,hk,hkl,rfl⟩:=getZ_some hg
  have h0':¬i.c<0:=by omega
  have h1':¬((dCs x.codes).length:Int)<=i.c:=by omega
  have hgm:=List.getElem_mem hkl
  have hV:=(isCs_get hG _ hgm).1
  have hVs:=isSl_T hV
  have hVv:=isTs_vw hV
  have hN:=(isCs_get hG _ hgm).2
  have hNs:=isSl_N hN
  have hNv:=isNs_vw hN
  have hgl:=hb _ hgm
  generalize hgq:(dCs x.codes)[k]=g at *
  rw[hk]at h0' h1'
  unfold calG
  by_cases hp:((dI i.args).length:Int)=g.params
  ·by_cases hq:g.params<=(dTs g.vars).length
   ·have hq':¬((dTs g.vars).length:Int)<g.params:=by omega
    simp[s76,vw,hs,h0',h1',hk,hkl,hG,rowsL_C hG,CD.cells,hA,rowsL_I hA,hp,hVv,hNs,hNv,hV,rowsL_T hV,hq,hq',hgq]
    skip
    refine W_loopI s76_l0.eq_1 (fun k:Nat=>⟨[(1,.fp 0 0),(3,.fp 1 0),(4,.fp 2 0),(43,.val i.args),(44,.val (.int .i64 g.params)),(45,.val (.int .i64 k))],
     [[x.recs,x.globals,x.codes,x.sites,.int .i64 x.main,.int .i64 f,.int .i64 c.params,c.vars,.bool c.has,.int .i64 c.res.b,.int .i64 c.res.r,.int .i64 c.res.d,c.ins,
      .int .i64 i.op,.int .i64 i.a,.int .i64 i.b,.int .i64 i.c,.int .i64 i.n,i.args],
      [.int .i64 i.op,.int .i64 i.a,.int .i64 i.b,.int .i64 i.c,.int .i64 i.n,i.args],
      [.int .i64 g.params,g.vars,.bool g.has,.int .i64 g.res.b,.int .i64 g.res.r,.int .i64 g.res.d,g.ins]],[]⟩)
     (fun k=>k<=(dI i.args).length/\zall (fun a b=>isT (dTs c.vars) b [a]) (dI i.args) (dTs g.vars) k) (fun k=>(dI i.args).length-k) 0 (by simp[hk]) ⟨by omega,zall_zero⟩ ?_
    intro k ⟨hkk,hz⟩ ih
    have hlen:(dI i.args).length<=(dTs g.vars).length:=by omega
    by_cases hlt:k<(dI i.args).length
    ·have hltp:(k:Int)<g.params:=by omega
     have hlt2:k<(dTs g.vars).length:=by omega
     have hw:IntKind.i64.wrap ((k:Int)+1)=((k+1:Nat):Int):=by rw[wrap64]<;>omega
     have hc:=hC (dTs g.vars)[k] (dI i.args)[k]
     cases he:isT (dTs c.vars) (dTs g.vars)[k] [(dI i.args)[k]] with
     |true=>
      simp[hs,hltp,hlt,hlt2,hA,rowsL_I hA,hV,rowsL_T hV,W_draw0,noBoxes,hc,he,hw]
      exact ih (k+1) ⟨by omega,zall_succ hz hlt hlt2 he⟩ (by omega)
     |false=>
      have hf:=zall_false (p:=fun a b=>isT (dTs c.vars) b [a]) hlt hlt2 he
      simp[hs,hltp,hlt,hlt2,hA,rowsL_I hA,hV,rowsL_T hV,W_draw0,noBoxes,hc,he,hf]
    ·have hltp:¬(k:Int)<g.params:=by omega
     have hkl:k=(dI i.args).length:=by omega
     have hf:=zall_all (p:=fun a b=>isT (dTs c.vars) b [a]) (hkl ▸ hz)
     have hi2:=hi' g i.a
     cases e1:decide (i.a = -1) with
     |true=>simp[hltp,hf,of_decide_eq_true e1]
     |false=>
      have e1':=of_decide_eq_false e1
      cases e2:g.has with
      |true=>simp[hs,hltp,hf,e1',hi2]
      |false=>simp[hltp,hf,e1']
   ·have hq':((dTs g.vars).length:Int)<g.params:=by omega
    simp[s76,vw,hs,h0',h1',hk,hkl,hG,rowsL_C hG,CD.cells,hA,rowsL_I hA,hp,hVv,hNs,hNv,hV,rowsL_T hV,hq,hq',hgq]
  ·simp[s76,vw,hs,h0',h1',hk,hkl,hG,rowsL_C hG,CD.cells,hA,rowsL_I hA,hp,hVs,hVv,hNs,hNv,hgq]
end U12
namespace U12
open Ax Go Code14 IrV
def plcT (c:CD)(n:Int):Bool:=decide (0<=n)&&decide (n<(dNs c.ins).length)
def goesT (x:XD)(c:CD)(i:ID):Bool:=
 if i.op=13 then calT (dCs x.codes) (dTs c.vars) i else
 if i.op=14\/i.op=15 then isT (dTs c.vars) tInt [i.a] else
 if i.op=16 then plcT c i.n else
 if i.op=17 then isT (dTs c.vars) tBool [i.a]&&plcT c i.n&&plcT c i.c else
 if i.op=18 then (if c.has then isT (dTs c.vars) c.res [i.a] else decide (i.a = -1)) else
 gloT (dTs x.globals) (dTs c.vars) i.n i.a
theorem calT_op (cs:List CD)(vs:List T3)(i:ID)(p r t:Int):calT cs vs ⟨p,i.a,r,i.c,t,i.args⟩=calT cs vs i:=rfl
theorem is1r (wl lim:Nat){x:XD}{f:Int}{c:CD}{i:ID}(a:Int)(st:Store)(h:VW x c i) :
  (orcL S).call wl lim 70 [vw x f c i,.agg c.res.cells,.lst 1 [[.int .i64 a]]] st=some (.bool (isT (dTs c.vars) c.res [a]),st):=is1 wl lim _ a st h
theorem goes_ok (wl lim:Nat){x:XD}{f:Int}{c:CD}{i:ID}(st:Store)(h:VW x c i)(hb:∀g∈dCs x.codes,(dTs g.vars).length<1000000000) :
  (orcL S).call wl lim 75 [vw x f c i] st=some (.bool (goesT x c i),st):=by
 have hs:=h.sl
 have hI1:=fun p q r s t a=>ints1 0 0 (f:=f) (i:=⟨p,q,r,s,t,i.args⟩) a [] (h.any p q r s t)
 have hB1:=fun p q r s t a=>bools1 0 0 (f:=f) (i:=⟨p,q,r,s,t,i.args⟩) a [] (h.any p q r s t)
 have hR:=fun p q r s t a=>is1r 0 0 (f:=f) (i:=⟨p,q,r,s,t,i.args⟩) a [] (h.any p q r s t)
 have hP:=fun p q r s t n=>place_ok 0 0 (f:=f) (i:=⟨p,q,r,s,t,i.args⟩) n [] (h.any p q r s t)
 have hG:=fun p q r s t n a=>global_ok 0 0 (f:=f) (i:=⟨p,q,r,s,t,i.args⟩) n a [] (h.any p q r s t)
 have hL:=fun p r t=>call_ok 0 0 (x:=x) (f:=f) (c:=c) (i:=⟨p,i.a,r,i.c,t,i.args⟩) [] (h.any p _ r _ t) hb
 have hP:∀p q r s t n,(orcL S).call 0 0 77 [vw x f c ⟨p,q,r,s,t,i.args⟩,.int .i64 n] []=some (.bool (plcT c n),[]):=fun p q r s t n=>hP p q r s t n
 simp only[calT_op]at hL
 simp only[vw,T3.cells]at hI1 hB1 hR hP hG hL
 refine call_pure (sf:=s75) rfl rfl (by simp[h.pure]) rfl (by simp) ?_
 by_cases h13:i.op=13
 ·skip
  simp[s75,vw,hs,hL,goesT,h13]
 ·skip
  by_cases h14:i.op=14
  ·skip
   simp[s75,vw,hs,hI1,goesT,h14]
  ·skip
   by_cases h15:i.op=15
   ·skip
    simp[s75,vw,hs,hI1,goesT,h15]
   ·skip
    by_cases h16:i.op=16
    ·skip
     simp[s75,vw,hs,hP,goesT,h16]
    ·skip
     by_cases h17:i.op=17
     ·skip
      cases eb:isT (dTs c.vars) tBool [i.a] with
      |true=>
       cases ep:plcT c i.n with
       |true=>
        simp[s75,vw,hs,hB1,hP,goesT,h17,eb,ep]
       |false=>
        simp[s75,vw,hs,hB1,hP,goesT,h17,eb,ep]
      |false=>
       cases ep:plcT c i.n with
       |true=>
        simp[s75,vw,hs,hB1,goesT,h17,eb,ep]
       |false=>
        simp[s75,vw,hs,hB1,goesT,h17,eb,ep]
     ·skip
      by_cases h18:i.op=18
      ·skip
       cases eh:c.has with
       |true=>
        simp only[eh]at hR
        cases er:isT (dTs c.vars) c.res [i.a] with
        |true=>
         simp[s75,vw,hs,hR,goesT,h18,eh,er]
        |false=>
         simp[s75,vw,hs,hR,goesT,h18,eh,er]
       |false=>
        simp only[eh]at hR
        cases er:isT (dTs c.vars) c.res [i.a] with
        |true=>
         simp[s75,vw,hs,goesT,h18,eh]
        |false=>
         simp[s75,vw,hs,goesT,h18,eh]
      ·skip
       simp[s75,vw,hs,hG,goesT,h13,h14,h15,h16,h17,h18]
end U12
