/- Part of a proof. -/
import Derived.Test.YtgblgbgjmgjfkaaGreatJ

set_option maxRecDepth 100000
set_option maxHeartbeats 8000000
namespace U12
open Ax Go Code14z IrV
def nmT(b c n a:Bool)(i:ID):Bool:=(b||decide (i.b=0))&&(c||decide (i.c=0))&&(n||decide (i.n=0))&&(a||decide (((dI i.args).length:Int)=0))
def namedT(i:ID):Bool:=
 if i.op=1\/i.op=11\/i.op=19\/i.op=20 then nmT false false true false i else
 if i.op=3\/i.op=10 then nmT true false false false i else
 if i.op=4 then nmT true true true false i else
 if i.op=5\/i.op=12 then nmT true false true false i else
 if i.op=6\/i.op=7\/i.op=8\/i.op=9 then nmT true true false false i else
 if i.op=13 then nmT false true false true i else
 if i.op=17 then nmT false true true false i else
 if i.op=16 then decide (i.a=0)&&decide (i.b=0)&&decide (i.c=0)&&decide (((dI i.args).length:Int)=0) else
 nmT false false false false i
theorem named_ok(wl lim:Nat)(i:ID)(st:Store)(hi:isI i.args=true)(hno:notOwn i.args=true) :
  (orcL S).call wl lim 95 [idAV i] st=some (.bool (namedT i),st):=by
 have hs:=isSl_I hi
 have hv:=view_notOwn hno hs
 have hl:=rowsL_I hi
 refine call_pure (sf:=s95) rfl rfl (by simp[idAV,hs]) rfl (by simp) ?_
 unfold idAV
 by_cases h1:i.op=1
 ·skip
  cases c0:decide (i.b=0) with
  |true=>
   cases c1:decide (i.c=0) with
   |true=>
    simp[s95,hs,hv,hl,namedT,nmT,h1,c0,c1]
   |false=>
    simp[s95,hs,namedT,nmT,h1,c0,c1]
  |false=>
   simp[s95,hs,namedT,nmT,h1,c0]
 ·skip
  by_cases h11:i.op=11
  ·skip
   cases c0:decide (i.b=0) with
   |true=>
    cases c1:decide (i.c=0) with
    |true=>
     simp[s95,hs,hv,hl,namedT,nmT,h11,c0,c1]
    |false=>
     simp[s95,hs,namedT,nmT,h11,c0,c1]
   |false=>
    simp[s95,hs,namedT,nmT,h11,c0]
  ·skip
   by_cases h19:i.op=19
   ·skip
    cases c0:decide (i.b=0) with
    |true=>
     cases c1:decide (i.c=0) with
     |true=>
      simp[s95,hs,hv,hl,namedT,nmT,h19,c0,c1]
     |false=>
      simp[s95,hs,namedT,nmT,h19,c0,c1]
    |false=>
     simp[s95,hs,namedT,nmT,h19,c0]
   ·skip
    by_cases h20:i.op=20
    ·skip
     cases c0:decide (i.b=0) with
     |true=>
      cases c1:decide (i.c=0) with
      |true=>
       simp[s95,hs,hv,hl,namedT,nmT,h20,c0,c1]
      |false=>
       simp[s95,hs,namedT,nmT,h20,c0,c1]
     |false=>
      simp[s95,hs,namedT,nmT,h20,c0]
    ·skip
     by_cases h3:i.op=3
     ·skip
      cases c0:decide (i.c=0) with
      |true=>
       cases c1:decide (i.n=0) with
       |true=>
        simp[s95,hs,hv,hl,namedT,nmT,h3,c0,c1]
       |false=>
        simp[s95,hs,namedT,nmT,h3,c0,c1]
      |false=>
       simp[s95,hs,namedT,nmT,h3,c0]
     ·skip
      by_cases h10:i.op=10
      ·skip
       cases c0:decide (i.c=0) with
       |true=>
        cases c1:decide (i.n=0) with
        |true=>
         simp[s95,hs,hv,hl,namedT,nmT,h10,c0,c1]
        |false=>
         simp[s95,hs,namedT,nmT,h10,c0,c1]
       |false=>
        simp[s95,hs,namedT,nmT,h10,c0]
      ·skip
       by_cases h4:i.op=4
       ·skip
        simp[s95,hs,hv,hl,namedT,nmT,h4]
       ·skip
        by_cases h5:i.op=5
        ·skip
         cases c0:decide (i.c=0) with
         |true=>
          simp[s95,hs,hv,hl,namedT,nmT,h5,c0]
         |false=>
          simp[s95,hs,namedT,nmT,h5,c0]
        ·skip
         by_cases h12:i.op=12
         ·skip
          cases c0:decide (i.c=0) with
          |true=>
           simp[s95,hs,hv,hl,namedT,nmT,h12,c0]
          |false=>
           simp[s95,hs,namedT,nmT,h12,c0]
         ·skip
          by_cases h6:i.op=6
          ·skip
           cases c0:decide (i.n=0) with
           |true=>
            simp[s95,hs,hv,hl,namedT,nmT,h6,c0]
           |false=>
            simp[s95,hs,namedT,nmT,h6,c0]
          ·skip
           by_cases h7:i.op=7
           ·skip
            cases c0:decide (i.n=0) with
            |true=>
             simp[s95,hs,hv,hl,namedT,nmT,h7,c0]
            |false=>
             simp[s95,hs,namedT,nmT,h7,c0]
           ·skip
            by_cases h8:i.op=8
            ·skip
             cases c0:decide (i.n=0) with
             |true=>
              simp[s95,hs,hv,hl,namedT,nmT,h8,c0]
             |false=>
              simp[s95,hs,namedT,nmT,h8,c0]
            ·skip
             by_cases h9:i.op=9
             ·skip
              cases c0:decide (i.n=0) with
              |true=>
               simp[s95,hs,hv,hl,namedT,nmT,h9,c0]
              |false=>
               simp[s95,hs,namedT,nmT,h9,c0]
             ·skip
              by_cases h13:i.op=13
              ·skip
               cases c0:decide (i.b=0) with
               |true=>
                cases c1:decide (i.n=0) with
                |true=>
                 simp[s95,hs,namedT,nmT,h13,c0,c1]
                |false=>
                 simp[s95,hs,namedT,nmT,h13,c0,c1]
               |false=>
                simp[s95,hs,namedT,nmT,h13,c0]
              ·skip
               by_cases h17:i.op=17
               ·skip
                cases c0:decide (i.b=0) with
                |true=>
                 simp[s95,hs,hv,hl,namedT,nmT,h17,c0]
                |false=>
                 simp[s95,hs,namedT,nmT,h17,c0]
               ·skip
                by_cases h16:i.op=16
                ·skip
                 cases c0:decide (i.a=0) with
                 |true=>
                  cases c1:decide (i.b=0) with
                  |true=>
                   cases c2:decide (i.c=0) with
                   |true=>
                    simp[s95,hs,hv,hl,namedT,h16,c0,c1,c2]
                   |false=>
                    simp[s95,hs,namedT,h16,c0,c1,c2]
                  |false=>
                   simp[s95,hs,namedT,h16,c0,c1]
                 |false=>
                  simp[s95,hs,namedT,h16,c0]
                ·skip
                 cases c0:decide (i.b=0) with
                 |true=>
                  cases c1:decide (i.c=0) with
                  |true=>
                   cases c2:decide (i.n=0) with
                   |true=>
                    simp[s95,hs,hv,hl,namedT,nmT,h1,h11,h19,h20,h3,h10,h4,h5,h12,h6,h7,h8,h9,h13,h17,h16,c0,c1,c2]
                   |false=>
                    simp[s95,hs,namedT,nmT,h1,h11,h19,h20,h3,h10,h4,h5,h12,h6,h7,h8,h9,h13,h17,h16,c0,c1,c2]
                  |false=>
                   simp[s95,hs,namedT,nmT,h1,h11,h19,h20,h3,h10,h4,h5,h12,h6,h7,h8,h9,h13,h17,h16,c0,c1]
                 |false=>
                  simp[s95,hs,namedT,nmT,h1,h11,h19,h20,h3,h10,h4,h5,h12,h6,h7,h8,h9,h13,h17,h16,c0]
theorem tint_ok(wl lim:Nat)(st:Store):(orcL S).call wl lim 97 [] st=some (.agg [.int .i64 1,.int .i64 0,.int .i64 0],st):=by
 refine call_pure (sf:=s97) rfl rfl rfl rfl rfl ?_
 simp[s97]
theorem tbool_ok(wl lim:Nat)(st:Store):(orcL S).call wl lim 98 [] st=some (.agg [.int .i64 2,.int .i64 0,.int .i64 0],st):=by
 refine call_pure (sf:=s98) rfl rfl rfl rfl rfl ?_
 simp[s98]
def binR(n:Int)(a b d:T3):Bool:=
 if n=14\/n=15\/n=16\/n=17\/n=18 then teq a ⟨1,0,0⟩&&teq b ⟨1,0,0⟩&&teq d ⟨1,0,0⟩ else
 if n=19\/n=20 then teq a ⟨2,0,0⟩&&teq b ⟨1,0,0⟩&&teq d ⟨1,0,0⟩ else
 if n=21\/n=22 then teq a ⟨2,0,0⟩ && !teq b ⟨0,0,0⟩&&teq b d else
 if n=23\/n=24 then teq a ⟨2,0,0⟩&&teq b ⟨2,0,0⟩&&teq d ⟨2,0,0⟩ else false
theorem binary_ok(wl lim:Nat)(n:Int)(a b d:T3)(st:Store) :
  (orcL S).call wl lim 99 [.int .i64 n,.agg [.int .i64 a.b,.int .i64 a.r,.int .i64 a.d],.agg [.int .i64 b.b,.int .i64 b.r,.int .i64 b.d],.agg [.int .i64 d.b,.int .i64 d.r,.int .i64 d.d]] st=some (.bool (binR n a b d),st):=by
 refine call_pure (sf:=s99) rfl rfl (by simp) rfl (by simp) ?_
 by_cases h14:n=14
 ·skip
  cases c0:teq a ⟨1,0,0⟩ with
  |true=>
   cases c1:teq b ⟨1,0,0⟩ with
   |true=>
    simp[s99,W_draw0,noBoxes,tint_ok,binR,h14,c0,c1]
   |false=>
    simp[s99,W_draw0,noBoxes,tint_ok,binR,h14,c0,c1]
  |false=>
   simp[s99,W_draw0,noBoxes,tint_ok,binR,h14,c0]
 ·skip
  by_cases h15:n=15
  ·skip
   cases c0:teq a ⟨1,0,0⟩ with
   |true=>
    cases c1:teq b ⟨1,0,0⟩ with
    |true=>
     simp[s99,W_draw0,noBoxes,tint_ok,binR,h15,c0,c1]
    |false=>
     simp[s99,W_draw0,noBoxes,tint_ok,binR,h15,c0,c1]
   |false=>
    simp[s99,W_draw0,noBoxes,tint_ok,binR,h15,c0]
  ·skip
   by_cases h16:n=16
   ·skip
    cases c0:teq a ⟨1,0,0⟩ with
    |true=>
     cases c1:teq b ⟨1,0,0⟩ with
     |true=>
      simp[s99,W_draw0,noBoxes,tint_ok,binR,h16,c0,c1]
     |false=>
      simp[s99,W_draw0,noBoxes,tint_ok,binR,h16,c0,c1]
    |false=>
     simp[s99,W_draw0,noBoxes,tint_ok,binR,h16,c0]
   ·skip
    by_cases h17:n=17
    ·skip
     cases c0:teq a ⟨1,0,0⟩ with
     |true=>
      cases c1:teq b ⟨1,0,0⟩ with
      |true=>
       simp[s99,W_draw0,noBoxes,tint_ok,binR,h17,c0,c1]
      |false=>
       simp[s99,W_draw0,noBoxes,tint_ok,binR,h17,c0,c1]
     |false=>
      simp[s99,W_draw0,noBoxes,tint_ok,binR,h17,c0]
    ·skip
     by_cases h18:n=18
     ·skip
      cases c0:teq a ⟨1,0,0⟩ with
      |true=>
       cases c1:teq b ⟨1,0,0⟩ with
       |true=>
        simp[s99,W_draw0,noBoxes,tint_ok,binR,h18,c0,c1]
       |false=>
        simp[s99,W_draw0,noBoxes,tint_ok,binR,h18,c0,c1]
      |false=>
       simp[s99,W_draw0,noBoxes,tint_ok,binR,h18,c0]
     ·skip
      by_cases h19:n=19
      ·skip
       cases c0:teq a ⟨2,0,0⟩ with
       |true=>
        cases c1:teq b ⟨1,0,0⟩ with
        |true=>
         simp[s99,W_draw0,noBoxes,tint_ok,tbool_ok,binR,h19,c0,c1]
        |false=>
         simp[s99,W_draw0,noBoxes,tint_ok,tbool_ok,binR,h19,c0,c1]
       |false=>
        simp[s99,W_draw0,noBoxes,tbool_ok,binR,h19,c0]
      ·skip
       by_cases h20:n=20
       ·skip
        cases c0:teq a ⟨2,0,0⟩ with
        |true=>
         cases c1:teq b ⟨1,0,0⟩ with
         |true=>
          simp[s99,W_draw0,noBoxes,tint_ok,tbool_ok,binR,h20,c0,c1]
         |false=>
          simp[s99,W_draw0,noBoxes,tint_ok,tbool_ok,binR,h20,c0,c1]
        |false=>
         simp[s99,W_draw0,noBoxes,tbool_ok,binR,h20,c0]
       ·skip
        by_cases h21:n=21
        ·skip
         cases e1:teq a ⟨2,0,0⟩ with
         |true=>
          cases e2:teq b ⟨0,0,0⟩ with
          |true=>
           simp[s99,W_draw0,noBoxes,tbool_ok,binR,h21,e1,e2]
          |false=>
           simp[s99,W_draw0,noBoxes,tbool_ok,binR,h21,e1,e2]
         |false=>
          simp[s99,W_draw0,noBoxes,tbool_ok,binR,h21,e1]
        ·skip
         by_cases h22:n=22
         ·skip
          cases e1:teq a ⟨2,0,0⟩ with
          |true=>
           cases e2:teq b ⟨0,0,0⟩ with
           |true=>
            simp[s99,W_draw0,noBoxes,tbool_ok,binR,h22,e1,e2]
           |false=>
            simp[s99,W_draw0,noBoxes,tbool_ok,binR,h22,e1,e2]
          |false=>
           simp[s99,W_draw0,noBoxes,tbool_ok,binR,h22,e1]
         ·skip
          by_cases h23:n=23
          ·skip
           cases c0:teq a ⟨2,0,0⟩ with
           |true=>
            cases c1:teq b ⟨2,0,0⟩ with
            |true=>
             simp[s99,W_draw0,noBoxes,tbool_ok,binR,h23,c0,c1]
            |false=>
             simp[s99,W_draw0,noBoxes,tbool_ok,binR,h23,c0,c1]
           |false=>
            simp[s99,W_draw0,noBoxes,tbool_ok,binR,h23,c0]
          ·skip
           by_cases h24:n=24
           ·skip
            cases c0:teq a ⟨2,0,0⟩ with
            |true=>
             cases c1:teq b ⟨2,0,0⟩ with
             |true=>
              simp[s99,W_draw0,noBoxes,tbool_ok,binR,h24,c0,c1]
             |false=>
              simp[s99,W_draw0,noBoxes,tbool_ok,binR,h24,c0,c1]
            |false=>
             simp[s99,W_draw0,noBoxes,tbool_ok,binR,h24,c0]
           ·skip
            simp[s99,binR,h14,h15,h16,h17,h18,h19,h20,h21,h22,h23,h24]
end U12
namespace U12
open Ax Go Code14z IrV
theorem rref_ok(wl lim:Nat)(a b c:Int)(st:Store) :
  (orcL S).call wl lim 44 [.agg [.int .i64 a,.int .i64 b,.int .i64 c]] st=some (.bool (refT ⟨a,b,c⟩),st):=by
 refine call_pure (sf:=s44) rfl rfl (by simp) rfl (by simp) ?_
 unfold refT
 by_cases h:a=3
 ·simp[s44,h]
 ·simp[s44,h]
theorem less_ok(wl lim:Nat)(t:T3)(st:Store)(h0:0<t.d)(hr:inR t.d=true) :
  (orcL S).call wl lim 101 [.agg [.int .i64 t.b,.int .i64 t.r,.int .i64 t.d]] st=some (.agg [.int .i64 t.b,.int .i64 t.r,.int .i64 (t.d-1)],st):=by
 have hw:IntKind.i64.wrap (t.d-1)=t.d-1:=by
  simp only[inR,Bool.and_eq_true,decide_eq_true_eq]at hr
  rw[wrap64]<;>omega
 refine call_pure (sf:=s101) rfl rfl (by simp) rfl (by simp) ?_
 simp[s101,hw]
def cAV(c:CD):AV:=.agg [.int .i64 c.params,c.vars,.bool c.has,.int .i64 c.res.b,.int .i64 c.res.r,.int .i64 c.res.d,c.ins]
theorem rof_ok(wl lim:Nat){c:CD}(n:Int)(st:Store)(hV:isTs c.vars=true)(hN:isNs c.ins=true) :
  (orcL S).call wl lim 96 [cAV c,.int .i64 n] st=some (.agg (ofT (dTs c.vars) n).cells,st):=by
 have hVs:=isSl_T hV
 have hVv:=isTs_vw hV
 have hNs:=isSl_N hN
 have hNv:=isNs_vw hN
 have p1:=pure_sl hVs
 have p2:=pure_sl hNs
 refine call_pure (sf:=s96) rfl rfl (by simp[cAV,p1,p2]) rfl (by simp) ?_
 by_cases h0:n<0
 ·have e:ofT (dTs c.vars) n=T0:=by unfold ofT;rw[if_neg (by omega)]
  simp[s96,cAV,hVs,hNs,h0,e]
 ·obtain⟨k,rfl⟩:∃k:Nat,n=k:=⟨n.toNat,by omega⟩
  by_cases hk:k<(dTs c.vars).length
  ·have e:ofT (dTs c.vars) k=(dTs c.vars)[k]:=by simp[ofT,List.getD_eq_getElem?_getD,hk]
   have hk':¬((dTs c.vars).length:Int)<=(k:Int):=by omega
   simp[s96,cAV,hVv,hNs,h0,hV,rowsL_T hV,e,hk,hk']
  ·have e:ofT (dTs c.vars) k=T0:=by simp[ofT,List.getD_eq_getElem?_getD,List.getElem?_eq_none (Nat.le_of_not_lt hk)]
   have hk':((dTs c.vars).length:Int)<=(k:Int):=by omega
   simp[s96,cAV,hVv,hNs,h0,hV,rowsL_T hV,e,hk']
def allR(ss:List SD)(f n:Int)(t:T3):Bool:=match getZ ss n with|some s=>decide (s.fn=f)&&teq s.t t|none=>false
theorem alloc_ok(wl lim:Nat){x:XD}(f n:Int)(t:T3)(st:Store)(hx:x.ok) :
  (orcL S).call wl lim 102 [xAV x,.int .i64 f,.int .i64 n,.agg [.int .i64 t.b,.int .i64 t.r,.int .i64 t.d]] st=some (.bool (allR (dSs x.sites) f n t),st):=by
 have hs:=hx.sl
 have hG:=hx.sites
 refine call_pure (sf:=s102) rfl rfl (by simp[hx.pure]) rfl (by simp) ?_
 unfold allR
 cases hg:getZ (dSs x.sites) n with
 |none=>
  rcases getZ_none hg with h0|⟨h0,h1⟩
  ·have h0':¬0<=n:=by omega
   simp[s102,xAV,hs,h0',W_draw0,noBoxes]
  ·have h1':¬n<((dSs x.sites).length:Int):=by omega
   simp[s102,xAV,hs,h0,h1',hG,rowsL_S hG,W_draw0,noBoxes]
 |some s=>
  obtain⟨k,rfl,hk,hq⟩:=getZ_some hg
  cases hf:decide (s.fn=f) with
  |true=>simp[s102,xAV,hs,hk,hG,rowsL_S hG,W_draw0,noBoxes,SD.cells,hq,hf]
  |false=>simp[s102,xAV,hs,hk,hG,rowsL_S hG,W_draw0,noBoxes,SD.cells,hq,hf]
def fldR(rs:List RD)(t:T3)(k:Int):T3:=if t.b=3/\t.d=0 then
 match getZ rs t.r with
 |some r=>(match getZ (dFs r.fields) k with|some fd=>fd.t|none=>T0)
 |none=>T0 else T0
theorem rfield_ok(wl lim:Nat){x:XD}(t:T3)(k:Int)(st:Store)(hx:x.ok) :
  (orcL S).call wl lim 100 [xAV x,.agg [.int .i64 t.b,.int .i64 t.r,.int .i64 t.d],.int .i64 k] st=some (.agg (fldR (dRs x.recs) t k).cells,st):=by
 have hs:=hx.sl
 have hR:=hx.recs
 refine call_pure (sf:=s100) rfl rfl (by simp[hx.pure]) rfl (by simp) ?_
 unfold fldR
 by_cases hb:t.b=3
 ·by_cases hd:t.d=0
  ·cases hr:getZ (dRs x.recs) t.r with
   |none=>
    rcases getZ_none hr with h0|⟨h0,h1⟩
    ·simp[s100,xAV,hs,hb,hd,h0]
    ·have h0':¬t.r<0:=by omega
     simp[s100,xAV,hs,hb,hd,h0',h1,rowsL_R hR]
   |some r=>
    obtain⟨j,hj,hjl,hq⟩:=getZ_some hr
    have h0':¬t.r<0:=by omega
    have h1':¬((dRs x.recs).length:Int)<=t.r:=by omega
    have hF:=isRs_get hR r (hq ▸ List.getElem_mem hjl)
    have hFs:=isSl_F hF
    have hFv:=isFs_vw hF
    rw[hj]at h0' h1'
    simp only
    cases hk:getZ (dFs r.fields) k with
    |none=>
     rcases getZ_none hk with k0|⟨k0,k1⟩
     ·simp[s100,xAV,hs,hb,hd,h0',h1',rowsL_R hR,k0,hj]
     ·have k0':¬k<0:=by omega
      simp[s100,xAV,hs,hb,hd,h0',h1',hR,rowsL_R hR,hjl,RD.cells,k0',k1,hFv,hF,rowsL_F hF,hj,hq]
    |some fd=>
     obtain⟨q,hqk,hql,hfd⟩:=getZ_some hk
     have k0':¬k<0:=by omega
     have k1':¬((dFs r.fields).length:Int)<=k:=by omega
     rw[hqk]at k0' k1'
     simp[s100,xAV,hs,hb,hd,h0',h1',hR,rowsL_R hR,hjl,RD.cells,k0',k1',hFv,hF,rowsL_F hF,FD.cells,hj,hq,hqk,hql,hfd]
  ·simp[s100,xAV,hs,hb,hd]
 ·simp[s100,xAV,hs,hb]
end U12
namespace U12
open Ax Go Code14z IrV
def argR(vs:List T3)(a:Int)(t:T3):Bool:=!teq (ofT vs a) ⟨0,0,0⟩&&teq (ofT vs a) t
def clgR(vs:List T3)(i:ID)(g:CD):Bool:=decide (¬g.params<0)&&decide (g.params<=(dTs g.vars).length)&&decide (((dI i.args).length:Int)=g.params) &&
  ((dI i.args).zip (dTs g.vars)).all (fun p=>argR vs p.1 p.2)&&(decide (i.a = -1)||g.has&&argR vs i.a g.res)
def calR(cs:List CD)(vs:List T3)(i:ID):Bool:=match getZ cs i.c with
 |none=>false
 |some g=>clgR vs i g
theorem rcall_ok(wl lim:Nat){x:XD}{c:CD}{i:ID}(st:Store)(hx:x.ok)(hV:isTs c.vars=true)(hN:isNs c.ins=true)(hA:isI i.args=true)(hno:notOwn i.args=true)
  (hb:∀g∈dCs x.codes,(dTs g.vars).length<1000000000) :
  (orcL S).call wl lim 103 [xAV x,cAV c,idAV i] st=some (.bool (calR (dCs x.codes) (dTs c.vars) i),st):=by
 have hs:=hx.sl
 have hG:=hx.codes
 have hcv:=isSl_T hV
 have hcv2:=isTs_vw hV
 have hcn:=isSl_N hN
 have hcn2:=isNs_vw hN
 have hAs:=isSl_I hA
 have hAv:=view_notOwn hno hAs
 have p1:=pure_sl hcv
 have p2:=pure_sl hcn
 have hO:=fun n=>rof_ok 0 0 (c:=c) n [] hV hN
 simp only[cAV,T3.cells]at hO
 refine call_pure (sf:=s103) rfl rfl (by simp[hx.pure,cAV,p1,p2,idPure hA]) rfl (by simp) ?_
 unfold calR
 cases hg:getZ (dCs x.codes) i.c with
 |none=>
  rcases getZ_none hg with h0|⟨h0,h1⟩
  ·simp[s103,xAV,cAV,idAV,hs,hcv,hcn,hAs,h0]
  ·have h0':¬i.c<0:=by omega
   simp[s103,xAV,cAV,idAV,hs,hcv,hcn,hAs,h0',h1,hG,rowsL_C hG]
 |some g=>
  obtain⟨k,hk,hkl,hgq⟩:=getZ_some hg
  have h0':¬i.c<0:=by omega
  have h1':¬((dCs x.codes).length:Int)<=i.c:=by omega
  have hgm:g∈dCs x.codes:=hgq ▸ List.getElem_mem hkl
  have hV:=(isCs_get hG _ hgm).1
  have hVs:=isSl_T hV
  have hVv:=isTs_vw hV
  have hN:=(isCs_get hG _ hgm).2
  have hNs:=isSl_N hN
  have hNv:=isNs_vw hN
  have hgl:=hb _ hgm
  rw[hk]at h0' h1'
  simp only
  unfold clgR
  by_cases hp0:g.params<0
  ·simp[s103,xAV,cAV,idAV,hs,hcv,hcn,h0',h1',hk,hkl,hG,rowsL_C hG,CD.cells,hA,hVv,hNs,hNv,hV,hgq,hp0]
  ·by_cases hq:g.params<=(dTs g.vars).length
   ·have hq':¬((dTs g.vars).length:Int)<g.params:=by omega
    by_cases hp:((dI i.args).length:Int)=g.params
    ·simp[s103,xAV,cAV,idAV,hs,hcv,hcn,hAv,h0',h1',hk,hkl,hG,rowsL_C hG,CD.cells,hA,rowsL_I hA,hVv,hNs,hNv,hV,rowsL_T hV,hgq,hp0,hq,hq',hp]
     refine W_loopI s103_l0.eq_1 (fun q:Nat×List AV=>⟨[(4,.fp 1 0),(5,.fp 2 0),(7,.fp 3 0),(8,.val (.int .i64 q.1))],
      [[x.recs,x.globals,x.codes,x.sites,.int .i64 x.main],
       [.int .i64 c.params,c.vars,.bool c.has,.int .i64 c.res.b,.int .i64 c.res.r,.int .i64 c.res.d,c.ins],
       [.int .i64 i.op,.int .i64 i.a,.int .i64 i.b,.int .i64 k,.int .i64 i.n,i.args],
       [.int .i64 g.params,g.vars,.bool g.has,.int .i64 g.res.b,.int .i64 g.res.r,.int .i64 g.res.d,g.ins],q.2,[]],[]⟩)
      (fun q=>q.1<=(dI i.args).length/\zall (argR (dTs c.vars)) (dI i.args) (dTs g.vars) q.1) (fun q=>(dI i.args).length-q.1) (0,[]) (by simp) ⟨by simp,zall_zero⟩ ?_
     rintro⟨m,bb⟩ ⟨hkk,hz⟩ ih
     simp only at hkk hz ih
     have hlen:(dI i.args).length<=(dTs g.vars).length:=by omega
     by_cases hlt:m<(dI i.args).length
     ·have hlt2:m<(dTs g.vars).length:=by omega
      have hw:IntKind.i64.wrap ((m:Int)+1)=((m+1:Nat):Int):=by rw[wrap64]<;>omega
      have hc:=hO (dI i.args)[m]
      cases e1:teq (ofT (dTs c.vars) (dI i.args)[m]) ⟨0,0,0⟩ with
      |true=>
       have hf:=zall_false (p:=argR (dTs c.vars)) (l:=dI i.args) (m:=dTs g.vars) hlt hlt2 (by simp[argR,e1])
       simp[hcv2,hcn2,hAv,hlt,hA,rowsL_I hA,W_drawB,boxOk,SOp.newBox,noFp,hc,e1,hf]
      |false=>
       cases e2:teq (ofT (dTs c.vars) (dI i.args)[m]) (dTs g.vars)[m] with
       |true=>
        simp[hcv2,hcn2,hAv,hlt,hlt2,hA,rowsL_I hA,hV,rowsL_T hV,W_drawB,boxOk,SOp.newBox,noFp,hc,e1,e2,hw]
        exact ih (m+1,_) ⟨by simp;omega,zall_succ hz hlt hlt2 (by simp[argR,e1,e2])⟩ (by simp;omega)
       |false=>
        have hf:=zall_false (p:=argR (dTs c.vars)) (l:=dI i.args) (m:=dTs g.vars) hlt hlt2 (by simp[argR,e1,e2])
        simp[hcv2,hcn2,hAv,hlt,hlt2,hA,rowsL_I hA,hV,rowsL_T hV,W_drawB,boxOk,SOp.newBox,noFp,hc,e1,e2,hf]
     ·have hkl:m=(dI i.args).length:=by omega
      have hf:=zall_all (p:=argR (dTs c.vars)) (hkl ▸ hz)
      have hi2:=hO i.a
      have hr:argR (dTs c.vars) i.a g.res=(!teq (ofT (dTs c.vars) i.a) ⟨0,0,0⟩&&teq (ofT (dTs c.vars) i.a) g.res):=rfl
      cases e0:decide (i.a = -1) with
      |true=>simp[hA,rowsL_I hA,hlt,hf,of_decide_eq_true e0]
      |false=>
       have e0':=of_decide_eq_false e0
       cases e1:teq (ofT (dTs c.vars) i.a) ⟨0,0,0⟩ with
       |true=>
        cases e2:g.has with
        |true=>simp[hcv2,hcn2,hA,rowsL_I hA,hlt,hf,e0',e1,hi2,hr]
        |false=>simp[hcv2,hcn2,hA,rowsL_I hA,hlt,hf,e0',e1,hi2,hr]
       |false=>
        cases e2:g.has with
        |true=>simp[hcv2,hcn2,hA,rowsL_I hA,hlt,hf,e0',e1,hi2,hr]
        |false=>simp[hcv2,hcn2,hA,rowsL_I hA,hlt,hf,e0',e1,hi2,hr]
    ·simp[s103,xAV,cAV,idAV,hs,hcv,hcn,hAv,h0',h1',hk,hkl,hG,rowsL_C hG,CD.cells,hA,rowsL_I hA,hVv,hNs,hNv,hV,rowsL_T hV,hgq,hp0,hq,hq',hp]
   ·have hq':((dTs g.vars).length:Int)<g.params:=by omega
    simp[s103,xAV,cAV,idAV,hs,hcv,hcn,h0',h1',hk,hkl,hG,rowsL_C hG,CD.cells,hA,hVv,hNs,hNv,hV,rowsL_T hV,hgq,hp0,hq,hq']
end U12
namespace U12
open Ax Go Code14z IrV
def bodyR(x:XD)(f:Int)(c:CD)(i:ID)(a b d:T3):Bool:=
 if i.op=1 then teq a ⟨1,0,0⟩||teq a ⟨2,0,0⟩&&(decide (i.n=0)||decide (i.n=1)) else
 if i.op=2 then !teq a ⟨0,0,0⟩&&refT a else
 if i.op=3 then !teq a ⟨0,0,0⟩&&teq a b else
 if i.op=4 then binR i.n a b d else
 if i.op=5 then decide (i.n=12)&&teq a ⟨1,0,0⟩&&teq b ⟨1,0,0⟩||decide (i.n=13)&&teq a ⟨2,0,0⟩&&teq b ⟨2,0,0⟩ else
 if i.op=6 then !teq a ⟨0,0,0⟩&&teq a (fldR (dRs x.recs) b i.c) else
 if i.op=7 then !teq b ⟨0,0,0⟩&&teq b (fldR (dRs x.recs) a i.c) else
 if i.op=8 then !teq a ⟨0,0,0⟩&&decide (0<b.d)&&teq d ⟨1,0,0⟩&&teq a ⟨b.b,b.r,b.d-1⟩ else
 if i.op=9 then !teq d ⟨0,0,0⟩&&decide (0<a.d)&&teq b ⟨1,0,0⟩&&teq d ⟨a.b,a.r,a.d-1⟩ else
 if i.op=10 then teq a ⟨1,0,0⟩&&decide (0<b.d) else
 if i.op=11 then !teq a ⟨0,0,0⟩&&decide (a.b=3)&&decide (a.d=0)&&allR (dSs x.sites) f i.n a else
 if i.op=12 then decide (0<a.d)&&teq b ⟨1,0,0⟩&&allR (dSs x.sites) f i.n a else
 if i.op=13 then calR (dCs x.codes) (dTs c.vars) i else
 if i.op=14\/i.op=15 then teq a ⟨1,0,0⟩ else
 if i.op=16 then decide (0<=i.n)&&decide (i.n<((dNs c.ins).length:Int)) else
 if i.op=17 then teq a ⟨2,0,0⟩&&decide (0<=i.n)&&decide (i.n<((dNs c.ins).length:Int))&&decide (0<=i.c)&&decide (i.c<((dNs c.ins).length:Int)) else
 if i.op=18 then (if c.has then !teq a ⟨0,0,0⟩&&teq a c.res else decide (i.a = -1)) else
 if i.op=19\/i.op=20 then !teq a ⟨0,0,0⟩&&(match getZ (dTs x.globals) i.n with|some t=>teq a t|none=>false) else false
def stepR(x:XD)(f:Int)(i:ID):Bool:=match getZ (dCs x.codes) f with
 |none=>false
 |some c=>namedT i&&bodyR x f c i (ofT (dTs c.vars) i.a) (ofT (dTs c.vars) i.b) (ofT (dTs c.vars) i.c)
theorem calR_op(cs:List CD)(vs:List T3)(i:ID)(p:Int):calR cs vs ⟨p,i.a,i.b,i.c,i.n,i.args⟩=calR cs vs i:=rfl
theorem rstep_ok(wl lim:Nat){x:XD}(f:Int){i:ID}(st:Store)(hx:x.ok)(hi:isI i.args=true)(hno:notOwn i.args=true)(hb:∀g∈dCs x.codes,(dTs g.vars).length<1000000000) :
  (orcL S).call wl lim 45 [xAV x,.int .i64 f,idAV i] st=some (.bool (stepR x f i),st):=by
 have hs:=hx.sl
 have hG:=hx.codes
 have hGl:=hx.globals
 have h1:=isSl_I hi
 have h2:=view_notOwn hno h1
 have hNm0:=named_ok 0 0 i [] hi hno
 have hNm:∀p n,p=i.op->n=i.n->(orcL S).call 0 0 95 [.agg [.int .i64 p,.int .i64 i.a,.int .i64 i.b,.int .i64 i.c,.int .i64 n,i.args]] []=some (.bool (namedT i),[]):=by
  intro p n hp hn;subst hp;subst hn;exact hNm0
 simp only[idAV]at hNm0
 refine call_pure (sf:=s45) rfl rfl (by simp[hx.pure,idPure hi]) rfl (by simp) ?_
 unfold stepR
 cases hg:getZ (dCs x.codes) f with
 |none=>
  rcases getZ_none hg with h0|⟨h0,h1'⟩
  ·simp[s45,xAV,idAV,hs,h1,h0]
  ·have h0':¬f<0:=by omega
   simp[s45,xAV,idAV,hs,h1,h0',h1',hG,rowsL_C hG]
 |some c=>
  obtain⟨k,hk,hkl,hcq⟩:=getZ_some hg
  have hcm:=isCs_get hG c (hcq ▸ List.getElem_mem hkl)
  have hVs:=isSl_T hcm.1
  have hVv:=isTs_vw hcm.1
  have hN:=hcm.2
  have hNs:=isSl_N hcm.2
  have hNv:=isNs_vw hcm.2
  have hOa:=rof_ok 0 0 (c:=c) i.a [] hcm.1 hN
  have hOb:=rof_ok 0 0 (c:=c) i.b [] hcm.1 hN
  have hOc:=rof_ok 0 0 (c:=c) i.c [] hcm.1 hN
  have hra:=ofT_range hcm.1 i.a
  have hrb:=ofT_range hcm.1 i.b
  simp only[cAV,T3.cells]at hOa hOb hOc
  have h0:¬(k:Int)<0:=by omega
  have h1':¬((dCs x.codes).length:Int)<=(k:Int):=by omega
  simp only
  have hCl:=fun p=>rcall_ok 0 0 (x:=x) (c:=c) (i:=⟨p,i.a,i.b,i.c,i.n,i.args⟩) [] hx hcm.1 hN hi hno hb
  simp only[calR_op,xAV,cAV,idAV]at hCl
  generalize ofT (dTs c.vars) i.a=a at *
  generalize ofT (dTs c.vars) i.b=b at *
  generalize ofT (dTs c.vars) i.c=d at *
  have hBin:=fun n=>binary_ok 0 0 n a b d []
  have hFa:=fun k=>rfield_ok 0 0 (x:=x) a k [] hx
  have hFb:=fun k=>rfield_ok 0 0 (x:=x) b k [] hx
  have hLa:=fun h:decide (0<a.d)=true=>less_ok 0 0 a [] (of_decide_eq_true h) hra
  have hLb:=fun h:decide (0<b.d)=true=>less_ok 0 0 b [] (of_decide_eq_true h) hrb
  have hAl:=fun f n=>alloc_ok 0 0 (x:=x) f n a [] hx
  simp only[xAV,T3.cells]at hFa hFb hAl
  cases en:namedT i with
  |false=>simp[s45,xAV,idAV,hs,h1,h2,h0,h1',hk,hG,rowsL_C hG,hNm0,en]
  |true=>
   rw[en]at hNm
   simp only[hk,Bool.true_and]
   by_cases q1:i.op=1
   ·skip
    cases c0:teq a ⟨1,0,0⟩ with
    |true=>
     simp[s45,xAV,idAV,hs,h1,h2,h0,h1',hkl,hG,rowsL_C hG,CD.cells,W_drawB,boxOk,SOp.newBox,noFp,hNm,hVs,hVv,hNs,hNv,hcq,hOa,hOb,hOc,tint_ok,bodyR,q1,c0]
    |false=>
     cases c1:teq a ⟨2,0,0⟩ with
     |true=>
      cases c2:decide (i.n=0) with
      |true=>
       simp[s45,xAV,idAV,hs,h1,h2,h0,h1',hkl,hG,rowsL_C hG,CD.cells,W_drawB,boxOk,SOp.newBox,noFp,hNm,hVs,hVv,hNs,hNv,hcq,hOa,hOb,hOc,tint_ok,tbool_ok,bodyR,q1,c0,c1,c2]
      |false=>
       simp[s45,xAV,idAV,hs,h1,h2,h0,h1',hkl,hG,rowsL_C hG,CD.cells,W_drawB,boxOk,SOp.newBox,noFp,hNm,hVs,hVv,hNs,hNv,hcq,hOa,hOb,hOc,tint_ok,tbool_ok,bodyR,q1,c0,c1,c2]
     |false=>
      simp[s45,xAV,idAV,hs,h1,h2,h0,h1',hkl,hG,rowsL_C hG,CD.cells,W_drawB,boxOk,SOp.newBox,noFp,hNm,hVs,hVv,hNs,hNv,hcq,hOa,hOb,hOc,tint_ok,tbool_ok,bodyR,q1,c0,c1]
   ·skip
    by_cases q2:i.op=2
    ·skip
     cases z0:teq a ⟨0,0,0⟩ with
     |true=>
      simp[s45,xAV,idAV,hs,h1,h2,h0,h1',hkl,hG,rowsL_C hG,CD.cells,W_drawB,boxOk,SOp.newBox,noFp,hNm,hVs,hVv,hNs,hNv,hcq,hOa,hOb,hOc,bodyR,q2,z0]
     |false=>
      simp[s45,xAV,idAV,hs,h1,h2,h0,h1',hkl,hG,rowsL_C hG,CD.cells,W_drawB,boxOk,SOp.newBox,noFp,hNm,hVs,hVv,hNs,hNv,hcq,hOa,hOb,hOc,bodyR,rref_ok,q2,z0]
    ·skip
     by_cases q3:i.op=3
     ·skip
      cases z0:teq a ⟨0,0,0⟩ with
      |true=>
       simp[s45,xAV,idAV,hs,h1,h2,h0,h1',hkl,hG,rowsL_C hG,CD.cells,W_drawB,boxOk,SOp.newBox,noFp,hNm,hVs,hVv,hNs,hNv,hcq,hOa,hOb,hOc,bodyR,q3,z0]
      |false=>
       simp[s45,xAV,idAV,hs,h1,h2,h0,h1',hkl,hG,rowsL_C hG,CD.cells,W_drawB,boxOk,SOp.newBox,noFp,hNm,hVs,hVv,hNs,hNv,hcq,hOa,hOb,hOc,bodyR,q3,z0]
     ·skip
      by_cases q4:i.op=4
      ·skip
       simp[s45,xAV,idAV,hs,h1,h2,h0,h1',hkl,hG,rowsL_C hG,CD.cells,W_drawB,boxOk,SOp.newBox,noFp,hNm,hVs,hVv,hNs,hNv,hcq,hOa,hOb,hOc,bodyR,hBin,q4]
      ·skip
       by_cases q5:i.op=5
       ·skip
        by_cases m12:i.n=12
        ·skip
         cases c0:teq a ⟨1,0,0⟩ with
         |true=>
          cases c1:teq b ⟨1,0,0⟩ with
          |true=>
           simp[s45,xAV,idAV,hs,h1,h2,h0,h1',hkl,hG,rowsL_C hG,CD.cells,W_drawB,boxOk,SOp.newBox,noFp,hNm,hVs,hVv,hNs,hNv,hcq,hOa,hOb,hOc,tint_ok,bodyR,q5,m12,c0,c1]
          |false=>
           simp[s45,xAV,idAV,hs,h1,h2,h0,h1',hkl,hG,rowsL_C hG,CD.cells,W_drawB,boxOk,SOp.newBox,noFp,hNm,hVs,hVv,hNs,hNv,hcq,hOa,hOb,hOc,tint_ok,bodyR,q5,m12,c0,c1]
         |false=>
          simp[s45,xAV,idAV,hs,h1,h2,h0,h1',hkl,hG,rowsL_C hG,CD.cells,W_drawB,boxOk,SOp.newBox,noFp,hNm,hVs,hVv,hNs,hNv,hcq,hOa,hOb,hOc,tint_ok,bodyR,q5,m12,c0]
        ·skip
         by_cases m13:i.n=13
         ·skip
          cases c0:teq a ⟨2,0,0⟩ with
          |true=>
           simp[s45,xAV,idAV,hs,h1,h2,h0,h1',hkl,hG,rowsL_C hG,CD.cells,W_drawB,boxOk,SOp.newBox,noFp,hNm,hVs,hVv,hNs,hNv,hcq,hOa,hOb,hOc,tbool_ok,bodyR,q5,m13,c0]
          |false=>
           simp[s45,xAV,idAV,hs,h1,h2,h0,h1',hkl,hG,rowsL_C hG,CD.cells,W_drawB,boxOk,SOp.newBox,noFp,hNm,hVs,hVv,hNs,hNv,hcq,hOa,hOb,hOc,tbool_ok,bodyR,q5,m13,c0]
         ·skip
          simp[s45,xAV,idAV,hs,h1,h2,h0,h1',hkl,hG,rowsL_C hG,CD.cells,W_drawB,boxOk,SOp.newBox,noFp,hNm,hVs,hVv,hNs,hNv,hcq,hOa,hOb,hOc,bodyR,q5,m12,m13]
       ·skip
        by_cases q6:i.op=6
        ·skip
         cases z0:teq a ⟨0,0,0⟩ with
         |true=>
          simp[s45,xAV,idAV,hs,h1,h2,h0,h1',hkl,hG,rowsL_C hG,CD.cells,W_drawB,boxOk,SOp.newBox,noFp,hNm,hVs,hVv,hNs,hNv,hcq,hOa,hOb,hOc,bodyR,q6,z0]
         |false=>
          simp[s45,xAV,idAV,hs,h1,h2,h0,h1',hkl,hG,rowsL_C hG,CD.cells,W_drawB,boxOk,SOp.newBox,noFp,hNm,hVs,hVv,hNs,hNv,hcq,hOa,hOb,hOc,bodyR,hFb,q6,z0]
        ·skip
         by_cases q7:i.op=7
         ·skip
          cases z0:teq b ⟨0,0,0⟩ with
          |true=>
           simp[s45,xAV,idAV,hs,h1,h2,h0,h1',hkl,hG,rowsL_C hG,CD.cells,W_drawB,boxOk,SOp.newBox,noFp,hNm,hVs,hVv,hNs,hNv,hcq,hOa,hOb,hOc,bodyR,q7,z0]
          |false=>
           simp[s45,xAV,idAV,hs,h1,h2,h0,h1',hkl,hG,rowsL_C hG,CD.cells,W_drawB,boxOk,SOp.newBox,noFp,hNm,hVs,hVv,hNs,hNv,hcq,hOa,hOb,hOc,bodyR,hFa,q7,z0]
         ·skip
          by_cases q8:i.op=8
          ·skip
           cases z0:teq a ⟨0,0,0⟩ with
           |true=>
            simp[s45,xAV,idAV,hs,h1,h2,h0,h1',hkl,hG,rowsL_C hG,CD.cells,W_drawB,boxOk,SOp.newBox,noFp,hNm,hVs,hVv,hNs,hNv,hcq,hOa,hOb,hOc,bodyR,q8,z0]
           |false=>
            cases c0:decide (0<b.d) with
            |true=>
             replace hLb:=hLb c0
             cases c1:teq d ⟨1,0,0⟩ with
             |true=>
              simp[s45,xAV,idAV,hs,h1,h2,h0,h1',hkl,hG,rowsL_C hG,CD.cells,W_drawB,boxOk,SOp.newBox,noFp,hNm,hVs,hVv,hNs,hNv,hcq,hOa,hOb,hOc,tint_ok,bodyR,hLb,q8,z0,c0,c1]
             |false=>
              simp[s45,xAV,idAV,hs,h1,h2,h0,h1',hkl,hG,rowsL_C hG,CD.cells,W_drawB,boxOk,SOp.newBox,noFp,hNm,hVs,hVv,hNs,hNv,hcq,hOa,hOb,hOc,tint_ok,bodyR,q8,z0,c0,c1]
            |false=>
             simp[s45,xAV,idAV,hs,h1,h2,h0,h1',hkl,hG,rowsL_C hG,CD.cells,W_drawB,boxOk,SOp.newBox,noFp,hNm,hVs,hVv,hNs,hNv,hcq,hOa,hOb,hOc,bodyR,q8,z0,c0]
          ·skip
           by_cases q9:i.op=9
           ·skip
            cases z0:teq d ⟨0,0,0⟩ with
            |true=>
             simp[s45,xAV,idAV,hs,h1,h2,h0,h1',hkl,hG,rowsL_C hG,CD.cells,W_drawB,boxOk,SOp.newBox,noFp,hNm,hVs,hVv,hNs,hNv,hcq,hOa,hOb,hOc,bodyR,q9,z0]
            |false=>
             cases c0:decide (0<a.d) with
             |true=>
              replace hLa:=hLa c0
              cases c1:teq b ⟨1,0,0⟩ with
              |true=>
               simp[s45,xAV,idAV,hs,h1,h2,h0,h1',hkl,hG,rowsL_C hG,CD.cells,W_drawB,boxOk,SOp.newBox,noFp,hNm,hVs,hVv,hNs,hNv,hcq,hOa,hOb,hOc,tint_ok,bodyR,hLa,q9,z0,c0,c1]
              |false=>
               simp[s45,xAV,idAV,hs,h1,h2,h0,h1',hkl,hG,rowsL_C hG,CD.cells,W_drawB,boxOk,SOp.newBox,noFp,hNm,hVs,hVv,hNs,hNv,hcq,hOa,hOb,hOc,tint_ok,bodyR,q9,z0,c0,c1]
             |false=>
              simp[s45,xAV,idAV,hs,h1,h2,h0,h1',hkl,hG,rowsL_C hG,CD.cells,W_drawB,boxOk,SOp.newBox,noFp,hNm,hVs,hVv,hNs,hNv,hcq,hOa,hOb,hOc,bodyR,q9,z0,c0]
           ·skip
            by_cases q10:i.op=10
            ·skip
             cases c0:teq a ⟨1,0,0⟩ with
             |true=>
              simp[s45,xAV,idAV,hs,h1,h2,h0,h1',hkl,hG,rowsL_C hG,CD.cells,W_drawB,boxOk,SOp.newBox,noFp,hNm,hVs,hVv,hNs,hNv,hcq,hOa,hOb,hOc,tint_ok,bodyR,q10,c0]
             |false=>
              simp[s45,xAV,idAV,hs,h1,h2,h0,h1',hkl,hG,rowsL_C hG,CD.cells,W_drawB,boxOk,SOp.newBox,noFp,hNm,hVs,hVv,hNs,hNv,hcq,hOa,hOb,hOc,tint_ok,bodyR,q10,c0]
            ·skip
             by_cases q11:i.op=11
             ·skip
              cases z0:teq a ⟨0,0,0⟩ with
              |true=>
               simp[s45,xAV,idAV,hs,h1,h2,h0,h1',hkl,hG,rowsL_C hG,CD.cells,W_drawB,boxOk,SOp.newBox,noFp,hNm,hVs,hVv,hNs,hNv,hcq,hOa,hOb,hOc,bodyR,q11,z0]
              |false=>
               cases c0:decide (a.b=3) with
               |true=>
                cases c1:decide (a.d=0) with
                |true=>
                 simp[s45,xAV,idAV,hs,h1,h2,h0,h1',hkl,hG,rowsL_C hG,CD.cells,W_drawB,boxOk,SOp.newBox,noFp,hNm,hVs,hVv,hNs,hNv,hcq,hOa,hOb,hOc,bodyR,hAl,q11,z0,c0,c1]
                |false=>
                 simp[s45,xAV,idAV,hs,h1,h2,h0,h1',hkl,hG,rowsL_C hG,CD.cells,W_drawB,boxOk,SOp.newBox,noFp,hNm,hVs,hVv,hNs,hNv,hcq,hOa,hOb,hOc,bodyR,q11,z0,c0,c1]
               |false=>
                simp[s45,xAV,idAV,hs,h1,h2,h0,h1',hkl,hG,rowsL_C hG,CD.cells,W_drawB,boxOk,SOp.newBox,noFp,hNm,hVs,hVv,hNs,hNv,hcq,hOa,hOb,hOc,bodyR,q11,z0,c0]
             ·skip
              by_cases q12:i.op=12
              ·skip
               cases c0:decide (0<a.d) with
               |true=>
                cases c1:teq b ⟨1,0,0⟩ with
                |true=>
                 simp[s45,xAV,idAV,hs,h1,h2,h0,h1',hkl,hG,rowsL_C hG,CD.cells,W_drawB,boxOk,SOp.newBox,noFp,hNm,hVs,hVv,hNs,hNv,hcq,hOa,hOb,hOc,tint_ok,bodyR,hAl,q12,c0,c1]
                |false=>
                 simp[s45,xAV,idAV,hs,h1,h2,h0,h1',hkl,hG,rowsL_C hG,CD.cells,W_drawB,boxOk,SOp.newBox,noFp,hNm,hVs,hVv,hNs,hNv,hcq,hOa,hOb,hOc,tint_ok,bodyR,q12,c0,c1]
               |false=>
                simp[s45,xAV,idAV,hs,h1,h2,h0,h1',hkl,hG,rowsL_C hG,CD.cells,W_drawB,boxOk,SOp.newBox,noFp,hNm,hVs,hVv,hNs,hNv,hcq,hOa,hOb,hOc,bodyR,q12,c0]
              ·skip
               by_cases q13:i.op=13
               ·skip
                simp[s45,xAV,idAV,hs,h1,h2,h0,h1',hkl,hG,rowsL_C hG,CD.cells,W_drawB,boxOk,SOp.newBox,noFp,hNm,hVs,hVv,hNs,hNv,hcq,hOa,hOb,hOc,bodyR,hCl,q13]
               ·skip
                by_cases q14:i.op=14
                ·skip
                 simp[s45,xAV,idAV,hs,h1,h2,h0,h1',hkl,hG,rowsL_C hG,CD.cells,W_drawB,boxOk,SOp.newBox,noFp,hNm,hVs,hVv,hNs,hNv,hcq,hOa,hOb,hOc,tint_ok,bodyR,q14]
                ·skip
                 by_cases q15:i.op=15
                 ·skip
                  simp[s45,xAV,idAV,hs,h1,h2,h0,h1',hkl,hG,rowsL_C hG,CD.cells,W_drawB,boxOk,SOp.newBox,noFp,hNm,hVs,hVv,hNs,hNv,hcq,hOa,hOb,hOc,tint_ok,bodyR,q15]
                 ·skip
                  by_cases q16:i.op=16
                  ·skip
                   cases c0:decide (0<=i.n) with
                   |true=>
                    simp[s45,xAV,idAV,hs,h1,h2,h0,h1',hkl,hG,rowsL_C hG,CD.cells,W_drawB,boxOk,SOp.newBox,noFp,hNm,hVs,hVv,hNv,hcq,hOa,hOb,hOc,bodyR,hN,rowsL_N hN,q16,c0]
                   |false=>
                    simp[s45,xAV,idAV,hs,h1,h2,h0,h1',hkl,hG,rowsL_C hG,CD.cells,W_drawB,boxOk,SOp.newBox,noFp,hNm,hVs,hVv,hNv,hcq,hOa,hOb,hOc,bodyR,hN,q16,c0]
                  ·skip
                   by_cases q17:i.op=17
                   ·skip
                    cases c0:teq a ⟨2,0,0⟩ with
                    |true=>
                     cases c1:decide (0<=i.n) with
                     |true=>
                      cases c2:decide (i.n<((dNs c.ins).length:Int)) with
                      |true=>
                       cases c3:decide (0<=i.c) with
                       |true=>
                        simp[s45,xAV,idAV,hs,h1,h2,h0,h1',hkl,hG,rowsL_C hG,CD.cells,W_drawB,boxOk,SOp.newBox,noFp,hNm,hVs,hVv,hNv,hcq,hOa,hOb,hOc,tbool_ok,bodyR,hN,rowsL_N hN,q17,c0,c1,c2,c3]
                       |false=>
                        simp[s45,xAV,idAV,hs,h1,h2,h0,h1',hkl,hG,rowsL_C hG,CD.cells,W_drawB,boxOk,SOp.newBox,noFp,hNm,hVs,hVv,hNv,hcq,hOa,hOb,hOc,tbool_ok,bodyR,hN,rowsL_N hN,q17,c0,c1,c2,c3]
                      |false=>
                       simp[s45,xAV,idAV,hs,h1,h2,h0,h1',hkl,hG,rowsL_C hG,CD.cells,W_drawB,boxOk,SOp.newBox,noFp,hNm,hVs,hVv,hNv,hcq,hOa,hOb,hOc,tbool_ok,bodyR,hN,rowsL_N hN,q17,c0,c1,c2]
                     |false=>
                      simp[s45,xAV,idAV,hs,h1,h2,h0,h1',hkl,hG,rowsL_C hG,CD.cells,W_drawB,boxOk,SOp.newBox,noFp,hNm,hVs,hVv,hNv,hcq,hOa,hOb,hOc,tbool_ok,bodyR,hN,q17,c0,c1]
                    |false=>
                     simp[s45,xAV,idAV,hs,h1,h2,h0,h1',hkl,hG,rowsL_C hG,CD.cells,W_drawB,boxOk,SOp.newBox,noFp,hNm,hVs,hVv,hNv,hcq,hOa,hOb,hOc,tbool_ok,bodyR,hN,q17,c0]
                   ·skip
                    by_cases q18:i.op=18
                    ·skip
                     cases eh:c.has with
                     |true=>
                      simp only[eh]at hOa hOb hOc
                      cases z0:teq a ⟨0,0,0⟩ with
                      |true=>
                       simp[s45,xAV,idAV,hs,h1,h2,h0,h1',hkl,hG,rowsL_C hG,CD.cells,W_drawB,boxOk,SOp.newBox,noFp,hNm,hVs,hVv,hNs,hNv,hcq,hOa,hOb,hOc,bodyR,q18,eh,z0]
                      |false=>
                       simp[s45,xAV,idAV,hs,h1,h2,h0,h1',hkl,hG,rowsL_C hG,CD.cells,W_drawB,boxOk,SOp.newBox,noFp,hNm,hVs,hVv,hNs,hNv,hcq,hOa,hOb,hOc,bodyR,q18,eh,z0]
                     |false=>
                      simp only[eh]at hOa hOb hOc
                      cases z0:teq a ⟨0,0,0⟩ with
                      |true=>
                       simp[s45,xAV,idAV,hs,h1,h2,h0,h1',hkl,hG,rowsL_C hG,CD.cells,W_drawB,boxOk,SOp.newBox,noFp,hNm,hVs,hVv,hNs,hNv,hcq,hOa,hOb,hOc,bodyR,q18,eh]
                      |false=>
                       simp[s45,xAV,idAV,hs,h1,h2,h0,h1',hkl,hG,rowsL_C hG,CD.cells,W_drawB,boxOk,SOp.newBox,noFp,hNm,hVs,hVv,hNs,hNv,hcq,hOa,hOb,hOc,bodyR,q18,eh]
                    ·skip
                     by_cases q19:i.op=19
                     ·skip
                      cases z0:teq a ⟨0,0,0⟩ with
                      |true=>simp[s45,xAV,idAV,hs,h1,h2,h0,h1',hkl,hG,rowsL_C hG,CD.cells,W_drawB,boxOk,SOp.newBox,noFp,hNm,hVs,hVv,hNs,hNv,hcq,hOa,hOb,hOc,bodyR,q19,z0]
                      |false=>
                       cases hgl:getZ (dTs x.globals) i.n with
                       |none=>
                        rcases getZ_none hgl with g0|⟨g0,g1⟩
                        ·have g0':¬0<=i.n:=by omega
                         simp[s45,xAV,idAV,hs,h1,h2,h0,h1',hkl,hG,rowsL_C hG,CD.cells,W_drawB,boxOk,SOp.newBox,noFp,hNm,hVs,hVv,hNs,hNv,hcq,hOa,hOb,hOc,bodyR,q19,z0,g0',hgl]
                        ·have g1':¬i.n<((dTs x.globals).length:Int):=by omega
                         simp[s45,xAV,idAV,hs,h1,h2,h0,h1',hkl,hG,rowsL_C hG,CD.cells,W_drawB,boxOk,SOp.newBox,noFp,hNm,hVs,hVv,hNs,hNv,hcq,hOa,hOb,hOc,bodyR,q19,z0,g0,g1',hgl,hGl,rowsL_T hGl]
                       |some tt=>
                        obtain⟨gk,gkk,gkl,gq⟩:=getZ_some hgl
                        have hgl2:getZ (dTs x.globals) (gk:Int)=some tt:=gkk ▸ hgl
                        simp[s45,xAV,idAV,hs,h1,h2,h0,h1',hkl,hG,rowsL_C hG,CD.cells,W_drawB,boxOk,SOp.newBox,noFp,hNm,hVs,hVv,hNs,hNv,hcq,hOa,hOb,hOc,bodyR,q19,z0,gkk,gkl,gq,hgl2,hGl,rowsL_T hGl]
                     ·skip
                      by_cases q20:i.op=20
                      ·skip
                       cases z0:teq a ⟨0,0,0⟩ with
                       |true=>simp[s45,xAV,idAV,hs,h1,h2,h0,h1',hkl,hG,rowsL_C hG,CD.cells,W_drawB,boxOk,SOp.newBox,noFp,hNm,hVs,hVv,hNs,hNv,hcq,hOa,hOb,hOc,bodyR,q20,z0]
                       |false=>
                        cases hgl:getZ (dTs x.globals) i.n with
                        |none=>
                         rcases getZ_none hgl with g0|⟨g0,g1⟩
                         ·have g0':¬0<=i.n:=by omega
                          simp[s45,xAV,idAV,hs,h1,h2,h0,h1',hkl,hG,rowsL_C hG,CD.cells,W_drawB,boxOk,SOp.newBox,noFp,hNm,hVs,hVv,hNs,hNv,hcq,hOa,hOb,hOc,bodyR,q20,z0,g0',hgl]
                         ·have g1':¬i.n<((dTs x.globals).length:Int):=by omega
                          simp[s45,xAV,idAV,hs,h1,h2,h0,h1',hkl,hG,rowsL_C hG,CD.cells,W_drawB,boxOk,SOp.newBox,noFp,hNm,hVs,hVv,hNs,hNv,hcq,hOa,hOb,hOc,bodyR,q20,z0,g0,g1',hgl,hGl,rowsL_T hGl]
                        |some tt=>
                         obtain⟨gk,gkk,gkl,gq⟩:=getZ_some hgl
                         have hgl2:getZ (dTs x.globals) (gk:Int)=some tt:=gkk ▸ hgl
                         simp[s45,xAV,idAV,hs,h1,h2,h0,h1',hkl,hG,rowsL_C hG,CD.cells,W_drawB,boxOk,SOp.newBox,noFp,hNm,hVs,hVv,hNs,hNv,hcq,hOa,hOb,hOc,bodyR,q20,z0,gkk,gkl,gq,hgl2,hGl,rowsL_T hGl]
                      ·skip
                       simp[s45,xAV,idAV,hs,h1,h2,h0,h1',hkl,hG,rowsL_C hG,CD.cells,W_drawB,boxOk,SOp.newBox,noFp,hNm,hVs,hVv,hNs,hNv,hcq,hOa,hOb,hOc,bodyR,q1,q2,q3,q4,q5,q6,q7,q8,q9,q10,q11,q12,q13,q14,q15,q16,q17,q18,q19,q20]
end U12
