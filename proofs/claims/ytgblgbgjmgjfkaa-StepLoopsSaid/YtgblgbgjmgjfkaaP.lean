/- Part of a proof. -/
import Derived.Test.YtgblgbgjmgjfkaaN

set_option maxRecDepth 100000
set_option maxHeartbeats 8000000
namespace U12
open Ax Go Code14 IrV
def refT (t:T3):Bool:=decide (t.b=3)||decide (0<t.d)
theorem ref_ok (wl lim:Nat)(a b c:Int)(st:Store) :
  (orcL S).call wl lim 43 [.agg [.int .i64 a,.int .i64 b,.int .i64 c]] st=some (.bool (refT ⟨a,b,c⟩),st):=by
 refine call_pure (sf:=s43) rfl rfl (by simp) rfl (by simp) ?_
 unfold refT
 by_cases h:a=3
 ·simp[s43,h]
 ·simp[s43,h]
def fitsT (x:XD)(f:Int)(c:CD)(i:ID):Bool:=
 if i.op=1 then isT (dTs c.vars) tInt [i.a]||isT (dTs c.vars) tBool [i.a]&&(decide (i.n=0)||decide (i.n=1)) else
 if i.op=2 then refT (ofT (dTs c.vars) i.a) else
 if i.op=3 then isT (dTs c.vars) (ofT (dTs c.vars) i.a) [i.b] else
 if i.op=4 then twoT (dTs c.vars) i else
 if i.op=5 then decide (i.n=12)&&isT (dTs c.vars) tInt [i.a,i.b]||decide (i.n=13)&&isT (dTs c.vars) tBool [i.a,i.b] else
 if i.op=6 then fldT (dRs x.recs) (dTs c.vars) i.b i.c i.a else
 if i.op=7 then fldT (dRs x.recs) (dTs c.vars) i.a i.c i.b else
 if i.op=8 then arrT (dTs c.vars) i.b i.a&&isT (dTs c.vars) tInt [i.c] else
 if i.op=9 then arrT (dTs c.vars) i.a i.c&&isT (dTs c.vars) tInt [i.b] else
 if i.op=10 then isT (dTs c.vars) tInt [i.a]&&decide (0<(ofT (dTs c.vars) i.b).d) else
 if i.op=11 then decide ((ofT (dTs c.vars) i.a).b=3)&&decide ((ofT (dTs c.vars) i.a).d=0)&&sitT (dSs x.sites) f (dTs c.vars) i.n i.a else
 if i.op=12 then decide (0<(ofT (dTs c.vars) i.a).d)&&sitT (dSs x.sites) f (dTs c.vars) i.n i.a&&isT (dTs c.vars) tInt [i.b] else
 goesT x c i
theorem twoT_op (vs:List T3)(i:ID)(p:Int):twoT vs ⟨p,i.a,i.b,i.c,i.n,i.args⟩=twoT vs i:=rfl
theorem fits_ok (wl lim:Nat){x:XD}{f:Int}{c:CD}{i:ID}(st:Store)(h:VW x c i)(hb:∀g∈dCs x.codes,(dTs g.vars).length<1000000000) :
  (orcL S).call wl lim 65 [vw x f c i] st=some (.bool (fitsT x f c i),st):=by
 have hs:=h.sl
 have hI1:=fun p q r s t a=>ints1 0 0 (f:=f) (i:=⟨p,q,r,s,t,i.args⟩) a [] (h.any p q r s t)
 have hI2:=fun p q r s t a b=>ints2 0 0 (f:=f) (i:=⟨p,q,r,s,t,i.args⟩) a b [] (h.any p q r s t)
 have hB1:=fun p q r s t a=>bools1 0 0 (f:=f) (i:=⟨p,q,r,s,t,i.args⟩) a [] (h.any p q r s t)
 have hB2:=fun p q r s t a b=>bools2 0 0 (f:=f) (i:=⟨p,q,r,s,t,i.args⟩) a b [] (h.any p q r s t)
 have hC:=fun p q r s t n a=>is1o 0 0 (f:=f) (i:=⟨p,q,r,s,t,i.args⟩) n a [] (h.any p q r s t)
 have hT:=fun p q r s t n a=>site_ok 0 0 (f:=f) (i:=⟨p,q,r,s,t,i.args⟩) n a [] (h.any p q r s t)
 have hF:=fun p q r s t a k v=>field_ok 0 0 (f:=f) (i:=⟨p,q,r,s,t,i.args⟩) a k v [] (h.any p q r s t)
 have hY:=fun p q r s t a b=>array_ok 0 0 (f:=f) (i:=⟨p,q,r,s,t,i.args⟩) a b [] (h.any p q r s t)
 have hO:=fun p q r s t n=>of_ok 0 0 x f c ⟨p,q,r,s,t,i.args⟩ n [] (h.any p q r s t)
 have hL2:=fun p=>two_ok 0 0 (x:=x) (f:=f) (c:=c) (i:=⟨p,i.a,i.b,i.c,i.n,i.args⟩) [] (h.any p _ _ _ _)
 have hL4:=goes_ok 0 0 (f:=f) [] h hb
 simp only[twoT_op]at hL2
 simp only[vw,T3.cells]at hI1 hI2 hB1 hB2 hC hT hF hY hO hL2 hL4
 refine call_pure (sf:=s65) rfl rfl (by simp[h.pure]) rfl (by simp) ?_
 by_cases h1:i.op=1
 ·skip
  cases ei:isT (dTs c.vars) tInt [i.a] with
  |true=>
   cases eb:isT (dTs c.vars) tBool [i.a] with
   |true=>
    cases n0:decide (i.n=0) with
    |true=>
     simp[s65,vw,hs,hI1,fitsT,h1,ei,eb,n0]
    |false=>
     simp[s65,vw,hs,hI1,fitsT,h1,ei,eb,n0]
   |false=>
    cases n0:decide (i.n=0) with
    |true=>
     simp[s65,vw,hs,hI1,fitsT,h1,ei,eb,n0]
    |false=>
     simp[s65,vw,hs,hI1,fitsT,h1,ei,eb,n0]
  |false=>
   cases eb:isT (dTs c.vars) tBool [i.a] with
   |true=>
    cases n0:decide (i.n=0) with
    |true=>
     simp[s65,vw,hs,hI1,hB1,fitsT,h1,ei,eb,n0]
    |false=>
     simp[s65,vw,hs,hI1,hB1,fitsT,h1,ei,eb,n0]
   |false=>
    cases n0:decide (i.n=0) with
    |true=>
     simp[s65,vw,hs,hI1,hB1,fitsT,h1,ei,eb,n0]
    |false=>
     simp[s65,vw,hs,hI1,hB1,fitsT,h1,ei,eb,n0]
 ·skip
  by_cases h2:i.op=2
  ·skip
   simp[s65,vw,hs,hO,ref_ok,fitsT,h2]
  ·skip
   by_cases h3:i.op=3
   ·skip
    simp[s65,vw,hs,W_draw0,noBoxes,hC,hO,fitsT,h3]
   ·skip
    by_cases h4:i.op=4
    ·skip
     simp[s65,vw,hs,hL2,fitsT,h4]
    ·skip
     by_cases h5:i.op=5
     ·skip
      by_cases m12:i.n=12
      ·skip
       cases e2:isT (dTs c.vars) tInt [i.a,i.b] with
       |true=>
        simp[s65,vw,hs,hI2,fitsT,h5,m12,e2]
       |false=>
        simp[s65,vw,hs,hI2,fitsT,h5,m12,e2]
      ·skip
       by_cases m13:i.n=13
       ·skip
        simp[s65,vw,hs,hB2,fitsT,h5,m13]
       ·skip
        simp[s65,vw,hs,fitsT,h5,m12,m13]
     ·skip
      by_cases h6:i.op=6
      ·skip
       simp[s65,vw,hs,hF,fitsT,h6]
      ·skip
       by_cases h7:i.op=7
       ·skip
        simp[s65,vw,hs,hF,fitsT,h7]
       ·skip
        by_cases h8:i.op=8
        ·skip
         cases ea:arrT (dTs c.vars) i.b i.a with
         |true=>
          simp[s65,vw,hs,hI1,hY,fitsT,h8,ea]
         |false=>
          simp[s65,vw,hs,hY,fitsT,h8,ea]
        ·skip
         by_cases h9:i.op=9
         ·skip
          cases ea:arrT (dTs c.vars) i.a i.c with
          |true=>
           simp[s65,vw,hs,hI1,hY,fitsT,h9,ea]
          |false=>
           simp[s65,vw,hs,hY,fitsT,h9,ea]
         ·skip
          by_cases h10:i.op=10
          ·skip
           cases ei:isT (dTs c.vars) tInt [i.a] with
           |true=>
            simp[s65,vw,hs,hI1,hO,fitsT,h10,ei]
           |false=>
            simp[s65,vw,hs,hI1,fitsT,h10,ei]
          ·skip
           by_cases h11:i.op=11
           ·skip
            cases e3:decide ((ofT (dTs c.vars) i.a).b=3) with
            |true=>
             cases e4:decide ((ofT (dTs c.vars) i.a).d=0) with
             |true=>
              simp[s65,vw,hs,hT,hO,fitsT,h11,e3,e4]
             |false=>
              simp[s65,vw,hs,hO,fitsT,h11,e3,e4]
            |false=>
             cases e4:decide ((ofT (dTs c.vars) i.a).d=0) with
             |true=>
              simp[s65,vw,hs,hO,fitsT,h11,e3,e4]
             |false=>
              simp[s65,vw,hs,hO,fitsT,h11,e3,e4]
           ·skip
            by_cases h12:i.op=12
            ·skip
             cases e5:decide (0<(ofT (dTs c.vars) i.a).d) with
             |true=>
              cases e6:sitT (dSs x.sites) f (dTs c.vars) i.n i.a with
              |true=>
               simp[s65,vw,hs,hI1,hT,hO,fitsT,h12,e5,e6]
              |false=>
               simp[s65,vw,hs,hT,hO,fitsT,h12,e5,e6]
             |false=>
              cases e6:sitT (dSs x.sites) f (dTs c.vars) i.n i.a with
              |true=>
               simp[s65,vw,hs,hO,fitsT,h12,e5,e6]
              |false=>
               simp[s65,vw,hs,hO,fitsT,h12,e5,e6]
            ·skip
             simp[s65,vw,hs,hL4,fitsT,h1,h2,h3,h4,h5,h6,h7,h8,h9,h10,h11,h12]
end U12
namespace U12
open Ax Go Code14 IrV
def xAV (x:XD):AV:=.agg [x.recs,x.globals,x.codes,x.sites,.int .i64 x.main]
theorem _root_.IrV.XD.ok.sl {x:XD}(h:x.ok):(isSl x.recs=true/\isSl x.globals=true/\isSl x.codes=true/\isSl x.sites=true)/\
  x.recs.view=x.recs/\x.globals.view=x.globals/\x.codes.view=x.codes/\x.sites.view=x.sites:=
 ⟨⟨isSl_R h.recs,isSl_T h.globals,isSl_C h.codes,isSl_S h.sites⟩,isRs_vw h.recs,isTs_vw h.globals,isCs_vw h.codes,isSs_vw h.sites⟩
theorem _root_.IrV.XD.ok.pure {x:XD}(h:x.ok):(xAV x).isPure=true:=by
 have h1:=pure_sl (isSl_R h.recs)
 have h2:=pure_sl (isSl_T h.globals)
 have h3:=pure_sl (isSl_C h.codes)
 have h4:=pure_sl (isSl_S h.sites)
 simp[xAV, *]
theorem idPure {i:ID}(hi:isI i.args=true):(idAV i).isPure=true:=by
 have h1:=pure_sl (isSl_I hi)
 simp[idAV, *]
def stepT (x:XD)(f:Int)(i:ID):Bool:=match getZ (dCs x.codes) f with
 |none=>false
 |some c=>bareT i&&fitsT x f c i
theorem step_ok (wl lim:Nat){x:XD}(f:Int){i:ID}(st:Store)(hx:x.ok)(hi:isI i.args=true)(hno:notOwn i.args=true)(hb:∀g∈dCs x.codes,(dTs g.vars).length<1000000000) :
  (orcL S).call wl lim 58 [xAV x,.int .i64 f,idAV i] st=some (.bool (stepT x f i),st):=by
 have hs:=hx.sl
 have hG:=hx.codes
 have h1:=isSl_I hi
 have h2:=view_notOwn hno h1
 have hB:=bare_ok 0 0 i [] hi hno
 simp only[idAV]at hB
 refine call_pure (sf:=s58) rfl rfl (by simp[hx.pure,idPure hi]) rfl (by simp) ?_
 unfold stepT
 cases hg:getZ (dCs x.codes) f with
 |none=>
  rcases getZ_none hg with h0|⟨h0,h1'⟩
  ·have h0':¬0<=f:=by omega
   simp[s58,xAV,idAV,hs,h1,h0',W_draw0,noBoxes]
  ·have h1'':¬f<((dCs x.codes).length:Int):=by omega
   simp[s58,xAV,idAV,hs,h1,h0,h1'',hG,rowsL_C hG,W_draw0,noBoxes]
 |some c=>
  obtain⟨k,rfl,hk,hc⟩:=getZ_some hg
  have hcm:=isCs_get hG c (hc ▸ List.getElem_mem hk)
  have hF:=fits_ok 0 0 (x:=x) (f:=(k:Int)) (c:=c) (i:=i) [] ⟨hx,hcm.1,hcm.2,hi,hno⟩ hb
  have hVs:=isSl_T hcm.1
  have hVv:=isTs_vw hcm.1
  have hNs:=isSl_N hcm.2
  have hNv:=isNs_vw hcm.2
  simp only[vw]at hF
  have h0:(0:Int)<=(k:Int):=by omega
  have h1':(k:Int)<((dCs x.codes).length:Int):=by omega
  cases e:bareT i with
  |true=>simp[s58,xAV,idAV,hs,h1,h2,h0,hk,hG,rowsL_C hG,CD.cells,W_draw0,noBoxes,hB,hF,hc,e,hVv,hNv]
  |false=>simp[s58,xAV,idAV,hs,h1,h2,h0,hk,hG,rowsL_C hG,W_draw0,noBoxes,hB,e]
end U12
namespace U12
open Ax Go Code14 IrV
def nope {α:Type}(p:α->Bool)(l:List α)(k:Nat):Prop:=∀j (h:j<l.length),j<k->p l[j]=false
theorem nope_zero {α:Type}{p:α->Bool}{l:List α}:nope p l 0:=fun _ _ h=>absurd h (by omega)
theorem nope_succ {α:Type}{p:α->Bool}{l:List α}{k:Nat}(h:nope p l k)(h1:k<l.length)(hp:p l[k]=false):nope p l (k+1):=by
 intro j j1 hj
 rcases Nat.lt_or_ge j k with hjk|hjk
 ·exact h j j1 hjk
 ·have:j=k:=by omega
  subst this;exact hp
theorem nope_all {α:Type}{p:α->Bool}{l:List α}(h:nope p l l.length):l.any p=false:=by
 rw[List.any_eq_false]
 intro q hq
 obtain⟨j,hj,rfl⟩:=List.mem_iff_getElem.1 hq
 simp[h j hj hj]
theorem nope_any {α:Type}{p:α->Bool}{l:List α}{k:Nat}(h1:k<l.length)(hp:p l[k]=true):l.any p=true:=
 List.any_eq_true.2 ⟨_,List.getElem_mem h1,hp⟩
def gC (c:CD):Bool:=decide (500<(dTs c.vars).length)||decide (500<(dNs c.ins).length)
def greatT (x:XD):Bool:=decide (20<(dRs x.recs).length)||decide (20<(dTs x.globals).length)||decide (20<(dCs x.codes).length)||decide (80<(dSs x.sites).length)||(dCs x.codes).any gC
theorem great_ok (wl lim:Nat){x:XD}(st:Store)(hx:x.ok) :
  (orcL S).call wl lim 5 [xAV x] st=some (.bool (greatT x),st):=by
 have hs:=hx.sl
 have hC:=hx.codes
 have hl:rowsL x.recs=(dRs x.recs).map RD.cells/\rowsL x.globals=(dTs x.globals).map T3.cells/\rowsL x.codes=(dCs x.codes).map CD.cells/\rowsL x.sites=(dSs x.sites).map SD.cells:=
  ⟨rowsL_R hx.recs,rowsL_T hx.globals,rowsL_C hx.codes,rowsL_S hx.sites⟩
 refine call_pure (sf:=s5) rfl rfl (by simp[hx.pure]) rfl (by simp) ?_
 unfold greatT
 by_cases a1:20<(dRs x.recs).length
 ·have b1:(20:Int)<((dRs x.recs).length:Int):=by omega
  simp[s5,xAV,hs,hl,a1,b1]
 by_cases a2:20<(dTs x.globals).length
 ·have b1:¬(20:Int)<((dRs x.recs).length:Int):=by omega
  have b2:(20:Int)<((dTs x.globals).length:Int):=by omega
  simp[s5,xAV,hs,hl,a1,b1,a2,b2]
 by_cases a3:20<(dCs x.codes).length
 ·have b1:¬(20:Int)<((dRs x.recs).length:Int):=by omega
  have b2:¬(20:Int)<((dTs x.globals).length:Int):=by omega
  have b3:(20:Int)<((dCs x.codes).length:Int):=by omega
  simp[s5,xAV,hs,hl,a1,b1,a2,b2,a3,b3]
 by_cases a4:80<(dSs x.sites).length
 ·have b1:¬(20:Int)<((dRs x.recs).length:Int):=by omega
  have b2:¬(20:Int)<((dTs x.globals).length:Int):=by omega
  have b3:¬(20:Int)<((dCs x.codes).length:Int):=by omega
  have b4:(80:Int)<((dSs x.sites).length:Int):=by omega
  simp[s5,xAV,hs,hl,a1,b1,a2,b2,a3,b3,a4,b4]
 have b1:¬(20:Int)<((dRs x.recs).length:Int):=by omega
 have b2:¬(20:Int)<((dTs x.globals).length:Int):=by omega
 have b3:¬(20:Int)<((dCs x.codes).length:Int):=by omega
 have b4:¬(80:Int)<((dSs x.sites).length:Int):=by omega
 simp[s5,xAV,hs,hl,a1,b1,a2,b2,a3,b3,a4,b4]
 refine W_loopI s5_l0.eq_1 (fun k:Nat=>⟨[(1,.fp 0 0),(3,.val (.int .i64 k))],[[x.recs,x.globals,x.codes,x.sites,.int .i64 x.main]],[]⟩)
  (fun k=>k<=(dCs x.codes).length/\nope gC (dCs x.codes) k) (fun k=>(dCs x.codes).length-k) 0 (by simp) ⟨by omega,nope_zero⟩ ?_
 intro k ⟨hk,hp⟩ ih
 by_cases hlt:k<(dCs x.codes).length
 ·have hw:IntKind.i64.wrap ((k:Int)+1)=((k+1:Nat):Int):=by rw[wrap64]<;>omega
  have hF:=isCs_get hC _ (List.getElem_mem hlt)
  have hFs:=isSl_T hF.1
  have hFv:=isTs_vw hF.1
  have hFl:=rowsL_T hF.1
  have hGs:=isSl_N hF.2
  have hGv:=isNs_vw hF.2
  have hGl:=rowsL_N hF.2
  by_cases g:500<(dTs (dCs x.codes)[k].vars).length
  ·have g':(500:Int)<((dTs (dCs x.codes)[k].vars).length:Int):=by omega
   have hf:=nope_any (p:=gC) hlt (by simp[gC,g])
   simp[hs,hl,hlt,hC,CD.cells,hF,hFv,hFl,g',hf]
  ·have g':¬(500:Int)<((dTs (dCs x.codes)[k].vars).length:Int):=by omega
   by_cases r:500<(dNs (dCs x.codes)[k].ins).length
   ·have r':(500:Int)<((dNs (dCs x.codes)[k].ins).length:Int):=by omega
    have hf:=nope_any (p:=gC) hlt (by simp[gC,r])
    simp[hs,hl,hlt,hC,CD.cells,hF,hFv,hFl,hGv,hGl,g',r',hf]
   ·have r':¬(500:Int)<((dNs (dCs x.codes)[k].ins).length:Int):=by omega
    simp[hs,hl,hlt,hC,CD.cells,hF,hFv,hFl,hGv,hGl,g',r',hw]
    exact ih (k+1) ⟨by omega,nope_succ hp hlt (by simp[gC,g,r])⟩ (by omega)
 have hkl:k=(dCs x.codes).length:=by omega
 have hf:=nope_all (hkl ▸ hp)
 simp[hs,hl,hlt,hf]
theorem great_few {x:XD}(h:greatT x=false):(dCs x.codes).length<=20/\(dTs x.globals).length<=20/\(dSs x.sites).length<=80/\(∀g∈dCs x.codes,(dTs g.vars).length<=500)/\∀g∈dCs x.codes,(dNs g.ins).length<=500:=by
 simp only[greatT,Bool.or_eq_false_iff,decide_eq_false_iff_not,List.any_eq_false,gC,Bool.or_eq_true,decide_eq_true_eq,not_or]at h
 obtain⟨⟨⟨⟨h1,h2⟩,h3⟩,h4⟩,h5⟩:=h
 exact⟨by omega,by omega,by omega,fun g hg=>by have:=(h5 g hg).1;omega,fun g hg=>by have:=(h5 g hg).2;omega⟩
end U12
namespace U12
open Ax Go Code14 IrV
def teq (s t:T3):Bool:=decide (s.b=t.b)&&(decide (s.r=t.r)&&decide (s.d=t.d))
@[simp] theorem T3.eta (t:T3):(⟨t.b,t.r,t.d⟩:T3)=t:=rfl
@[simp high] theorem eqTy (a b c a' b' c':Int):eqK (.flat [.int,.int,.int]) (.agg [.int .i64 a,.int .i64 b,.int .i64 c]) (.agg [.int .i64 a',.int .i64 b',.int .i64 c'])=some (teq ⟨a,b,c⟩ ⟨a',b',c'⟩):=by
 simp[teq]
def upto {α:Type}(p:α->Bool)(l:List α)(k:Nat):Prop:=∀j (h:j<l.length),j<k->p l[j]=true
theorem upto_zero {α:Type}{p:α->Bool}{l:List α}:upto p l 0:=fun _ _ h=>absurd h (by omega)
theorem upto_succ {α:Type}{p:α->Bool}{l:List α}{k:Nat}(h:upto p l k)(h1:k<l.length)(hp:p l[k]=true):upto p l (k+1):=by
 intro j j1 hj
 rcases Nat.lt_or_ge j k with hjk|hjk
 ·exact h j j1 hjk
 ·have:j=k:=by omega
  subst this;exact hp
theorem upto_all {α:Type}{p:α->Bool}{l:List α}(h:upto p l l.length):l.all p=true:=by
 rw[List.all_eq_true]
 intro q hq
 obtain⟨j,hj,rfl⟩:=List.mem_iff_getElem.1 hq
 exact h j hj hj
theorem upto_not {α:Type}{p:α->Bool}{l:List α}{k:Nat}(h1:k<l.length)(hp:p l[k]=false):l.all p=false:=
 List.all_eq_false.2 ⟨_,List.getElem_mem h1,by simp[hp]⟩
def mayT (n:Nat)(t:T3):Bool:=decide (¬t.d<0)&&decide (¬3<t.d)&&if t.b=1\/t.b=2 then decide (t.r=0) else decide (t.b=3)&&decide (0<=t.r)&&decide (t.r<n)
theorem may_ok (wl lim:Nat){x:XD}(t:T3)(st:Store)(hx:x.ok) :
  (orcL S).call wl lim 42 [xAV x,.agg [.int .i64 t.b,.int .i64 t.r,.int .i64 t.d]] st=some (.bool (mayT (dRs x.recs).length t),st):=by
 have hs:=hx.sl
 have hl:=rowsL_R hx.recs
 refine call_pure (sf:=s42) rfl rfl (by simp[hx.pure]) rfl (by simp) ?_
 unfold mayT
 by_cases d0:t.d<0
 ·simp[s42,xAV,hs,d0]
 by_cases d3:3<t.d
 ·simp[s42,xAV,hs,d0,d3]
 by_cases b1:t.b=1
 ·simp[s42,xAV,hs,d0,d3,b1]
 by_cases b2:t.b=2
 ·simp[s42,xAV,hs,d0,d3,b2]
 by_cases b3:t.b=3
 ·by_cases r0:0<=t.r
  ·simp[s42,xAV,hs,hl,d0,d3,b3,r0]
  ·simp[s42,xAV,hs,d0,d3,b3,r0]
 ·simp[s42,xAV,hs,d0,d3,b1,b2,b3]
theorem types_ok (wl lim:Nat){x:XD}(l:AV)(st:Store)(hx:x.ok)(hT:isTs l=true)(hn:(dTs l).length<1000000000) :
  (orcL S).call wl lim 19 [xAV x,l] st=some (.bool ((dTs l).all (mayT (dRs x.recs).length)),st):=by
 have hs:=hx.sl
 have hTs:=isSl_T hT
 have hTv:=isTs_vw hT
 have hm:=fun t=>may_ok 0 0 (x:=x) t [] hx
 simp only[xAV]at hm
 refine call_pure (sf:=s19) rfl rfl (by simp[hx.pure,pure_sl hTs]) rfl (by simp) ?_
 simp[s19,xAV,hs,hTs,hTv,rowsL_T hT]
 refine W_loopI s19_l0.eq_1 (fun q:Nat×List AV=>⟨[(2,.fp 0 0),(7,.val l),(8,.val (.int .i64 (dTs l).length)),(9,.val (.int .i64 q.1))],[[x.recs,x.globals,x.codes,x.sites,.int .i64 x.main],q.2],[]⟩)
  (fun q=>q.1<=(dTs l).length/\upto (mayT (dRs x.recs).length) (dTs l) q.1) (fun q=>(dTs l).length-q.1) (0,[]) (by simp) ⟨by simp,upto_zero⟩ ?_
 rintro⟨k,bb⟩ ⟨hk,hp⟩ ih
 simp only at hk hp ih
 by_cases hlt:k<(dTs l).length
 ·have hw:IntKind.i64.wrap ((k:Int)+1)=((k+1:Nat):Int):=by rw[wrap64]<;>omega
  have hc:=hm (dTs l)[k]
  cases e:mayT (dRs x.recs).length (dTs l)[k] with
  |true=>
   simp[hs,hT,rowsL_T hT,hlt,hc,e,hw]
   exact ih (k+1,_) ⟨by simp;omega,upto_succ hp hlt e⟩ (by simp;omega)
  |false=>
   have hf:=upto_not hlt e
   simp[hs,hT,rowsL_T hT,hlt,hc,e,hf]
 ·have hkl:k=(dTs l).length:=by omega
  have hf:=upto_all (hkl ▸ hp)
  simp[hlt,hf]
end U12
namespace U12
open Ax Go Code14 IrV
abbrev nr (x:XD):Nat:=(dRs x.recs).length
def recT (n:Nat)(r:RD):Bool:=decide (¬8<(dFs r.fields).length)&&(dFs r.fields).all (fun f=>mayT n f.t)
theorem shapes_ok (wl lim:Nat){x:XD}(st:Store)(hx:x.ok)(hn:(dRs x.recs).length<1000000000) :
  (orcL S).call wl lim 18 [xAV x] st=some (.bool ((dRs x.recs).all (recT (nr x))),st):=by
 have hs:=hx.sl
 have hR:=hx.recs
 have hl:=rowsL_R hx.recs
 have hm:=fun t=>may_ok 0 0 (x:=x) t [] hx
 simp only[xAV]at hm
 refine call_pure (sf:=s18) rfl rfl (by simp[hx.pure]) rfl (by simp) ?_
 simp[s18,xAV,hs,hl]
 refine W_loopI s18_l1.eq_1 (fun q:Nat×List AV×List AV=>⟨[(1,.fp 0 0),(8,.val x.recs),(9,.val (.int .i64 (dRs x.recs).length)),(10,.val (.int .i64 q.1))],[[x.recs,x.globals,x.codes,x.sites,.int .i64 x.main],q.2.1,q.2.2],[]⟩)
  (fun q=>q.1<=(dRs x.recs).length/\upto (recT (nr x)) (dRs x.recs) q.1) (fun q=>(dRs x.recs).length-q.1) (0,[],[]) (by simp) ⟨by simp,upto_zero⟩ ?_
 rintro⟨k,b1,b2⟩ ⟨hk,hp⟩ ih
 simp only at hk hp ih
 by_cases hlt:k<(dRs x.recs).length
 ·have hw:IntKind.i64.wrap ((k:Int)+1)=((k+1:Nat):Int):=by rw[wrap64]<;>omega
  have hF:=isRs_get hR _ (List.getElem_mem hlt)
  have hFs:=isSl_F hF
  have hFv:=isFs_vw hF
  have hFl:=rowsL_F hF
  by_cases g:8<(dFs (dRs x.recs)[k].fields).length
  ·have g':(8:Int)<((dFs (dRs x.recs)[k].fields).length:Int):=by omega
   have hf:=upto_not (p:=recT (nr x)) hlt (by simp[recT,g])
   simp[hs,hl,hlt,hR,RD.cells,hF,hFv,hFl,g',hf]
  ·have g':¬(8:Int)<((dFs (dRs x.recs)[k].fields).length:Int):=by omega
   simp[hs,hl,hlt,hR,RD.cells,hF,hFv,hFl,g']
   refine W_loopI s18_l0.eq_1 (fun q:Nat×List AV=>⟨[(1,.fp 0 0),(8,.val x.recs),(9,.val (.int .i64 (dRs x.recs).length)),(10,.val (.int .i64 k)),(19,.val (dRs x.recs)[k].fields),(20,.val (.int .i64 (dFs (dRs x.recs)[k].fields).length)),(21,.val (.int .i64 q.1))],
     [[x.recs,x.globals,x.codes,x.sites,.int .i64 x.main],[.str (dRs x.recs)[k].name,(dRs x.recs)[k].fields],q.2],[]⟩)
    (fun q=>q.1<=(dFs (dRs x.recs)[k].fields).length/\upto (fun f=>mayT (nr x) f.t) (dFs (dRs x.recs)[k].fields) q.1) (fun q=>(dFs (dRs x.recs)[k].fields).length-q.1) (0,b2) (by simp) ⟨by simp,upto_zero⟩ ?_
   rintro⟨j,b3⟩ ⟨hj,hpj⟩ ihj
   simp only at hj hpj ihj
   by_cases hjl:j<(dFs (dRs x.recs)[k].fields).length
   ·have hwj:IntKind.i64.wrap ((j:Int)+1)=((j+1:Nat):Int):=by rw[wrap64]<;>omega
    have hc:=hm (dFs (dRs x.recs)[k].fields)[j].t
    cases e:mayT (nr x) (dFs (dRs x.recs)[k].fields)[j].t with
    |true=>
     simp[hs,hF,hFl,hjl,FD.cells,hc,e,hwj]
     exact ihj (j+1,_) ⟨by simp;omega,upto_succ hpj hjl e⟩ (by simp;omega)
    |false=>
     have hf0:=upto_not (p:=fun f:FD=>mayT (nr x) f.t) hjl e
     have hf:=upto_not (p:=recT (nr x)) hlt (by simp only[recT,hf0,Bool.and_false])
     simp[hs,hF,hFl,hjl,FD.cells,hc,e,hf]
   ·have hjk:j=(dFs (dRs x.recs)[k].fields).length:=by omega
    have hf0:=upto_all (hjk ▸ hpj)
    simp[hjl,hw]
    exact ih (k+1,_,_) ⟨by simp;omega,upto_succ hp hlt (by simp only[recT,hf0];simp;omega)⟩ (by simp;omega)
 ·have hkl:k=(dRs x.recs).length:=by omega
  have hf:=upto_all (hkl ▸ hp)
  simp[hlt,hf]
def siteT (n nc:Nat)(s:SD):Bool:=mayT n s.t&&refT s.t&&decide (¬s.fn<0)&&decide (s.fn<nc)
theorem sites_ok (wl lim:Nat){x:XD}(st:Store)(hx:x.ok)(hn:(dSs x.sites).length<1000000000) :
  (orcL S).call wl lim 20 [xAV x] st=some (.bool ((dSs x.sites).all (siteT (nr x) (dCs x.codes).length)),st):=by
 have hs:=hx.sl
 have hS:=hx.sites
 have hl:=rowsL_S hx.sites
 have hlc:=rowsL_C hx.codes
 have hm:=fun t=>may_ok 0 0 (x:=x) t [] hx
 simp only[xAV]at hm
 refine call_pure (sf:=s20) rfl rfl (by simp[hx.pure]) rfl (by simp) ?_
 simp[s20,xAV,hs,hl]
 refine W_loopI s20_l0.eq_1 (fun q:Nat×List AV=>⟨[(1,.fp 0 0),(6,.val x.sites),(7,.val (.int .i64 (dSs x.sites).length)),(8,.val (.int .i64 q.1))],[[x.recs,x.globals,x.codes,x.sites,.int .i64 x.main],q.2],[]⟩)
  (fun q=>q.1<=(dSs x.sites).length/\upto (siteT (nr x) (dCs x.codes).length) (dSs x.sites) q.1) (fun q=>(dSs x.sites).length-q.1) (0,[]) (by simp) ⟨by simp,upto_zero⟩ ?_
 rintro⟨k,bb⟩ ⟨hk,hp⟩ ih
 simp only at hk hp ih
 by_cases hlt:k<(dSs x.sites).length
 ·have hw:IntKind.i64.wrap ((k:Int)+1)=((k+1:Nat):Int):=by rw[wrap64]<;>omega
  have hc:=hm (dSs x.sites)[k].t
  have hr:=fun a b c=>ref_ok 0 0 a b c []
  cases e:mayT (nr x) (dSs x.sites)[k].t with
  |true=>
   cases e2:refT (dSs x.sites)[k].t with
   |true=>
    by_cases f0:(dSs x.sites)[k].fn<0
    ·have hf:=upto_not (p:=siteT (nr x) (dCs x.codes).length) hlt (by simp[siteT,f0])
     simp[hs,hS,hl,hlt,SD.cells,hc,hr,e,e2,f0,hf]
    ·by_cases f1:(dSs x.sites)[k].fn<(dCs x.codes).length
     ·have f1':¬((dCs x.codes).length:Int)<=(dSs x.sites)[k].fn:=by omega
      simp[hs,hS,hl,hlc,hlt,SD.cells,hc,hr,e,e2,f0,f1',hw]
      exact ih (k+1,_) ⟨by simp;omega,upto_succ hp hlt (by simp[siteT,e,e2,f1];omega)⟩ (by simp;omega)
     ·have f1':((dCs x.codes).length:Int)<=(dSs x.sites)[k].fn:=by omega
      have hf:=upto_not (p:=siteT (nr x) (dCs x.codes).length) hlt (by simp[siteT,f1])
      simp[hs,hS,hl,hlc,hlt,SD.cells,hc,hr,e,e2,f0,f1',hf]
   |false=>
    have hf:=upto_not (p:=siteT (nr x) (dCs x.codes).length) hlt (by simp[siteT,e2])
    simp[hs,hS,hl,hlt,SD.cells,hc,hr,e,e2,hf]
  |false=>
   have hf:=upto_not (p:=siteT (nr x) (dCs x.codes).length) hlt (by simp[siteT,e])
   simp[hs,hS,hl,hlt,SD.cells,hc,e,hf]
 ·have hkl:k=(dSs x.sites).length:=by omega
  have hf:=upto_all (hkl ▸ hp)
  simp[hlt,hf]
end U12
