/- Part of a proof. -/
import Derived.Test.YtgblgbgjmgjfkaaGreatI

set_option maxRecDepth 100000
set_option maxHeartbeats 8000000
namespace U12
open Ax Go Code14z IrV
def teq(s t:T3):Bool:=decide (s.b=t.b)&&(decide (s.r=t.r)&&decide (s.d=t.d))
theorem teq_eq(s t:T3):teq s t=decide (s=t):=by
 cases s;cases t
 simp[teq]
@[simp]theorem T3.eta(t:T3):(⟨t.b,t.r,t.d⟩:T3)=t:=rfl
@[simp high]theorem eqTy(a b c a' b' c':Int):eqK (.flat [.int,.int,.int]) (.agg [.int .i64 a,.int .i64 b,.int .i64 c]) (.agg [.int .i64 a',.int .i64 b',.int .i64 c'])=some (teq ⟨a,b,c⟩ ⟨a',b',c'⟩):=by
 simp[teq]
def upto{α:Type}(p:α->Bool)(l:List α)(k:Nat):Prop:=∀j (h:j<l.length),j<k->p l[j]=true
theorem upto_zero{α:Type}{p:α->Bool}{l:List α}:upto p l 0:=fun _ _ h=>absurd h (by omega)
theorem upto_succ{α:Type}{p:α->Bool}{l:List α}{k:Nat}(h:upto p l k)(h1:k<l.length)(hp:p l[k]=true):upto p l (k+1):=by
 intro j j1 hj
 rcases Nat.lt_or_ge j k with hjk|hjk
 ·exact h j j1 hjk
 ·have:j=k:=by omega
  subst this;exact hp
theorem upto_all{α:Type}{p:α->Bool}{l:List α}(h:upto p l l.length):l.all p=true:=by
 rw[List.all_eq_true]
 intro q hq
 obtain⟨j,hj,rfl⟩:=List.mem_iff_getElem.1 hq
 exact h j hj hj
theorem upto_not{α:Type}{p:α->Bool}{l:List α}{k:Nat}(h1:k<l.length)(hp:p l[k]=false):l.all p=false:=
 List.all_eq_false.2 ⟨_,List.getElem_mem h1,by simp[hp]⟩
def mayT(n:Nat)(t:T3):Bool:=decide (¬t.d<0)&&decide (¬3<t.d)&&if t.b=1\/t.b=2 then decide (t.r=0) else decide (t.b=3)&&decide (0<=t.r)&&decide (t.r<n)
theorem may_ok(wl lim:Nat){x:XD}(t:T3)(st:Store)(hx:x.ok) :
  (orcL S).call wl lim 104 [xAV x,.agg [.int .i64 t.b,.int .i64 t.r,.int .i64 t.d]] st=some (.bool (mayT (dRs x.recs).length t),st):=by
 have hs:=hx.sl
 have hl:=rowsL_R hx.recs
 refine call_pure (sf:=s104) rfl rfl (by simp[hx.pure]) rfl (by simp) ?_
 unfold mayT
 by_cases d0:t.d<0
 ·simp[s104,xAV,hs,d0]
 by_cases d3:3<t.d
 ·simp[s104,xAV,hs,d0,d3]
 by_cases b1:t.b=1
 ·simp[s104,xAV,hs,d0,d3,b1]
 by_cases b2:t.b=2
 ·simp[s104,xAV,hs,d0,d3,b2]
 by_cases b3:t.b=3
 ·by_cases r0:0<=t.r
  ·simp[s104,xAV,hs,hl,d0,d3,b3,r0]
  ·simp[s104,xAV,hs,d0,d3,b3,r0]
 ·simp[s104,xAV,hs,d0,d3,b1,b2,b3]
theorem types_ok(wl lim:Nat){x:XD}(l:AV)(st:Store)(hx:x.ok)(hT:isTs l=true)(hn:(dTs l).length<1000000000) :
  (orcL S).call wl lim 47 [xAV x,l] st=some (.bool ((dTs l).all (mayT (dRs x.recs).length)),st):=by
 have hs:=hx.sl
 have hTs:=isSl_T hT
 have hTv:=isTs_vw hT
 have hm:=fun t=>may_ok 0 0 (x:=x) t [] hx
 simp only[xAV]at hm
 refine call_pure (sf:=s47) rfl rfl (by simp[hx.pure,pure_sl hTs]) rfl (by simp) ?_
 simp[s47,xAV,hs,hTs,hTv,rowsL_T hT]
 refine W_loopI s47_l0.eq_1 (fun q:Nat×List AV=>⟨[(2,.fp 0 0),(7,.val l),(8,.val (.int .i64 (dTs l).length)),(9,.val (.int .i64 q.1))],[[x.recs,x.globals,x.codes,x.sites,.int .i64 x.main],q.2],[]⟩)
  (fun q=>q.1<=(dTs l).length/\upto (mayT (dRs x.recs).length) (dTs l) q.1) (fun q=>(dTs l).length-q.1) (0,[]) (by simp) ⟨by simp,upto_zero⟩ ?_
 rintro⟨k,bb⟩ ⟨hk,hp⟩ ih
 simp only at hk hp ih
 by_cases hlt:k<(dTs l).length
 ·have hw:IntKind.i64.wrap ((k:Int)+1)=((k+1:Nat):Int):=by rw[wrap64]<;>omega
  have hc:=hm (dTs l)[k]
  cases e:mayT (dRs x.recs).length (dTs l)[k] with
  |true=>
   simp[hs,hT,rowsL_T hT,hlt,hc,e,hw]
   exact ih (k+1,_) ⟨by simp;omega,upto_succ hp hlt e⟩ (by simp;omega)
  |false=>
   have hf:=upto_not hlt e
   simp[hs,hT,rowsL_T hT,hlt,hc,e,hf]
 ·have hkl:k=(dTs l).length:=by omega
  have hf:=upto_all (hkl ▸ hp)
  simp[hlt,hf]
end U12
namespace U12
open Ax Go Code14z IrV
abbrev nr(x:XD):Nat:=(dRs x.recs).length
def recT(n:Nat)(r:RD):Bool:=decide (¬8<(dFs r.fields).length)&&(dFs r.fields).all (fun f=>mayT n f.t)
theorem shapes_ok(wl lim:Nat){x:XD}(st:Store)(hx:x.ok)(hn:(dRs x.recs).length<1000000000) :
  (orcL S).call wl lim 46 [xAV x] st=some (.bool ((dRs x.recs).all (recT (nr x))),st):=by
 have hs:=hx.sl
 have hR:=hx.recs
 have hl:=rowsL_R hx.recs
 have hm:=fun t=>may_ok 0 0 (x:=x) t [] hx
 simp only[xAV]at hm
 refine call_pure (sf:=s46) rfl rfl (by simp[hx.pure]) rfl (by simp) ?_
 simp[s46,xAV,hs,hl]
 refine W_loopI s46_l1.eq_1 (fun q:Nat×List AV×List AV=>⟨[(1,.fp 0 0),(8,.val x.recs),(9,.val (.int .i64 (dRs x.recs).length)),(10,.val (.int .i64 q.1))],[[x.recs,x.globals,x.codes,x.sites,.int .i64 x.main],q.2.1,q.2.2],[]⟩)
  (fun q=>q.1<=(dRs x.recs).length/\upto (recT (nr x)) (dRs x.recs) q.1) (fun q=>(dRs x.recs).length-q.1) (0,[],[]) (by simp) ⟨by simp,upto_zero⟩ ?_
 rintro⟨k,b1,b2⟩ ⟨hk,hp⟩ ih
 simp only at hk hp ih
 by_cases hlt:k<(dRs x.recs).length
 ·have hw:IntKind.i64.wrap ((k:Int)+1)=((k+1:Nat):Int):=by rw[wrap64]<;>omega
  have hF:=isRs_get hR _ (List.getElem_mem hlt)
  have hFs:=isSl_F hF
  have hFv:=isFs_vw hF
  have hFl:=rowsL_F hF
  by_cases g:8<(dFs (dRs x.recs)[k].fields).length
  ·have g':(8:Int)<((dFs (dRs x.recs)[k].fields).length:Int):=by omega
   have hf:=upto_not (p:=recT (nr x)) hlt (by simp[recT,g])
   simp[hs,hl,hlt,hR,RD.cells,hF,hFv,hFl,g',hf]
  ·have g':¬(8:Int)<((dFs (dRs x.recs)[k].fields).length:Int):=by omega
   simp[hs,hl,hlt,hR,RD.cells,hF,hFv,hFl,g']
   refine W_loopI s46_l0.eq_1 (fun q:Nat×List AV=>⟨[(1,.fp 0 0),(8,.val x.recs),(9,.val (.int .i64 (dRs x.recs).length)),(10,.val (.int .i64 k)),(19,.val (dRs x.recs)[k].fields),(20,.val (.int .i64 (dFs (dRs x.recs)[k].fields).length)),(21,.val (.int .i64 q.1))],
     [[x.recs,x.globals,x.codes,x.sites,.int .i64 x.main],[.str (dRs x.recs)[k].name,(dRs x.recs)[k].fields],q.2],[]⟩)
    (fun q=>q.1<=(dFs (dRs x.recs)[k].fields).length/\upto (fun f=>mayT (nr x) f.t) (dFs (dRs x.recs)[k].fields) q.1) (fun q=>(dFs (dRs x.recs)[k].fields).length-q.1) (0,b2) (by simp) ⟨by simp,upto_zero⟩ ?_
   rintro⟨j,b3⟩ ⟨hj,hpj⟩ ihj
   simp only at hj hpj ihj
   by_cases hjl:j<(dFs (dRs x.recs)[k].fields).length
   ·have hwj:IntKind.i64.wrap ((j:Int)+1)=((j+1:Nat):Int):=by rw[wrap64]<;>omega
    have hc:=hm (dFs (dRs x.recs)[k].fields)[j].t
    cases e:mayT (nr x) (dFs (dRs x.recs)[k].fields)[j].t with
    |true=>
     simp[hs,hF,hFl,hjl,FD.cells,hc,e,hwj]
     exact ihj (j+1,_) ⟨by simp;omega,upto_succ hpj hjl e⟩ (by simp;omega)
    |false=>
     have hf0:=upto_not (p:=fun f:FD=>mayT (nr x) f.t) hjl e
     have hf:=upto_not (p:=recT (nr x)) hlt (by simp only[recT,hf0,Bool.and_false])
     simp[hs,hF,hFl,hjl,FD.cells,hc,e,hf]
   ·have hjk:j=(dFs (dRs x.recs)[k].fields).length:=by omega
    have hf0:=upto_all (hjk ▸ hpj)
    simp[hjl,hw]
    exact ih (k+1,_,_) ⟨by simp;omega,upto_succ hp hlt (by simp only[recT,hf0];simp;omega)⟩ (by simp;omega)
 ·have hkl:k=(dRs x.recs).length:=by omega
  have hf:=upto_all (hkl ▸ hp)
  simp[hlt,hf]
def siteT(n nc:Nat)(s:SD):Bool:=mayT n s.t&&refT s.t&&decide (¬s.fn<0)&&decide (s.fn<nc)
theorem sites_ok(wl lim:Nat){x:XD}(st:Store)(hx:x.ok)(hn:(dSs x.sites).length<1000000000) :
  (orcL S).call wl lim 48 [xAV x] st=some (.bool ((dSs x.sites).all (siteT (nr x) (dCs x.codes).length)),st):=by
 have hs:=hx.sl
 have hS:=hx.sites
 have hl:=rowsL_S hx.sites
 have hlc:=rowsL_C hx.codes
 have hm:=fun t=>may_ok 0 0 (x:=x) t [] hx
 simp only[xAV]at hm
 refine call_pure (sf:=s48) rfl rfl (by simp[hx.pure]) rfl (by simp) ?_
 simp[s48,xAV,hs,hl]
 refine W_loopI s48_l0.eq_1 (fun q:Nat×List AV=>⟨[(1,.fp 0 0),(6,.val x.sites),(7,.val (.int .i64 (dSs x.sites).length)),(8,.val (.int .i64 q.1))],[[x.recs,x.globals,x.codes,x.sites,.int .i64 x.main],q.2],[]⟩)
  (fun q=>q.1<=(dSs x.sites).length/\upto (siteT (nr x) (dCs x.codes).length) (dSs x.sites) q.1) (fun q=>(dSs x.sites).length-q.1) (0,[]) (by simp) ⟨by simp,upto_zero⟩ ?_
 rintro⟨k,bb⟩ ⟨hk,hp⟩ ih
 simp only at hk hp ih
 by_cases hlt:k<(dSs x.sites).length
 ·have hw:IntKind.i64.wrap ((k:Int)+1)=((k+1:Nat):Int):=by rw[wrap64]<;>omega
  have hc:=hm (dSs x.sites)[k].t
  have hr:=fun a b c=>ref_ok 0 0 a b c []
  cases e:mayT (nr x) (dSs x.sites)[k].t with
  |true=>
   cases e2:refT (dSs x.sites)[k].t with
   |true=>
    by_cases f0:(dSs x.sites)[k].fn<0
    ·have hf:=upto_not (p:=siteT (nr x) (dCs x.codes).length) hlt (by simp[siteT,f0])
     simp[hs,hS,hl,hlt,SD.cells,hc,hr,e,e2,f0,hf]
    ·by_cases f1:(dSs x.sites)[k].fn<(dCs x.codes).length
     ·have f1':¬((dCs x.codes).length:Int)<=(dSs x.sites)[k].fn:=by omega
      simp[hs,hS,hl,hlc,hlt,SD.cells,hc,hr,e,e2,f0,f1',hw]
      exact ih (k+1,_) ⟨by simp;omega,upto_succ hp hlt (by simp[siteT,e,e2,f1];omega)⟩ (by simp;omega)
     ·have f1':((dCs x.codes).length:Int)<=(dSs x.sites)[k].fn:=by omega
      have hf:=upto_not (p:=siteT (nr x) (dCs x.codes).length) hlt (by simp[siteT,f1])
      simp[hs,hS,hl,hlc,hlt,SD.cells,hc,hr,e,e2,f0,f1',hf]
   |false=>
    have hf:=upto_not (p:=siteT (nr x) (dCs x.codes).length) hlt (by simp[siteT,e2])
    simp[hs,hS,hl,hlt,SD.cells,hc,hr,e,e2,hf]
  |false=>
   have hf:=upto_not (p:=siteT (nr x) (dCs x.codes).length) hlt (by simp[siteT,e])
   simp[hs,hS,hl,hlt,SD.cells,hc,e,hf]
 ·have hkl:k=(dSs x.sites).length:=by omega
  have hf:=upto_all (hkl ▸ hp)
  simp[hlt,hf]
end U12
namespace U12
open Ax Go Code14z IrV
def lastT(l:List ID):Bool:=match l.getLast? with
 |some i=>decide (i.op=16)||decide (i.op=17)||decide (i.op=18)
 |none=>false
theorem lastT_at{l:List ID}{m:Nat}(h:l.length=m+1):lastT l=(decide ((l[m]'(by omega)).op=16)||decide ((l[m]'(by omega)).op=17)||decide ((l[m]'(by omega)).op=18)):=by
 have e:l.getLast? = some (l[m]'(by omega)):=by
  rw[List.getLast?_eq_getElem?]
  have:l.length-1=m:=by omega
  rw[this]
  exact List.getElem?_eq_getElem _
 unfold lastT
 rw[e]
def codeT(x:XD)(f:Int)(c:CD):Bool:=decide (¬c.params<0)&&decide (¬6<c.params)&&decide (¬((dTs c.vars).length:Int)<c.params)&&decide (¬4000<((dTs c.vars).length:Int)) &&
 decide (¬((dNs c.ins).length:Int)=0)&&(dTs c.vars).all (mayT (nr x))&&(if c.has then mayT (nr x) c.res else teq c.res ⟨0,0,0⟩)&&(dNs c.ins).all (stepT x f)&&lastT (dNs c.ins)
theorem code_ok(wl lim:Nat){x:XD}(k:Nat)(hk:k<(dCs x.codes).length)(st:Store)(hx:x.ok)(hb:∀g∈dCs x.codes,(dTs g.vars).length<1000000000)(hb2:∀g∈dCs x.codes,(dNs g.ins).length<1000000000) :
  (orcL S).call wl lim 106 [xAV x,.int .i64 k] st=some (.bool (codeT x k (dCs x.codes)[k]),st):=by
 have hs:=hx.sl
 have hC:=hx.codes
 have hl:=rowsL_C hx.codes
 have hcm:=isCs_get hC _ (List.getElem_mem hk)
 have hT:=hcm.1
 have hTs:=isSl_T hcm.1
 have hTv:=isTs_vw hcm.1
 have hTl:=rowsL_T hcm.1
 have hN:=hcm.2
 have hNs:=isSl_N hcm.2
 have hNv:=isNs_vw hcm.2
 have hNl:=rowsL_N hcm.2
 have hbn:=hb2 _ (List.getElem_mem hk)
 have hty:=types_ok 0 0 (x:=x) (dCs x.codes)[k].vars [] hx hT (hb _ (List.getElem_mem hk))
 have hm:=may_ok 0 0 (x:=x) (dCs x.codes)[k].res [] hx
 simp only[xAV]at hm hty
 refine call_pure (sf:=s106) rfl rfl (by simp[hx.pure]) rfl (by simp) ?_
 generalize hcq:(dCs x.codes)[k]=c at *
 unfold codeT
 by_cases p0:c.params<0
 ·simp[s106,xAV,hs,hl,hC,hk,hcq,CD.cells,hTs,hTv,hNs,hNv,p0]
 by_cases p6:6<c.params
 ·simp[s106,xAV,hs,hl,hC,hk,hcq,CD.cells,hTs,hTv,hNs,hNv,p0,p6]
 by_cases pv:((dTs c.vars).length:Int)<c.params
 ·simp[s106,xAV,hs,hl,hC,hk,hcq,CD.cells,hTs,hTv,hTl,hNs,hNv,p0,p6,pv]
 by_cases v4:4000<((dTs c.vars).length:Int)
 ·simp[s106,xAV,hs,hl,hC,hk,hcq,CD.cells,hTs,hTv,hTl,hNs,hNv,p0,p6,pv,v4]
 by_cases i0:dNs c.ins=[]
 ·simp[s106,xAV,hs,hl,hC,hk,hcq,CD.cells,hTs,hTv,hTl,hNs,hNv,hNl,p0,p6,pv,v4,i0]
 cases hta:(dTs c.vars).all (mayT (nr x)) with
 |false=>simp[s106,xAV,hs,hl,hC,hk,hcq,CD.cells,hTs,hTv,hTl,hNs,hNv,hNl,p0,p6,pv,v4,i0,hty,hta]
 |true=>
  cases hh:c.has with
  |true=>
   cases hmr:mayT (nr x) c.res with
   |false=>simp[s106,xAV,hs,hl,hC,hk,hcq,CD.cells,hTs,hTv,hTl,hNs,hNv,hNl,p0,p6,pv,v4,i0,hty,hta,hh,hm,hmr,W_draw0,noBoxes]
   |true=>
    simp[s106,xAV,hs,hl,hC,hk,hcq,CD.cells,hTs,hTv,hTl,hNs,hNv,hNl,p0,p6,pv,v4,i0,hty,hta,hh,hm,hmr,W_draw0,noBoxes]
    refine W_loopI s106_l0.eq_1 (fun q:Nat×List AV=>⟨[(1,.val (.int .i64 k)),(2,.fp 0 0),(5,.fp 1 0),(70,.val c.ins),(71,.val (.int .i64 (dNs c.ins).length)),(72,.val (.int .i64 q.1))],
      [[x.recs,x.globals,x.codes,x.sites,.int .i64 x.main],[.int .i64 c.params,c.vars,.bool true,.int .i64 c.res.b,.int .i64 c.res.r,.int .i64 c.res.d,c.ins],q.2],[]⟩)
     (fun q=>q.1<=(dNs c.ins).length/\upto (stepT x k) (dNs c.ins) q.1) (fun q=>(dNs c.ins).length-q.1) (0,[]) (by simp) ⟨by simp,upto_zero⟩ ?_
    rintro⟨j,bb⟩ ⟨hj,hp⟩ ih
    simp only at hj hp ih
    by_cases hlt:j<(dNs c.ins).length
    ·have hw:IntKind.i64.wrap ((j:Int)+1)=((j+1:Nat):Int):=by rw[wrap64]<;>omega
     have hg:=isNs_get hN _ (List.getElem_mem hlt)
     have hst:=step_ok 0 0 (x:=x) (k:Int) (i:=(dNs c.ins)[j]) [] hx hg.2 hg.1 hb
     have hgs:=isSl_I hg.2
     have hgv:=view_notOwn hg.1 hgs
     simp only[xAV,idAV]at hst
     cases e:stepT x k (dNs c.ins)[j] with
     |true=>
      simp[hs,hN,hNl,hlt,ID.cells,hgs,hgv,hst,e,hw]
      exact ih (j+1,_) ⟨by simp;omega,upto_succ hp hlt e⟩ (by simp;omega)
     |false=>
      have hf:=upto_not hlt e
      simp[hs,hN,hNl,hlt,ID.cells,hgs,hgv,hst,e,hf]
    ·have hjl:j=(dNs c.ins).length:=by omega
     have hf:=upto_all (hjl ▸ hp)
     obtain⟨m,hm1⟩:∃m,(dNs c.ins).length=m+1:=⟨(dNs c.ins).length-1,by have:=List.length_pos_iff.2 i0;omega⟩
     have hml:m<(dNs c.ins).length:=by omega
     have hw2:IntKind.i64.wrap (((dNs c.ins).length:Int)-1)=(m:Int):=by rw[wrap64]<;>omega
     have hla:=lastT_at hm1
     by_cases o1:(dNs c.ins)[m].op=16
     ·simp[hN,hNl,hlt,hf,hw2,hml,ID.cells,hla,o1]
     ·by_cases o2:(dNs c.ins)[m].op=17
      ·simp[hN,hNl,hlt,hf,hw2,hml,ID.cells,hla,o2]
      ·simp[hN,hNl,hlt,hf,hw2,hml,ID.cells,hla,o1,o2]
  |false=>
   cases ht0:teq c.res ⟨0,0,0⟩ with
   |false=>simp[s106,xAV,hs,hl,hC,hk,hcq,CD.cells,hTs,hTv,hTl,hNs,hNv,hNl,p0,p6,pv,v4,i0,hty,hta,hh,none_ok,ht0,W_draw0,noBoxes]
   |true=>
    simp[s106,xAV,hs,hl,hC,hk,hcq,CD.cells,hTs,hTv,hTl,hNs,hNv,hNl,p0,p6,pv,v4,i0,hty,hta,hh,none_ok,ht0,W_draw0,noBoxes]
    refine W_loopI s106_l0.eq_1 (fun q:Nat×List AV=>⟨[(1,.val (.int .i64 k)),(2,.fp 0 0),(5,.fp 1 0),(70,.val c.ins),(71,.val (.int .i64 (dNs c.ins).length)),(72,.val (.int .i64 q.1))],
      [[x.recs,x.globals,x.codes,x.sites,.int .i64 x.main],[.int .i64 c.params,c.vars,.bool false,.int .i64 c.res.b,.int .i64 c.res.r,.int .i64 c.res.d,c.ins],q.2],[]⟩)
     (fun q=>q.1<=(dNs c.ins).length/\upto (stepT x k) (dNs c.ins) q.1) (fun q=>(dNs c.ins).length-q.1) (0,[]) (by simp) ⟨by simp,upto_zero⟩ ?_
    rintro⟨j,bb⟩ ⟨hj,hp⟩ ih
    simp only at hj hp ih
    by_cases hlt:j<(dNs c.ins).length
    ·have hw:IntKind.i64.wrap ((j:Int)+1)=((j+1:Nat):Int):=by rw[wrap64]<;>omega
     have hg:=isNs_get hN _ (List.getElem_mem hlt)
     have hst:=step_ok 0 0 (x:=x) (k:Int) (i:=(dNs c.ins)[j]) [] hx hg.2 hg.1 hb
     have hgs:=isSl_I hg.2
     have hgv:=view_notOwn hg.1 hgs
     simp only[xAV,idAV]at hst
     cases e:stepT x k (dNs c.ins)[j] with
     |true=>
      simp[hs,hN,hNl,hlt,ID.cells,hgs,hgv,hst,e,hw]
      exact ih (j+1,_) ⟨by simp;omega,upto_succ hp hlt e⟩ (by simp;omega)
     |false=>
      have hf:=upto_not hlt e
      simp[hs,hN,hNl,hlt,ID.cells,hgs,hgv,hst,e,hf]
    ·have hjl:j=(dNs c.ins).length:=by omega
     have hf:=upto_all (hjl ▸ hp)
     obtain⟨m,hm1⟩:∃m,(dNs c.ins).length=m+1:=⟨(dNs c.ins).length-1,by have:=List.length_pos_iff.2 i0;omega⟩
     have hml:m<(dNs c.ins).length:=by omega
     have hw2:IntKind.i64.wrap (((dNs c.ins).length:Int)-1)=(m:Int):=by rw[wrap64]<;>omega
     have hla:=lastT_at hm1
     by_cases o1:(dNs c.ins)[m].op=16
     ·simp[hN,hNl,hlt,hf,hw2,hml,ID.cells,hla,o1]
     ·by_cases o2:(dNs c.ins)[m].op=17
      ·simp[hN,hNl,hlt,hf,hw2,hml,ID.cells,hla,o2]
      ·simp[hN,hNl,hlt,hf,hw2,hml,ID.cells,hla,o1,o2]
end U12
namespace U12
open Ax Go Code14z IrV
def codesB(x:XD):List CD->Int->Int->Bool
 |[],_,_=>true
 |c::l,f,n=>decide (¬2500<n+(dNs c.ins).length)&&codeT x f c&&codesB x l (f+1) (n+(dNs c.ins).length)
theorem codes_ok(wl lim:Nat){x:XD}(st:Store)(hx:x.ok)(hn:(dCs x.codes).length<1000000000)(hb:∀g∈dCs x.codes,(dTs g.vars).length<1000000000)(hb2:∀g∈dCs x.codes,(dNs g.ins).length<1000000000) :
  (orcL S).call wl lim 49 [xAV x] st=some (.bool (codesB x (dCs x.codes) 0 0),st):=by
 have hs:=hx.sl
 have hC:=hx.codes
 have hl:=rowsL_C hx.codes
 refine call_pure (sf:=s49) rfl rfl (by simp[hx.pure]) rfl (by simp) ?_
 simp[s49,xAV,hs,hl]
 refine W_loopI s49_l0.eq_1 (fun q:Nat×Int×List AV=>⟨[(1,.fp 0 0),(3,.val (.int .i64 q.2.1)),(7,.val x.codes),(8,.val (.int .i64 (dCs x.codes).length)),(9,.val (.int .i64 q.1))],[[x.recs,x.globals,x.codes,x.sites,.int .i64 x.main],q.2.2],[]⟩)
  (fun q=>q.1<=(dCs x.codes).length/\0<=q.2.1/\q.2.1<=2500/\codesB x (dCs x.codes) 0 0=codesB x ((dCs x.codes).drop q.1) q.1 q.2.1) (fun q=>(dCs x.codes).length-q.1) (0,0,[]) (by simp) ⟨by simp,by simp,by simp,by simp⟩ ?_
 rintro⟨k,n,bb⟩ ⟨hk,hn0,hn1,hp⟩ ih
 simp only at hk hn0 hn1 hp ih
 by_cases hlt:k<(dCs x.codes).length
 ·have hw:IntKind.i64.wrap ((k:Int)+1)=((k+1:Nat):Int):=by rw[wrap64]<;>omega
  have hcm:=isCs_get hC _ (List.getElem_mem hlt)
  have hbn:=hb2 _ (List.getElem_mem hlt)
  have hcode:=code_ok 0 0 (x:=x) k hlt [] hx hb hb2
  simp only[xAV]at hcode
  rw[List.drop_eq_getElem_cons hlt]at hp
  simp only[codesB]at hp
  have hTs:=isSl_T hcm.1
  have hTv:=isTs_vw hcm.1
  have hNs:=isSl_N hcm.2
  have hNv:=isNs_vw hcm.2
  have hNl:=rowsL_N hcm.2
  generalize hcq:(dCs x.codes)[k]=c at *
  have hw2:IntKind.i64.wrap (n+((dNs c.ins).length:Int))=n+((dNs c.ins).length:Int):=by rw[wrap64]<;>omega
  by_cases g:2500<n+((dNs c.ins).length:Int)
  ·simp[hs,hl,hC,hlt,hcq,CD.cells,hTs,hTv,hNs,hNv,hNl,hw2,g,hp]
  ·cases e:codeT x k c with
   |false=>simp[hs,hl,hC,hlt,hcq,CD.cells,hTs,hTv,hNs,hNv,hNl,hw2,g,hp,hcode,e]
   |true=>
    simp[hs,hl,hC,hlt,hcq,CD.cells,hTs,hTv,hNs,hNv,hNl,hw2,g,hcode,e,hw]
    refine ih (k+1,n+((dNs c.ins).length:Int),_) ⟨by simp;omega,by simp;omega,by simp;omega,?_⟩ (by simp;omega)
    rw[hp,e]
    simp[g]
 ·have hkl:k=(dCs x.codes).length:=by omega
  rw[hkl,List.drop_length]at hp
  simp only[codesB]at hp
  simp[hlt,hp]
def rightT(x:XD):Bool:=decide (¬12<((dRs x.recs).length:Int))&&decide (¬8<((dTs x.globals).length:Int))&&decide (¬dCs x.codes=[])&&decide (¬16<((dCs x.codes).length:Int)) &&
 decide (¬60<((dSs x.sites).length:Int))&&(match getZ (dCs x.codes) x.main with
  |none=>false
  |some m=>decide (m.params=0) && !m.has)&&(dRs x.recs).all (recT (nr x))&&(dTs x.globals).all (mayT (nr x))&&(dSs x.sites).all (siteT (nr x) (dCs x.codes).length)&&codesB x (dCs x.codes) 0 0
theorem right_ok(wl lim:Nat){x:XD}(st:Store)(hx:x.ok)(hb:∀g∈dCs x.codes,(dTs g.vars).length<1000000000)(hb2:∀g∈dCs x.codes,(dNs g.ins).length<1000000000) :
  (orcL S).call wl lim 17 [xAV x] st=some (.bool (rightT x),st):=by
 have hs:=hx.sl
 have hC:=hx.codes
 have hl:rowsL x.recs=(dRs x.recs).map RD.cells/\rowsL x.globals=(dTs x.globals).map T3.cells/\rowsL x.codes=(dCs x.codes).map CD.cells/\rowsL x.sites=(dSs x.sites).map SD.cells:=
  ⟨rowsL_R hx.recs,rowsL_T hx.globals,rowsL_C hx.codes,rowsL_S hx.sites⟩
 refine call_pure (sf:=s17) rfl rfl (by simp[hx.pure]) rfl (by simp) ?_
 unfold rightT
 by_cases a1:12<((dRs x.recs).length:Int)
 ·simp[s17,xAV,hs,hl,a1]
 by_cases a2:8<((dTs x.globals).length:Int)
 ·simp[s17,xAV,hs,hl,a1,a2]
 by_cases a3:dCs x.codes=[]
 ·simp[s17,xAV,hs,hl,a1,a2,a3]
 by_cases a4:16<((dCs x.codes).length:Int)
 ·simp[s17,xAV,hs,hl,a1,a2,a3,a4]
 by_cases a5:60<((dSs x.sites).length:Int)
 ·simp[s17,xAV,hs,hl,a1,a2,a3,a4,a5]
 cases hg:getZ (dCs x.codes) x.main with
 |none=>
  rcases getZ_none hg with h0|⟨h0,h1⟩
  ·simp[s17,xAV,hs,hl,a1,a2,a3,a4,a5,h0]
  ·have h0':¬x.main<0:=by omega
   simp[s17,xAV,hs,hl,a1,a2,a3,a4,a5,h0',h1]
 |some m=>
  obtain⟨k,hk,hkl,hq⟩:=getZ_some hg
  have h0':¬(k:Int)<0:=by omega
  have h1':¬((dCs x.codes).length:Int)<=(k:Int):=by omega
  have hcm:=isCs_get hC m (hq ▸ List.getElem_mem hkl)
  have hTs:=isSl_T hcm.1
  have hTv:=isTs_vw hcm.1
  have hNs:=isSl_N hcm.2
  have hNv:=isNs_vw hcm.2
  have e1:=shapes_ok 0 0 [] hx (by omega)
  have e2:=types_ok 0 0 (x:=x) x.globals [] hx hx.globals (by omega)
  have e3:=sites_ok 0 0 [] hx (by omega)
  have e4:=codes_ok 0 0 [] hx (by omega) hb hb2
  simp only[xAV,hk]at e1 e2 e3 e4
  by_cases p0:m.params=0
  ·cases p1:m.has with
   |true=>simp[s17,xAV,hs,hl,hC,a1,a2,a3,a4,a5,hk,hkl,h0',h1',hq,CD.cells,hTs,hTv,hNs,hNv,p0,p1]
   |false=>
    cases q1:(dRs x.recs).all (recT (nr x)) with
    |false=>simp[s17,xAV,hs,hl,hC,a1,a2,a3,a4,a5,hk,hkl,h0',h1',hq,CD.cells,hTs,hTv,hNs,hNv,p0,p1,e1,q1]
    |true=>
     cases q2:(dTs x.globals).all (mayT (nr x)) with
     |false=>simp[s17,xAV,hs,hl,hC,a1,a2,a3,a4,a5,hk,hkl,h0',h1',hq,CD.cells,hTs,hTv,hNs,hNv,p0,p1,e1,q1,e2,q2]
     |true=>
      cases q3:(dSs x.sites).all (siteT (nr x) (dCs x.codes).length) with
      |false=>simp[s17,xAV,hs,hl,hC,a1,a2,a3,a4,a5,hk,hkl,h0',h1',hq,CD.cells,hTs,hTv,hNs,hNv,p0,p1,e1,q1,e2,q2,e3,q3]
      |true=>simp[s17,xAV,hs,hl,hC,a1,a2,a3,a4,a5,hk,hkl,h0',h1',hq,CD.cells,hTs,hTv,hNs,hNv,p0,p1,e1,q1,e2,q2,e3,q3,e4]
  ·simp[s17,xAV,hs,hl,hC,a1,a2,a3,a4,a5,hk,hkl,h0',h1',hq,CD.cells,hTs,hTv,hNs,hNv,p0]
end U12
namespace U12
open Ax Go Code14z IrV
theorem inR_S{v:AV}(h:isSs v=true):∀s∈dSs v,inR s.t.d=true:=by
 intro r hr
 obtain⟨x,hx,rfl⟩:=List.mem_map.1 hr
 have:=isRows_all h x hx
 unfold sdRow at this
 unfold dS
 split at this
 ·simp only[Bool.and_eq_true]at this;exact this.2
 ·cases this
def fts(x:XD)(r:Nat)(n:Nat):List (List AV):=(((dRs x.recs)[r]?.map fun q=>dFs q.fields).getD []).take n |>.map fun f=>f.t.cells
theorem fts_at{x:XD}{r n:Nat}(h:r<(dRs x.recs).length):fts x r n=((dFs (dRs x.recs)[r].fields).take n).map fun f=>f.t.cells:=by
 simp[fts,h]
def cellsV(x:XD)(k:Nat):AV:=match (dSs x.sites)[k]? with
 |none=>.nilSl
 |some s=>if 0<s.t.d then .lst 3 [[.int .i64 s.t.b,.int .i64 s.t.r,.int .i64 (s.t.d-1)]] else mkL 3 (fts x s.t.r.toNat 1000000000)
def cellsT(x:XD)(n:Int):AV:=if rightT x=true/\0<=n/\n<((dSs x.sites).length:Int) then cellsV x n.toNat else .nilSl
theorem cellsT_l(x:XD)(n:Int):∃l:List T3,isSz 3 (cellsT x n)=true/\rowsL (cellsT x n)=l.map T3.cells:=by
 unfold cellsT
 split
 ·unfold cellsV
  split
  ·exact⟨[],rfl,rfl⟩
  ·rename_i s _
   split
   ·exact⟨[⟨s.t.b,s.t.r,s.t.d-1⟩],rfl,rfl⟩
   ·refine⟨(((dRs x.recs)[s.t.r.toNat]?.map fun q=>dFs q.fields).getD []).take 1000000000 |>.map fun f=>f.t,?_,?_⟩
    ·rw[isSz_mk]
     refine List.all_eq_true.2 fun r hr=>?_
     obtain⟨f,_,rfl⟩:=List.mem_map.1 hr
     rfl
    ·rw[rowsL_mk]
     simp only[fts,List.map_map]
     rfl
 ·exact⟨[],rfl,rfl⟩
theorem site_rec{x:XD}(hr:rightT x=true){k:Nat}(hk:k<(dSs x.sites).length)(h0:¬0<(dSs x.sites)[k].t.d):∃r:Nat,(dSs x.sites)[k].t.r=r/\r<(dRs x.recs).length:=by
 simp only[rightT,Bool.and_eq_true]at hr
 have h:=List.all_eq_true.1 hr.1.2 _ (List.getElem_mem hk)
 simp only[siteT,Bool.and_eq_true,mayT,refT,Bool.or_eq_true,decide_eq_true_eq]at h
 obtain⟨⟨⟨⟨_,h2⟩,h3⟩,_⟩,_⟩:=h
 have hb:(dSs x.sites)[k].t.b=3:=by
  rcases h3 with h3|h3
  ·exact h3
  ·exact absurd h3 h0
 rw[if_neg (by omega)]at h2
 simp only[Bool.and_eq_true,decide_eq_true_eq,nr]at h2
 obtain⟨⟨_,h4⟩,h5⟩:=h2
 exact⟨(dSs x.sites)[k].t.r.toNat,by omega,by omega⟩
theorem recs_few{x:XD}(hr:rightT x=true):∀r∈dRs x.recs,(dFs r.fields).length<100:=by
 simp only[rightT,Bool.and_eq_true]at hr
 intro r h
 have:=List.all_eq_true.1 hr.1.1.1.2 r h
 simp only[recT,Bool.and_eq_true,decide_eq_true_eq]at this
 omega
section
variable {x:XD}(hx:x.ok)(hb:∀g∈dCs x.codes,(dTs g.vars).length<1000000000)(hb2:∀g∈dCs x.codes,(dNs g.ins).length<1000000000)
include hx hb hb2
theorem cells_ok(wl lim:Nat)(n:Int)(st:Store):(orcL S).call wl lim 20 [xAV x,.int .i64 n] st=some (cellsT x n,st):=by
 have hs:=hx.sl
 have hS:=hx.sites
 have hR:=hx.recs
 have hl:rowsL x.recs=(dRs x.recs).map RD.cells/\rowsL x.sites=(dSs x.sites).map SD.cells:=⟨rowsL_R hx.recs,rowsL_S hx.sites⟩
 have e1:=right_ok 0 0 [] hx hb hb2
 simp only[xAV]at e1
 refine call_pure (sf:=s20) rfl rfl (by simp[hx.pure]) rfl (by obtain⟨l,h,_⟩:=cellsT_l x n;simp[isSl_sz h]) ?_
 cases er:rightT x with
 |false=>simp[s20,xAV,hs,e1,er,cellsT]
 |true=>
  by_cases h0:n<0
  ·have h0':¬0<=n:=by omega
   simp[s20,xAV,hs,e1,er,cellsT,h0,h0']
  obtain⟨k,rfl⟩:∃k:Nat,n=k:=⟨n.toNat,by omega⟩
  by_cases hk:k<(dSs x.sites).length
  ·have hk':¬((dSs x.sites).length:Int)<=(k:Int):=by omega
   have hd:=inR_S hS _ (List.getElem_mem hk)
   by_cases d0:0<(dSs x.sites)[k].t.d
   ·have hw:IntKind.i64.wrap ((dSs x.sites)[k].t.d-1)=(dSs x.sites)[k].t.d-1:=by
     simp only[inR,Bool.and_eq_true,decide_eq_true_eq]at hd
     rw[wrap64]<;>omega
    simp[s20,xAV,hs,hl,hS,e1,er,cellsT,cellsV,h0,hk,hk',SD.cells,d0,hw]
   ·obtain⟨r,hr,hrl⟩:=site_rec er hk d0
    have hF:=isRs_get hR _ (List.getElem_mem hrl)
    have hFs:=isSl_F hF
    have hFv:=isFs_vw hF
    have hFl:=rowsL_F hF
    have hFn:=recs_few er _ (List.getElem_mem hrl)
    have ev:cellsT x (k:Int)=mkL 3 (fts x r 1000000000):=by simp[cellsT,er,hk,cellsV,d0,hr]
    rw[ev]
    simp[s20,xAV,hs,hl,hS,hR,e1,er,h0,hk,hk',SD.cells,RD.cells,d0,hr,hrl,hFs,hFv,hFl]
    refine W_loopI s20_l0.eq_1 (fun q:Nat×List AV=>⟨[(6,.val (mkL 3 (fts x r q.1))),(44,.val (dRs x.recs)[r].fields),(45,.val (.int .i64 (dFs (dRs x.recs)[r].fields).length)),(46,.val (.int .i64 q.1))],
      [[x.recs,x.globals,x.codes,x.sites,.int .i64 x.main],[.int .i64 (dSs x.sites)[k].t.b,.int .i64 r,.int .i64 (dSs x.sites)[k].t.d],q.2],[]⟩)
     (fun q=>q.1<=(dFs (dRs x.recs)[r].fields).length) (fun q=>(dFs (dRs x.recs)[r].fields).length-q.1) (0,[]) (by simp[fts,mkL_nil]) (by simp) ?_
    rintro⟨j,bb⟩ hj ih
    simp only at hj ih
    by_cases hjl:j<(dFs (dRs x.recs)[r].fields).length
    ·have hw:IntKind.i64.wrap ((j:Int)+1)=((j+1:Nat):Int):=by rw[wrap64]<;>omega
     have ha:appV 3 24 (mkL 3 (fts x r j)) [(dFs (dRs x.recs)[r].fields)[j].t.cells]=some (mkL 3 (fts x r (j+1))):=by
      rw[appV_mk (by rfl) (by simp[room,fts_at hrl];omega)]
      rw[fts_at hrl,fts_at hrl,List.take_succ_eq_append_getElem hjl,List.map_append]
      rfl
     simp only[T3.cells]at ha
     simp[hF,hFl,hjl,FD.cells,ha,hw]
     exact ih (j+1,_) (by simp;omega) (by simp;omega)
    ·have hjk:j=(dFs (dRs x.recs)[r].fields).length:=by omega
     have e:fts x r 1000000000=fts x r j:=by
      rw[fts_at hrl,fts_at hrl,List.take_of_length_le (by omega),List.take_of_length_le (by omega)]
     rw[e]
     simp[hjl]
  ·have hk':((dSs x.sites).length:Int)<=(k:Int):=by omega
   simp[s20,xAV,hs,hl,e1,er,cellsT,h0,hk,hk']
end
end U12
namespace U12
open Ax Go Code14z IrV
def nope{α:Type}(p:α->Bool)(l:List α)(k:Nat):Prop:=∀j (h:j<l.length),j<k->p l[j]=false
theorem nope_zero{α:Type}{p:α->Bool}{l:List α}:nope p l 0:=fun _ _ h=>absurd h (by omega)
theorem nope_succ{α:Type}{p:α->Bool}{l:List α}{k:Nat}(h:nope p l k)(h1:k<l.length)(hp:p l[k]=false):nope p l (k+1):=by
 intro j j1 hj
 rcases Nat.lt_or_ge j k with hjk|hjk
 ·exact h j j1 hjk
 ·have:j=k:=by omega
  subst this;exact hp
theorem nope_all{α:Type}{p:α->Bool}{l:List α}(h:nope p l l.length):l.any p=false:=by
 rw[List.any_eq_false]
 intro q hq
 obtain⟨j,hj,rfl⟩:=List.mem_iff_getElem.1 hq
 simp[h j hj hj]
theorem nope_any{α:Type}{p:α->Bool}{l:List α}{k:Nat}(h1:k<l.length)(hp:p l[k]=true):l.any p=true:=
 List.any_eq_true.2 ⟨_,List.getElem_mem h1,hp⟩
def gC(c:CD):Bool:=decide (500<(dTs c.vars).length)||decide (500<(dNs c.ins).length)
def greatT(x:XD):Bool:=decide (20<(dRs x.recs).length)||decide (20<(dTs x.globals).length)||decide (20<(dCs x.codes).length)||decide (80<(dSs x.sites).length)||(dCs x.codes).any gC
theorem great_ok(wl lim:Nat){x:XD}(st:Store)(hx:x.ok) :
  (orcL S).call wl lim 6 [xAV x] st=some (.bool (greatT x),st):=by
 have hs:=hx.sl
 have hC:=hx.codes
 have hl:rowsL x.recs=(dRs x.recs).map RD.cells/\rowsL x.globals=(dTs x.globals).map T3.cells/\rowsL x.codes=(dCs x.codes).map CD.cells/\rowsL x.sites=(dSs x.sites).map SD.cells:=
  ⟨rowsL_R hx.recs,rowsL_T hx.globals,rowsL_C hx.codes,rowsL_S hx.sites⟩
 refine call_pure (sf:=s6) rfl rfl (by simp[hx.pure]) rfl (by simp) ?_
 unfold greatT
 by_cases a1:20<(dRs x.recs).length
 ·have b1:(20:Int)<((dRs x.recs).length:Int):=by omega
  simp[s6,xAV,hs,hl,a1,b1]
 by_cases a2:20<(dTs x.globals).length
 ·have b1:¬(20:Int)<((dRs x.recs).length:Int):=by omega
  have b2:(20:Int)<((dTs x.globals).length:Int):=by omega
  simp[s6,xAV,hs,hl,a1,b1,a2,b2]
 by_cases a3:20<(dCs x.codes).length
 ·have b1:¬(20:Int)<((dRs x.recs).length:Int):=by omega
  have b2:¬(20:Int)<((dTs x.globals).length:Int):=by omega
  have b3:(20:Int)<((dCs x.codes).length:Int):=by omega
  simp[s6,xAV,hs,hl,a1,b1,a2,b2,a3,b3]
 by_cases a4:80<(dSs x.sites).length
 ·have b1:¬(20:Int)<((dRs x.recs).length:Int):=by omega
  have b2:¬(20:Int)<((dTs x.globals).length:Int):=by omega
  have b3:¬(20:Int)<((dCs x.codes).length:Int):=by omega
  have b4:(80:Int)<((dSs x.sites).length:Int):=by omega
  simp[s6,xAV,hs,hl,a1,b1,a2,b2,a3,b3,a4,b4]
 have b1:¬(20:Int)<((dRs x.recs).length:Int):=by omega
 have b2:¬(20:Int)<((dTs x.globals).length:Int):=by omega
 have b3:¬(20:Int)<((dCs x.codes).length:Int):=by omega
 have b4:¬(80:Int)<((dSs x.sites).length:Int):=by omega
 simp[s6,xAV,hs,hl,a1,b1,a2,b2,a3,b3,a4,b4]
 refine W_loopI s6_l0.eq_1 (fun k:Nat=>⟨[(1,.fp 0 0),(3,.val (.int .i64 k))],[[x.recs,x.globals,x.codes,x.sites,.int .i64 x.main]],[]⟩)
  (fun k=>k<=(dCs x.codes).length/\nope gC (dCs x.codes) k) (fun k=>(dCs x.codes).length-k) 0 (by simp) ⟨by omega,nope_zero⟩ ?_
 intro k ⟨hk,hp⟩ ih
 by_cases hlt:k<(dCs x.codes).length
 ·have hw:IntKind.i64.wrap ((k:Int)+1)=((k+1:Nat):Int):=by rw[wrap64]<;>omega
  have hF:=isCs_get hC _ (List.getElem_mem hlt)
  have hFs:=isSl_T hF.1
  have hFv:=isTs_vw hF.1
  have hFl:=rowsL_T hF.1
  have hGs:=isSl_N hF.2
  have hGv:=isNs_vw hF.2
  have hGl:=rowsL_N hF.2
  by_cases g:500<(dTs (dCs x.codes)[k].vars).length
  ·have g':(500:Int)<((dTs (dCs x.codes)[k].vars).length:Int):=by omega
   have hf:=nope_any (p:=gC) hlt (by simp[gC,g])
   simp[hs,hl,hlt,hC,CD.cells,hF,hFv,hFl,g',hf]
  ·have g':¬(500:Int)<((dTs (dCs x.codes)[k].vars).length:Int):=by omega
   by_cases r:500<(dNs (dCs x.codes)[k].ins).length
   ·have r':(500:Int)<((dNs (dCs x.codes)[k].ins).length:Int):=by omega
    have hf:=nope_any (p:=gC) hlt (by simp[gC,r])
    simp[hs,hl,hlt,hC,CD.cells,hF,hFv,hFl,hGv,hGl,g',r',hf]
   ·have r':¬(500:Int)<((dNs (dCs x.codes)[k].ins).length:Int):=by omega
    simp[hs,hl,hlt,hC,CD.cells,hF,hFv,hFl,hGv,hGl,g',r',hw]
    exact ih (k+1) ⟨by omega,nope_succ hp hlt (by simp[gC,g,r])⟩ (by omega)
 have hkl:k=(dCs x.codes).length:=by omega
 have hf:=nope_all (hkl ▸ hp)
 simp[hs,hl,hlt,hf]
theorem great_few{x:XD}(h:greatT x=false):(dCs x.codes).length<=20/\(dTs x.globals).length<=20/\(dSs x.sites).length<=80/\(∀g∈dCs x.codes,(dTs g.vars).length<=500)/\∀g∈dCs x.codes,(dNs g.ins).length<=500:=by
 simp only[greatT,Bool.or_eq_false_iff,decide_eq_false_iff_not,List.any_eq_false,gC,Bool.or_eq_true,decide_eq_true_eq,not_or]at h
 obtain⟨⟨⟨⟨h1,h2⟩,h3⟩,h4⟩,h5⟩:=h
 exact⟨by omega,by omega,by omega,fun g hg=>by have:=(h5 g hg).1;omega,fun g hg=>by have:=(h5 g hg).2;omega⟩
end U12
