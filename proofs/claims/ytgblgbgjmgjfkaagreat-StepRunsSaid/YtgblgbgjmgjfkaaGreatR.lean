/- Part of a proof. -/
import Derived.Test.YtgblgbgjmgjfkaaGreatQ
import Derived.Test.YtgblgbgjmgjfkaaGreatJ

set_option maxRecDepth 100000
set_option maxHeartbeats 8000000
namespace U12
open Ax Go Code14z IrV
theorem bare_named(i:ID)(h:1<=i.op/\i.op<=20):bareT i=namedT i:=by
 have hh:i.op=1\/i.op=2\/i.op=3\/i.op=4\/i.op=5\/i.op=6\/i.op=7\/i.op=8\/i.op=9\/i.op=10\/i.op=11\/i.op=12\/i.op=13\/i.op=14\/i.op=15\/i.op=16\/i.op=17\/i.op=18\/i.op=19\/i.op=20:=by omega
 rcases hh with h|h|h|h|h|h|h|h|h|h|h|h|h|h|h|h|h|h|h|h<;>simp[bareT,namedT,onlyT,nmT,h]
theorem bare_out(i:ID)(h:¬(1<=i.op/\i.op<=20)):bareT i=false:=by
 unfold bareT
 repeat' rw[if_neg (by omega)]
theorem body_out(x:XD)(f:Int)(c:CD)(i:ID)(a b d:T3)(h:¬(1<=i.op/\i.op<=20)):bodyR x f c i a b d=false:=by
 unfold bodyR
 repeat' rw[if_neg (by omega)]
theorem isT1(vs:List T3)(t:T3)(a:Int):isT vs t [a]=(!teq (ofT vs a) ⟨0,0,0⟩&&teq (ofT vs a) t):=by
 simp only[isT,teq_eq,List.all_cons,List.all_nil,Bool.and_true]
 by_cases h:ofT vs a=t
 ·simp[h]
 ·simp[h]
theorem teq_z(t u:T3)(hu:teq u ⟨0,0,0⟩=false):(!teq t ⟨0,0,0⟩&&teq t u)=teq t u:=by
 cases e:teq t u with
 |false=>simp
 |true=>
  rw[teq_eq]at e
  have:=of_decide_eq_true e
  subst this
  simp[hu]
theorem isTi(vs:List T3)(a:Int):isT vs tInt [a]=teq (ofT vs a) ⟨1,0,0⟩:=by
 rw[isT1]
 exact teq_z _ _ rfl
theorem isTb(vs:List T3)(a:Int):isT vs tBool [a]=teq (ofT vs a) ⟨2,0,0⟩:=by
 rw[isT1]
 exact teq_z _ _ rfl
theorem isTcons(vs:List T3)(t:T3)(a b:Int)(l:List Int):isT vs t (a::b::l)=(isT vs t [a]&&isT vs t (b::l)):=by
 simp only[isT,List.all_cons,List.all_nil,Bool.and_true]
 cases decide (ofT vs a=t)<;>cases decide (t≠T0)<;>simp
theorem two_eq(vs:List T3)(i:ID):twoT vs i=binR i.n (ofT vs i.a) (ofT vs i.b) (ofT vs i.c):=by
 unfold twoT binR
 split
 ·simp only[isTcons,isTi,Bool.and_assoc]
 split
 ·simp only[isTcons,isTi,isTb,Bool.and_assoc]
 split
 ·rw[isTb,isT1]
  simp only[teq_eq]
  by_cases h:ofT vs i.c=ofT vs i.b
  ·simp[h]
  ·have h':¬ofT vs i.b=ofT vs i.c:=fun e=>h e.symm
   simp[h,h']
 split
 ·simp only[isTcons,isTb,Bool.and_assoc]
 rfl
theorem fld_eq(rs:List RD)(vs:List T3)(a k v:Int):fldT rs vs a k v=(!teq (ofT vs v) ⟨0,0,0⟩&&teq (ofT vs v) (fldR rs (ofT vs a) k)):=by
 unfold fldT fldR
 have hz:∀t:T3,(!teq t ⟨0,0,0⟩&&teq t T0)=false:=by intro t;simp
 by_cases hb:(ofT vs a).b=3
 ·by_cases hd:(ofT vs a).d=0
  ·simp only[hb,hd,decide_true,Bool.true_and,and_self,if_true]
   cases getZ rs (ofT vs a).r with
   |none=>
    dsimp only
    exact(hz _).symm
   |some r=>
    dsimp only
    cases getZ (dFs r.fields) k with
    |none=>exact(hz _).symm
    |some fd=>exact isT1 _ _ _
  ·simp[hb,hd,hz]
 ·simp[hb,hz]
theorem arr_eq(vs:List T3)(a item:Int):arrT vs a item=(decide (0<(ofT vs a).d)&&(!teq (ofT vs item) ⟨0,0,0⟩&&teq (ofT vs item) ⟨(ofT vs a).b,(ofT vs a).r,(ofT vs a).d-1⟩)):=by
 unfold arrT
 rw[isT1]
theorem all_eq(ss:List SD)(f:Int)(vs:List T3)(n a:Int):sitT ss f vs n a=(!teq (ofT vs a) ⟨0,0,0⟩&&allR ss f n (ofT vs a)):=by
 unfold sitT allR
 cases getZ ss n with
 |none=>simp
 |some s=>
  simp only[isT1,teq_eq]
  by_cases h:ofT vs a=s.t
  ·simp[h,Bool.and_comm]
  ·have h':¬s.t=ofT vs a:=fun e=>h e.symm
   simp[h,h']
theorem cal_eq(cs:List CD)(vs:List T3)(i:ID):calT cs vs i=calR cs vs i:=by
 unfold calT calR
 cases getZ cs i.c with
 |none=>rfl
 |some g=>
  simp only[calG,clgR,isT1]
  have e:(fun p:Int×T3=>!teq (ofT vs p.1) ⟨0,0,0⟩&&teq (ofT vs p.1) p.2)=fun p=>argR vs p.1 p.2:=rfl
  rw[e]
  have e2:(!teq (ofT vs i.a) ⟨0,0,0⟩&&teq (ofT vs i.a) g.res)=argR vs i.a g.res:=rfl
  rw[e2]
  by_cases hp:((dI i.args).length:Int)=g.params
  ·have h0:¬g.params<0:=by omega
   simp[hp,h0]
  ·simp[hp]
theorem glo_eq(gs vs:List T3)(n a:Int):gloT gs vs n a=(!teq (ofT vs a) ⟨0,0,0⟩&&(match getZ gs n with|some t=>teq (ofT vs a) t|none=>false)):=by
 unfold gloT
 cases getZ gs n with
 |none=>simp
 |some t=>simp only[isT1]
theorem fits_body(x:XD)(f:Int)(c:CD)(i:ID)(h:1<=i.op/\i.op<=20) :
  fitsT x f c i=bodyR x f c i (ofT (dTs c.vars) i.a) (ofT (dTs c.vars) i.b) (ofT (dTs c.vars) i.c):=by
 have hh:i.op=1\/i.op=2\/i.op=3\/i.op=4\/i.op=5\/i.op=6\/i.op=7\/i.op=8\/i.op=9\/i.op=10\/i.op=11\/i.op=12\/i.op=13\/i.op=14\/i.op=15\/i.op=16\/i.op=17\/i.op=18\/i.op=19\/i.op=20:=by omega
 unfold fitsT bodyR goesT
 rcases hh with h|h|h|h|h|h|h|h|h|h|h|h|h|h|h|h|h|h|h|h<;>simp[h]
 all_goals try simp only[isTcons,isTi,isTb,two_eq,fld_eq,arr_eq,all_eq,cal_eq,glo_eq,plcT]
 ·intro hr
  cases e:teq (ofT (dTs c.vars) i.a) ⟨0,0,0⟩ with
  |false=>rfl
  |true=>
   rw[teq_eq]at e
   rw[of_decide_eq_true e]at hr
   exact absurd hr (by decide)
 ·rw[isT1,teq_eq,teq_eq,teq_eq,teq_eq]
  by_cases e:ofT (dTs c.vars) i.a=ofT (dTs c.vars) i.b
  ·simp[e]
  ·have e':¬ofT (dTs c.vars) i.b=ofT (dTs c.vars) i.a:=fun q=>e q.symm
   simp[e,e']
 ·simp only[Bool.and_assoc]
 ·ac_rfl
 ·ac_rfl
 ·ac_rfl
 ·by_cases e:0<(ofT (dTs c.vars) i.a).d
  ·have e1:teq (ofT (dTs c.vars) i.a) ⟨0,0,0⟩=false:=by
    rw[teq_eq]
    refine decide_eq_false fun q=>?_
    rw[q]at e
    exact absurd e (by decide)
   simp[e,e1,Bool.and_comm]
  ·simp[e]
 ·simp only[Bool.and_assoc]
 ·split
  ·exact isT1 _ _ _
  ·rfl
 all_goals rfl
theorem step_eq(x:XD)(f:Int)(i:ID):stepT x f i=stepR x f i:=by
 unfold stepT stepR
 cases getZ (dCs x.codes) f with
 |none=>rfl
 |some c=>
  dsimp only
  by_cases h:1<=i.op/\i.op<=20
  ·rw[bare_named i h,fits_body x f c i h]
  ·rw[bare_out i h,body_out x f c i _ _ _ h]
   simp
end U12
namespace U12
open Ax Go Code14z IrV
theorem rmay_ok(wl lim:Nat){x:XD}(t:T3)(st:Store)(hx:x.ok) :
  (orcL S).call wl lim 43 [xAV x,.agg [.int .i64 t.b,.int .i64 t.r,.int .i64 t.d]] st=some (.bool (mayT (dRs x.recs).length t),st):=by
 have hs:=hx.sl
 have hl:=rowsL_R hx.recs
 refine call_pure (sf:=s43) rfl rfl (by simp[hx.pure]) rfl (by simp) ?_
 unfold mayT
 by_cases d0:t.d<0
 ·simp[s43,xAV,hs,d0]
 by_cases d3:3<t.d
 ·simp[s43,xAV,hs,d0,d3]
 by_cases b1:t.b=1
 ·simp[s43,xAV,hs,d0,d3,b1]
 by_cases b2:t.b=2
 ·simp[s43,xAV,hs,d0,d3,b2]
 by_cases b3:t.b=3
 ·by_cases r0:0<=t.r
  ·simp[s43,xAV,hs,hl,d0,d3,b3,r0]
  ·simp[s43,xAV,hs,d0,d3,b3,r0]
 ·simp[s43,xAV,hs,d0,d3,b1,b2,b3]
theorem rtypes_ok(wl lim:Nat){x:XD}(l:AV)(st:Store)(hx:x.ok)(hT:isTs l=true)(hn:(dTs l).length<1000000000) :
  (orcL S).call wl lim 42 [xAV x,l] st=some (.bool ((dTs l).all (mayT (dRs x.recs).length)),st):=by
 have hs:=hx.sl
 have hTs:=isSl_T hT
 have hTv:=isTs_vw hT
 have hm:=fun t=>rmay_ok 0 0 (x:=x) t [] hx
 simp only[xAV]at hm
 refine call_pure (sf:=s42) rfl rfl (by simp[hx.pure,pure_sl hTs]) rfl (by simp) ?_
 simp[s42,xAV,hs]
 refine W_loopI s42_l0.eq_1 (fun k:Nat=>⟨[(1,.val l),(2,.fp 0 0),(5,.val (.int .i64 k))],[[x.recs,x.globals,x.codes,x.sites,.int .i64 x.main]],[]⟩)
  (fun k=>k<=(dTs l).length/\upto (mayT (dRs x.recs).length) (dTs l) k) (fun k=>(dTs l).length-k) 0 (by simp) ⟨by simp,upto_zero⟩ ?_
 intro k ⟨hk,hp⟩ ih
 by_cases hlt:k<(dTs l).length
 ·have hw:IntKind.i64.wrap ((k:Int)+1)=((k+1:Nat):Int):=by rw[wrap64]<;>omega
  have hc:=hm (dTs l)[k]
  cases e:mayT (dRs x.recs).length (dTs l)[k] with
  |true=>
   simp[hs,hTv,hT,rowsL_T hT,hlt,hc,e,hw,W_draw0,noBoxes]
   exact ih (k+1) ⟨by omega,upto_succ hp hlt e⟩ (by omega)
  |false=>
   have hf:=upto_not hlt e
   simp[hs,hTv,hT,rowsL_T hT,hlt,hc,e,hf,W_draw0,noBoxes]
 ·have hkl:k=(dTs l).length:=by omega
  have hf:=upto_all (hkl ▸ hp)
  simp[hTs,hTv,rowsL_T hT,hlt,hf]
def ckR(x:XD):List CD->Int->Bool
 |[],_=>true
 |c::l,n=>decide (¬4000<((dTs c.vars).length:Int))&&decide (¬c.params<0)&&decide (¬6<c.params)&&decide (¬((dTs c.vars).length:Int)<c.params)&&(dTs c.vars).all (mayT (nr x)) &&
  decide (¬dNs c.ins=[])&&decide (¬2500<n+(dNs c.ins).length)&&(if c.has then mayT (nr x) c.res else teq c.res ⟨0,0,0⟩)&&ckR x l (n+(dNs c.ins).length)
def stR(x:XD):List CD->Int->Bool
 |[],_=>true
 |c::l,f=>(dNs c.ins).all (stepR x f)&&lastT (dNs c.ins)&&stR x l (f+1)
def rightR(x:XD):Bool:=decide (¬12<((dRs x.recs).length:Int))&&decide (¬8<((dTs x.globals).length:Int))&&decide (¬dCs x.codes=[])&&decide (¬16<((dCs x.codes).length:Int)) &&
 decide (¬60<((dSs x.sites).length:Int))&&(dTs x.globals).all (mayT (nr x))&&(dRs x.recs).all (recT (nr x))&&(dSs x.sites).all (siteT (nr x) (dCs x.codes).length)&&ckR x (dCs x.codes) 0&&stR x (dCs x.codes) 0 &&
 (match getZ (dCs x.codes) x.main with
  |none=>false
  |some m=>decide (m.params=0) && !m.has)
end U12
namespace U12
open Ax Go Code14z IrV
theorem rright_ok(wl lim:Nat){x:XD}(st:Store)(hx:x.ok)(hb:∀g∈dCs x.codes,(dTs g.vars).length<1000000000)(hb2:∀g∈dCs x.codes,(dNs g.ins).length<1000000000) :
  (orcL S).call wl lim 16 [xAV x] st=some (.bool (rightR x),st):=by
 have hs:=hx.sl
 have hR:=hx.recs
 have hC:=hx.codes
 have hS:=hx.sites
 have hl:rowsL x.recs=(dRs x.recs).map RD.cells/\rowsL x.globals=(dTs x.globals).map T3.cells/\rowsL x.codes=(dCs x.codes).map CD.cells/\rowsL x.sites=(dSs x.sites).map SD.cells:=
  ⟨rowsL_R hx.recs,rowsL_T hx.globals,rowsL_C hx.codes,rowsL_S hx.sites⟩
 have hm:=fun t=>rmay_ok 0 0 (x:=x) t [] hx
 simp only[xAV]at hm
 refine call_pure (sf:=s16) rfl rfl (by simp[hx.pure]) rfl (by simp) ?_
 by_cases a1:12<((dRs x.recs).length:Int)
 ·simp[rightR,s16,xAV,hs,hl,a1]
 by_cases a2:8<((dTs x.globals).length:Int)
 ·simp[rightR,s16,xAV,hs,hl,a1,a2]
 by_cases a3:dCs x.codes=[]
 ·simp[rightR,s16,xAV,hs,hl,a1,a2,a3]
 have a3':¬((dCs x.codes).length:Int)<1:=by have:=List.length_pos_iff.2 a3;omega
 by_cases a4:16<((dCs x.codes).length:Int)
 ·simp[rightR,s16,xAV,hs,hl,a1,a2,a3',a4]
 by_cases a5:60<((dSs x.sites).length:Int)
 ·simp[rightR,s16,xAV,hs,hl,a1,a2,a3',a4,a5]
 have e2:=rtypes_ok 0 0 (x:=x) x.globals [] hx hx.globals (by omega)
 simp only[xAV]at e2
 cases q2:(dTs x.globals).all (mayT (nr x)) with
 |false=>simp[rightR,s16,xAV,hs,hl,a1,a2,a3',a4,a5,e2,q2]
 |true=>
  simp[s16,xAV,hs,hl,a1,a2,a3',a4,a5,e2,q2]
  refine W_loopI s16_l1.eq_1 (fun k:Nat=>⟨[(1,.fp 0 0),(3,.val (.int .i64 k))],[[x.recs,x.globals,x.codes,x.sites,.int .i64 x.main],[],[]],[]⟩)
   (fun k=>k<=(dRs x.recs).length/\upto (recT (nr x)) (dRs x.recs) k) (fun k=>(dRs x.recs).length-k) 0 (by simp) ⟨by simp,upto_zero⟩ ?_
  intro k ⟨hk,hp⟩ ih
  by_cases hlt:k<(dRs x.recs).length
  ·have hw:IntKind.i64.wrap ((k:Int)+1)=((k+1:Nat):Int):=by rw[wrap64]<;>omega
   have hF:=isRs_get hR _ (List.getElem_mem hlt)
   have hFs:=isSl_F hF
   have hFv:=isFs_vw hF
   have hFl:=rowsL_F hF
   have fin:recT (nr x) (dRs x.recs)[k]=false->rightR x=false:=fun h=>by
    have h2:=upto_not (p:=recT (nr x)) hlt h
    simp[rightR,h2]
   by_cases g:8<(dFs (dRs x.recs)[k].fields).length
   ·have g':(8:Int)<((dFs (dRs x.recs)[k].fields).length:Int):=by omega
    have hf:=fin (by simp[recT,g])
    simp[hs,hl,hlt,hR,RD.cells,hFs,hFv,hFl,g',hf]
   ·have g':¬(8:Int)<((dFs (dRs x.recs)[k].fields).length:Int):=by omega
    simp[hs,hl,hlt,hR,RD.cells,hFs,hFv,hFl,g']
    refine W_loopI s16_l0.eq_1 (fun j:Nat=>⟨[(1,.fp 0 0),(3,.val (.int .i64 k)),(4,.val (dRs x.recs)[k].fields),(5,.val (.int .i64 j))],[[x.recs,x.globals,x.codes,x.sites,.int .i64 x.main],[],[]],[]⟩)
     (fun j=>j<=(dFs (dRs x.recs)[k].fields).length/\upto (fun f=>mayT (nr x) f.t) (dFs (dRs x.recs)[k].fields) j) (fun j=>(dFs (dRs x.recs)[k].fields).length-j) 0 (by simp) ⟨by simp,upto_zero⟩ ?_
    intro j ⟨hj,hpj⟩ ihj
    by_cases hjl:j<(dFs (dRs x.recs)[k].fields).length
    ·have hwj:IntKind.i64.wrap ((j:Int)+1)=((j+1:Nat):Int):=by rw[wrap64]<;>omega
     have hc:=hm (dFs (dRs x.recs)[k].fields)[j].t
     cases e:mayT (nr x) (dFs (dRs x.recs)[k].fields)[j].t with
     |true=>
      simp[hs,hF,hFv,hFl,hjl,FD.cells,hc,e,hwj,W_draw0,noBoxes]
      exact ihj (j+1) ⟨by omega,upto_succ hpj hjl e⟩ (by omega)
     |false=>
      have hf0:=upto_not (p:=fun f:FD=>mayT (nr x) f.t) hjl e
      have hf:=fin (by simp only[recT,hf0,Bool.and_false])
      simp[hs,hF,hFv,hFl,hjl,FD.cells,hc,e,hf,W_draw0,noBoxes]
    ·have hjk:j=(dFs (dRs x.recs)[k].fields).length:=by omega
     have hf0:=upto_all (hjk ▸ hpj)
     simp[hFs,hFv,hFl,hjl,hw]
     exact ih (k+1) ⟨by omega,upto_succ hp hlt (by simp only[recT,hf0];simp;omega)⟩ (by omega)
  have hkl:k=(dRs x.recs).length:=by omega
  have t1:=upto_all (hkl ▸ hp)
  clear hp ih
  simp[hs,hl,hlt]
  refine W_loopI s16_l2.eq_1 (fun q:Nat×List AV=>⟨[(1,.fp 0 0),(6,.val (.int .i64 q.1))],[[x.recs,x.globals,x.codes,x.sites,.int .i64 x.main],q.2,[]],[]⟩)
   (fun q=>q.1<=(dSs x.sites).length/\upto (siteT (nr x) (dCs x.codes).length) (dSs x.sites) q.1) (fun q=>(dSs x.sites).length-q.1) (0,[]) (by simp) ⟨by simp,upto_zero⟩ ?_
  rintro⟨k,bb⟩ ⟨hk,hp⟩ ih
  simp only at hk hp ih
  by_cases hlt:k<(dSs x.sites).length
  ·have hw:IntKind.i64.wrap ((k:Int)+1)=((k+1:Nat):Int):=by rw[wrap64]<;>omega
   have hc:=hm (dSs x.sites)[k].t
   have hr:=fun a b c=>rref_ok 0 0 a b c []
   have fin:siteT (nr x) (dCs x.codes).length (dSs x.sites)[k]=false->rightR x=false:=fun h=>by
    have h2:=upto_not (p:=siteT (nr x) (dCs x.codes).length) hlt h
    simp[rightR,h2]
   by_cases f0:(dSs x.sites)[k].fn<0
   ·have hf:=fin (by simp[siteT,f0])
    simp[hs,hS,hl,hlt,SD.cells,f0,hf]
   by_cases f1:((dCs x.codes).length:Int)<=(dSs x.sites)[k].fn
   ·have hf:=fin (by simp[siteT];omega)
    simp[hs,hS,hl,hlt,SD.cells,f0,f1,hf]
   have f1':(dSs x.sites)[k].fn<((dCs x.codes).length:Int):=by omega
   cases e:mayT (nr x) (dSs x.sites)[k].t with
   |false=>
    have hf:=fin (by simp[siteT,e])
    simp[hs,hS,hl,hlt,SD.cells,f0,f1,hc,e,hf]
   |true=>
    cases e2:refT (dSs x.sites)[k].t with
    |false=>
     have hf:=fin (by simp[siteT,e2])
     simp[hs,hS,hl,hlt,SD.cells,f0,f1,hc,hr,e,e2,hf]
    |true=>
     simp[hs,hS,hl,hlt,SD.cells,f0,f1,hc,hr,e,e2,hw]
     exact ih (k+1,_) ⟨by simp;omega,upto_succ hp hlt (by simp[siteT,e,e2,f1'];omega)⟩ (by simp;omega)
  have hkl:k=(dSs x.sites).length:=by omega
  have t2:=upto_all (hkl ▸ hp)
  clear hp ih
  generalize bb=bA
  simp[hs,hl,hlt]
  refine W_loopI s16_l3.eq_1 (fun q:Nat×Int×List AV=>⟨[(1,.fp 0 0),(8,.val (.int .i64 q.2.1)),(9,.val (.int .i64 q.1))],[[x.recs,x.globals,x.codes,x.sites,.int .i64 x.main],bA,q.2.2],[]⟩)
   (fun q=>q.1<=(dCs x.codes).length/\0<=q.2.1/\q.2.1<=2500/\ckR x (dCs x.codes) 0=ckR x ((dCs x.codes).drop q.1) q.2.1/\upto (fun c=>decide (¬dNs c.ins=[])) (dCs x.codes) q.1) (fun q=>(dCs x.codes).length-q.1) (0,0,[]) (by simp) ⟨by simp,by simp,by simp,by simp,upto_zero⟩ ?_
  rintro⟨k,n,bb⟩ ⟨hk,hn0,hn1,hp,hne⟩ ih
  simp only at hk hn0 hn1 hp hne ih
  by_cases hlt:k<(dCs x.codes).length
  ·have hw:IntKind.i64.wrap ((k:Int)+1)=((k+1:Nat):Int):=by rw[wrap64]<;>omega
   have hcm:=isCs_get hC _ (List.getElem_mem hlt)
   have hbn:=hb2 _ (List.getElem_mem hlt)
   have hbv:=hb _ (List.getElem_mem hlt)
   have hupk:∀h:decide (¬dNs (dCs x.codes)[k].ins=[])=true,upto (fun c:CD=>decide (¬dNs c.ins=[])) (dCs x.codes) (k+1):=fun h=>upto_succ hne hlt h
   rw[List.drop_eq_getElem_cons hlt]at hp
   simp only[ckR]at hp
   have hTs:=isSl_T hcm.1
   have hTv:=isTs_vw hcm.1
   have hTl:=rowsL_T hcm.1
   have hNs:=isSl_N hcm.2
   have hNv:=isNs_vw hcm.2
   have hNl:=rowsL_N hcm.2
   generalize hcq:(dCs x.codes)[k]=c at *
   have hw2:IntKind.i64.wrap (n+((dNs c.ins).length:Int))=n+((dNs c.ins).length:Int):=by rw[wrap64]<;>omega
   have ety:=rtypes_ok 0 0 (x:=x) c.vars [] hx hcm.1 hbv
   simp only[xAV]at ety
   have hmr:=hm c.res
   have fin:ckR x (dCs x.codes) 0=false->rightR x=false:=fun h=>by simp[rightR,h]
   by_cases v4:4000<((dTs c.vars).length:Int)
   ·have hf:=fin (by rw[hp];simp[v4])
    simp[hs,hl,hC,hlt,hcq,CD.cells,hTs,hTv,hTl,hNs,hNv,hNl,hw2,v4,hf]
   by_cases p0:c.params<0
   ·have hf:=fin (by rw[hp];simp[p0])
    simp[hs,hl,hC,hlt,hcq,CD.cells,hTs,hTv,hTl,hNs,hNv,hNl,hw2,v4,p0,hf]
   by_cases p6:6<c.params
   ·have hf:=fin (by rw[hp];simp[p6])
    simp[hs,hl,hC,hlt,hcq,CD.cells,hTs,hTv,hTl,hNs,hNv,hNl,hw2,v4,p0,p6,hf]
   by_cases pv:((dTs c.vars).length:Int)<c.params
   ·have hf:=fin (by rw[hp];simp[pv])
    simp[hs,hl,hC,hlt,hcq,CD.cells,hTs,hTv,hTl,hNs,hNv,hNl,hw2,v4,p0,p6,pv,hf]
   cases hta:(dTs c.vars).all (mayT (nr x)) with
   |false=>
    have hf:=fin (by rw[hp];simp[hta])
    simp[hs,hl,hC,hlt,hcq,CD.cells,hTs,hTv,hTl,hNs,hNv,hNl,hw2,v4,p0,p6,pv,ety,hta,hf]
   |true=>
    by_cases i0:dNs c.ins=[]
    ·have hf:=fin (by rw[hp];simp[i0])
     simp[hs,hl,hC,hlt,hcq,CD.cells,hTs,hTv,hTl,hNs,hNv,hNl,v4,p0,p6,pv,ety,hta,i0,hf]
    have i1:¬((dNs c.ins).length:Int)<1:=by have:=List.length_pos_iff.2 i0;omega
    by_cases n2:2500<n+((dNs c.ins).length:Int)
    ·have hf:=fin (by rw[hp];simp[n2])
     simp[hs,hl,hC,hlt,hcq,CD.cells,hTs,hTv,hTl,hNs,hNv,hNl,hw2,v4,p0,p6,pv,ety,hta,i1,n2,hf]
    cases hh:c.has with
    |true=>
     cases e:mayT (nr x) c.res with
     |false=>
      have hf:=fin (by rw[hp];simp[hh,e])
      simp[hs,hl,hC,hlt,hcq,CD.cells,hTs,hTv,hTl,hNs,hNv,hNl,hw2,v4,p0,p6,pv,ety,hta,i1,n2,hh,hmr,e,hf]
     |true=>
      simp[hs,hl,hC,hlt,hcq,CD.cells,hTs,hTv,hTl,hNs,hNv,hNl,hw2,v4,p0,p6,pv,ety,hta,i1,n2,hh,hmr,e,hw]
      exact ih (k+1,n+((dNs c.ins).length:Int),_) ⟨by simp;omega,by simp;omega,by simp;omega,by rw[hp];simp[v4,p0,p6,pv,hta,i0,n2,hh,e],hupk (by simp[i0])⟩ (by simp;omega)
    |false=>
     cases e:teq c.res ⟨0,0,0⟩ with
     |false=>
      have hf:=fin (by rw[hp];simp[hh,e])
      simp[hs,hl,hC,hlt,hcq,CD.cells,hTs,hTv,hTl,hNs,hNv,hNl,hw2,v4,p0,p6,pv,ety,hta,i1,n2,hh,e,hf]
     |true=>
      simp[hs,hl,hC,hlt,hcq,CD.cells,hTs,hTv,hTl,hNs,hNv,hNl,hw2,v4,p0,p6,pv,ety,hta,i1,n2,hh,e,hw]
      exact ih (k+1,n+((dNs c.ins).length:Int),_) ⟨by simp;omega,by simp;omega,by simp;omega,by rw[hp];simp[v4,p0,p6,pv,hta,i0,n2,hh,e],hupk (by simp[i0])⟩ (by simp;omega)
  have hkl:k=(dCs x.codes).length:=by omega
  rw[hkl,List.drop_length]at hp
  have t3:ckR x (dCs x.codes) 0=true:=hp
  have cne:∀c∈dCs x.codes,¬dNs c.ins=[]:=fun c hc=>by
   have:=List.all_eq_true.1 (upto_all (hkl ▸ hne)) c hc
   simpa using this
  clear hp hne ih
  generalize bb=bB
  simp[hs,hl,hlt]
  refine W_loopI s16_l5.eq_1 (fun q:Nat=>⟨[(1,.fp 0 0),(11,.val (.int .i64 q))],[[x.recs,x.globals,x.codes,x.sites,.int .i64 x.main],bA,bB],[]⟩)
   (fun q=>q<=(dCs x.codes).length/\stR x (dCs x.codes) 0=stR x ((dCs x.codes).drop q) q) (fun q=>(dCs x.codes).length-q) 0 (by simp) ⟨by simp,by simp⟩ ?_
  intro k ⟨hk,hp⟩ ih
  by_cases hlt:k<(dCs x.codes).length
  ·have hw:IntKind.i64.wrap ((k:Int)+1)=((k+1:Nat):Int):=by rw[wrap64]<;>omega
   have hcm:=isCs_get hC _ (List.getElem_mem hlt)
   have hbn:=hb2 _ (List.getElem_mem hlt)
   rw[List.drop_eq_getElem_cons hlt]at hp
   simp only[stR]at hp
   have hne:=cne _ (List.getElem_mem hlt)
   have hN:=hcm.2
   have hNs:=isSl_N hcm.2
   have hNv:=isNs_vw hcm.2
   have hNl:=rowsL_N hcm.2
   generalize hcq:(dCs x.codes)[k]=c at *
   simp[hs,hl,hC,hlt,hcq,CD.cells,hNv]
   refine W_loopI s16_l4.eq_1 (fun j:Nat=>⟨[(1,.fp 0 0),(11,.val (.int .i64 k)),(12,.val c.ins),(13,.val (.int .i64 j))],[[x.recs,x.globals,x.codes,x.sites,.int .i64 x.main],bA,bB],[]⟩)
    (fun j=>j<=(dNs c.ins).length/\upto (stepR x k) (dNs c.ins) j) (fun j=>(dNs c.ins).length-j) 0 (by simp) ⟨by simp,upto_zero⟩ ?_
   intro j ⟨hj,hpj⟩ ihj
   by_cases hjl:j<(dNs c.ins).length
   ·have hwj:IntKind.i64.wrap ((j:Int)+1)=((j+1:Nat):Int):=by rw[wrap64]<;>omega
    have hgi:=isNs_get hN _ (List.getElem_mem hjl)
    have hst:=rstep_ok 0 0 (x:=x) (k:Int) (i:=(dNs c.ins)[j]) [] hx hgi.2 hgi.1 hb
    have hgs:=isSl_I hgi.2
    have hgv:=view_notOwn hgi.1 hgs
    simp only[xAV,idAV]at hst
    cases e:stepR x k (dNs c.ins)[j] with
    |true=>
     simp[hs,hN,hNv,hNl,hjl,ID.cells,hgv,hst,e,hwj,W_draw0,noBoxes]
     exact ihj (j+1) ⟨by omega,upto_succ hpj hjl e⟩ (by omega)
    |false=>
     have hf0:=upto_not hjl e
     have hf:rightR x=false:=by
      have h2:stR x (dCs x.codes) 0=false:=by rw[hp,hf0];rfl
      simp[rightR,h2]
     simp[hs,hN,hNv,hNl,hjl,ID.cells,hgv,hst,e,hf,W_draw0,noBoxes]
   ·have hjk:j=(dNs c.ins).length:=by omega
    have hf0:=upto_all (hjk ▸ hpj)
    obtain⟨m,hm1⟩:∃m,(dNs c.ins).length=m+1:=⟨(dNs c.ins).length-1,by have:=List.length_pos_iff.2 hne;omega⟩
    have hml:m<(dNs c.ins).length:=by omega
    have hw2:IntKind.i64.wrap (((dNs c.ins).length:Int)-1)=(m:Int):=by rw[wrap64]<;>omega
    have hla:=lastT_at hm1
    rw[hf0]at hp
    by_cases o1:(dNs c.ins)[m].op=16
    ·simp[hN,hNv,hNl,hjl,hw2,hml,ID.cells,o1,hw]
     exact ih (k+1) ⟨by omega,by rw[hp,hla];simp[o1]⟩ (by omega)
    ·by_cases o2:(dNs c.ins)[m].op=17
     ·simp[hN,hNv,hNl,hjl,hw2,hml,ID.cells,o2,hw]
      exact ih (k+1) ⟨by omega,by rw[hp,hla];simp[o2]⟩ (by omega)
     ·by_cases o3:(dNs c.ins)[m].op=18
      ·simp[hN,hNv,hNl,hjl,hw2,hml,ID.cells,o3,hw]
       exact ih (k+1) ⟨by omega,by rw[hp,hla];simp[o3]⟩ (by omega)
      ·have hf:rightR x=false:=by
        have h2:stR x (dCs x.codes) 0=false:=by rw[hp,hla];simp[o1,o2,o3]
        simp[rightR,h2]
       simp[hN,hNv,hNl,hjl,hw2,hml,ID.cells,o1,o2,o3,hf]
  have hkl:k=(dCs x.codes).length:=by omega
  rw[hkl,List.drop_length]at hp
  have t4:stR x (dCs x.codes) 0=true:=hp
  simp[hs,hl,hlt]
  by_cases g0:0<=x.main
  ·cases hg:getZ (dCs x.codes) x.main with
   |none=>
    rcases getZ_none hg with h0|⟨h0,h1⟩
    ·omega
    ·have h1':¬x.main<((dCs x.codes).length:Int):=by omega
     have hf:rightR x=false:=by simp[rightR,hg]
     simp[hs,hl,g0,h1',hf]
   |some m=>
    obtain⟨mk,hmk,hml,hq⟩:=getZ_some hg
    have hff:rightR x=(decide (m.params=0) && !m.has):=by simp[rightR,hg,a1,a2,a3,a4,a5,q2,t1,t2,t3,t4]
    rw[hmk]at g0
    have hml':(mk:Int)<((dCs x.codes).length:Int):=by omega
    by_cases p0:m.params=0
    ·simp[hs,hl,hC,g0,hmk,hml,hq,CD.cells,hff,p0]
    ·simp[hs,hl,hC,g0,hmk,hml,hq,CD.cells,hff,p0]
  ·have hf:rightR x=false:=by
    have:getZ (dCs x.codes) x.main=none:=by simp[getZ,g0]
    simp[rightR,this]
   simp[g0,hf]
end U12
namespace U12
open Ax Go Code14z IrV
theorem codes_eq(x:XD):∀(l:List CD)(f n:Int),codesB x l f n=(ckR x l n&&stR x l f)
 |[],_,_=>rfl
 |c::l,f,n=>by
  have e1:stepT x f=stepR x f:=funext (step_eq x f)
  have e2:decide (¬((dNs c.ins).length:Int)=0)=decide (¬dNs c.ins=[]):=by simp
  simp only[codesB,ckR,stR,codeT,codes_eq x l,e1,e2]
  ac_rfl
theorem right_eq(x:XD):rightT x=rightR x:=by
 simp only[rightT,rightR,codes_eq]
 ac_rfl
end U12
