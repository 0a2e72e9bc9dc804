/- Part of a proof. -/
import Derived.Test.YtachcambnjecnaaCode2
import Derived.Test.YtachcambnjecnaaP
import Derived.KernelRfl

set_option maxRecDepth 100000
set_option maxHeartbeats 4000000
namespace U7
open Ax Go cp V7
theorem Hh (wl aa:Nat)(l:AV)(s:List UInt8)(st:aj)(hl:rK l=true)(hn:(fQ l).length<1000000000) :
  (aW S).call wl aa 69 [l,.str s] st=some (.int .i64 (rU (fQ l) s),st):=by
 have h1:=zX hl
 have h2:=Bz hl
 have h3:=PN hl
 refine bT (sf:=s69) rfl rfl (by simp[cm h1]) rfl (by simp) ?_
 simp[s69,h1,h2,h3]
 refine bC Jj.eq_1 (λq:Nat×Int=>⟨[(0,.val l),(1,.val (.str s)),(7,.val (.int .i64 (fQ l).length)),(8,.val (.int .i64 q.1))],[],[]⟩)
  (λq=>q.1<=(fQ l).length/\GS (λx=>decide (x=s)) (fQ l) q.1) (λq=>(fQ l).length-q.1) (0,0) (by simp) ⟨by simp,xX⟩ ?_
 rintro⟨k,bb⟩ ⟨hk,hp⟩ ih
 simp only at hk hp ih
 by_cases aZ:k<(fQ l).length
 ·have hw:IntKind.i64.wrap ((k:Int)+1)=((k+1:Nat):Int):=by rw[wrap64]<;>omega
  by_cases e:(fQ l)[k]=s
  ·have hi:=KF hp aZ e
   simp[hl,h2,h3,aZ,e,hi]
  ·have e':¬s=(fQ l)[k]:=λh=>e h.symm
   simp[hl,h2,h3,aZ,e',hw]
   exact ih (k+1,0) ⟨by simp;omega,xY hp aZ (by simpa using e)⟩ (by simp;omega)
 ·have iK:k=(fQ l).length:=by omega
  have hi:=Dq (iK ▸ hp)
  simp[aZ,hi]
theorem KQ {l:List (List UInt8)}{s:List UInt8}{d:Int}(h:d<0\/3<d):cH l s d=(T0,false):=if_pos h
theorem wQ (wl aa:Nat)(l:AV)(s:List UInt8)(d:Int)(st:aj)(hl:rK l=true)(hn:(fQ l).length<1000000000) :
  (aW S).call wl aa 70 [l,.agg [.str s,.int .i64 d]] st=some (.fm [.agg (cH (fQ l) s d).1.cells,.bool (cH (fQ l) s d).2],st):=by
 have h1:=zX hl
 have h2:=Bz hl
 have hi:=Hh 0 0 l s [] hl hn
 refine bT (sf:=Jk) rfl rfl (by simp[cm h1]) rfl (by simp[AV.an,AV.ah]) ?_
 by_cases d0:d<0
 ·rw[KQ (.inl d0)]
  simp[Jk,d0]
 by_cases d3:3<d
 ·rw[KQ (.inr d3)]
  simp[Jk,d0,d3]
 have hd:¬(d<0\/3<d):=by omega
 unfold cH
 rw[if_neg hd]
 by_cases i1:s=[105,110,116]
 ·simp[Jk,d0,d3,i1]
 by_cases i2:s=[98,111,111,108]
 ·simp[Jk,d0,d3,i2]
 rw[if_neg i1,if_neg i2]
 by_cases i3:rU (fQ l) s<0
 ·simp[Jk,d0,d3,i1,i2,hi,i3]
 ·simp[Jk,d0,d3,i1,i2,hi,i3]
theorem Jy (wl aa:Nat)(t:T3)(st:aj):(aW S).call wl aa 28 [.agg t.cells] st=some (.bool (vz t),st):=by
 refine bT (sf:=Xi) rfl rfl (by simp) rfl (by simp) ?_
 unfold vz
 by_cases b:t.b=3
 ·simp[Xi,b]
 ·simp[Xi,b]
end U7
namespace U7
open Ax Go cp V7
def fE (f:Option Int):Int:=match f with|some _=>3|none=>0
def fX (f:Option Int):Int:=match f with|some x=>x|none=>0
@[simp] def mk (rl:AV) (f:Option Int):fh:=.rows 0 3 [[rl,.int .i64 (fE f),.int .i64 (fX f)]]
theorem dF (aa:Nat)(a:Int)(rl:AV)(f:Option Int)(r:aj) :
  (aW S).call 0 aa 41 [.ptr 0 0 0 0,.int .i64 a] (mk rl f::r)=some (.fm [],mk rl (uY f (some a))::r):=by
 refine ax (sf:=s41) rfl rfl rfl ?_
 cases f with
 |none=>simp[s41,fE,fX,uY,bf,af,cut,AV.ah,AV.an]
 |some x=>simp[s41,fE,fX,uY,cut,AV.ah,AV.an]
theorem wR (aa:Nat)(s:List UInt8)(d a:Int)(rl:AV)(f:Option Int)(r:aj)(hl:rK rl.view=true)(hn:(fQ rl).length<1000000000) :
  (aW S).call 0 aa 58 [.ptr 0 0 0 0,.agg [.str s,.int .i64 d],.int .i64 a] (mk rl f::r)=some (.agg (cH (fQ rl) s d).1.cells,mk rl (if (cH (fQ rl) s d).2 then f else uY f (some a))::r):=by
 have h1:aG rl=true:=by simpa using zX hl
 have e1:=λwl aa st=>wQ wl aa rl.view s d st hl (by simpa using hn)
 have e2:=λaa=>dF aa a rl f r
 simp only[Dp]at e1
 refine ax (sf:=s58) rfl rfl rfl ?_
 generalize cH (fQ rl) s d=z at *
 obtain⟨u,o⟩:=z
 simp only[T3.cells]at e1
 simp only[mk]at e2
 cases o with
 |true=>simp[s58,cut,e1,aN,bp,fA.bq,nw,AV.ah,AV.an]
 |false=>simp[s58,cut,e1,e2,aN,bp,fA.bq,nw,AV.ah,AV.an]
theorem Hi (wl aa:Nat)(l:AV)(s:List UInt8)(st:aj)(hl:rK l=true)(hn:(fQ l).length<1000000000) :
  (aW S).call wl aa 57 [l,.str s] st=some (.bool (decide (0<=rU (fQ l) s)),st):=by
 have h1:=zX hl
 have h2:=Bz hl
 have e:=Hh 0 0 l s [] hl hn
 refine bT (sf:=s57) rfl rfl (by simp[cm h1]) rfl (by simp) ?_
 simp[s57,e]
def vC (ks:List (List UInt8)):List (AV×AV):=ks.map λs=>(.str s,.agg [])
theorem DD (s:List UInt8):∀ks,pz .str (.str s) (vC ks)=some (if s∈ks then some (.agg []) else none)
 |[]=>rfl
 |a::ks=>by
  have ih:=DD s ks
  simp only[vC]at ih
  simp only[vC,List.map_cons,pz,Cp]
  by_cases h:a=s
  ·simp[h]
  ·have:(s==a)=false:=beq_eq_false_iff_ne.2 λe=>h e.symm
   have h':¬s=a:=λe=>h e.symm
   rw[this]
   simp[ih,h']
def BQ (ks:List (List UInt8))(s:List UInt8):List (List UInt8):=if s∈ks then ks else ks++[s]
theorem Hj (s:List UInt8):∀ks,Cw .str (.str s) (.agg []) (vC ks)=some (vC (BQ ks s))
 |[]=>rfl
 |a::ks=>by
  have ih:=Hj s ks
  simp only[vC]at ih
  simp only[vC,List.map_cons,Cw,Cp]
  by_cases h:a=s
  ·simp[h,BQ]
  ·have:(s==a)=false:=beq_eq_false_iff_ne.2 λe=>h e.symm
   have h':¬s=a:=λe=>h e.symm
   rw[this]
   simp only[ih]
   by_cases hm:s∈ks
   ·simp[BQ,hm]
   ·simp[BQ,hm,h']
theorem Hl (ks:List (List UInt8))(s t:List UInt8):t∈BQ ks s↔t∈ks\/t=s:=by
 unfold BQ
 split
 ·constructor
  ·exact .inl
  ·rintro (h|rfl)<;>assumption
 ·simp
@[simp] theorem Z7 {wl aa:Nat} {st:aj} {bx:aS}:aI wl aa .makeMap [] st bx=some (.val (.map st.length),st++[.map []],bx):=rfl
theorem Vy {aa:Nat}{o:fh}{r:aj}{bx:aS}{ks:List (List UInt8)}(s:List UInt8) :
  aI 0 aa (.mapUpdate .str) [.val (.map (r.length+1)),.val (.str s),.val (.agg [])] (o::(r++[.map (vC ks)])) bx=some (.none,o::(r++[.map (vC (BQ ks s))]),bx):=by
 simp[aI,isKey,bf,AV.ah,AV.an,AV.view,AV.cy,Hj]
theorem P9 {aa:Nat}{o:fh}{r:aj}{bx:aS}{ks:List (List UInt8)}(s:List UInt8) :
  aI 0 aa (.lookup .str (.agg []) true) [.val (.map (r.length+1)),.val (.str s)] (o::(r++[.map (vC ks)])) bx=some (.val (.fm [.agg [],.bool (decide (s∈ks))]),o::(r++[.map (vC ks)]),bx):=by
 simp only[aI,List.getElem?_cons_succ,isKey,if_true]
 by_cases h:s∈ks<;>simp[h,DD]
theorem pU {α:Type}{bad:List α->α->Option Int}{l:List α}{k:Nat}(h:k<l.length):fV bad l (k+1)=uY (fV bad l k) (bad (l.take k) l[k]):=by
 simp[fV,h]
theorem qE (a b c:Option Int):uY (uY a b) c=uY a (uY b c):=by cases a<;>rfl
theorem jX (a:Option Int):uY a none=a:=by cases a<;>rfl
theorem T4 (a:Option Int)(x:Int):uY (uY a (some x)) (some x)=uY a (some x):=by cases a<;>rfl
theorem EL {rs:List (List UInt8)}{l:List PD}{k:Nat}(h:k<l.length):gw rs (l.take (k+1))=gw rs (l.take k)++[EA rs l[k]]:=by
 simp only[gw,List.take_succ_eq_append_getElem h,List.map_append,List.map_cons,List.map_nil]
theorem oq (aa:Nat)(l:AV)(rl:AV)(f:Option Int)(r:aj)(hl:rK rl.view=true)(hn:(fQ rl).length<1000000000)(hp:zz l=true)(hpn:(nF l).length<1000000000) :
  (aW S).call 0 aa 37 [.ptr 0 0 0 0,l] (mk rl f::r)=some (b8 4 (gw (fQ rl) (nF l)),mk rl (uY f (fV (wI (fQ rl)) (nF l) (nF l).length))::r):=by
 have p1:=BA hp
 have p2:=wH hp
 have p3:=TM hp
 have e1:=λaa s d a f r=>wR aa s d a rl f r hl hn
 have e2:=λaa a f r=>dF aa a rl f r
 simp only[T3.cells,mk]at e1 e2
 refine ax (sf:=s37) rfl rfl rfl ?_
 simp[s37,p1,p2,p3]
 refine bC Pa.eq_1 (λq:Nat×List (List UInt8)×List AV=>⟨[(0,.val (.ptr 0 0 0 0)),(5,.val (b8 4 (gw (fQ rl) ((nF l).take q.1)))),(6,.val (.map (r.length+1))),(12,.val l),(13,.val (.int .i64 (nF l).length)),(14,.val (.int .i64 q.1))],[q.2.2,[]],
   mk rl (uY f (fV (wI (fQ rl)) (nF l) q.1))::(r++[.map (vC q.2.1)])⟩)
  (λq=>q.1<=(nF l).length/\∀s,s∈q.2.1↔((nF l).take q.1).any (λp=>decide (p.name=s))=true) (λq=>(nF l).length-q.1) ((0,[],[]):Nat×List (List UInt8)×List AV) (by simp[gw,mO,fV,jX,vC]) (by simp) ?_
 rintro⟨k,ks,bb⟩ ⟨hk,mq⟩ ih
 simp only at hk mq ih
 by_cases aZ:k<(nF l).length
 ·have hw:IntKind.i64.wrap ((k:Int)+1)=((k+1:Nat):Int):=by rw[wrap64]<;>omega
  have hb:=pU (bad:=wI (fQ rl)) aZ
  have hr:=EL (rs:=fQ rl) aZ
  have hlen:(gw (fQ rl) ((nF l).take k)).length=k:=by simp[gw];omega
  have ha:uC 4 40 (b8 4 (gw (fQ rl) ((nF l).take k))) [EA (fQ rl) (nF l)[k]]=some (b8 4 (gw (fQ rl) ((nF l).take (k+1)))):=by
   rw[eU (by rfl) (by rw[hlen];simp[room];omega),hr]
  have XH:∀s,s∈BQ ks (nF l)[k].name↔((nF l).take (k+1)).any (λp=>decide (p.name=s))=true:=by
   intro s
   rw[Hl,mq,List.take_succ_eq_append_getElem aZ,List.any_append]
   simp only[List.any_cons,List.any_nil,Bool.or_false,Bool.or_eq_true,decide_eq_true_eq]
   exact or_congr Iff.rfl eq_comm
  have Qa:=mq (nF l)[k].name
  generalize hq:(nF l)[k]=p at *
  simp only[EA,T3.cells]at ha
  have hi:=ih (k+1,BQ ks p.name,p.cells) ⟨by simp;omega,XH⟩ (by simp;omega)
  simp only[hb,PD.cells]at hi
  have lk:=λaa o bx=>P9 (aa:=aa) (o:=o) (r:=r) (bx:=bx) (ks:=ks) p.name
  have up:=λaa o bx=>Vy (aa:=aa) (o:=o) (r:=r) (bx:=bx) (ks:=ks) p.name
  by_cases hd:p.name∈ks
  ·have EM:wI (fQ rl) ((nF l).take k) p=some p.at_:=by
    unfold wI;rw[Qa.1 hd];rfl
   rw[EM,<-qE]at hi
   have CJ:decide (p.name∈ks)=true:=decide_eq_true hd
   cases ho:(cH (fQ rl) p.on p.od).2 with
   |true=>
    simp[p2,p3,hp,aZ,PD.cells,hw,hq,lk,up,CJ,e1,e2,ho,ha,aN,bp,fA.bq,nw]
    exact hi
   |false=>
    simp[p2,p3,hp,aZ,PD.cells,hw,hq,lk,up,CJ,e1,e2,ho,T4,ha,aN,bp,fA.bq,nw]
    exact hi
  ·have CJ:decide (p.name∈ks)=false:=decide_eq_false hd
   have acs:((nF l).take k).any (λq=>decide (q.name=p.name))=false:=by
    cases e:((nF l).take k).any (λq=>decide (q.name=p.name)) with
    |false=>rfl
    |true=>exact absurd (Qa.2 e) hd
   cases ho:(cH (fQ rl) p.on p.od).2 with
   |true=>
    have EM:wI (fQ rl) ((nF l).take k) p=none:=by unfold wI;rw[acs,ho];rfl
    rw[EM,jX]at hi
    simp[p2,p3,hp,aZ,PD.cells,hw,hq,lk,up,CJ,e1,ho,ha,aN,bp,fA.bq,nw]
    exact hi
   |false=>
    have EM:wI (fQ rl) ((nF l).take k) p=some p.at_:=by unfold wI;rw[acs,ho];rfl
    rw[EM,<-qE]at hi
    simp[p2,p3,hp,aZ,PD.cells,hw,hq,lk,up,CJ,e1,ho,ha,aN,bp,fA.bq,nw]
    exact hi
 ·have iK:k=(nF l).length:=by omega
  simp[iK]
end U7
namespace U7
open Ax Go cp V7
def gp (l:List (List UInt8)):List (List AV):=l.map λs=>[.str s]
theorem rC (l:List (List UInt8)):fQ (b8 1 (gp l))=l:=by simp[fQ,gp,List.map_map,Function.comp_def,dSt]
theorem wS (l:List (List UInt8)):rK (b8 1 (gp l)).view=true:=by
 have h1:cI 1 (b8 1 (gp l)).view=true:=by
  rw[xQ,wC]
  simp[fits,gp]
 simp only[rK,kz,GR,h1,Bi,qz,Bool.true_and,List.all_eq_true]
 intro r hr
 obtain⟨s,_,rfl⟩:=List.mem_map.1 hr
 rfl
theorem Ho (l:List (List UInt8))(s:List UInt8):0<=rU l s↔s∈l:=by
 unfold rU
 cases e:l.findIdx? λx=>decide (x=s) with
 |none=>
  rw[List.findIdx?_eq_none_iff]at e
  constructor
  ·intro h;exact absurd h (by decide)
  ·intro h;have:=e s h;simp at this
 |some k=>
  obtain⟨hk,h1,_⟩:=List.findIdx?_eq_some_iff_getElem.1 e
  constructor
  ·intro _
   have:l[k]=s:=by simpa using h1
   exact this ▸ List.getElem_mem hk
  ·intro _;show (0:Int)<=(k:Int);omega
theorem XI {aa:Nat}{rl:AV}{e x:AV}{r:aj}{bx:aS}(h:aG rl=true) :
  aI 0 aa (.load false 1 true) [.val (.ptr 0 0 0 0)] (.rows 0 3 [[rl,e,x]]::r) bx=some (.val rl,.rows 0 3 [[rl.hJ,e,x]]::r,bx):=by
 cases rl<;>simp[aG]at h<;>simp[aI,fF,cut,dz,bf,AV.hJ,AV.ah,AV.an,af,bU]
def EN (before:List CR)(x:CR):Option Int:=if before.any (λq=>decide (q.name=x.name)) then some x.at_ else none
def Mr (rs:List (List UInt8))(_:List CR)(x:CR):Option Int:=fV (wI rs) (nF x.fields) (nF x.fields).length
def EO (rs:List (List UInt8))(x:CR):List AV:=[.str x.name,(b8 4 (gw rs (nF x.fields))).view]
def mR (rs:List (List UInt8))(l:List CR):List (List AV):=l.map (EO rs)
theorem Jz (aa:Nat)(l:AV)(f:Option Int)(r:aj)(hp:yZ l=true)(hpn:(de l).length<1000000000)(FC:∀x∈de l,(nF x.fields).length<1000000000) :
  (aW S).call 0 aa 36 [.ptr 0 0 0 0,l] (mk .U f::r)=some (b8 2 (mR (jQ (de l)) (de l)),
   mk (b8 1 (gp (jQ (de l)))) (uY (uY f (fV EN (de l) (de l).length)) (fV (Mr (jQ (de l))) (de l) (de l).length))::r):=by
 have p1:=KH hp
 have p2:=GU hp
 have p3:=PU hp
 have e2:=λaa a rl f r=>dF aa a rl f r
 simp only[mk]at e2
 refine ax (sf:=s36) rfl rfl rfl ?_
 simp[s36,p1,p2,p3]
 refine bC O8.eq_1 (λq:Nat×List AV=>⟨[(0,.val (.ptr 0 0 0 0)),(1,.val l),(10,.val l),(11,.val (.int .i64 (de l).length)),(12,.val (.int .i64 q.1))],[q.2,[]],
   mk (b8 1 (gp (jQ ((de l).take q.1)))) (uY f (fV EN (de l) q.1))::r⟩)
  (λq=>q.1<=(de l).length) (λq=>(de l).length-q.1) ((0,[]):Nat×List AV) (by simp[jQ,gp,mO,fV,jX]) (by simp) ?_
 rintro⟨k,bb⟩ hk ih
 simp only at hk ih
 by_cases aZ:k<(de l).length
 ·have hw:IntKind.i64.wrap ((k:Int)+1)=((k+1:Nat):Int):=by rw[wrap64]<;>omega
  have hb:=pU (bad:=EN) aZ
  have hF:=Ds hp _ (List.getElem_mem aZ)
  have Qb:=BA hF
  have Qc:=wH hF
  have T5:=λwl aa s st=>Hi wl aa (b8 1 (gp (jQ ((de l).take k)))).view s st (wS _) (by simp[rC,jQ];omega)
  simp only[Dp,rC]at T5
  have dA:aG (b8 1 (gp (jQ ((de l).take k))))=true:=cV
  have ha:uC 1 16 (b8 1 (gp (jQ ((de l).take k)))) [[.str (de l)[k].name]]=some (b8 1 (gp (jQ ((de l).take (k+1))))):=by
   rw[eU (by rfl) (by simp[gp,jQ,room];omega)]
   simp only[jQ,gp,List.take_succ_eq_append_getElem aZ,List.map_append,List.map_cons,List.map_nil]
  have hi:=ih (k+1,(de l)[k].cells) (by simp;omega) (by simp;omega)
  simp only[hb]at hi
  have xH:(de l)[k].name∈jQ ((de l).take k)↔((de l).take k).any (λq=>decide (q.name=(de l)[k].name))=true:=by
   simp only[jQ,List.mem_map,List.any_eq_true,decide_eq_true_eq]
  generalize hq:(de l)[k]=p at *
  simp only[CR.cells]at hi
  have tk:=λaa e x r bx=>XI (aa:=aa) (e:=e) (x:=x) (r:=r) (bx:=bx) dA
  by_cases hd:p.name∈jQ ((de l).take k)
  ·have EM:EN ((de l).take k) p=some p.at_:=by
    unfold EN;rw[xH.1 hd];rfl
   rw[EM,<-qE]at hi
   have CJ:decide (0<=rU (jQ ((de l).take k)) p.name)=true:=decide_eq_true ((Ho _ _).2 hd)
   simp[p2,p3,hp,aZ,CR.cells,hw,hq,Qb,Qc,T5,CJ,e2,ha,tk,aN,bp,fA.bq,nw]
   exact hi
  ·have EM:EN ((de l).take k) p=none:=by
    unfold EN
    cases e:((de l).take k).any (λq=>decide (q.name=p.name)) with
    |false=>rfl
    |true=>exact absurd (xH.2 e) hd
   rw[EM,jX]at hi
   have CJ:decide (0<=rU (jQ ((de l).take k)) p.name)=false:=decide_eq_false λh=>hd ((Ho _ _).1 h)
   simp[p2,p3,hp,aZ,CR.cells,hw,hq,Qb,Qc,T5,CJ,ha,tk,aN,bp,fA.bq,nw]
   exact hi
 ·have iK:k=(de l).length:=by omega
  subst iK
  obtain⟨g,hg⟩:∃g,g=uY f (fV EN (de l) (de l).length):=⟨_,rfl⟩
  obtain⟨rs,hrs⟩:∃rs,rs=jQ (de l):=⟨_,rfl⟩
  have qO:rs.length<1000000000:=by rw[hrs];simpa [jQ] using hpn
  simp only[<-hg,<-hrs,List.take_length]
  simp[p1,p2,p3]
  refine bC O9.eq_1 (λq:Nat×List AV=>⟨[(0,.val (.ptr 0 0 0 0)),(7,.val (b8 2 (mR rs ((de l).take q.1)))),(39,.val l),(40,.val (.int .i64 (de l).length)),(41,.val (.int .i64 q.1))],[bb,q.2],
    mk (b8 1 (gp rs)) (uY g (fV (Mr rs) (de l) q.1))::r⟩)
   (λq=>q.1<=(de l).length) (λq=>(de l).length-q.1) ((0,[]):Nat×List AV) (by simp[mR,mO,fV,jX]) (by simp) ?_
  rintro⟨k,bb2⟩ hk ih
  simp only at hk ih
  by_cases aZ:k<(de l).length
  ·have hw:IntKind.i64.wrap ((k:Int)+1)=((k+1:Nat):Int):=by rw[wrap64]<;>omega
   have hb:=pU (bad:=Mr rs) aZ
   have hF:=Ds hp _ (List.getElem_mem aZ)
   have Qb:=BA hF
   have Qc:=wH hF
   have hFn:=FC _ (List.getElem_mem aZ)
   have e3:=λaa f r=>oq aa (de l)[k].fields (b8 1 (gp rs)) f r (wS _) (by rw[rC];exact qO) hF hFn
   simp only[rC,mk]at e3
   have ha:uC 2 40 (b8 2 (mR rs ((de l).take k))) [EO rs (de l)[k]]=some (b8 2 (mR rs ((de l).take (k+1)))):=by
    rw[eU (by rfl) (by simp[mR,room];omega)]
    simp only[mR,List.take_succ_eq_append_getElem aZ,List.map_append,List.map_cons,List.map_nil]
   have hi:=ih (k+1,(de l)[k].cells) (by simp;omega) (by simp;omega)
   simp only[hb,Mr,<-qE]at hi
   generalize hq:(de l)[k]=p at *
   simp only[CR.cells]at hi
   simp only[EO]at ha
   simp[p2,p3,hp,aZ,CR.cells,hw,hq,Qb,Qc,e3,ha,aN,bp,fA.bq,nw]
   exact hi
  ·have iK:k=(de l).length:=by omega
   subst iK
   simp
end U7
namespace U7
open Ax Go cp V7
def nE (rs:List (List UInt8))(x:FN):T3:=if x.has then (cH rs x.on x.od).1 else T0
def XJ (before:List FN)(x:FN):Option Int:=if before.any (λq=>decide (q.name=x.name)) then some x.at_ else none
def Hp (rs:List (List UInt8))(x:FN):Option Int:=if x.has && !(cH rs x.on x.od).2 then some x.at_ else none
def Ms (rs:List (List UInt8))(before:List FN)(x:FN):Option Int:=uY (uY (XJ before x) (fV (wI rs) (nF x.params) (nF x.params).length)) (Hp rs x)
def ir (rs:List (List UInt8))(x:FN):List AV:=[.str x.name,(b8 4 (gw rs (nF x.params))).view,.bool x.has,.int .i64 (nE rs x).b,.int .i64 (nE rs x).r,.int .i64 (nE rs x).d]
def vD (rs:List (List UInt8))(x:FN):List AV:=[.str x.name,b8 4 (gw rs (nF x.params)),.bool x.has,.int .i64 (nE rs x).b,.int .i64 (nE rs x).r,.int .i64 (nE rs x).d]
def g8 (rs:List (List UInt8))(l:List FN):List (List AV):=l.map (ir rs)
theorem T6 (aa:Nat)(l rl:AV)(f:Option Int)(r:aj)(hl:rK rl.view=true)(hn:(fQ rl).length<1000000000)(hp:y7 l=true)(hpn:(jh l).length<1000000000)(FC:∀x∈jh l,(nF x.params).length<1000000000) :
  (aW S).call 0 aa 38 [.ptr 0 0 0 0,l] (mk rl f::r)=some (b8 6 (g8 (fQ rl) (jh l)),mk rl (uY f (fV (Ms (fQ rl)) (jh l) (jh l).length))::r):=by
 have p1:=KI hp
 have p2:=GW hp
 have p3:=PX hp
 have e1:=λaa s d a f r=>wR aa s d a rl f r hl hn
 have e2:=λaa a f r=>dF aa a rl f r
 simp only[T3.cells,mk]at e1 e2
 refine ax (sf:=s38) rfl rfl rfl ?_
 simp[s38,p1,p2,p3]
 refine bC Pb.eq_1 (λq:Nat×List (List UInt8)×List AV×List AV=>⟨[(0,.val (.ptr 0 0 0 0)),(5,.val (b8 6 (g8 (fQ rl) ((jh l).take q.1)))),(6,.val (.map (r.length+1))),(13,.val l),(14,.val (.int .i64 (jh l).length)),(15,.val (.int .i64 q.1))],[q.2.2.1,[],q.2.2.2],
   mk rl (uY f (fV (Ms (fQ rl)) (jh l) q.1))::(r++[.map (vC q.2.1)])⟩)
  (λq=>q.1<=(jh l).length/\∀s,s∈q.2.1↔((jh l).take q.1).any (λp=>decide (p.name=s))=true) (λq=>(jh l).length-q.1) ((0,[],[],[]):Nat×List (List UInt8)×List AV×List AV) (by simp[g8,mO,fV,jX,vC]) (by simp) ?_
 rintro⟨k,ks,bb,bb2⟩ ⟨hk,mq⟩ ih
 simp only at hk mq ih
 by_cases aZ:k<(jh l).length
 ·have hw:IntKind.i64.wrap ((k:Int)+1)=((k+1:Nat):Int):=by rw[wrap64]<;>omega
  have hb:=pU (bad:=Ms (fQ rl)) aZ
  have hG:=Mj hp _ (List.getElem_mem aZ)
  have Qb:=BA hG.1
  have Qc:=wH hG.1
  have Vz:=hG.2.2
  have Z8:=sV hG.2.1 hG.2.2
  have hFn:=FC _ (List.getElem_mem aZ)
  have e3:=λaa f r=>oq aa (jh l)[k].params rl f r hl hn hG.1 hFn
  simp only[mk]at e3
  have ha:uC 6 72 (b8 6 (g8 (fQ rl) ((jh l).take k))) [ir (fQ rl) (jh l)[k]]=some (b8 6 (g8 (fQ rl) ((jh l).take (k+1)))):=by
   rw[eU (by rfl) (by simp[g8,room];omega)]
   simp only[g8,List.take_succ_eq_append_getElem aZ,List.map_append,List.map_cons,List.map_nil]
  have XH:∀s,s∈BQ ks (jh l)[k].name↔((jh l).take (k+1)).any (λp=>decide (p.name=s))=true:=by
   intro s
   rw[Hl,mq,List.take_succ_eq_append_getElem aZ,List.any_append]
   simp only[List.any_cons,List.any_nil,Bool.or_false,Bool.or_eq_true,decide_eq_true_eq]
   exact or_congr Iff.rfl eq_comm
  have Qa:=mq (jh l)[k].name
  generalize hq:(jh l)[k]=p at *
  have hi:=ih (k+1,BQ ks p.name,p.cells,vD (fQ rl) p) ⟨by simp;omega,XH⟩ (by simp;omega)
  simp only[hb,Ms,<-qE,FN.cells]at hi
  have lk:=λaa o bx=>P9 (aa:=aa) (o:=o) (r:=r) (bx:=bx) (ks:=ks) p.name
  have up:=λaa o bx=>Vy (aa:=aa) (o:=o) (r:=r) (bx:=bx) (ks:=ks) p.name
  have hD:XJ ((jh l).take k) p=if p.name∈ks then some p.at_ else none:=by
   unfold XJ
   by_cases hd:p.name∈ks
   ·rw[if_pos hd,if_pos (Qa.1 hd)]
   ·rw[if_neg hd,if_neg λh=>hd (Qa.2 h)]
  rw[hD]at hi
  by_cases hd:p.name∈ks
  ·have CJ:decide (p.name∈ks)=true:=decide_eq_true hd
   rw[if_pos hd]at hi
   cases hh:p.has with
   |false=>
    simp[hh,Hp,ir,vD,nE,jX]at hi ha
    simp[p2,p3,hp,aZ,FN.cells,hw,hq,lk,up,CJ,e2,e3,Qb,Qc,Vz,Z8,hh,ha,aN,bp,fA.bq,nw]
    exact hi
   |true=>
    cases ho:(cH (fQ rl) p.on p.od).2 with
    |true=>
     simp[hh,Hp,ir,vD,nE,jX,ho]at hi ha
     simp[p2,p3,hp,aZ,FN.cells,hw,hq,lk,up,CJ,e1,e2,e3,Qb,Qc,Vz,Z8,hh,ho,ha,aN,bp,fA.bq,nw]
     exact hi
    |false=>
     simp[hh,Hp,ir,vD,nE,ho]at hi ha
     simp[p2,p3,hp,aZ,FN.cells,hw,hq,lk,up,CJ,e1,e2,e3,Qb,Qc,Vz,Z8,hh,ho,ha,aN,bp,fA.bq,nw]
     exact hi
  ·have CJ:decide (p.name∈ks)=false:=decide_eq_false hd
   rw[if_neg hd,jX]at hi
   cases hh:p.has with
   |false=>
    simp[hh,Hp,ir,vD,nE,jX]at hi ha
    simp[p2,p3,hp,aZ,FN.cells,hw,hq,lk,up,CJ,e3,Qb,Qc,Vz,Z8,hh,ha,aN,bp,fA.bq,nw]
    exact hi
   |true=>
    cases ho:(cH (fQ rl) p.on p.od).2 with
    |true=>
     simp[hh,Hp,ir,vD,nE,jX,ho]at hi ha
     simp[p2,p3,hp,aZ,FN.cells,hw,hq,lk,up,CJ,e1,e3,Qb,Qc,Vz,Z8,hh,ho,ha,aN,bp,fA.bq,nw]
     exact hi
    |false=>
     simp[hh,Hp,ir,vD,nE,ho]at hi ha
     simp[p2,p3,hp,aZ,FN.cells,hw,hq,lk,up,CJ,e1,e3,Qb,Qc,Vz,Z8,hh,ho,ha,aN,bp,fA.bq,nw]
     exact hi
 ·have iK:k=(jh l).length:=by omega
  simp[iK]
def DE:List UInt8:=[109,97,105,110]
def rD (x:FN):Bool:=decide (x.name=DE)&&decide (nF x.params=[]) && !x.has
theorem Mt (wl aa:Nat)(rs:List (List UInt8))(x:FN)(st:aj):(aW S).call wl aa 40 [.agg (ir rs x)] st=some (.bool (rD x),st):=by
 refine bT (sf:=s40) rfl rfl (by simp[ir,AV.ah,AV.an]) rfl (by simp) ?_
 unfold rD
 by_cases a:x.name=DE
 ·by_cases b:nF x.params=[]
  ·simp[s40,ir,DE,a,b,gw]
  ·have b':¬(nF x.params).length=0:=by simpa using b
   simp[s40,ir,DE,a,b,b',gw]
 ·simp only[DE]at a
  simp[s40,ir,DE,a]
def wT (l:List FN):Int:=match l.findIdx? rD with
 |some k=>k
 |none=>-1
theorem yb (wl aa:Nat)(rs:List (List UInt8))(l:List FN)(st:aj)(hn:l.length<1000000000) :
  (aW S).call wl aa 39 [(b8 6 (g8 rs l)).view,.fn 40 [] []] st=some (.int .i64 (wT l),st):=by
 have hm:=λwl aa x st=>Mt wl aa rs x st
 have hz:cI 6 (b8 6 (g8 rs l)).view=true:=by rw[xQ,wC];simp[fits,g8,ir]
 have hr:aP (b8 6 (g8 rs l)).view=l.map (ir rs):=by simp[g8]
 have hs:=mN hz
 have hv:(b8 6 (g8 rs l)).view.view=(b8 6 (g8 rs l)).view:=L7 _
 generalize (b8 6 (g8 rs l)).view=v at *
 have l6:∀x,(ir rs x).length=6:=λ_=>rfl
 have t6:∀x,List.take 6 (ir rs x)=ir rs x:=λ_=>rfl
 have v6:∀x,AV.cy (ir rs x)=ir rs x:=by intro x;simp[ir,AV.cy,AV.view]
 refine ax (sf:=ZW) rfl (by simp[alone,ZW]) rfl ?_
 simp[ZW,hs,hr,hv]
 refine bC Jh.eq_1 (λq:Nat×Nat=>⟨[(0,.val v),(1,.val (.fn 40 [] [])),(7,.val (.int .i64 l.length)),(8,.val (.int .i64 q.1))],[],st⟩)
  (λq=>q.1<=l.length/\GS rD l q.1) (λq=>l.length-q.1) ((0,0):Nat×Nat) (by simp) ⟨by simp,xX⟩ ?_
 rintro⟨k,b⟩ ⟨hk,hp⟩ ih
 simp only at hk hp ih
 by_cases aZ:k<l.length
 ·have hw:IntKind.i64.wrap ((k:Int)+1)=((k+1:Nat):Int):=by rw[wrap64]<;>omega
  have hmk:=λwl aa st=>hm wl aa l[k] st
  cases e:rD l[k] with
  |true=>
   have hi:wT l=k:=by
    have:l.findIdx? rD=some k:=by
     rw[List.findIdx?_eq_some_iff_getElem]
     exact⟨aZ,e,λj hj=>by simp[hp j (by omega) hj]⟩
    unfold wT;rw[this]
   simp[hz,hr,hv,aZ,hmk,e,hi,l6,t6,v6]
  |false=>
   simp[hz,hr,hv,aZ,hmk,e,hw,l6,t6,v6]
   exact ih (k+1,0) ⟨by simp;omega,xY hp aZ e⟩ (by simp;omega)
 ·have iK:k=l.length:=by omega
  have hi:wT l = -1:=by
   have:l.findIdx? rD=none:=by
    rw[List.findIdx?_eq_none_iff]
    intro x hx
    obtain⟨j,hj,rfl⟩:=List.mem_iff_getElem.1 hx
    exact hp j hj (iK ▸ hj)
   unfold wT;rw[this]
  simp[aZ,hi]
end U7
namespace U7
open Ax Go cp V7
def Hq:AV:=.agg [.U,.U,.U,.int .i64 0]
def BR (p:GD):AV:=.agg [(b8 2 (mR (jQ (de p.bw)) (de p.bw))).view,(b8 4 (gw (jQ (de p.bw)) (nF p.globals))).view,(b8 6 (g8 (jQ (de p.bw)) (jh p.funcs))).view,.int .i64 (wT (jh p.funcs))]
def td (p:GD):Option Int:=uY (uY (uY (uY none (fV EN (de p.bw) (de p.bw).length)) (fV (Mr (jQ (de p.bw))) (de p.bw) (de p.bw).length)) (fV (wI (jQ (de p.bw))) (nF p.globals) (nF p.globals).length))
 (fV (Ms (jQ (de p.bw))) (jh p.funcs) (jh p.funcs).length)
def lS (p:GD):Option Int:=if wT (jh p.funcs)<0 then uY (td p) (some 0) else td p
def Qd (p:GD):AV:=.fm [match lS p with|some _=>Hq|none=>BR p,.agg [.int .i64 (fE (lS p)),.int .i64 (fX (lS p))]]
structure GD.sm (p:GD):Prop where
 bw:(de p.bw).length<1000000000
 fields:∀x∈de p.bw,(nF x.fields).length<1000000000
 globals:(nF p.globals).length<1000000000
 funcs:(jh p.funcs).length<1000000000
 params:∀x∈jh p.funcs,(nF x.params).length<1000000000
theorem EP (wl aa:Nat)(p:GD)(st:aj)(hp:p.ok)(hs:GD.sm p):(aW S).call wl aa 23 [.agg p.cells] st=some (Qd p,st):=by
 have p1:=KH hp.bw
 have p2:=GU hp.bw
 have g1:=BA hp.globals
 have g2:=wH hp.globals
 have f1:=KI hp.funcs
 have f2:=GW hp.funcs
 have hrn:(jQ (de p.bw)).length<1000000000:=by simpa [jQ] using hs.bw
 have er:∀aa r,(aW S).call 0 aa 36 [.ptr 0 0 0 0,p.bw] (.rows 0 3 [[.U,.int .i64 0,.int .i64 0]]::r)=_:=λaa r=>Jz aa p.bw none r hp.bw hs.bw hs.fields
 have eg:=λaa f r=>oq aa p.globals (b8 1 (gp (jQ (de p.bw)))) f r (wS _) (by rw[rC];exact hrn) hp.globals hs.globals
 have ef:=λaa f r=>T6 aa p.funcs (b8 1 (gp (jQ (de p.bw)))) f r (wS _) (by rw[rC];exact hrn) hp.funcs hs.funcs hs.params
 have ei:=λwl aa st=>yb wl aa (jQ (de p.bw)) (jh p.funcs) st hs.funcs
 have e2:=λaa a rl f r=>dF aa a rl f r
 simp only[rC,mk]at er eg ef e2
 refine bT (sf:=s23) rfl rfl (by simp[GD.cells,AV.ah,AV.an,p1,g1,f1]) rfl (by cases h:lS p<;>simp[Qd,h,Hq,BR,AV.an,AV.ah]) ?_
 unfold Qd lS
 have hm3:td p=td p:=rfl
 conv at hm3=>lhs;unfold td
 generalize td p=F at *
 by_cases hm:wT (jh p.funcs)<0
 ·obtain⟨y,hy⟩:∃y,uY F (some 0)=some y:=by cases F<;>exact⟨_,rfl⟩
  simp[s23,GD.cells,p1,p2,g1,g2,f1,f2,er,eg,ef,ei,e2,hm,hm3,aN,bp,fA.bq,nw]
  simp[hy,fE,fX,Hq,aN,bp,fA.bq]
 ·simp[s23,GD.cells,p1,p2,g1,g2,f1,f2,er,eg,ef,ei,hm,hm3,aN,bp,fA.bq,nw]
  cases F with
  |some y=>simp[fE,fX,Hq,aN,bp,fA.bq]
  |none=>simp[fE,fX,BR,fA.bq]
end U7
