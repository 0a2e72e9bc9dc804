/- Part of a proof. -/
import Derived.Test.YtachcambnjecnaaGreatCode2
import Derived.Test.YtachcambnjecnaaGreatP
import Derived.KernelRfl

set_option maxRecDepth 100000
set_option maxHeartbeats 4000000
namespace U7
open Ax Go aT V7
theorem HJ (wl aa:Nat)(l:AV)(s:List UInt8)(st:an)(hl:sR l=true)(hn:(fY l).length<1000000000) :
  (aU S).call wl aa 117 [l,.str s] st=some (.int .i64 (td (fY l) s),st):=by
 have h1:=Ak hl
 have h2:=BY hl
 have h3:=Qs hl
 refine bf (sf:=Qc) rfl rfl (by simp[bC h1]) rfl (by simp) ?_
 simp[Qc,h1,h2,h3]
 refine bu ES.eq_1 (λq:Nat×Int=>⟨[(0,.val l),(1,.val (.str s)),(7,.val (.int .i64 (fY l).length)),(8,.val (.int .i64 q.1))],[],[]⟩)
  (λq=>q.1<=(fY l).length/\zS (λx=>decide (x=s)) (fY l) q.1) (λq=>(fY l).length-q.1) (0,0) (by simp) ⟨by simp,uU⟩ ?_
 rintro⟨k,bb⟩ ⟨hk,hp⟩ ih
 simp only at hk hp ih
 by_cases aV:k<(fY l).length
 ·have hw:IntKind.i64.wrap ((k:Int)+1)=((k+1:Nat):Int):=by rw[wrap64]<;>omega
  by_cases e:(fY l)[k]=s
  ·have hi:=K1 hp aV e
   simp[hl,h2,h3,aV,e,hi]
  ·have e':¬s=(fY l)[k]:=λh=>e h.symm
   simp[hl,h2,h3,aV,e',hw]
   exact ih (k+1,0) ⟨by simp;omega,uV hp aV (by simpa using e)⟩ (by simp;omega)
 ·have de:k=(fY l).length:=by omega
  have hi:=DO (de ▸ hp)
  simp[aV,hi]
theorem Lb {l:List (List UInt8)}{s:List UInt8}{d:Int}(h:d<0\/3<d):cM l s d=(T0,false):=if_pos h
theorem xO (wl aa:Nat)(l:AV)(s:List UInt8)(d:Int)(st:an)(hl:sR l=true)(hn:(fY l).length<1000000000) :
  (aU S).call wl aa 118 [l,.agg [.str s,.int .i64 d]] st=some (.fz [.agg (cM (fY l) s d).1.cells,.bool (cM (fY l) s d).2],st):=by
 have h1:=Ak hl
 have h2:=BY hl
 have hi:=HJ 0 0 l s [] hl hn
 refine bf (sf:=wC) rfl rfl (by simp[bC h1]) rfl (by simp[AV.au,AV.ai]) ?_
 by_cases d0:d<0
 ·rw[Lb (.inl d0)]
  simp[wC,d0]
 by_cases d3:3<d
 ·rw[Lb (.inr d3)]
  simp[wC,d0,d3]
 have hd:¬(d<0\/3<d):=by omega
 unfold cM
 rw[if_neg hd]
 by_cases i1:s=[105,110,116]
 ·simp[wC,d0,d3,i1]
 by_cases i2:s=[98,111,111,108]
 ·simp[wC,d0,d3,i2]
 rw[if_neg i1,if_neg i2]
 by_cases i3:td (fY l) s<0
 ·simp[wC,d0,d3,i1,i2,hi,i3]
 ·simp[wC,d0,d3,i1,i2,hi,i3]
theorem Fa (wl aa:Nat)(t:T3)(st:an):(aU S).call wl aa 46 [.agg t.cells] st=some (.bool (kX t),st):=by
 refine bf (sf:=Sx) rfl rfl (by simp) rfl (by simp) ?_
 unfold kX
 by_cases b:t.b=3
 ·simp[Sx,b]
 ·simp[Sx,b]
end U7
namespace U7
open Ax Go aT V7
def fE (f:Option Int):Int:=match f with|some _=>3|none=>0
def fX (f:Option Int):Int:=match f with|some x=>x|none=>0
@[simp] def mk (rl:AV) (f:Option Int):fB:=.rows 0 3 [[rl,.int .i64 (fE f),.int .i64 (fX f)]]
theorem dQ (aa:Nat)(a:Int)(rl:AV)(f:Option Int)(r:an) :
  (aU S).call 0 aa 81 [.ptr 0 0 0 0,.int .i64 a] (mk rl f::r)=some (.fz [],mk rl (vz f (some a))::r):=by
 refine ay (sf:=s81) rfl rfl rfl ?_
 cases f with
 |none=>simp[s81,fE,fX,vz,bp,af,cut,AV.ai,AV.au]
 |some x=>simp[s81,fE,fX,vz,cut,AV.ai,AV.au]
theorem xP (aa:Nat)(s:List UInt8)(d a:Int)(rl:AV)(f:Option Int)(r:an)(hl:sR rl.view=true)(hn:(fY rl).length<1000000000) :
  (aU S).call 0 aa 99 [.ptr 0 0 0 0,.agg [.str s,.int .i64 d],.int .i64 a] (mk rl f::r)=some (.agg (cM (fY rl) s d).1.cells,mk rl (if (cM (fY rl) s d).2 then f else vz f (some a))::r):=by
 have h1:aG rl=true:=by simpa using Ak hl
 have e1:=λwl aa st=>xO wl aa rl.view s d st hl (by simpa using hn)
 have e2:=λaa=>dQ aa a rl f r
 simp only[DN]at e1
 refine ay (sf:=s99) rfl rfl rfl ?_
 generalize cM (fY rl) s d=z at *
 obtain⟨u,o⟩:=z
 simp only[T3.cells]at e1
 simp only[mk]at e2
 cases o with
 |true=>simp[s99,cut,e1,aB,aI,cL.aF,cP,AV.ai,AV.au]
 |false=>simp[s99,cut,e1,e2,aB,aI,cL.aF,cP,AV.ai,AV.au]
theorem HK (wl aa:Nat)(l:AV)(s:List UInt8)(st:an)(hl:sR l=true)(hn:(fY l).length<1000000000) :
  (aU S).call wl aa 98 [l,.str s] st=some (.bool (decide (0<=td (fY l) s)),st):=by
 have h1:=Ak hl
 have h2:=BY hl
 have e:=HJ 0 0 l s [] hl hn
 refine bf (sf:=s98) rfl rfl (by simp[bC h1]) rfl (by simp) ?_
 simp[s98,e]
def wG (ks:List (List UInt8)):List (AV×AV):=ks.map λs=>(.str s,.agg [])
theorem D1 (s:List UInt8):∀ks,pY .str (.str s) (wG ks)=some (if s∈ks then some (.agg []) else none)
 |[]=>rfl
 |a::ks=>by
  have ih:=D1 s ks
  simp only[wG]at ih
  simp only[wG,List.map_cons,pY,CF]
  by_cases h:a=s
  ·simp[h]
  ·have:(s==a)=false:=beq_eq_false_iff_ne.2 λe=>h e.symm
   have h':¬s=a:=λe=>h e.symm
   rw[this]
   simp[ih,h']
def Ca (ks:List (List UInt8))(s:List UInt8):List (List UInt8):=if s∈ks then ks else ks++[s]
theorem HL (s:List UInt8):∀ks,CQ .str (.str s) (.agg []) (wG ks)=some (wG (Ca ks s))
 |[]=>rfl
 |a::ks=>by
  have ih:=HL s ks
  simp only[wG]at ih
  simp only[wG,List.map_cons,CQ,CF]
  by_cases h:a=s
  ·simp[h,Ca]
  ·have:(s==a)=false:=beq_eq_false_iff_ne.2 λe=>h e.symm
   have h':¬s=a:=λe=>h e.symm
   rw[this]
   simp only[ih]
   by_cases hm:s∈ks
   ·simp[Ca,hm]
   ·simp[Ca,hm,h']
theorem HM (ks:List (List UInt8))(s t:List UInt8):t∈Ca ks s↔t∈ks\/t=s:=by
 unfold Ca
 split
 ·constructor
  ·exact .inl
  ·rintro (h|rfl)<;>assumption
 ·simp
@[simp] theorem aaU {wl aa:Nat} {st:an} {bx:aX}:aL wl aa .makeMap [] st bx=some (.val (.map st.length),st++[.map []],bx):=rfl
theorem Wl {aa:Nat}{o:fB}{r:an}{bx:aX}{ks:List (List UInt8)}(s:List UInt8) :
  aL 0 aa (.mapUpdate .str) [.val (.map (r.length+1)),.val (.str s),.val (.agg [])] (o::(r++[.map (wG ks)])) bx=some (.none,o::(r++[.map (wG (Ca ks s))]),bx):=by
 simp[aL,isKey,bp,AV.ai,AV.au,AV.view,AV.cz,HL]
theorem QJ {aa:Nat}{o:fB}{r:an}{bx:aX}{ks:List (List UInt8)}(s:List UInt8) :
  aL 0 aa (.lookup .str (.agg []) true) [.val (.map (r.length+1)),.val (.str s)] (o::(r++[.map (wG ks)])) bx=some (.val (.fz [.agg [],.bool (decide (s∈ks))]),o::(r++[.map (wG ks)]),bx):=by
 simp only[aL,List.getElem?_cons_succ,isKey,if_true]
 by_cases h:s∈ks<;>simp[h,D1]
theorem qm {α:Type}{bad:List α->α->Option Int}{l:List α}{k:Nat}(h:k<l.length):gb bad l (k+1)=vz (gb bad l k) (bad (l.take k) l[k]):=by
 simp[gb,h]
theorem rq (a b c:Option Int):vz (vz a b) c=vz a (vz b c):=by cases a<;>rfl
theorem ki (a:Option Int):vz a none=a:=by cases a<;>rfl
theorem UN (a:Option Int)(x:Int):vz (vz a (some x)) (some x)=vz a (some x):=by cases a<;>rfl
theorem Fe {rs:List (List UInt8)}{l:List PD}{k:Nat}(h:k<l.length):gD rs (l.take (k+1))=gD rs (l.take k)++[EZ rs l[k]]:=by
 simp only[gD,List.take_succ_eq_append_getElem h,List.map_append,List.map_cons,List.map_nil]
theorem yE (aa:Nat)(l:AV)(rl:AV)(f:Option Int)(r:an)(hl:sR rl.view=true)(hn:(fY rl).length<1000000000)(hp:zT l=true)(hpn:(nY l).length<1000000000) :
  (aU S).call 0 aa 77 [.ptr 0 0 0 0,l] (mk rl f::r)=some (cp 4 (gD (fY rl) (nY l)),mk rl (vz f (gb (xE (fY rl)) (nY l) (nY l).length))::r):=by
 have p1:=BZ hp
 have p2:=xD hp
 have p3:=Uz hp
 have e1:=λaa s d a f r=>xP aa s d a rl f r hl hn
 have e2:=λaa a f r=>dQ aa a rl f r
 simp only[T3.cells,mk]at e1 e2
 refine ay (sf:=s77) rfl rfl rfl ?_
 simp[s77,p1,p2,p3]
 refine bu P6.eq_1 (λq:Nat×List (List UInt8)×List AV=>⟨[(0,.val (.ptr 0 0 0 0)),(5,.val (cp 4 (gD (fY rl) ((nY l).take q.1)))),(6,.val (.map (r.length+1))),(12,.val l),(13,.val (.int .i64 (nY l).length)),(14,.val (.int .i64 q.1))],[q.2.2,[]],
   mk rl (vz f (gb (xE (fY rl)) (nY l) q.1))::(r++[.map (wG q.2.1)])⟩)
  (λq=>q.1<=(nY l).length/\∀s,s∈q.2.1↔((nY l).take q.1).any (λp=>decide (p.name=s))=true) (λq=>(nY l).length-q.1) ((0,[],[]):Nat×List (List UInt8)×List AV) (by simp[gD,nk,gb,ki,wG]) (by simp) ?_
 rintro⟨k,ks,bb⟩ ⟨hk,s8⟩ ih
 simp only at hk s8 ih
 by_cases aV:k<(nY l).length
 ·have hw:IntKind.i64.wrap ((k:Int)+1)=((k+1:Nat):Int):=by rw[wrap64]<;>omega
  have hb:=qm (bad:=xE (fY rl)) aV
  have hr:=Fe (rs:=fY rl) aV
  have hlen:(gD (fY rl) ((nY l).take k)).length=k:=by simp[gD];omega
  have ha:vv 4 40 (cp 4 (gD (fY rl) ((nY l).take k))) [EZ (fY rl) (nY l)[k]]=some (cp 4 (gD (fY rl) ((nY l).take (k+1)))):=by
   rw[fL (by rfl) (by rw[hlen];simp[room];omega),hr]
  have Yz:∀s,s∈Ca ks (nY l)[k].name↔((nY l).take (k+1)).any (λp=>decide (p.name=s))=true:=by
   intro s
   rw[HM,s8,List.take_succ_eq_append_getElem aV,List.any_append]
   simp only[List.any_cons,List.any_nil,Bool.or_false,Bool.or_eq_true,decide_eq_true_eq]
   exact or_congr Iff.rfl eq_comm
  have QK:=s8 (nY l)[k].name
  generalize hq:(nY l)[k]=p at *
  simp only[EZ,T3.cells]at ha
  have hi:=ih (k+1,Ca ks p.name,p.cells) ⟨by simp;omega,Yz⟩ (by simp;omega)
  simp only[hb,PD.cells]at hi
  have lk:=λaa o bx=>QJ (aa:=aa) (o:=o) (r:=r) (bx:=bx) (ks:=ks) p.name
  have up:=λaa o bx=>Wl (aa:=aa) (o:=o) (r:=r) (bx:=bx) (ks:=ks) p.name
  by_cases hd:p.name∈ks
  ·have Ff:xE (fY rl) ((nY l).take k) p=some p.at_:=by
    unfold xE;rw[QK.1 hd];rfl
   rw[Ff,<-rq]at hi
   have C3:decide (p.name∈ks)=true:=decide_eq_true hd
   cases ho:(cM (fY rl) p.on p.od).2 with
   |true=>
    simp[p2,p3,hp,aV,PD.cells,hw,hq,lk,up,C3,e1,e2,ho,ha,aB,aI,cL.aF,cP]
    exact hi
   |false=>
    simp[p2,p3,hp,aV,PD.cells,hw,hq,lk,up,C3,e1,e2,ho,UN,ha,aB,aI,cL.aF,cP]
    exact hi
  ·have C3:decide (p.name∈ks)=false:=decide_eq_false hd
   have ade:((nY l).take k).any (λq=>decide (q.name=p.name))=false:=by
    cases e:((nY l).take k).any (λq=>decide (q.name=p.name)) with
    |false=>rfl
    |true=>exact absurd (QK.2 e) hd
   cases ho:(cM (fY rl) p.on p.od).2 with
   |true=>
    have Ff:xE (fY rl) ((nY l).take k) p=none:=by unfold xE;rw[ade,ho];rfl
    rw[Ff,ki]at hi
    simp[p2,p3,hp,aV,PD.cells,hw,hq,lk,up,C3,e1,ho,ha,aB,aI,cL.aF,cP]
    exact hi
   |false=>
    have Ff:xE (fY rl) ((nY l).take k) p=some p.at_:=by unfold xE;rw[ade,ho];rfl
    rw[Ff,<-rq]at hi
    simp[p2,p3,hp,aV,PD.cells,hw,hq,lk,up,C3,e1,ho,ha,aB,aI,cL.aF,cP]
    exact hi
 ·have de:k=(nY l).length:=by omega
  simp[de]
end U7
namespace U7
open Ax Go aT V7
def gw (l:List (List UInt8)):List (List AV):=l.map λs=>[.str s]
theorem sH (l:List (List UInt8)):fY (cp 1 (gw l))=l:=by simp[fY,gw,List.map_map,Function.comp_def,dSt]
theorem xQ (l:List (List UInt8)):sR (cp 1 (gw l)).view=true:=by
 have h1:cD 1 (cp 1 (gw l)).view=true:=by
  rw[yx,Ag]
  simp[fits,gw]
 simp only[sR,eJ,zl,h1,BD,tU,Bool.true_and,List.all_eq_true]
 intro r hr
 obtain⟨s,_,rfl⟩:=List.mem_map.1 hr
 rfl
theorem HN (l:List (List UInt8))(s:List UInt8):0<=td l s↔s∈l:=by
 unfold td
 cases e:l.findIdx? λx=>decide (x=s) with
 |none=>
  rw[List.findIdx?_eq_none_iff]at e
  constructor
  ·intro h;exact absurd h (by decide)
  ·intro h;have:=e s h;simp at this
 |some k=>
  obtain⟨hk,h1,_⟩:=List.findIdx?_eq_some_iff_getElem.1 e
  constructor
  ·intro _
   have:l[k]=s:=by simpa using h1
   exact this ▸ List.getElem_mem hk
  ·intro _;show (0:Int)<=(k:Int);omega
theorem YA {aa:Nat}{rl:AV}{e x:AV}{r:an}{bx:aX}(h:aG rl=true) :
  aL 0 aa (.load false 1 true) [.val (.ptr 0 0 0 0)] (.rows 0 3 [[rl,e,x]]::r) bx=some (.val rl,.rows 0 3 [[rl.ir,e,x]]::r,bx):=by
 cases rl<;>simp[aG]at h<;>simp[aL,fN,cut,dL,bp,AV.ir,AV.ai,AV.au,af,bZ]
def Fg (before:List CR)(x:CR):Option Int:=if before.any (λq=>decide (q.name=x.name)) then some x.at_ else none
def MP (rs:List (List UInt8))(_:List CR)(x:CR):Option Int:=gb (xE rs) (nY x.fields) (nY x.fields).length
def Fh (rs:List (List UInt8))(x:CR):List AV:=[.str x.name,(cp 4 (gD rs (nY x.fields))).view]
def nu (rs:List (List UInt8))(l:List CR):List (List AV):=l.map (Fh rs)
theorem JM (aa:Nat)(l:AV)(f:Option Int)(r:an)(hp:zn l=true)(hpn:(dn l).length<1000000000)(Mk:∀x∈dn l,(nY x.fields).length<1000000000) :
  (aU S).call 0 aa 76 [.ptr 0 0 0 0,l] (mk .U f::r)=some (cp 2 (nu (kg (dn l)) (dn l)),
   mk (cp 1 (gw (kg (dn l)))) (vz (vz f (gb Fg (dn l) (dn l).length)) (gb (MP (kg (dn l))) (dn l) (dn l).length))::r):=by
 have p1:=K3 hp
 have p2:=Hw hp
 have p3:=Qv hp
 have e2:=λaa a rl f r=>dQ aa a rl f r
 simp only[mk]at e2
 refine ay (sf:=s76) rfl rfl rfl ?_
 simp[s76,p1,p2,p3]
 refine bu P2.eq_1 (λq:Nat×List AV=>⟨[(0,.val (.ptr 0 0 0 0)),(1,.val l),(10,.val l),(11,.val (.int .i64 (dn l).length)),(12,.val (.int .i64 q.1))],[q.2,[]],
   mk (cp 1 (gw (kg ((dn l).take q.1)))) (vz f (gb Fg (dn l) q.1))::r⟩)
  (λq=>q.1<=(dn l).length) (λq=>(dn l).length-q.1) ((0,[]):Nat×List AV) (by simp[kg,gw,nk,gb,ki]) (by simp) ?_
 rintro⟨k,bb⟩ hk ih
 simp only at hk ih
 by_cases aV:k<(dn l).length
 ·have hw:IntKind.i64.wrap ((k:Int)+1)=((k+1:Nat):Int):=by rw[wrap64]<;>omega
  have hb:=qm (bad:=Fg) aV
  have hF:=DQ hp _ (List.getElem_mem aV)
  have IP:=BZ hF
  have D2:=xD hF
  have UO:=λwl aa s st=>HK wl aa (cp 1 (gw (kg ((dn l).take k)))).view s st (xQ _) (by simp[sH,kg];omega)
  simp only[DN,sH]at UO
  have dM:aG (cp 1 (gw (kg ((dn l).take k))))=true:=dm
  have ha:vv 1 16 (cp 1 (gw (kg ((dn l).take k)))) [[.str (dn l)[k].name]]=some (cp 1 (gw (kg ((dn l).take (k+1))))):=by
   rw[fL (by rfl) (by simp[gw,kg,room];omega)]
   simp only[kg,gw,List.take_succ_eq_append_getElem aV,List.map_append,List.map_cons,List.map_nil]
  have hi:=ih (k+1,(dn l)[k].cells) (by simp;omega) (by simp;omega)
  simp only[hb]at hi
  have yf:(dn l)[k].name∈kg ((dn l).take k)↔((dn l).take k).any (λq=>decide (q.name=(dn l)[k].name))=true:=by
   simp only[kg,List.mem_map,List.any_eq_true,decide_eq_true_eq]
  generalize hq:(dn l)[k]=p at *
  simp only[CR.cells]at hi
  have tk:=λaa e x r bx=>YA (aa:=aa) (e:=e) (x:=x) (r:=r) (bx:=bx) dM
  by_cases hd:p.name∈kg ((dn l).take k)
  ·have Ff:Fg ((dn l).take k) p=some p.at_:=by
    unfold Fg;rw[yf.1 hd];rfl
   rw[Ff,<-rq]at hi
   have C3:decide (0<=td (kg ((dn l).take k)) p.name)=true:=decide_eq_true ((HN _ _).2 hd)
   simp[p2,p3,hp,aV,CR.cells,hw,hq,IP,D2,UO,C3,e2,ha,tk,aB,aI,cL.aF,cP]
   exact hi
  ·have Ff:Fg ((dn l).take k) p=none:=by
    unfold Fg
    cases e:((dn l).take k).any (λq=>decide (q.name=p.name)) with
    |false=>rfl
    |true=>exact absurd (yf.2 e) hd
   rw[Ff,ki]at hi
   have C3:decide (0<=td (kg ((dn l).take k)) p.name)=false:=decide_eq_false λh=>hd ((HN _ _).1 h)
   simp[p2,p3,hp,aV,CR.cells,hw,hq,IP,D2,UO,C3,ha,tk,aB,aI,cL.aF,cP]
   exact hi
 ·have de:k=(dn l).length:=by omega
  subst de
  obtain⟨g,hg⟩:∃g,g=vz f (gb Fg (dn l) (dn l).length):=⟨_,rfl⟩
  obtain⟨rs,hrs⟩:∃rs,rs=kg (dn l):=⟨_,rfl⟩
  have rJ:rs.length<1000000000:=by rw[hrs];simpa [kg] using hpn
  simp only[<-hg,<-hrs,List.take_length]
  simp[p1,p2,p3]
  refine bu P4.eq_1 (λq:Nat×List AV=>⟨[(0,.val (.ptr 0 0 0 0)),(7,.val (cp 2 (nu rs ((dn l).take q.1)))),(39,.val l),(40,.val (.int .i64 (dn l).length)),(41,.val (.int .i64 q.1))],[bb,q.2],
    mk (cp 1 (gw rs)) (vz g (gb (MP rs) (dn l) q.1))::r⟩)
   (λq=>q.1<=(dn l).length) (λq=>(dn l).length-q.1) ((0,[]):Nat×List AV) (by simp[nu,nk,gb,ki]) (by simp) ?_
  rintro⟨k,bb2⟩ hk ih
  simp only at hk ih
  by_cases aV:k<(dn l).length
  ·have hw:IntKind.i64.wrap ((k:Int)+1)=((k+1:Nat):Int):=by rw[wrap64]<;>omega
   have hb:=qm (bad:=MP rs) aV
   have hF:=DQ hp _ (List.getElem_mem aV)
   have IP:=BZ hF
   have D2:=xD hF
   have hFn:=Mk _ (List.getElem_mem aV)
   have e3:=λaa f r=>yE aa (dn l)[k].fields (cp 1 (gw rs)) f r (xQ _) (by rw[sH];exact rJ) hF hFn
   simp only[sH,mk]at e3
   have ha:vv 2 40 (cp 2 (nu rs ((dn l).take k))) [Fh rs (dn l)[k]]=some (cp 2 (nu rs ((dn l).take (k+1)))):=by
    rw[fL (by rfl) (by simp[nu,room];omega)]
    simp only[nu,List.take_succ_eq_append_getElem aV,List.map_append,List.map_cons,List.map_nil]
   have hi:=ih (k+1,(dn l)[k].cells) (by simp;omega) (by simp;omega)
   simp only[hb,MP,<-rq]at hi
   generalize hq:(dn l)[k]=p at *
   simp only[CR.cells]at hi
   simp only[Fh]at ha
   simp[p2,p3,hp,aV,CR.cells,hw,hq,IP,D2,e3,ha,aB,aI,cL.aF,cP]
   exact hi
  ·have de:k=(dn l).length:=by omega
   subst de
   simp
end U7
namespace U7
open Ax Go aT V7
def nW (rs:List (List UInt8))(x:FN):T3:=if x.has then (cM rs x.on x.od).1 else T0
def YB (before:List FN)(x:FN):Option Int:=if before.any (λq=>decide (q.name=x.name)) then some x.at_ else none
def HO (rs:List (List UInt8))(x:FN):Option Int:=if x.has && !(cM rs x.on x.od).2 then some x.at_ else none
def MQ (rs:List (List UInt8))(before:List FN)(x:FN):Option Int:=vz (vz (YB before x) (gb (xE rs) (nY x.params) (nY x.params).length)) (HO rs x)
def iA (rs:List (List UInt8))(x:FN):List AV:=[.str x.name,(cp 4 (gD rs (nY x.params))).view,.bool x.has,.int .i64 (nW rs x).b,.int .i64 (nW rs x).r,.int .i64 (nW rs x).d]
def wH (rs:List (List UInt8))(x:FN):List AV:=[.str x.name,cp 4 (gD rs (nY x.params)),.bool x.has,.int .i64 (nW rs x).b,.int .i64 (nW rs x).r,.int .i64 (nW rs x).d]
def ij (rs:List (List UInt8))(l:List FN):List (List AV):=l.map (iA rs)
theorem UP (aa:Nat)(l rl:AV)(f:Option Int)(r:an)(hl:sR rl.view=true)(hn:(fY rl).length<1000000000)(hp:zo l=true)(hpn:(jr l).length<1000000000)(Mk:∀x∈jr l,(nY x.params).length<1000000000) :
  (aU S).call 0 aa 78 [.ptr 0 0 0 0,l] (mk rl f::r)=some (cp 6 (ij (fY rl) (jr l)),mk rl (vz f (gb (MQ (fY rl)) (jr l) (jr l).length))::r):=by
 have p1:=K4 hp
 have p2:=Hx hp
 have p3:=Qx hp
 have e1:=λaa s d a f r=>xP aa s d a rl f r hl hn
 have e2:=λaa a f r=>dQ aa a rl f r
 simp only[T3.cells,mk]at e1 e2
 refine ay (sf:=s78) rfl rfl rfl ?_
 simp[s78,p1,p2,p3]
 refine bu P7.eq_1 (λq:Nat×List (List UInt8)×List AV×List AV=>⟨[(0,.val (.ptr 0 0 0 0)),(5,.val (cp 6 (ij (fY rl) ((jr l).take q.1)))),(6,.val (.map (r.length+1))),(13,.val l),(14,.val (.int .i64 (jr l).length)),(15,.val (.int .i64 q.1))],[q.2.2.1,[],q.2.2.2],
   mk rl (vz f (gb (MQ (fY rl)) (jr l) q.1))::(r++[.map (wG q.2.1)])⟩)
  (λq=>q.1<=(jr l).length/\∀s,s∈q.2.1↔((jr l).take q.1).any (λp=>decide (p.name=s))=true) (λq=>(jr l).length-q.1) ((0,[],[],[]):Nat×List (List UInt8)×List AV×List AV) (by simp[ij,nk,gb,ki,wG]) (by simp) ?_
 rintro⟨k,ks,bb,bb2⟩ ⟨hk,s8⟩ ih
 simp only at hk s8 ih
 by_cases aV:k<(jr l).length
 ·have hw:IntKind.i64.wrap ((k:Int)+1)=((k+1:Nat):Int):=by rw[wrap64]<;>omega
  have hb:=qm (bad:=MQ (fY rl)) aV
  have hG:=ME hp _ (List.getElem_mem aV)
  have IP:=BZ hG.1
  have D2:=xD hG.1
  have Wm:=hG.2.2
  have hBv:=iL hG.2.1 hG.2.2
  have hFn:=Mk _ (List.getElem_mem aV)
  have e3:=λaa f r=>yE aa (jr l)[k].params rl f r hl hn hG.1 hFn
  simp only[mk]at e3
  have ha:vv 6 72 (cp 6 (ij (fY rl) ((jr l).take k))) [iA (fY rl) (jr l)[k]]=some (cp 6 (ij (fY rl) ((jr l).take (k+1)))):=by
   rw[fL (by rfl) (by simp[ij,room];omega)]
   simp only[ij,List.take_succ_eq_append_getElem aV,List.map_append,List.map_cons,List.map_nil]
  have Yz:∀s,s∈Ca ks (jr l)[k].name↔((jr l).take (k+1)).any (λp=>decide (p.name=s))=true:=by
   intro s
   rw[HM,s8,List.take_succ_eq_append_getElem aV,List.any_append]
   simp only[List.any_cons,List.any_nil,Bool.or_false,Bool.or_eq_true,decide_eq_true_eq]
   exact or_congr Iff.rfl eq_comm
  have QK:=s8 (jr l)[k].name
  generalize hq:(jr l)[k]=p at *
  have hi:=ih (k+1,Ca ks p.name,p.cells,wH (fY rl) p) ⟨by simp;omega,Yz⟩ (by simp;omega)
  simp only[hb,MQ,<-rq,FN.cells]at hi
  have lk:=λaa o bx=>QJ (aa:=aa) (o:=o) (r:=r) (bx:=bx) (ks:=ks) p.name
  have up:=λaa o bx=>Wl (aa:=aa) (o:=o) (r:=r) (bx:=bx) (ks:=ks) p.name
  have hD:YB ((jr l).take k) p=if p.name∈ks then some p.at_ else none:=by
   unfold YB
   by_cases hd:p.name∈ks
   ·rw[if_pos hd,if_pos (QK.1 hd)]
   ·rw[if_neg hd,if_neg λh=>hd (QK.2 h)]
  rw[hD]at hi
  by_cases hd:p.name∈ks
  ·have C3:decide (p.name∈ks)=true:=decide_eq_true hd
   rw[if_pos hd]at hi
   cases hh:p.has with
   |false=>
    simp[hh,HO,iA,wH,nW,ki]at hi ha
    simp[p2,p3,hp,aV,FN.cells,hw,hq,lk,up,C3,e2,e3,IP,D2,Wm,hBv,hh,ha,aB,aI,cL.aF,cP]
    exact hi
   |true=>
    cases ho:(cM (fY rl) p.on p.od).2 with
    |true=>
     simp[hh,HO,iA,wH,nW,ki,ho]at hi ha
     simp[p2,p3,hp,aV,FN.cells,hw,hq,lk,up,C3,e1,e2,e3,IP,D2,Wm,hBv,hh,ho,ha,aB,aI,cL.aF,cP]
     exact hi
    |false=>
     simp[hh,HO,iA,wH,nW,ho]at hi ha
     simp[p2,p3,hp,aV,FN.cells,hw,hq,lk,up,C3,e1,e2,e3,IP,D2,Wm,hBv,hh,ho,ha,aB,aI,cL.aF,cP]
     exact hi
  ·have C3:decide (p.name∈ks)=false:=decide_eq_false hd
   rw[if_neg hd,ki]at hi
   cases hh:p.has with
   |false=>
    simp[hh,HO,iA,wH,nW,ki]at hi ha
    simp[p2,p3,hp,aV,FN.cells,hw,hq,lk,up,C3,e3,IP,D2,Wm,hBv,hh,ha,aB,aI,cL.aF,cP]
    exact hi
   |true=>
    cases ho:(cM (fY rl) p.on p.od).2 with
    |true=>
     simp[hh,HO,iA,wH,nW,ki,ho]at hi ha
     simp[p2,p3,hp,aV,FN.cells,hw,hq,lk,up,C3,e1,e3,IP,D2,Wm,hBv,hh,ho,ha,aB,aI,cL.aF,cP]
     exact hi
    |false=>
     simp[hh,HO,iA,wH,nW,ho]at hi ha
     simp[p2,p3,hp,aV,FN.cells,hw,hq,lk,up,C3,e1,e3,IP,D2,Wm,hBv,hh,ho,ha,aB,aI,cL.aF,cP]
     exact hi
 ·have de:k=(jr l).length:=by omega
  simp[de]
def D3:List UInt8:=[109,97,105,110]
def qn (x:FN):Bool:=decide (x.name=D3)&&decide (nY x.params=[]) && !x.has
theorem MS (wl aa:Nat)(rs:List (List UInt8))(x:FN)(st:an):(aU S).call wl aa 80 [.agg (iA rs x)] st=some (.bool (qn x),st):=by
 refine bf (sf:=s80) rfl rfl (by simp[iA,AV.ai,AV.au]) rfl (by simp) ?_
 unfold qn
 by_cases a:x.name=D3
 ·by_cases b:nY x.params=[]
  ·simp[s80,iA,D3,a,b,gD]
  ·have b':¬(nY x.params).length=0:=by simpa using b
   simp[s80,iA,D3,a,b,b',gD]
 ·simp only[D3]at a
  simp[s80,iA,D3,a]
def vU (l:List FN):Int:=match l.findIdx? qn with
 |some k=>k
 |none=>-1
theorem yF (wl aa:Nat)(rs:List (List UInt8))(l:List FN)(st:an)(hn:l.length<1000000000) :
  (aU S).call wl aa 79 [(cp 6 (ij rs l)).view,.fn 80 [] []] st=some (.int .i64 (vU l),st):=by
 have hm:=λwl aa x st=>MS wl aa rs x st
 have hz:cD 6 (cp 6 (ij rs l)).view=true:=by rw[yx,Ag];simp[fits,ij,iA]
 have hr:aP (cp 6 (ij rs l)).view=l.map (iA rs):=by simp[ij]
 have hs:=iK hz
 have hv:(cp 6 (ij rs l)).view.view=(cp 6 (ij rs l)).view:=Mq _
 generalize (cp 6 (ij rs l)).view=v at *
 have l6:∀x,(iA rs x).length=6:=λ_=>rfl
 have t6:∀x,List.take 6 (iA rs x)=iA rs x:=λ_=>rfl
 have v6:∀x,AV.cz (iA rs x)=iA rs x:=by intro x;simp[iA,AV.cz,AV.view]
 refine ay (sf:=s79) rfl (by simp[alone,s79]) rfl ?_
 simp[s79,hs,hr,hv]
 refine bu Jx.eq_1 (λq:Nat×Nat=>⟨[(0,.val v),(1,.val (.fn 80 [] [])),(7,.val (.int .i64 l.length)),(8,.val (.int .i64 q.1))],[],st⟩)
  (λq=>q.1<=l.length/\zS qn l q.1) (λq=>l.length-q.1) ((0,0):Nat×Nat) (by simp) ⟨by simp,uU⟩ ?_
 rintro⟨k,b⟩ ⟨hk,hp⟩ ih
 simp only at hk hp ih
 by_cases aV:k<l.length
 ·have hw:IntKind.i64.wrap ((k:Int)+1)=((k+1:Nat):Int):=by rw[wrap64]<;>omega
  have hmk:=λwl aa st=>hm wl aa l[k] st
  cases e:qn l[k] with
  |true=>
   have hi:vU l=k:=by
    have:l.findIdx? qn=some k:=by
     rw[List.findIdx?_eq_some_iff_getElem]
     exact⟨aV,e,λj hj=>by simp[hp j (by omega) hj]⟩
    unfold vU;rw[this]
   simp[hz,hr,hv,aV,hmk,e,hi,l6,t6,v6]
  |false=>
   simp[hz,hr,hv,aV,hmk,e,hw,l6,t6,v6]
   exact ih (k+1,0) ⟨by simp;omega,uV hp aV e⟩ (by simp;omega)
 ·have de:k=l.length:=by omega
  have hi:vU l = -1:=by
   have:l.findIdx? qn=none:=by
    rw[List.findIdx?_eq_none_iff]
    intro x hx
    obtain⟨j,hj,rfl⟩:=List.mem_iff_getElem.1 hx
    exact hp j hj (de ▸ hj)
   unfold vU;rw[this]
  simp[aV,hi]
end U7
namespace U7
open Ax Go aT V7
def HP:AV:=.agg [.U,.U,.U,.int .i64 0]
def Cb (p:GD):AV:=.agg [(cp 2 (nu (kg (dn p.aQ)) (dn p.aQ))).view,(cp 4 (gD (kg (dn p.aQ)) (nY p.globals))).view,(cp 6 (ij (kg (dn p.aQ)) (jr p.funcs))).view,.int .i64 (vU (jr p.funcs))]
def um (p:GD):Option Int:=vz (vz (vz (vz none (gb Fg (dn p.aQ) (dn p.aQ).length)) (gb (MP (kg (dn p.aQ))) (dn p.aQ) (dn p.aQ).length)) (gb (xE (kg (dn p.aQ))) (nY p.globals) (nY p.globals).length))
 (gb (MQ (kg (dn p.aQ))) (jr p.funcs) (jr p.funcs).length)
def kj (p:GD):Option Int:=if vU (jr p.funcs)<0 then vz (um p) (some 0) else um p
def QL (p:GD):AV:=.fz [match kj p with|some _=>HP|none=>Cb p,.agg [.int .i64 (fE (kj p)),.int .i64 (fX (kj p))]]
structure GD.sm (p:GD):Prop where
 aQ:(dn p.aQ).length<1000000000
 fields:∀x∈dn p.aQ,(nY x.fields).length<1000000000
 globals:(nY p.globals).length<1000000000
 funcs:(jr p.funcs).length<1000000000
 params:∀x∈jr p.funcs,(nY x.params).length<1000000000
theorem Fi (wl aa:Nat)(p:GD)(st:an)(hp:p.ok)(hs:GD.sm p):(aU S).call wl aa 41 [.agg p.cells] st=some (QL p,st):=by
 have p1:=K3 hp.aQ
 have p2:=Hw hp.aQ
 have g1:=BZ hp.globals
 have g2:=xD hp.globals
 have f1:=K4 hp.funcs
 have f2:=Hx hp.funcs
 have hrn:(kg (dn p.aQ)).length<1000000000:=by simpa [kg] using hs.aQ
 have er:∀aa r,(aU S).call 0 aa 76 [.ptr 0 0 0 0,p.aQ] (.rows 0 3 [[.U,.int .i64 0,.int .i64 0]]::r)=_:=λaa r=>JM aa p.aQ none r hp.aQ hs.aQ hs.fields
 have eg:=λaa f r=>yE aa p.globals (cp 1 (gw (kg (dn p.aQ)))) f r (xQ _) (by rw[sH];exact hrn) hp.globals hs.globals
 have ef:=λaa f r=>UP aa p.funcs (cp 1 (gw (kg (dn p.aQ)))) f r (xQ _) (by rw[sH];exact hrn) hp.funcs hs.funcs hs.params
 have ei:=λwl aa st=>yF wl aa (kg (dn p.aQ)) (jr p.funcs) st hs.funcs
 have e2:=λaa a rl f r=>dQ aa a rl f r
 simp only[sH,mk]at er eg ef e2
 refine bf (sf:=s41) rfl rfl (by simp[GD.cells,AV.ai,AV.au,p1,g1,f1]) rfl (by cases h:kj p<;>simp[QL,h,HP,Cb,AV.au,AV.ai]) ?_
 unfold QL kj
 have hm3:um p=um p:=rfl
 conv at hm3=>lhs;unfold um
 generalize um p=F at *
 by_cases hm:vU (jr p.funcs)<0
 ·obtain⟨y,hy⟩:∃y,vz F (some 0)=some y:=by cases F<;>exact⟨_,rfl⟩
  simp[s41,GD.cells,p1,p2,g1,g2,f1,f2,er,eg,ef,ei,e2,hm,hm3,aB,aI,cL.aF,cP]
  simp[hy,fE,fX,HP,aB,aI,cL.aF]
 ·simp[s41,GD.cells,p1,p2,g1,g2,f1,f2,er,eg,ef,ei,hm,hm3,aB,aI,cL.aF,cP]
  cases F with
  |some y=>simp[fE,fX,HP,aB,aI,cL.aF]
  |none=>simp[fE,fX,Cb,cL.aF]
end U7
