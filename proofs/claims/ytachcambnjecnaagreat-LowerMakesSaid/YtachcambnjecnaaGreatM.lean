/- Part of a proof. -/
import Derived.Test.YtachcambnjecnaaGreatCode2
import Derived.Test.YtachcambnjecnaaGreatP
import Derived.KernelRfl

set_option maxRecDepth 100000
set_option maxHeartbeats 4000000
namespace U7
open Ax Go bu V7
theorem JP(wl af:Nat)(l:AV)(s:List UInt8)(st:aj)(hl:qj l=true)(hn:(eu l).length<1000000000) :
  (bh S).call wl af 117 [l,.str s] st=some (.int .i64 (vq (eu l) s),st):=by
 have h1:=xB hl;have h2:=wo hl;have h3:=JF hl;refine bN (sf:=Sc) rfl rfl (by simp[ck h1]) rfl (by simp) ?_;simp[Sc,h1,h2,h3];refine bf HF.eq_1 (λq:Nat×Int=>⟨[(0,.val l),(1,.val (.str s)),(7,.val (.int .i64 (eu l).length)),(8,.val (.int .i64 q.1))],[],[]⟩)
  (λq=>q.1<=(eu l).length/\Co (λx=>decide (x=s)) (eu l) q.1) (λq=>(eu l).length-q.1) (0,0) (by simp) ⟨by simp,qP⟩ ?_
 rintro⟨k,bb⟩ ⟨hk,hp⟩ ih;simp only at hk hp ih;by_cases aX:k<(eu l).length;have hw:=wk k (by omega);by_cases e:(eu l)[k]=s;have hi:=HN hp aX e;simp[hl,h2,h3,aX,e,hi];have e':¬s=(eu l)[k]:=λh=>e h.symm;simp[hl,h2,h3,aX,e',hw];exact ih (k+1,0) ⟨by simp;omega,qQ hp aX (by simpa using e)⟩ (by simp;omega);have eL:k=(eu l).length:=by omega
 have hi:=A5 (eL ▸ hp);simp[aX,hi]
theorem CP{l:List (List UInt8)}{s:List UInt8}{d:Int}(h:d<0\/3<d):bZ l s d=(T0,false):=if_pos h
theorem Af(wl af:Nat)(l:AV)(s:List UInt8)(d:Int)(st:aj)(hl:qj l=true)(hn:(eu l).length<1000000000) :
  (bh S).call wl af 118 [l,.agg [.str s,.int .i64 d]] st=some (.fm [.agg (bZ (eu l) s d).1.cells,.bool (bZ (eu l) s d).2],st):=by
 have h1:=xB hl;have h2:=wo hl;have hi:=JP 0 0 l s [] hl hn;refine bN (sf:=yP) rfl rfl (by simp[ck h1]) rfl (by simp[AV.ax,AV.ai]) ?_;by_cases d0:d<0;rw[CP (.inl d0)];simp[yP,d0];by_cases d3:3<d;rw[CP (.inr d3)];simp[yP,d0,d3];have hd:¬(d<0\/3<d):=by omega
 unfold bZ;rw[if_neg hd];by_cases i1:s=[105,110,116];simp[yP,d0,d3,i1];by_cases i2:s=[98,111,111,108];simp[yP,d0,d3,i2];rw[if_neg i1,if_neg i2];by_cases i3:vq (eu l) s<0;simp[yP,d0,d3,i1,i2,hi,i3];simp[yP,d0,d3,i1,i2,hi,i3]
theorem LD(wl af:Nat)(t:T3)(st:aj):(bh S).call wl af 46 [.agg t.cells] st=some (.bool (nK t),st):=by
 refine bN (sf:=Zr) rfl rfl (by simp) rfl (by simp) ?_;unfold nK;by_cases b:t.b=3;simp[Zr,b];simp[Zr,b]
end U7
namespace U7
open Ax Go bu V7
def fE(f:Option Int):Int:=match f with|some _=>3|none=>0
def fX(f:Option Int):Int:=match f with|some x=>x|none=>0
@[simp]def mk(rl:AV)(f:Option Int):dz:=.rows 0 3 [[rl,.int .i64 (fE f),.int .i64 (fX f)]]
theorem eX(af:Nat)(a:Int)(rl:AV)(f:Option Int)(r:aj) :
  (bh S).call 0 af 81 [.ptr 0 0 0 0,.int .i64 a] (mk rl f::r)=some (.fm [],mk rl (wu f (some a))::r):=by
 refine ay (sf:=s81) rfl rfl rfl ?_;cases f with
 |none=>simp[s81,fE,fX,wu,aQ,ag,cut,AV.ai,AV.ax]|some x=>simp[s81,fE,fX,wu,cut,AV.ai,AV.ax]
theorem Ah(af:Nat)(s:List UInt8)(d a:Int)(rl:AV)(f:Option Int)(r:aj)(hl:qj rl.view=true)(hn:(eu rl).length<1000000000) :
  (bh S).call 0 af 99 [.ptr 0 0 0 0,.agg [.str s,.int .i64 d],.int .i64 a] (mk rl f::r)=some (.agg (bZ (eu rl) s d).1.cells,mk rl (if (bZ (eu rl) s d).2 then f else wu f (some a))::r):=by
 have h1:aD rl=true:=by simpa using xB hl
 have e1:=λwl af st=>Af wl af rl.view s d st hl (by simpa using hn);have e2:=λaf=>eX af a rl f r;simp only[mj]at e1;refine ay (sf:=s99) rfl rfl rfl ?_;generalize bZ (eu rl) s d=z at *;obtain⟨u,o⟩:=z;simp only[T3.cells]at e1;simp only[mk]at e2;cases o with
 |true=>simp[s99,cut,e1,aV,bG,eE.bg,mc,AV.ai,AV.ax]|false=>simp[s99,cut,e1,e2,aV,bG,eE.bg,mc,AV.ai,AV.ax]
theorem JQ(wl af:Nat)(l:AV)(s:List UInt8)(st:aj)(hl:qj l=true)(hn:(eu l).length<1000000000) :
  (bh S).call wl af 98 [l,.str s] st=some (.bool (decide (0<=vq (eu l) s)),st):=by
 have h1:=xB hl;have h2:=wo hl;have e:=JP 0 0 l s [] hl hn;refine bN (sf:=s98) rfl rfl (by simp[ck h1]) rfl (by simp) ?_;simp[s98,e]
def yW(ks:List (List UInt8)):List (AV×AV):=ks.map λs=>(.str s,.agg [])
theorem Gx(s:List UInt8):∀ks,sj .str (.str s) (yW ks)=some (if s∈ks then some (.agg []) else none)
 |[]=>rfl|a::ks=>by
  have ih:=Gx s ks;simp only[yW]at ih;simp only[yW,List.map_cons,sj,AI];by_cases h:a=s;simp[h];have:(s==a)=false:=beq_eq_false_iff_ne.2 λe=>h e.symm;have h':¬s=a:=λe=>h e.symm;rw[this];simp[ih,h']
def Eo(ks:List (List UInt8))(s:List UInt8):List (List UInt8):=if s∈ks then ks else ks++[s]
theorem JR(s:List UInt8):∀ks,Fg .str (.str s) (.agg []) (yW ks)=some (yW (Eo ks s))
 |[]=>rfl|a::ks=>by
  have ih:=JR s ks;simp only[yW]at ih;simp only[yW,List.map_cons,Fg,AI];by_cases h:a=s;simp[h,Eo];have:(s==a)=false:=beq_eq_false_iff_ne.2 λe=>h e.symm;have h':¬s=a:=λe=>h e.symm;rw[this];simp only[ih];by_cases hm:s∈ks;simp[Eo,hm];simp[Eo,hm,h']
theorem JS(ks:List (List UInt8))(s t:List UInt8):t∈Eo ks s↔t∈ks\/t=s:=by
 unfold Eo;split;constructor;exact .inl;rintro (h|rfl)<;>assumption;simp
@[simp]theorem ab1{wl af:Nat}{st:aj}{bx:bF}:aW wl af .makeMap [] st bx=some (.val (.map st.length),st++[.map []],bx):=rfl
theorem XO{af:Nat}{o:dz}{r:aj}{bx:bF}{ks:List (List UInt8)}(s:List UInt8) :
  aW 0 af (.mapUpdate .str) [.val (.map (r.length+1)),.val (.str s),.val (.agg [])] (o::(r++[.map (yW ks)])) bx=some (.none,o::(r++[.map (yW (Eo ks s))]),bx):=by
 simp[aW,FD,aQ,AV.ai,AV.ax,AV.view,AV.cq,JR]
theorem SJ{af:Nat}{o:dz}{r:aj}{bx:bF}{ks:List (List UInt8)}(s:List UInt8) :
  aW 0 af (.lookup .str (.agg []) true) [.val (.map (r.length+1)),.val (.str s)] (o::(r++[.map (yW ks)])) bx=some (.val (.fm [.agg [],.bool (decide (s∈ks))]),o::(r++[.map (yW ks)]),bx):=by
 simp only[aW,List.getElem?_cons_succ,FD,if_true];by_cases h:s∈ks<;>simp[h,Gx]
theorem ko{α:Type}{vC:List α->α->Option Int}{l:List α}{k:Nat}(h:k<l.length):cI vC l (k+1)=wu (cI vC l k) (vC (l.take k) l[k]):=by
 simp[cI,h]
theorem tK(a b c:Option Int):wu (wu a b) c=wu a (wu b c):=by cases a<;>rfl
theorem lX(a:Option Int):wu a none=a:=by cases a<;>rfl
theorem VU(a:Option Int)(x:Int):wu (wu a (some x)) (some x)=wu a (some x):=by cases a<;>rfl
theorem Ai{rs:List (List UInt8)}{l:List PD}{k:Nat}(h:k<l.length):dF rs (l.take (k+1))=dF rs (l.take k)++[A8 rs l[k]]:=by
 simp only[dF,List.take_succ_eq_append_getElem h,List.map_append,List.map_cons,List.map_nil]
theorem Bb(af:Nat)(l:AV)(rl:AV)(f:Option Int)(r:aj)(hl:qj rl.view=true)(hn:(eu rl).length<1000000000)(hp:A6 l=true)(hpn:(iJ l).length<1000000000) :
  (bh S).call 0 af 77 [.ptr 0 0 0 0,l] (mk rl f::r)=some (bD 4 (dF (eu rl) (iJ l)),mk rl (wu f (cI (nU (eu rl)) (iJ l) (iJ l).length))::r):=by
 have p1:=sW hp;have p2:=pC hp;have p3:=Nj hp;have e1:=λaf s d a f r=>Ah af s d a rl f r hl hn;have e2:=λaf a f r=>eX af a rl f r;simp only[T3.cells,mk]at e1 e2;refine ay (sf:=s77) rfl rfl rfl ?_;simp[s77,p1,p2,p3];refine bf RX.eq_1 (λq:Nat×List (List UInt8)×List AV=>⟨[(0,.val (.ptr 0 0 0 0)),(5,.val (bD 4 (dF (eu rl) ((iJ l).take q.1)))),(6,.val (.map (r.length+1))),(12,.val l),(13,.val (.int .i64 (iJ l).length)),(14,.val (.int .i64 q.1))],[q.2.2,[]],
   mk rl (wu f (cI (nU (eu rl)) (iJ l) q.1))::(r++[.map (yW q.2.1)])⟩)
  (λq=>q.1<=(iJ l).length/\∀s,s∈q.2.1↔((iJ l).take q.1).any (λp=>decide (p.name=s))=true) (λq=>(iJ l).length-q.1) ((0,[],[]):Nat×List (List UInt8)×List AV) (by simp[dF,jB,cI,lX,yW]) (by simp) ?_
 rintro⟨k,ks,bb⟩ ⟨hk,nk⟩ ih;simp only at hk nk ih;by_cases aX:k<(iJ l).length;have hw:=wk k (by omega);have hb:=ko (vC:=nU (eu rl)) aX;have hr:=Ai (rs:=eu rl) aX;have hlen:(dF (eu rl) ((iJ l).take k)).length=k:=by simp[dF];omega
 have ha:nI 4 40 (bD 4 (dF (eu rl) ((iJ l).take k))) [A8 (eu rl) (iJ l)[k]]=some (bD 4 (dF (eu rl) ((iJ l).take (k+1)))):=by
  rw[dV (by rfl) (by rw[hlen];simp[cT];omega),hr]
 have Z7:∀s,s∈Eo ks (iJ l)[k].name↔((iJ l).take (k+1)).any (λp=>decide (p.name=s))=true:=by
  intro s;rw[JS,nk,List.take_succ_eq_append_getElem aX,List.any_append];simp only[List.any_cons,List.any_nil,Bool.or_false,Bool.or_eq_true,decide_eq_true_eq];exact or_congr Iff.rfl eq_comm
 have SL:=nk (iJ l)[k].name;generalize hq:(iJ l)[k]=p at *;simp only[A8,T3.cells]at ha;have hi:=ih (k+1,Eo ks p.name,p.cells) ⟨by simp;omega,Z7⟩ (by simp;omega);simp only[hb,PD.cells]at hi;have lk:=λaf o bx=>SJ (af:=af) (o:=o) (r:=r) (bx:=bx) (ks:=ks) p.name;have up:=λaf o bx=>XO (af:=af) (o:=o) (r:=r) (bx:=bx) (ks:=ks) p.name;by_cases hd:p.name∈ks;have uM:nU (eu rl) ((iJ l).take k) p=some p.at_:=by
  unfold nU;rw[SL.1 hd];rfl
 rw[uM,<-tK]at hi;have DJ:decide (p.name∈ks)=true:=decide_eq_true hd;cases ho:(bZ (eu rl) p.on p.od).2 with
 |true=>
  simp[p2,p3,hp,aX,PD.cells,hw,hq,lk,up,DJ,e1,e2,ho,ha,aV,bG,eE.bg,mc];exact hi
 |false=>
  simp[p2,p3,hp,aX,PD.cells,hw,hq,lk,up,DJ,e1,e2,ho,VU,ha,aV,bG,eE.bg,mc];exact hi
 have DJ:decide (p.name∈ks)=false:=decide_eq_false hd;have aeF:((iJ l).take k).any (λq=>decide (q.name=p.name))=false:=by
  cases e:((iJ l).take k).any (λq=>decide (q.name=p.name)) with
  |false=>rfl|true=>exact absurd (SL.2 e) hd
 cases ho:(bZ (eu rl) p.on p.od).2 with
 |true=>
  have uM:nU (eu rl) ((iJ l).take k) p=none:=by unfold nU;rw[aeF,ho];rfl
  rw[uM,lX]at hi;simp[p2,p3,hp,aX,PD.cells,hw,hq,lk,up,DJ,e1,ho,ha,aV,bG,eE.bg,mc];exact hi
 |false=>
  have uM:nU (eu rl) ((iJ l).take k) p=some p.at_:=by unfold nU;rw[aeF,ho];rfl
  rw[uM,<-tK]at hi;simp[p2,p3,hp,aX,PD.cells,hw,hq,lk,up,DJ,e1,ho,ha,aV,bG,eE.bg,mc];exact hi
 have eL:k=(iJ l).length:=by omega
 simp[eL]
end U7
namespace U7
open Ax Go bu V7
def ga(l:List (List UInt8)):List (List AV):=l.map λs=>[.str s]
theorem sF(l:List (List UInt8)):eu (bD 1 (ga l))=l:=by simp[eu,ga,List.map_map,Function.comp_def,dSt]
theorem wG(l:List (List UInt8)):qj (bD 1 (ga l)).view=true:=by
 have h1:bX 1 (bD 1 (ga l)).view=true:=by
  rw[AX,xy];simp[bL,ga]
 simp only[qj,lT,JE,h1,DS,pQ,Bool.true_and,List.all_eq_true];intro r hr;obtain⟨s,_,rfl⟩:=List.mem_map.1 hr
 rfl
theorem JT(l:List (List UInt8))(s:List UInt8):0<=vq l s↔s∈l:=by
 unfold vq;cases e:l.findIdx? λx=>decide (x=s) with
 |none=>
  rw[List.findIdx?_eq_none_iff]at e;constructor;intro h;exact absurd h (by decide);intro h;have:=e s h;simp at this
 |some k=>
  obtain⟨hk,h1,_⟩:=List.findIdx?_eq_some_iff_getElem.1 e;constructor;intro _;have:l[k]=s:=by simpa using h1
  exact this ▸ List.getElem_mem hk;intro _;show (0:Int)<=(k:Int);omega
theorem Z8{af:Nat}{rl:AV}{e x:AV}{r:aj}{bx:bF}(h:aD rl=true) :
  aW 0 af (.load false 1 true) [.val (.ptr 0 0 0 0)] (.rows 0 3 [[rl,e,x]]::r) bx=some (.val rl,.rows 0 3 [[rl.di,e,x]]::r,bx):=by
 cases rl<;>simp[aD]at h<;>simp[aW,dA,cut,cu,aQ,AV.di,AV.ai,AV.ax,ag,bM]
def tL(before:List CR)(x:CR):Option Int:=if before.any (λq=>decide (q.name=x.name)) then some x.at_ else none
def yX(rs:List (List UInt8))(_:List CR)(x:CR):Option Int:=cI (nU rs) (iJ x.cQ) (iJ x.cQ).length
def Bc(rs:List (List UInt8))(x:CR):List AV:=[.str x.name,(bD 4 (dF rs (iJ x.cQ))).view]
def jC(rs:List (List UInt8))(l:List CR):List (List AV):=l.map (Bc rs)
theorem LF(af:Nat)(l:AV)(f:Option Int)(r:aj)(hp:BR l=true)(hpn:(cj l).length<1000000000)(Gf:∀x∈cj l,(iJ x.cQ).length<1000000000) :
  (bh S).call 0 af 76 [.ptr 0 0 0 0,l] (mk .U f::r)=some (bD 2 (jC (iK (cj l)) (cj l)),
   mk (bD 1 (ga (iK (cj l)))) (wu (wu f (cI tL (cj l) (cj l).length)) (cI (yX (iK (cj l))) (cj l) (cj l).length))::r):=by
 have p1:=CL hp;have p2:=zT hp;have p3:=D8 hp;have e2:=λaf a rl f r=>eX af a rl f r;simp only[mk]at e2;refine ay (sf:=s76) rfl rfl rfl ?_;simp[s76,p1,p2,p3];refine bf RU.eq_1 (λq:Nat×List AV=>⟨[(0,.val (.ptr 0 0 0 0)),(1,.val l),(10,.val l),(11,.val (.int .i64 (cj l).length)),(12,.val (.int .i64 q.1))],[q.2,[]],
   mk (bD 1 (ga (iK ((cj l).take q.1)))) (wu f (cI tL (cj l) q.1))::r⟩)
  (λq=>q.1<=(cj l).length) (λq=>(cj l).length-q.1) ((0,[]):Nat×List AV) (by simp[iK,ga,jB,cI,lX]) (by simp) ?_
 rintro⟨k,bb⟩ hk ih;simp only at hk ih;by_cases aX:k<(cj l).length;have hw:=wk k (by omega);have hb:=ko (vC:=tL) aX;have hF:=A7 hp _ (List.getElem_mem aX);have OT:=sW hF;have Iw:=pC hF;have VW:=λwl af s st=>JQ wl af (bD 1 (ga (iK ((cj l).take k)))).view s st (wG _) (by simp[sF,iK];omega);simp only[mj,sF]at VW;have cC:aD (bD 1 (ga (iK ((cj l).take k))))=true:=bY;have ha:nI 1 16 (bD 1 (ga (iK ((cj l).take k)))) [[.str (cj l)[k].name]]=some (bD 1 (ga (iK ((cj l).take (k+1))))):=by
  rw[dV (by rfl) (by simp[ga,iK,cT];omega)];simp only[iK,ga,List.take_succ_eq_append_getElem aX,List.map_append,List.map_cons,List.map_nil]
 have hi:=ih (k+1,(cj l)[k].cells) (by simp;omega) (by simp;omega);simp only[hb]at hi;have AO:(cj l)[k].name∈iK ((cj l).take k)↔((cj l).take k).any (λq=>decide (q.name=(cj l)[k].name))=true:=by
  simp only[iK,List.mem_map,List.any_eq_true,decide_eq_true_eq]
 generalize hq:(cj l)[k]=p at *;simp only[CR.cells]at hi;have tk:=λaf e x r bx=>Z8 (af:=af) (e:=e) (x:=x) (r:=r) (bx:=bx) cC;by_cases hd:p.name∈iK ((cj l).take k);have uM:tL ((cj l).take k) p=some p.at_:=by
  unfold tL;rw[AO.1 hd];rfl
 rw[uM,<-tK]at hi;have DJ:decide (0<=vq (iK ((cj l).take k)) p.name)=true:=decide_eq_true ((JT _ _).2 hd);simp[p2,p3,hp,aX,CR.cells,hw,hq,OT,Iw,VW,DJ,e2,ha,tk,aV,bG,eE.bg,mc];exact hi;have uM:tL ((cj l).take k) p=none:=by
  unfold tL;cases e:((cj l).take k).any (λq=>decide (q.name=p.name)) with
  |false=>rfl|true=>exact absurd (AO.2 e) hd
 rw[uM,lX]at hi;have DJ:decide (0<=vq (iK ((cj l).take k)) p.name)=false:=decide_eq_false λh=>hd ((JT _ _).1 h);simp[p2,p3,hp,aX,CR.cells,hw,hq,OT,Iw,VW,DJ,ha,tk,aV,bG,eE.bg,mc];exact hi;have eL:k=(cj l).length:=by omega
 subst eL;obtain⟨g,hg⟩:∃g,g=wu f (cI tL (cj l) (cj l).length):=⟨_,rfl⟩;obtain⟨rs,CQ⟩:∃rs,rs=iK (cj l):=⟨_,rfl⟩;have nj:rs.length<1000000000:=by rw[CQ];simpa [iK] using hpn
 simp only[<-hg,<-CQ,List.take_length];simp[p1,p2,p3];refine bf RW.eq_1 (λq:Nat×List AV=>⟨[(0,.val (.ptr 0 0 0 0)),(7,.val (bD 2 (jC rs ((cj l).take q.1)))),(39,.val l),(40,.val (.int .i64 (cj l).length)),(41,.val (.int .i64 q.1))],[bb,q.2],
   mk (bD 1 (ga rs)) (wu g (cI (yX rs) (cj l) q.1))::r⟩)
  (λq=>q.1<=(cj l).length) (λq=>(cj l).length-q.1) ((0,[]):Nat×List AV) (by simp[jC,jB,cI,lX]) (by simp) ?_
 rintro⟨k,bb2⟩ hk ih;simp only at hk ih;by_cases aX:k<(cj l).length;have hw:=wk k (by omega);have hb:=ko (vC:=yX rs) aX;have hF:=A7 hp _ (List.getElem_mem aX);have OT:=sW hF;have Iw:=pC hF;have hFn:=Gf _ (List.getElem_mem aX);have e3:=λaf f r=>Bb af (cj l)[k].cQ (bD 1 (ga rs)) f r (wG _) (by rw[sF];exact nj) hF hFn;simp only[sF,mk]at e3;have ha:nI 2 40 (bD 2 (jC rs ((cj l).take k))) [Bc rs (cj l)[k]]=some (bD 2 (jC rs ((cj l).take (k+1)))):=by
  rw[dV (by rfl) (by simp[jC,cT];omega)];simp only[jC,List.take_succ_eq_append_getElem aX,List.map_append,List.map_cons,List.map_nil]
 have hi:=ih (k+1,(cj l)[k].cells) (by simp;omega) (by simp;omega);simp only[hb,yX,<-tK]at hi;generalize hq:(cj l)[k]=p at *;simp only[CR.cells]at hi;simp only[Bc]at ha;simp[p2,p3,hp,aX,CR.cells,hw,hq,OT,Iw,e3,ha,aV,bG,eE.bg,mc];exact hi;have eL:k=(cj l).length:=by omega
 subst eL;simp
end U7
namespace U7
open Ax Go bu V7
def oJ(rs:List (List UInt8))(x:FN):T3:=if x.bP then (bZ rs x.on x.od).1 else T0
def JU(before:List FN)(x:FN):Option Int:=if before.any (λq=>decide (q.name=x.name)) then some x.at_ else none
def yY(rs:List (List UInt8))(x:FN):Option Int:=if x.bP && !(bZ rs x.on x.od).2 then some x.at_ else none
def xX(rs:List (List UInt8))(before:List FN)(x:FN):Option Int:=wu (wu (JU before x) (cI (nU rs) (iJ x.params) (iJ x.params).length)) (yY rs x)
def iL(rs:List (List UInt8))(x:FN):List AV:=[.str x.name,(bD 4 (dF rs (iJ x.params))).view,.bool x.bP,.int .i64 (oJ rs x).b,.int .i64 (oJ rs x).r,.int .i64 (oJ rs x).d]
def yZ(rs:List (List UInt8))(x:FN):List AV:=[.str x.name,bD 4 (dF rs (iJ x.params)),.bool x.bP,.int .i64 (oJ rs x).b,.int .i64 (oJ rs x).r,.int .i64 (oJ rs x).d]
def fO(rs:List (List UInt8))(l:List FN):List (List AV):=l.map (iL rs)
theorem VX(af:Nat)(l rl:AV)(f:Option Int)(r:aj)(hl:qj rl.view=true)(hn:(eu rl).length<1000000000)(hp:BS l=true)(hpn:(dN l).length<1000000000)(Gf:∀x∈dN l,(iJ x.params).length<1000000000) :
  (bh S).call 0 af 78 [.ptr 0 0 0 0,l] (mk rl f::r)=some (bD 6 (fO (eu rl) (dN l)),mk rl (wu f (cI (xX (eu rl)) (dN l) (dN l).length))::r):=by
 have p1:=CM hp;have p2:=zU hp;have p3:=JG hp;have e1:=λaf s d a f r=>Ah af s d a rl f r hl hn;have e2:=λaf a f r=>eX af a rl f r;simp only[T3.cells,mk]at e1 e2;refine ay (sf:=s78) rfl rfl rfl ?_;simp[s78,p1,p2,p3];refine bf RZ.eq_1 (λq:Nat×List (List UInt8)×List AV×List AV=>⟨[(0,.val (.ptr 0 0 0 0)),(5,.val (bD 6 (fO (eu rl) ((dN l).take q.1)))),(6,.val (.map (r.length+1))),(13,.val l),(14,.val (.int .i64 (dN l).length)),(15,.val (.int .i64 q.1))],[q.2.2.1,[],q.2.2.2],
   mk rl (wu f (cI (xX (eu rl)) (dN l) q.1))::(r++[.map (yW q.2.1)])⟩)
  (λq=>q.1<=(dN l).length/\∀s,s∈q.2.1↔((dN l).take q.1).any (λp=>decide (p.name=s))=true) (λq=>(dN l).length-q.1) ((0,[],[],[]):Nat×List (List UInt8)×List AV×List AV) (by simp[fO,jB,cI,lX,yW]) (by simp) ?_
 rintro⟨k,ks,bb,bb2⟩ ⟨hk,nk⟩ ih;simp only at hk nk ih;by_cases aX:k<(dN l).length;have hw:=wk k (by omega);have hb:=ko (vC:=xX (eu rl)) aX;have hG:=Gm hp _ (List.getElem_mem aX);have OT:=sW hG.1;have Iw:=pC hG.1;have JV:=hG.2.2;have XP:=wm hG.2.1 hG.2.2;have hFn:=Gf _ (List.getElem_mem aX);have e3:=λaf f r=>Bb af (dN l)[k].params rl f r hl hn hG.1 hFn;simp only[mk]at e3;have ha:nI 6 72 (bD 6 (fO (eu rl) ((dN l).take k))) [iL (eu rl) (dN l)[k]]=some (bD 6 (fO (eu rl) ((dN l).take (k+1)))):=by
  rw[dV (by rfl) (by simp[fO,cT];omega)];simp only[fO,List.take_succ_eq_append_getElem aX,List.map_append,List.map_cons,List.map_nil]
 have Z7:∀s,s∈Eo ks (dN l)[k].name↔((dN l).take (k+1)).any (λp=>decide (p.name=s))=true:=by
  intro s;rw[JS,nk,List.take_succ_eq_append_getElem aX,List.any_append];simp only[List.any_cons,List.any_nil,Bool.or_false,Bool.or_eq_true,decide_eq_true_eq];exact or_congr Iff.rfl eq_comm
 have SL:=nk (dN l)[k].name;generalize hq:(dN l)[k]=p at *;have hi:=ih (k+1,Eo ks p.name,p.cells,yZ (eu rl) p) ⟨by simp;omega,Z7⟩ (by simp;omega);simp only[hb,xX,<-tK,FN.cells]at hi;have lk:=λaf o bx=>SJ (af:=af) (o:=o) (r:=r) (bx:=bx) (ks:=ks) p.name;have up:=λaf o bx=>XO (af:=af) (o:=o) (r:=r) (bx:=bx) (ks:=ks) p.name;have hD:JU ((dN l).take k) p=if p.name∈ks then some p.at_ else none:=by
  unfold JU;by_cases hd:p.name∈ks;rw[if_pos hd,if_pos (SL.1 hd)];rw[if_neg hd,if_neg λh=>hd (SL.2 h)]
 rw[hD]at hi;by_cases hd:p.name∈ks;have DJ:decide (p.name∈ks)=true:=decide_eq_true hd;rw[if_pos hd]at hi;cases hh:p.bP with
 |false=>
  simp[hh,yY,iL,yZ,oJ,lX]at hi ha;simp[p2,p3,hp,aX,FN.cells,hw,hq,lk,up,DJ,e2,e3,OT,Iw,JV,XP,hh,ha,aV,bG,eE.bg,mc];exact hi
 |true=>
  cases ho:(bZ (eu rl) p.on p.od).2 with
  |true=>
   simp[hh,yY,iL,yZ,oJ,lX,ho]at hi ha;simp[p2,p3,hp,aX,FN.cells,hw,hq,lk,up,DJ,e1,e2,e3,OT,Iw,JV,XP,hh,ho,ha,aV,bG,eE.bg,mc];exact hi
  |false=>
   simp[hh,yY,iL,yZ,oJ,ho]at hi ha;simp[p2,p3,hp,aX,FN.cells,hw,hq,lk,up,DJ,e1,e2,e3,OT,Iw,JV,XP,hh,ho,ha,aV,bG,eE.bg,mc];exact hi
 have DJ:decide (p.name∈ks)=false:=decide_eq_false hd;rw[if_neg hd,lX]at hi;cases hh:p.bP with
 |false=>
  simp[hh,yY,iL,yZ,oJ,lX]at hi ha;simp[p2,p3,hp,aX,FN.cells,hw,hq,lk,up,DJ,e3,OT,Iw,JV,XP,hh,ha,aV,bG,eE.bg,mc];exact hi
 |true=>
  cases ho:(bZ (eu rl) p.on p.od).2 with
  |true=>
   simp[hh,yY,iL,yZ,oJ,lX,ho]at hi ha;simp[p2,p3,hp,aX,FN.cells,hw,hq,lk,up,DJ,e1,e3,OT,Iw,JV,XP,hh,ho,ha,aV,bG,eE.bg,mc];exact hi
  |false=>
   simp[hh,yY,iL,yZ,oJ,ho]at hi ha;simp[p2,p3,hp,aX,FN.cells,hw,hq,lk,up,DJ,e1,e3,OT,Iw,JV,XP,hh,ho,ha,aV,bG,eE.bg,mc];exact hi
 have eL:k=(dN l).length:=by omega
 simp[eL]
def Aj:List UInt8:=[109,97,105,110]
def eP(x:FN):Bool:=decide (x.name=Aj)&&decide (iJ x.params=[]) && !x.bP
theorem OU(wl af:Nat)(rs:List (List UInt8))(x:FN)(st:aj):(bh S).call wl af 80 [.agg (iL rs x)] st=some (.bool (eP x),st):=by
 refine bN (sf:=s80) rfl rfl (by simp[iL,AV.ai,AV.ax]) rfl (by simp) ?_;unfold eP;by_cases a:x.name=Aj;by_cases b:iJ x.params=[];simp[s80,iL,Aj,a,b,dF];have b':¬(iJ x.params).length=0:=by simpa using b
 simp[s80,iL,Aj,a,b,b',dF];simp only[Aj]at a;simp[s80,iL,Aj,a]
def tM(l:List FN):Int:=match l.findIdx? eP with
 |some k=>k|none=>-1
theorem Be(wl af:Nat)(rs:List (List UInt8))(l:List FN)(st:aj)(hn:l.length<1000000000) :
  (bh S).call wl af 79 [(bD 6 (fO rs l)).view,.fn 80 [] []] st=some (.int .i64 (tM l),st):=by
 have hm:=λwl af x st=>OU wl af rs x st;have hz:bX 6 (bD 6 (fO rs l)).view=true:=by rw[AX,xy];simp[bL,fO,iL]
 have hr:aM (bD 6 (fO rs l)).view=l.map (iL rs):=by simp[fO]
 have hs:=pz hz;have hv:(bD 6 (fO rs l)).view.view=(bD 6 (fO rs l)).view:=oM _;generalize (bD 6 (fO rs l)).view=v at *;have l6:∀x,(iL rs x).length=6:=λ_=>rfl;have t6:∀x,List.take 6 (iL rs x)=iL rs x:=λ_=>rfl;have v6:∀x,AV.cq (iL rs x)=iL rs x:=by intro x;simp[iL,AV.cq,AV.view]
 refine ay (sf:=s79) rfl (by simp[zk,s79]) rfl ?_;simp[s79,hs,hr,hv];refine bf Li.eq_1 (λq:Nat×Nat=>⟨[(0,.val v),(1,.val (.fn 80 [] [])),(7,.val (.int .i64 l.length)),(8,.val (.int .i64 q.1))],[],st⟩)
  (λq=>q.1<=l.length/\Co eP l q.1) (λq=>l.length-q.1) ((0,0):Nat×Nat) (by simp) ⟨by simp,qP⟩ ?_
 rintro⟨k,b⟩ ⟨hk,hp⟩ ih;simp only at hk hp ih;by_cases aX:k<l.length;have hw:=wk k (by omega);have VY:=λwl af st=>hm wl af l[k] st;cases e:eP l[k] with
 |true=>
  have hi:tM l=k:=by
   have:l.findIdx? eP=some k:=by
    rw[List.findIdx?_eq_some_iff_getElem];exact⟨aX,e,λj hj=>by simp[hp j (by omega) hj]⟩
   unfold tM;rw[this]
  simp[hz,hr,hv,aX,VY,e,hi,l6,t6,v6]
 |false=>
  simp[hz,hr,hv,aX,VY,e,hw,l6,t6,v6];exact ih (k+1,0) ⟨by simp;omega,qQ hp aX e⟩ (by simp;omega)
 have eL:k=l.length:=by omega
 have hi:tM l = -1:=by
  have:l.findIdx? eP=none:=by
   rw[List.findIdx?_eq_none_iff];intro x hx;obtain⟨j,hj,rfl⟩:=List.mem_iff_getElem.1 hx;exact hp j hj (eL ▸ hj)
  unfold tM;rw[this]
 simp[aX,hi]
end U7
namespace U7
open Ax Go bu V7
def qm:AV:=.agg [.U,.U,.U,.int .i64 0]
def wH(p:GD):AV:=.agg [(bD 2 (jC (iK (cj p.aS)) (cj p.aS))).view,(bD 4 (dF (iK (cj p.aS)) (iJ p.globals))).view,(bD 6 (fO (iK (cj p.aS)) (dN p.funcs))).view,.int .i64 (tM (dN p.funcs))]
def lY(p:GD):Option Int:=wu (wu (wu (wu none (cI tL (cj p.aS) (cj p.aS).length)) (cI (yX (iK (cj p.aS))) (cj p.aS) (cj p.aS).length)) (cI (nU (iK (cj p.aS))) (iJ p.globals) (iJ p.globals).length))
 (cI (xX (iK (cj p.aS))) (dN p.funcs) (dN p.funcs).length)
def iS(p:GD):Option Int:=if tM (dN p.funcs)<0 then wu (lY p) (some 0) else lY p
def y7(p:GD):AV:=.fm [match iS p with|some _=>qm|none=>wH p,.agg [.int .i64 (fE (iS p)),.int .i64 (fX (iS p))]]
structure GD.sm (p:GD):Prop where
 aS:(cj p.aS).length<1000000000
 cQ:∀x∈cj p.aS,(iJ x.cQ).length<1000000000
 globals:(iJ p.globals).length<1000000000
 funcs:(dN p.funcs).length<1000000000
 params:∀x∈dN p.funcs,(iJ x.params).length<1000000000
theorem xH(wl af:Nat)(p:GD)(st:aj)(hp:p.ok)(hs:GD.sm p):(bh S).call wl af 41 [.agg p.cells] st=some (y7 p,st):=by
 have p1:=CL hp.aS;have p2:=zT hp.aS;have g1:=sW hp.globals;have g2:=pC hp.globals;have f1:=CM hp.funcs;have f2:=zU hp.funcs;have OW:(iK (cj p.aS)).length<1000000000:=by simpa [iK] using hs.aS
 have er:∀af r,(bh S).call 0 af 76 [.ptr 0 0 0 0,p.aS] (.rows 0 3 [[.U,.int .i64 0,.int .i64 0]]::r)=_:=λaf r=>LF af p.aS none r hp.aS hs.aS hs.cQ;have eg:=λaf f r=>Bb af p.globals (bD 1 (ga (iK (cj p.aS)))) f r (wG _) (by rw[sF];exact OW) hp.globals hs.globals;have ef:=λaf f r=>VX af p.funcs (bD 1 (ga (iK (cj p.aS)))) f r (wG _) (by rw[sF];exact OW) hp.funcs hs.funcs hs.params;have ei:=λwl af st=>Be wl af (iK (cj p.aS)) (dN p.funcs) st hs.funcs;have e2:=λaf a rl f r=>eX af a rl f r;simp only[sF,mk]at er eg ef e2;refine bN (sf:=s41) rfl rfl (by simp[GD.cells,AV.ai,AV.ax,p1,g1,f1]) rfl (by cases h:iS p<;>simp[y7,h,qm,wH,AV.ax,AV.ai]) ?_;unfold y7 iS;have hm3:lY p=lY p:=rfl;conv at hm3=>lhs;unfold lY
 generalize lY p=F at *;by_cases hm:tM (dN p.funcs)<0;obtain⟨y,hy⟩:∃y,wu F (some 0)=some y:=by cases F<;>exact⟨_,rfl⟩
 simp[s41,GD.cells,p1,p2,g1,g2,f1,f2,er,eg,ef,ei,e2,hm,hm3,aV,bG,eE.bg,mc];simp[hy,fE,fX,qm,aV,bG,eE.bg];simp[s41,GD.cells,p1,p2,g1,g2,f1,f2,er,eg,ef,ei,hm,hm3,aV,bG,eE.bg,mc];cases F with
 |some y=>simp[fE,fX,qm,aV,bG,eE.bg]|none=>simp[fE,fX,wH,eE.bg]
end U7
