/- Part of a proof. -/
import Derived.Test.YtachcambnjecnaaGreatW
import Derived.Test.YtachcambnjecnaaGreatF

set_option maxRecDepth 100000
set_option maxHeartbeats 2000000
namespace Bp
open Ax Go bu V7 jG ke tf
open pX (Bl bE sd oo kV kW kX j8 ij dY)
def mK(b:Bl)(k:Nat):List AV:=[b.aS,bE 3 (b.EO.map T3.cells),bE 7 (b.dX.map Cd.row),bE 4 (b.aB.map Sd.row),.int .i64 b.main,.int .i64 b.dX.length,
 .int .i64 b.params,bE 3 (b.vars.map T3.cells),.bool b.bP,.int .i64 b.bz.b,.int .i64 b.bz.r,.int .i64 b.bz.d,sd b.is k]
def iN(b:Bl)(pre:aj):aj:=pre++.rows 0 13 [mK b (pre.length+1)]::oo b.is
theorem oA(pre:aj)(o:dz)(r:aj):(pre++o::r)[pre.length]?=some o:=by simp
theorem L5(pre:aj)(o i:dz)(r:aj):(pre++o::i::r)[pre.length+1]?=some i:=by
 rw[List.getElem?_append_right (by omega)];simp
theorem rY(pre:aj)(o p:dz)(r:aj):(pre++o::r).set pre.length p=pre++p::r:=by
 rw[List.set_append_right _ _ (Nat.le_refl _)];simp
theorem Lb(pre:aj)(o i j:dz)(r:aj):(pre++o::i::r).set (pre.length+1) j=pre++o::j::r:=by
 rw[List.set_append_right _ _ (by omega)];simp
variable (wl af:Nat)
theorem EP(b:Bl)(pre:aj)(i:In)(v:AV)(hp:v.ax=true)(hc:v.cy=true)(hv:v.view=jE i.args)(hb:b.is.length<1000000000) :
  (bh S).call 0 0 55 [.ptr pre.length 0 0 0,.agg [.int .i64 i.op,.int .i64 i.a,.int .i64 i.b,.int .i64 i.c,.int .i64 i.n,v]] (iN b pre)=some (.int .i64 b.is.length,iN { b with is:=b.is++[i] } pre):=by
 refine ay (sf:=s55) rfl rfl rfl ?_;have uv:=kV i.args;have Bi:=kW i.args;have Ws:=kX i.args;have hr:(b.is.length+1)*64<=cT:=by unfold cT;omega
 have Dj:64<=cT:=by decide
 have hw:IntKind.i64.wrap ((b.is.length:Nat):Int)=b.is.length:=by rw[ee]<;>omega
 have IA:IntKind.i64.wrap 0=0:=by decide
 have hlen:(pre++[dz.rows 0 13 [[b.aS,bE 3 (b.EO.map T3.cells),bE 7 (b.dX.map Cd.row),bE 4 (b.aB.map Sd.row),.int .i64 b.main,.int .i64 b.dX.length,.int .i64 b.params,bE 3 (b.vars.map T3.cells),.bool b.bP,.int .i64 b.bz.b,.int .i64 b.bz.r,.int .i64 b.bz.d,.U]]]).length=pre.length+1:=by simp
 by_cases e:b.is=[];simp[s55,iN,mK,sd,oo,e,In.row,aQ,AV.ai,AV.ax,ag,au,an,cut,hc,hv,hp,uv,Bi,Ws,bL,Dj,IA,oA,L5,rY,Lb,-List.append_assoc];simp[rY];exact IA;simp[s55,iN,mK,sd,oo,e,In.row,aQ,AV.ai,AV.ax,ag,au,an,cut,hc,hv,hp,uv,Bi,Ws,bL,hr,hw,oA,L5,rY,Lb];have:=List.length_pos_iff.2 e;omega
end Bp
namespace Bp
open Ax Go bu V7 jG ke tf
open pX (Bl bE sd oo kV kW kX j8 ij dY)
variable (wl af:Nat)
theorem ig(b:Bl)(pre:aj)(i:In)(hb:b.is.length<1000000000) :
  (bh S).call 0 0 55 [.ptr pre.length 0 0 0,.agg i.row] (iN b pre)=some (.int .i64 b.is.length,iN { b with is:=b.is++[i] } pre):=
 EP b pre i (jE i.args) (kV _) (kW _) (kX _) hb
theorem B9(pre:aj)(o:dz)(r:aj):List.take (pre.length+(r.length+1)) (pre++o::r)=pre++o::r:=List.take_of_length_le (by simp)
theorem uS(b:Bl)(pre:aj)(t:T3)(hb:b.vars.length<1000000000) :
  (bh S).call 0 af 27 [.ptr pre.length 0 0 0,.agg t.cells] (iN b pre)=some (.int .i64 b.vars.length,iN { b with vars:=b.vars++[t] } pre):=by
 refine ay (sf:=s27) rfl rfl rfl ?_;have hr:(b.vars.length+1)*24<=cT:=by unfold cT;omega
 have Dj:24<=cT:=by decide
 have hw:IntKind.i64.wrap ((b.vars.length:Nat):Int)=b.vars.length:=by rw[ee]<;>omega
 have IA:IntKind.i64.wrap 0=0:=by decide
 by_cases e:b.vars=[];have h0:bE 3 (b.vars.map T3.cells)=.U:=by simp[bE,e]
 have h1:bE 3 ((b.vars++[t]).map T3.cells)=.iO 3 [t.cells]:=by simp[bE,e]
 simp only[iN,mK,h0,h1];simp[s27,e,T3.cells,aQ,AV.ai,AV.ax,AV.di,aW,dA,cu,bM,ag,au,an,cut,oA,rY,B9,bL,hr,Dj,hw,IA];have h0:bE 3 (b.vars.map T3.cells)=.iO 3 (b.vars.map T3.cells):=by simp[bE,e]
 have h1:bE 3 ((b.vars++[t]).map T3.cells)=.iO 3 (b.vars.map T3.cells++[t.cells]):=by simp[bE]
 simp only[iN,mK,h0,h1];simp[s27,e,T3.cells,aQ,AV.ai,AV.ax,AV.di,aW,dA,cu,bM,ag,au,an,cut,oA,rY,B9,bL,hr,Dj,hw,IA]
theorem Ih(b:Bl)(pre:aj)(t:T3)(hb:b.aB.length<1000000000) :
  (bh S).call 0 af 114 [.ptr pre.length 0 0 0,.agg t.cells] (iN b pre)=some (.int .i64 b.aB.length,iN { b with aB:=b.aB++[⟨b.dX.length,t⟩] } pre):=by
 refine ay (sf:=Vw) rfl rfl rfl ?_;have hr:(b.aB.length+1)*32<=cT:=by unfold cT;omega
 have Dj:32<=cT:=by decide
 have hw:IntKind.i64.wrap ((b.aB.length:Nat):Int)=b.aB.length:=by rw[ee]<;>omega
 have IA:IntKind.i64.wrap 0=0:=by decide
 by_cases e:b.aB=[];have h0:bE 4 (b.aB.map Sd.row)=.U:=by simp[bE,e]
 have h1:bE 4 ((b.aB++[(⟨b.dX.length,t⟩:Sd)]).map Sd.row)=.iO 4 [[.int .i64 b.dX.length,.int .i64 t.b,.int .i64 t.r,.int .i64 t.d]]:=by simp[bE,e,Sd.row]
 simp only[iN,mK,h0,h1];simp[Vw,e,T3.cells,Sd.row,aQ,AV.ai,AV.ax,AV.di,aW,dA,cu,bM,ag,an,cut,oA,rY,B9,bL,hr,Dj,hw,IA];rw[mW];simp[dS,gQ,cW,bG,eE.bg,aQ,AV.ai,AV.ax,AV.di,aW,dA,cu,bM,ag,an,cut,oA,rY,B9,bL,hr,Dj,hw,IA];refine⟨_,_,⟨rfl,rfl⟩,?_⟩;simp[dY,bM,AV.cq,AV.view,fq.fG,AV.fG,AV.pG,AV.oE,cut,ag,aQ,AV.ai,AV.ax,AV.di,aW,dA,cu,oA,rY,B9,bL,hr,Dj,hw,IA];have h0:bE 4 (b.aB.map Sd.row)=.iO 4 (b.aB.map Sd.row):=by simp[bE,e]
 have h1:bE 4 ((b.aB++[(⟨b.dX.length,t⟩:Sd)]).map Sd.row)=.iO 4 (b.aB.map Sd.row++[[.int .i64 b.dX.length,.int .i64 t.b,.int .i64 t.r,.int .i64 t.d]]):=by simp[bE,Sd.row]
 simp only[iN,mK,h0,h1];simp[Vw,e,T3.cells,aQ,AV.ai,AV.ax,AV.di,aW,dA,cu,bM,ag,an,cut,oA,rY,B9,bL,hr,Dj,hw,IA];rw[mW];simp[dS,gQ,cW,bG,eE.bg,aQ,AV.ai,AV.ax,AV.di,aW,dA,cu,bM,ag,an,cut,oA,rY,B9,bL,hr,Dj,hw,IA];refine⟨_,_,⟨rfl,rfl⟩,?_⟩;simp[dY,bM,AV.cq,AV.view,fq.fG,AV.fG,AV.pG,AV.oE,cut,ag,aQ,AV.ai,AV.ax,AV.di,aW,dA,cu,oA,rY,B9,bL,hr,Dj,hw,IA]
end Bp
namespace Bp
open Ax Go bu V7 jG ke tf
open pX (Bl bE sd oo kV kW kX j8 ij dY Fb cV iQ kJ jq Az)
def PE(e:E):Prop:=∀(b:Bl)(pre:aj),LE e->Fb b (E.sz e)->(bh S).call 0 0 93 [.ptr pre.length 0 0 0,.agg e.row] (iN b pre)=some (.int .i64 (cE b.vars.length b.aB.length e).1,iN (b.plus (cE b.vars.length b.aB.length e).2) pre)
theorem CW(l:List E)(ih:∀e∈l,PE e)(b:Bl)(pre:aj)(hL:LL l)(hb:Fb b (E.cR l)) :
  (bh S).call 0 0 94 [.ptr pre.length 0 0 0,aI l] (iN b pre)=some (bD 1 (bQ (pE b.vars.length b.aB.length l).1),iN (b.plus (pE b.vars.length b.aB.length l).2) pre):=by
 have hz:bX 11 (aI l)=true:=zE;have cC:aD (aI l)=true:=aR;have dW:(aI l).view=aI l:=aN;have cP:aM (aI l)=E.rows l:=aE;have hlen:=E.dG l;have X3:l.length<1000000000:=by have:=hb.1;omega
 rw[l5]at hL;have nj:(E.rows l).length=l.length:=by simp[gh]
 refine ay (sf:=s94) rfl rfl rfl ?_;generalize aI l=lv at *;simp[s94];refine bf R8.eq_1 (λx:Nat×List Int×Bl=>⟨[(0,.val (.ptr pre.length 0 0 0)),(1,.val lv),(5,.val (bD 1 (bQ x.2.1))),(6,.val (.int .i64 x.1))],[],iN x.2.2 pre⟩)
  (λx=>x.1<=l.length/\x.2.1.length=x.1/\Fb x.2.2 (E.cR (l.drop x.1))/\(x.2.1++(pE x.2.2.vars.length x.2.2.aB.length (l.drop x.1)).1,x.2.2.plus (pE x.2.2.vars.length x.2.2.aB.length (l.drop x.1)).2)=((pE b.vars.length b.aB.length l).1,b.plus (pE b.vars.length b.aB.length l).2)) (λx=>l.length-x.1) (0,[],b) (by simp[bD,bQ]) ⟨by simp,rfl,by simpa using hb,by simp⟩ ?_
 rintro⟨k,acc,b1⟩ ⟨hk,Ts,f1,hp⟩ k8;simp only at hk Ts f1 hp k8;by_cases aX:k<l.length;have mI:=wk k (by omega);have hm:=List.getElem_mem aX;rw[List.drop_eq_getElem_cons aX]at f1 hp;simp only[E.cR]at f1;have ct:=ih _ hm b1 pre (hL _ hm) (f1.le (by omega));have vA:=l7 l[k] b1.vars.length b1.aB.length;have f2:=f1.plus vA;rw[wR]at hp;obtain⟨pv,_,ps⟩:=cV b1 (cE b1.vars.length b1.aB.length l[k]).2;have e1:aD (aI l[k].aC)=true:=aR;have e2:(aI l[k].aC).view=aI l[k].aC:=aN;have gy:k<(E.rows l).length:=by simpa [gh] using aX
 have m9:=oY aX gy;have lJ:nI 1 8 (bD 1 (bQ acc)) [[.int .i64 (cE b1.vars.length b1.aB.length l[k]).1]]=some (bD 1 (bQ (acc++[(cE b1.vars.length b1.aB.length l[k]).1]))):=by
  rw[dV (by rfl) (by simp[cT];omega)];simp
 have dy:=k8 (k+1,acc++[(cE b1.vars.length b1.aB.length l[k]).1],b1.plus (cE b1.vars.length b1.aB.length l[k]).2) ⟨by simp only;omega,by simp[Ts],f2,by
  simp only[pv,ps];rw[<-hp,iQ];simp⟩ (by simp only;omega)
 simp only at dy;rw[E.az]at ct m9;generalize cE b1.vars.length b1.aB.length l[k]=y at *;generalize l[k]=x at *;generalize aI x.aC=xe at *;have g0:aD (bD 1 (bQ acc))=true:=bY;have g1:aD (bD 1 (bQ (acc++[y.1])))=true:=bY;generalize bD 1 (bQ (acc++[y.1]))=m1 at *;generalize bD 1 (bQ acc)=m0 at *;simp[aX,gy,nj,mI,hz,cC,dW,cP,m9,ct,e1,e2,lJ,ag,AV.view];exact dy;have eL:k=l.length:=by omega
 rw[eL,List.drop_length]at hp;have h1:(pE b.vars.length b.aB.length l).1=acc:=by
  have:=congrArg Prod.fst hp;simpa [pE] using this.symm
 have h2:b.plus (pE b.vars.length b.aB.length l).2=b1:=by
  have:=congrArg Prod.snd hp;simp only[pE]at this;rw[kJ]at this;exact this.symm
 rw[h1,h2];have g0:aD (bD 1 (bQ acc))=true:=bY;generalize bD 1 (bQ acc)=m0 at *;simp[aX,nj,cC,dW,cP]
theorem eR(e:E):PE e:=by
 induction e using E.yx with
 |_ e ih=>
  intro b pre hL hb;rw[Ka]at hL;obtain⟨hT,h1,h2,hk,hr,Tt⟩:=hL;have Tf:=E.mz e;have e1:aD (aI e.aC)=true:=aR;have e2:(aI e.aC).view=aI e.aC:=aN;have hn:jE []=.U:=rfl;by_cases q:e.k=4/\0<=e.cH;rw[GH,if_pos q,kJ,E.az];obtain⟨st,iu⟩:∃s,s=iN b pre:=⟨_,rfl⟩;rw[<-iu];refine ay (sf:=Ft) rfl rfl rfl ?_;generalize aI e.aC=KV at *;simp[Ft,e1,e2,eE.bg,AV.view,q];have nk:=CW e.aC ih b pre Tt (hb.le (by omega));have vA:=EJ e.aC b.vars.length b.aB.length;have f1:Fb (b.plus (pE b.vars.length b.aB.length e.aC).2) 1:=pX.Fb.plus (hb.le (by omega)) vA;have B1:=Az b.vars.length b.aB.length e.aC;obtain⟨pv,pi,ps⟩:=cV b (pE b.vars.length b.aB.length e.aC).2;rw[GH,if_neg q];unfold cK;generalize pE b.vars.length b.aB.length e.aC=x at *;have q1:e.k=4->¬0<=e.cH:=λa b=>q ⟨a,b⟩;have m1:aD (bD 1 (bQ x.1))=true:=bY;have m2:(bD 1 (bQ x.1)).view=aA 1 (bQ x.1):=rfl;have m3:aD (aA 1 (bQ x.1))=true:=aL;have m4:(aA 1 (bQ x.1)).view=aA 1 (bQ x.1):=aJ;have m5:aM (aA 1 (bQ x.1))=bQ x.1:=aE;have m6:bX 1 (aA 1 (bQ x.1))=true:=zI;have m7:aM (bD 1 (bQ x.1))=bQ x.1:=pQ;have m8:bX 1 (bD 1 (bQ x.1))=true:=by rw[xy];simp[bL,bQ]
  by_cases Uy:e.ty=T0;have c7:=hT Uy;have ha:=EP (b.plus x.2) pre ⟨13,-1,0,e.cH,0,x.1⟩ _ (ck m1) (bU m1) rfl (by have:=f1.2.1;omega);rw[jq,iQ]at ha;rw[if_pos Uy];have eb:e.ty.b=0/\e.ty.r=0/\e.ty.d=0:=by rw[Uy];exact⟨rfl,rfl,rfl⟩
  obtain⟨eb1,eb2,eb3⟩:=eb;simp only;rw[E.az];refine ay (sf:=Ft) rfl rfl rfl ?_;generalize iN (b.plus (x.2.eK (dO ⟨13,-1,0,e.cH,0,x.1⟩))) pre=kP at *;generalize iN (b.plus x.2) pre=kM at *;generalize iN b pre=st at *;generalize bD 1 (bQ x.1)=MV at *;generalize aI e.aC=KV at *;simp[Ft,e1,e2,eE.bg,AV.view,c7,eb1,eb2,eb3,nk,m1,ha,ag];rw[if_neg Uy];have eb:(decide (e.ty.b=0)&&(decide (e.ty.r=0)&&decide (e.ty.d=0)))=false:=by
   rcases h:e.ty with⟨u,v,w⟩;rw[h]at Uy;by_cases a:u=0<;>by_cases b:v=0<;>by_cases c:w=0<;>simp_all
  have ht:=λli=>uS li (b.plus x.2) pre e.ty (by have:=f1.1;omega);obtain⟨b2,Hl⟩:∃b2,b2={ b.plus x.2 with vars:=(b.plus x.2).vars++[e.ty] }:=⟨_,rfl⟩;rw[<-Hl,pv]at ht;have Ko:b2.is.length<1000000000:=by rw[Hl];have:=f1.2.1;show (b.plus x.2).is.length<_;omega
  have Uz:b2.aB.length<1000000000:=by rw[Hl];have:=f1.2.2;show (b.plus x.2).aB.length<_;omega
  have hs:=λli=>Ih li b2 pre e.ty Uz;have cC:b2.aB.length=b.aB.length+x.2.ss.length:=by rw[Hl];exact ps
  rw[cC]at hs;simp only;have lG:∀J:In,¬(e.k=8\/e.k=9)->{ b2 with is:=b2.is++[J] }=b.plus (x.2.eK ⟨[e.ty],[J],if e.k=8\/e.k=9 then [e.ty] else []⟩):=λJ c=>by
   rw[Hl];simp[c,Bl.plus,l9.eK]
  have aj8:∀J:In,(e.k=8\/e.k=9)->{ b2 with aB:=b2.aB++[(⟨b2.dX.length,e.ty⟩:Sd)],is:=b2.is++[J] }=b.plus (x.2.eK ⟨[e.ty],[J],if e.k=8\/e.k=9 then [e.ty] else []⟩):=λJ c=>by
   rw[Hl];simp[c,Bl.plus,l9.eK]
  have ER:∀{l:List Int},l.length=1->bQ l=[[.int .i64 (zf l)]]:=L3;have Tr:∀{l:List Int},l.length=2->bQ l=[[.int .i64 (zf l)],[.int .i64 (Wl l)]]:=L4;simp only[T3.cells]at ht hs;by_cases c8:e.k=8\/e.k=9;have ha:=ig { b2 with aB:=b2.aB++[⟨b2.dX.length,e.ty⟩] } pre (dh e.k e.n e.cH ((b.vars.length+x.2.vs.length:Nat):Int) ((b.aB.length+x.2.ss.length:Nat):Int) x.1) Ko;rw[aj8 _ c8]at ha;generalize iN (b.plus (x.2.eK ⟨[e.ty],[dh e.k e.n e.cH ((b.vars.length+x.2.vs.length:Nat):Int) ((b.aB.length+x.2.ss.length:Nat):Int) x.1],if e.k=8\/e.k=9 then [e.ty] else []⟩)) pre=st4 at *;generalize ((b.vars.length+x.2.vs.length:Nat):Int)=tv at *;generalize ((b.aB.length+x.2.ss.length:Nat):Int)=sv at *;generalize iN { b2 with aB:=b2.aB++[⟨b2.dX.length,e.ty⟩] } pre=st3 at *;rw[E.az];refine ay (sf:=Ft) rfl rfl rfl ?_;generalize iN b2 pre=kP at *;generalize iN (b.plus x.2) pre=kM at *;generalize iN b pre=st at *;rcases c8 with c8|c9;simp only[dh,c8,In.row,hn]at ha;simp[hn]at ha;generalize bD 1 (bQ x.1)=MV at *;generalize aI e.aC=KV at *;simp[Ft,e1,e2,eE.bg,AV.view,c8,eb,nk,m1,ht,hs,ha,ag];have hl:=B1.trans (h1 (by omega));simp only[dh,c9,In.row,hn]at ha;simp[hn]at ha;generalize aA 1 (bQ x.1)=LV at *;generalize bD 1 (bQ x.1)=MV at *;generalize aI e.aC=KV at *;rw[ER hl]at m5 m7;simp[Ft,e1,e2,eE.bg,AV.view,c9,eb,nk,m1,ht,ag];rw[mW];simp[dS,gQ,cW,bG,eE.bg,hs,ha,m1,m2,m3,m4,m5,m6,m7,m8,ag,AV.view];refine⟨_,_,⟨rfl,rfl⟩,?_⟩;simp[fq.fG,AV.fG,AV.pG,AV.oE,AV.view,AV.cq,dY,j8,hs,ha,m1,m2,m3,m4,m5,m6,m7,m8,ag,cut];have ha:=ig b2 pre (dh e.k e.n e.cH ((b.vars.length+x.2.vs.length:Nat):Int) ((b.aB.length+x.2.ss.length:Nat):Int) x.1) Ko;rw[lG _ c8]at ha;have ha7:=EP b2 pre (dh e.k e.n e.cH ((b.vars.length+x.2.vs.length:Nat):Int) ((b.aB.length+x.2.ss.length:Nat):Int) x.1) (bD 1 (bQ x.1)) (ck m1) (bU m1);rw[lG _ c8]at ha7;generalize iN (b.plus (x.2.eK ⟨[e.ty],[dh e.k e.n e.cH ((b.vars.length+x.2.vs.length:Nat):Int) ((b.aB.length+x.2.ss.length:Nat):Int) x.1],if e.k=8\/e.k=9 then [e.ty] else []⟩)) pre=st4 at *;generalize ((b.vars.length+x.2.vs.length:Nat):Int)=tv at *;generalize ((b.aB.length+x.2.ss.length:Nat):Int)=sv at *;have c8':¬e.k=8:=λh=>c8 (.inl h);have c9':¬e.k=9:=λh=>c8 (.inr h);rw[E.az];refine ay (sf:=Ft) rfl rfl rfl ?_;generalize iN b2 pre=kP at *;generalize iN (b.plus x.2) pre=kM at *;generalize iN b pre=st at *;by_cases c1:e.k=1;simp only[dh,c1,In.row,hn]at ha;simp[hn]at ha;generalize bD 1 (bQ x.1)=MV at *;generalize aI e.aC=KV at *;simp[Ft,e1,e2,eE.bg,AV.view,c1,eb,nk,m1,ht,ha,ag];by_cases c2:e.k=2;simp only[dh,c2,In.row,hn]at ha;simp[hn]at ha;generalize bD 1 (bQ x.1)=MV at *;generalize aI e.aC=KV at *;simp[Ft,e1,e2,eE.bg,AV.view,c2,eb,nk,m1,ht,ha,ag];by_cases c3:e.k=3;simp only[dh,c3,In.row,hn]at ha;simp[hn]at ha;generalize bD 1 (bQ x.1)=MV at *;generalize aI e.aC=KV at *;simp[Ft,e1,e2,eE.bg,AV.view,c3,eb,nk,m1,ht,ha,ag];by_cases c4:e.k=4;have hq:=q1 c4;have hw:IntKind.i64.wrap (-1-e.cH) = -1-e.cH:=by have:=hr c4;rw[ee]<;>omega
  simp only[dh,c4,In.row,hn]at ha;simp[hn]at ha;generalize bD 1 (bQ x.1)=MV at *;generalize aI e.aC=KV at *;simp[Ft,e1,e2,eE.bg,AV.view,c4,hq,eb,nk,m1,ht,hw,ha,ag];by_cases c5:e.k=5
  skip
  simp only[dh,c5,In.row,hn]at ha;simp[hn]at ha;generalize aA 1 (bQ x.1)=LV at *;generalize bD 1 (bQ x.1)=MV at *;generalize aI e.aC=KV at *;rw[ER (B1.trans (h1 (by omega)))]at m5 m7;simp[Ft,e1,e2,eE.bg,AV.view,c5,eb,nk,m1,m2,m3,m4,m5,m6,m7,m8,ht,ha,ag,au,an];by_cases c6:e.k=6
  skip
  simp only[dh,c6,In.row,hn]at ha;simp[hn]at ha;generalize aA 1 (bQ x.1)=LV at *;generalize bD 1 (bQ x.1)=MV at *;generalize aI e.aC=KV at *;rw[Tr (B1.trans (h2 (by omega)))]at m5 m7;simp[Ft,e1,e2,eE.bg,AV.view,c6,eb,nk,m1,m2,m3,m4,m5,m6,m7,m8,ht,ha,ag,au,an];by_cases c7:e.k=7;have hv7:(bD 1 (bQ x.1)).view=jE (dh e.k e.n e.cH tv sv x.1).args:=by rw[c7];rfl
  have ha7:=ha7 hv7 Ko;simp only[dh,c7]at ha7;simp[hn]at ha7;clear ha hv7;generalize bD 1 (bQ x.1)=MV at *;generalize aI e.aC=KV at *;simp[Ft,e1,e2,eE.bg,AV.view,c7,eb,nk,m1,ht,ha7,ag];by_cases HT:e.k=10
  skip
  simp only[dh,HT,In.row,hn]at ha;simp[hn]at ha;generalize aA 1 (bQ x.1)=LV at *;generalize bD 1 (bQ x.1)=MV at *;generalize aI e.aC=KV at *;rw[ER (B1.trans (h1 (by omega)))]at m5 m7;simp[Ft,e1,e2,eE.bg,AV.view,HT,eb,nk,m1,m2,m3,m4,m5,m6,m7,m8,ht,ha,ag,au,an];by_cases O6:e.k=11;simp only[dh,O6,In.row,hn]at ha;simp[hn]at ha;generalize bD 1 (bQ x.1)=MV at *;generalize aI e.aC=KV at *;simp[Ft,e1,e2,eE.bg,AV.view,O6,eb,nk,m1,ht,ha,ag];by_cases HU:e.k=12
  skip
  simp only[dh,HU,In.row,hn]at ha;simp[hn]at ha;generalize aA 1 (bQ x.1)=LV at *;generalize bD 1 (bQ x.1)=MV at *;generalize aI e.aC=KV at *;rw[ER (B1.trans (h1 (by omega)))]at m5 m7;simp[Ft,e1,e2,eE.bg,AV.view,HU,eb,nk,m1,m2,m3,m4,m5,m6,m7,m8,ht,ha,ag,au,an];by_cases Kv:e.k=13
  skip
  simp only[dh,Kv,In.row,hn]at ha;simp[hn]at ha;generalize aA 1 (bQ x.1)=LV at *;generalize bD 1 (bQ x.1)=MV at *;generalize aI e.aC=KV at *;rw[ER (B1.trans (h1 (by omega)))]at m5 m7;simp[Ft,e1,e2,eE.bg,AV.view,Kv,eb,nk,m1,m2,m3,m4,m5,m6,m7,m8,ht,ha,ag,au,an]
  skip
  simp only[dh,c1,c2,c3,c4,c5,c6,c7,c8',c9',HT,O6,HU,Kv,In.row,hn,or_self,if_false]at ha;generalize aA 1 (bQ x.1)=LV at *;generalize bD 1 (bQ x.1)=MV at *;generalize aI e.aC=KV at *;rw[Tr (B1.trans (h2 (by omega)))]at m5 m7;simp[Ft,e1,e2,eE.bg,AV.view,c1,c2,c3,c4,c5,c6,c7,c8',c9',HT,O6,HU,Kv,eb,nk,m1,m2,m3,m4,m5,m6,m7,m8,ht,ha,ag,au,an]
end Bp
namespace Bp
open Ax Go bu V7 jG ke tf
open pX (Bl bE sd oo kV kW kX j8 ij dY Fb cV iQ kJ jq jk Az ES ET)
def PS(s:Sm):Prop:=∀(b:Bl)(pre:aj),LS s->Fb b (2*Sm.sz s)->(bh S).call 0 0 54 [.ptr pre.length 0 0 0,.agg s.row] (iN b pre)=some (.fm [],iN (b.plus (cS b.vars.length b.is.length b.aB.length s)) pre)
theorem fj(l:List Sm)(ih:∀s∈l,PS s)(b:Bl)(pre:aj)(hL:LB l)(hb:Fb b (2*Sm.cR l)) :
  (bh S).call 0 0 28 [.ptr pre.length 0 0 0,aT l] (iN b pre)=some (.fm [],iN (b.plus (cB b.vars.length b.is.length b.aB.length l)) pre):=by
 have hz:bX 9 (aT l)=true:=zL (by simp[bL,fY,Sm.az]);have cC:aD (aT l)=true:=bn;have dW:(aT l).view=aT l:=aO;have cP:aM (aT l)=Sm.rows l:=aE;have hlen:=Sm.dG l;have X3:l.length<1000000000:=by have:=hb.1;omega
 rw[EK]at hL;have nj:(Sm.rows l).length=l.length:=by simp[fY]
 refine ay (sf:=s28) rfl rfl rfl ?_;generalize aT l=lv at *;simp[s28];refine bf Rp.eq_1 (λx:Nat×Bl=>⟨[(0,.val (.ptr pre.length 0 0 0)),(1,.val lv),(4,.val (.int .i64 x.1))],[],iN x.2 pre⟩)
  (λx=>x.1<=l.length/\Fb x.2 (2*Sm.cR (l.drop x.1))/\x.2.plus (cB x.2.vars.length x.2.is.length x.2.aB.length (l.drop x.1))=b.plus (cB b.vars.length b.is.length b.aB.length l)) (λx=>l.length-x.1) (0,b) (by simp) ⟨by simp,by simpa using hb,by simp⟩ ?_
 rintro⟨k,b1⟩ ⟨hk,f1,hp⟩ k8;simp only at hk f1 hp k8;by_cases aX:k<l.length;have mI:=wk k (by omega);have hm:=List.getElem_mem aX;rw[List.drop_eq_getElem_cons aX]at f1 hp;simp only[Sm.cR]at f1;have ct:=ih _ hm b1 pre (hL _ hm) (f1.le (by omega));have vA:=Tl l[k] (hL _ hm) b1.vars.length b1.is.length b1.aB.length;have f2:=pX.Fb.plus (f1.le (by omega:2*Sm.sz l[k]+2*Sm.cR (l.drop (k+1))<=_)) vA;rw[CS]at hp;unfold J8 at hp;obtain⟨pv,pi,ps⟩:=cV b1 (cS b1.vars.length b1.is.length b1.aB.length l[k]);obtain⟨e1,d1,l1⟩:aD (aI l[k].es)=true/\aD (aT l[k].bd)=true/\aD (aT l[k].el)=true:=⟨aR,bn,bn⟩;have e2:(aI l[k].es).view=aI l[k].es:=aN;have d2:(aT l[k].bd).view=aT l[k].bd:=aO;have l2:(aT l[k].el).view=aT l[k].el:=aO;have gy:k<(Sm.rows l).length:=by omega
 have m9:=qJ aX gy;have dy:=k8 (k+1,b1.plus (cS b1.vars.length b1.is.length b1.aB.length l[k])) ⟨by simp only;omega,f2,by
  simp only[pv,pi,ps];rw[<-hp,iQ]⟩ (by simp only;omega)
 simp only at dy;rw[Sm.az]at ct m9;generalize cS b1.vars.length b1.is.length b1.aB.length l[k]=y at *;generalize l[k]=x at *;generalize aI x.es=xe at *;generalize aT x.bd=xb at *;generalize aT x.el=xl at *;simp[aX,gy,nj,mI,hz,cC,dW,cP,m9,ct,e1,e2,d1,d2,l1,l2,ag,AV.view];exact dy;have eL:k=l.length:=by omega
 rw[eL,List.drop_length,Ie,kJ]at hp;rw[<-hp];simp[aX,nj,cC,dW,cP]
structure Pt (b:Bl)(pre:aj)(H:List AV)(V:Nat)(R:List (List AV)):Prop where
 eq:iN b pre=pre++.rows 0 13 [H++[.mu (pre.length+1) V]]::[.rows V 6 R]
 len:R.length=b.is.length
 set:∀(i:Nat) (a:In),(pre++.rows 0 13 [H++[.mu (pre.length+1) V]]::[.rows V 6 (R.set i (In.row a))]:aj)=iN (b.pY i a) pre
 get:∀(i:Nat) (a:In),b.is[i]?=some a->R[i]?=some a.row
theorem Io(b:Bl)(pre:aj)(h:b.is≠[]):iN b pre=pre++.rows 0 13 [[b.aS,bE 3 (b.EO.map T3.cells),bE 7 (b.dX.map Cd.row),bE 4 (b.aB.map Sd.row),.int .i64 b.main,.int .i64 b.dX.length,
  .int .i64 b.params,bE 3 (b.vars.map T3.cells),.bool b.bP,.int .i64 b.bz.b,.int .i64 b.bz.r,.int .i64 b.bz.d,.mu (pre.length+1) (b.is.length-1)]]::[.rows (b.is.length-1) 6 (b.is.map In.row)]:=by
 simp only[iN,mK,sd,oo,if_neg h]
theorem AA(b:Bl)(pre:aj)(h:b.is≠[]):∃r0 r1 r2 r3 r4 r5 r6 r7 r8 r9 r10 r11 V R,Pt b pre [r0,r1,r2,r3,r4,r5,r6,r7,r8,r9,r10,r11] V R:=by
 refine⟨_,_,_,_,_,_,_,_,_,_,_,_,b.is.length-1,b.is.map In.row,Io b pre h,by simp,λi a=>?_,λi a h=>by simp[h]⟩;rw[Io (b.pY i a) pre (by intro c;apply h;have:=congrArg List.length c;simp[pX.Bl.pY]at this;exact this)];simp[pX.Bl.pY,List.map_set]
end Bp
namespace Bp
open Ax Go bu V7 jG ke tf
open pX (Bl bE sd oo kV kW kX j8 ij dY Fb cV iQ kJ jq jk Az ES ET)
theorem afu(s:Sm)(k5:s.k=5)(sY:∀x∈s.bd,PS x)(k8:∀x∈s.el,PS x)(b:Bl)(pre:aj)(h1:s.es.length=1)(hL:LL s.es)(hB:LB s.bd)(hE:LB s.el)(hb:Fb b (2*Sm.sz s)) :
  (bh S).call 0 0 54 [.ptr pre.length 0 0 0,.agg s.row] (iN b pre)=some (.fm [],iN (b.plus (XZ b.vars.length b.is.length b.aB.length (cE b.vars.length b.aB.length (ld s.es)) (λnv at_ ns=>cB nv at_ ns s.bd) (λnv at_ ns=>cB nv at_ ns s.el))) pre):=by
 obtain⟨e,he⟩:∃e,s.es=[e]:=⟨_,uP h1⟩;have h0:ld s.es=e:=by rw[he];rfl
 have dH:E.cR s.es=E.sz e:=by rw[he];simp[E.cR]
 have oz:=Sm.jM s;rw[h0];have hx:=eR e b pre ((l5 _).1 hL e (by rw[he];exact List.mem_cons_self)) (hb.le (by omega));have vA:=l7 e b.vars.length b.aB.length;obtain⟨y,hy⟩:∃y,y=cB (b.vars.length+(cE b.vars.length b.aB.length e).2.vs.length) (b.is.length+(cE b.vars.length b.aB.length e).2.is.length+1) (b.aB.length+(cE b.vars.length b.aB.length e).2.ss.length) s.bd:=⟨_,rfl⟩;obtain⟨z,hz⟩:∃z,z=cB (b.vars.length+(cE b.vars.length b.aB.length e).2.vs.length+y.vs.length) (b.is.length+(cE b.vars.length b.aB.length e).2.is.length+1+y.is.length+1) (b.aB.length+(cE b.vars.length b.aB.length e).2.ss.length+y.ss.length) s.el:=⟨_,rfl⟩;rw[<-ES b (cE b.vars.length b.aB.length e) y z _ _ hy hz];generalize cE b.vars.length b.aB.length e=x at *;obtain⟨_,pi,_⟩:=cV b x.2;have yL:=ig (b.plus x.2) pre ⟨17,x.1,0,0,0,[]⟩ (by
  have:=hb.2.1;have:=vA.2.1;omega)
 rw[jk,pi]at yL;obtain⟨b0,WU⟩:∃b0,b0=b.plus (x.2.eK (dO ⟨17,x.1,0,0,0,[]⟩)):=⟨_,rfl⟩;rw[<-WU]at yL;have g0:b0.is[b.is.length+x.2.is.length]?=some ⟨17,x.1,0,0,0,[]⟩:=by
  rw[WU];simp[pX.Bl.plus,l9.eK,dO]
 have l0:b0.is.length=b.is.length+x.2.is.length+1:=by rw[WU];simp[pX.Bl.plus,l9.eK,dO,Nat.add_assoc]
 obtain⟨z0,z1,z2,z3,z4,z5,z6,z7,z8,z9,z10,z11,V0,R0,P0⟩:=AA b0 pre (by intro c;rw[c]at l0;simp at l0);have s0:=P0.set (b.is.length+x.2.is.length) ⟨17,x.1,0,0,((b.is.length+x.2.is.length+1:Nat):Int),[]⟩;have e01:b0.pY (b.is.length+x.2.is.length) ⟨17,x.1,0,0,((b.is.length+x.2.is.length+1:Nat):Int),[]⟩=b.plus (x.2.eK (dO ⟨17,x.1,0,0,((b.is.length+x.2.is.length+1:Nat):Int),[]⟩)):=by
  rw[WU];simp[pX.Bl.plus,pX.Bl.pY,l9.eK,dO,List.set_append]
 rw[e01]at s0;have q0:=P0.get _ _ g0;have w0:b.is.length+x.2.is.length<R0.length:=by rw[P0.len];omega
 obtain⟨b1,Ci⟩:∃b1,b1=b.plus (x.2.eK (dO ⟨17,x.1,0,0,((b.is.length+x.2.is.length+1:Nat):Int),[]⟩)):=⟨_,rfl⟩;have l1:b1.vars.length=b.vars.length+x.2.vs.length/\b1.is.length=b.is.length+x.2.is.length+1/\b1.aB.length=b.aB.length+x.2.ss.length:=by
  rw[Ci];obtain⟨p,q,r⟩:=cV b (x.2.eK (dO ⟨17,x.1,0,0,((b.is.length+x.2.is.length+1:Nat):Int),[]⟩));rw[p,q,r];simp[l9.eK,dO,Nat.add_assoc]
 have g1:b1.is[b.is.length+x.2.is.length]?=some ⟨17,x.1,0,0,((b.is.length+x.2.is.length+1:Nat):Int),[]⟩:=by
  rw[Ci];simp[Bl.plus,l9.eK,dO]
 rw[<-Ci]at s0 ⊢;have f1:Fb b1 (2*Sm.cR s.bd+(2*Sm.cR s.el+1)):=by
  obtain⟨p1,p2,p3⟩:=hb;obtain⟨q1,q2,q3⟩:=vA;obtain⟨r1,r2,r3⟩:=l1;exact⟨by omega,by omega,by omega⟩
 have y9:=fj s.bd sY b1 pre hB (f1.le (by omega));have FX:=Av hB (b.vars.length+x.2.vs.length) (b.is.length+x.2.is.length+1) (b.aB.length+x.2.ss.length);rw[l1.1,l1.2.1,l1.2.2,<-hy]at y9;rw[<-hy]at FX;have f2:=f1.plus FX;obtain⟨m1,m2,m3⟩:=cV b1 y;have g2:(b1.plus y).is[b.is.length+x.2.is.length]?=some ⟨17,x.1,0,0,((b.is.length+x.2.is.length+1:Nat):Int),[]⟩:=by
  show (b1.is++y.is)[_]?=_;rw[List.getElem?_append_left (by omega)];exact g1
 have ha:=ig (b1.plus y) pre ⟨16,0,0,0,0,[]⟩ (by have:=f2.2.1;omega);rw[jq,m2,l1.2.1]at ha;obtain⟨b3,yA⟩:∃b3,b3=(b1.plus y).plus (dO ⟨16,0,0,0,0,[]⟩):=⟨_,rfl⟩;rw[<-yA]at ha ⊢;have l3:b3.vars.length=b.vars.length+x.2.vs.length+y.vs.length/\b3.is.length=b.is.length+x.2.is.length+1+y.is.length+1/\b3.aB.length=b.aB.length+x.2.ss.length+y.ss.length:=by
  rw[yA];obtain⟨p,q,r⟩:=cV (b1.plus y) (dO ⟨16,0,0,0,0,[]⟩);rw[p,q,r,m1,m2,m3,l1.1,l1.2.1,l1.2.2];simp[dO]
 have g3:b3.is[b.is.length+x.2.is.length]?=some ⟨17,x.1,0,0,((b.is.length+x.2.is.length+1:Nat):Int),[]⟩:=by
  rw[yA];show ((b1.plus y).is++_)[_]?=_;rw[List.getElem?_append_left (by omega)];exact g2
 have g3j:b3.is[b.is.length+x.2.is.length+1+y.is.length]?=some ⟨16,0,0,0,0,[]⟩:=by
  rw[yA];show ((b1.plus y).is++[_])[_]?=_;rw[List.getElem?_append_right (by omega),m2,l1.2.1];simp
 have Tv:b3.is.length<1000000000:=by have:=f2.2.1;omega
 obtain⟨r0,r1,r2,r3,r4,r5,r6,r7,r8,r9,r10,r11,V,R,P3⟩:=AA b3 pre (by intro c;rw[c]at l3;simp at l3);obtain⟨b4,hb4⟩:∃b4,b4=b3.pY (b.is.length+x.2.is.length) ⟨17,x.1,0,((b.is.length+x.2.is.length+1+y.is.length+1:Nat):Int),((b.is.length+x.2.is.length+1:Nat):Int),[]⟩:=⟨_,rfl⟩;have s3:=P3.set (b.is.length+x.2.is.length) ⟨17,x.1,0,((b.is.length+x.2.is.length+1+y.is.length+1:Nat):Int),((b.is.length+x.2.is.length+1:Nat):Int),[]⟩;rw[<-hb4]at s3 ⊢;have l4:b4.vars.length=b3.vars.length/\b4.is.length=b3.is.length/\b4.aB.length=b3.aB.length:=by rw[hb4];simp[Bl.pY]
 have g4j:b4.is[b.is.length+x.2.is.length+1+y.is.length]?=some ⟨16,0,0,0,0,[]⟩:=by
  rw[hb4];show (b3.is.set _ _)[_]?=_;rw[List.getElem?_set_ne (by omega)];exact g3j
 have f4:Fb b4 (2*Sm.cR s.el):=by
  obtain⟨p1,p2,p3⟩:=f2;obtain⟨r1,r2,r3⟩:=l3;obtain⟨q1,q2,q3⟩:=l4;exact⟨by omega,by omega,by omega⟩
 have E8:=fj s.el k8 b4 pre hE f4;have MB:=Av hE (b.vars.length+x.2.vs.length+y.vs.length) (b.is.length+x.2.is.length+1+y.is.length+1) (b.aB.length+x.2.ss.length+y.ss.length);rw[l4.1,l4.2.1,l4.2.2,l3.1,l3.2.1,l3.2.2,<-hz]at E8;rw[<-hz]at MB;obtain⟨n1,n2,n3⟩:=cV b4 z;have afa:(b4.plus z).is.length<1000000000:=by have:=f4.2.1;have:=MB.2.1;omega
 have g5:(b4.plus z).is[b.is.length+x.2.is.length+1+y.is.length]?=some ⟨16,0,0,0,0,[]⟩:=by
  show (b4.is++z.is)[_]?=_;rw[List.getElem?_append_left (by omega)];exact g4j
 obtain⟨t0,t1,t2,t3,t4,t5,t6,t7,t8,t9,t10,t11,W,Q,P5⟩:=AA (b4.plus z) pre (by intro c;have:=n2;rw[c,List.length_nil]at this;omega);have s5:=P5.set (b.is.length+x.2.is.length+1+y.is.length) ⟨16,0,0,0,((b.is.length+x.2.is.length+1+y.is.length+1+z.is.length:Nat):Int),[]⟩;have q3:=P3.get _ _ g3;have q5:=P5.get _ _ g5;have w3:b.is.length+x.2.is.length<R.length:=by rw[P3.len];omega
 have w5:b.is.length+x.2.is.length+1+y.is.length<Q.length:=by rw[P5.len];omega
 have hn:jE []=.U:=rfl;have e1:aD (aI s.es)=true:=aR;have e2:(aI s.es).view=aI s.es:=aN;have e3:aM (aI s.es)=[e.row]:=by show aM (aA _ _)=_;rw[aE,he];rfl
 have e4:bX 11 (aI s.es)=true:=zE;have d1:aD (aT s.bd)=true:=bn;have d2:(aT s.bd).view=aT s.bd:=aO;have u1:aD (aT s.el)=true:=bn;have u2:(aT s.el).view=aT s.el:=aO;have k1:aD (aI e.aC)=true:=aR;have k2:(aI e.aC).view=aI e.aC:=aN;have lr3:R.length=b.is.length+x.2.is.length+1+y.is.length+1:=by rw[P3.len];omega
 have lr5:Q.length=b.is.length+x.2.is.length+1+y.is.length+1+z.is.length:=by rw[P5.len];omega
 have BO:IntKind.i64.wrap (((b.is.length+x.2.is.length:Nat):Int)+1)=((b.is.length+x.2.is.length+1:Nat):Int):=by rw[ee]<;>omega
 have hw4:IntKind.i64.wrap (((b.is.length+x.2.is.length+1+y.is.length:Nat):Int)+1)=((b.is.length+x.2.is.length+1+y.is.length+1:Nat):Int):=by rw[ee]<;>omega
 have w55:b.is.length+x.2.is.length+1+y.is.length<b.is.length+x.2.is.length+1+y.is.length+1+z.is.length:=by omega
 simp only[In.row,hn]at yL ha s0 s3 s5 q0 q3 q5;simp only[P0.eq,P3.eq,P5.eq,List.cons_append,List.nil_append]at hx yL y9 ha s0 s3 E8 s5;rw[E.az]at hx e3;rw[Sm.az];refine ay (sf:=Fa) rfl rfl rfl ?_;generalize iN ((b4.plus z).pY (b.is.length+x.2.is.length+1+y.is.length) ⟨16,0,0,0,((b.is.length+x.2.is.length+1+y.is.length+1+z.is.length:Nat):Int),[]⟩) pre=st6 at *;generalize b.is.length+x.2.is.length+1+y.is.length+1+z.is.length=N5 at *;generalize b.is.length+x.2.is.length+1+y.is.length+1=N4 at *;generalize b.is.length+x.2.is.length+1+y.is.length=N3 at *;generalize b.is.length+x.2.is.length+1=N2 at *;generalize b.is.length+x.2.is.length=N1 at *;generalize iN (b.plus x.2) pre=stx at *;generalize iN b pre=st at *;generalize iN b1 pre=kM at *;generalize iN (b1.plus y) pre=kP at *;generalize iN b4 pre=st4 at *;generalize aI e.aC=KV at *;generalize aI s.es=EV at *;generalize aT s.bd=DV at *;generalize aT s.el=LV at *;have v0:=λh:N1<R0.length=>(List.getElem?_eq_some_iff.1 q0).2;have v3:=λh:N1<R.length=>(List.getElem?_eq_some_iff.1 q3).2;have v5:=λh:N3<Q.length=>(List.getElem?_eq_some_iff.1 q5).2;simp[Fa,k5,e1,e2,e3,e4,d1,d2,u1,u2,k1,k2,eE.bg,AV.view,hx,yL,oA,L5,Lb,w0,q0,v0,BO,s0,y9,ha,w3,q3,v3,hw4,s3,E8,w5,w55,q5,v5,lr5,s5,cut,ag,aQ,AV.ai,AV.ax,au,an]
theorem TK(s:Sm)(k6:s.k=6)(sY:∀x∈s.bd,PS x)(b:Bl)(pre:aj)(h1:s.es.length=1)(hL:LL s.es)(hB:LB s.bd)(hb:Fb b (2*Sm.sz s)) :
  (bh S).call 0 0 54 [.ptr pre.length 0 0 0,.agg s.row] (iN b pre)=some (.fm [],iN (b.plus (X1 b.vars.length b.is.length b.aB.length (cE b.vars.length b.aB.length (ld s.es)) (λnv at_ ns=>cB nv at_ ns s.bd))) pre):=by
 obtain⟨e,he⟩:∃e,s.es=[e]:=⟨_,uP h1⟩;have h0:ld s.es=e:=by rw[he];rfl
 have dH:E.cR s.es=E.sz e:=by rw[he];simp[E.cR]
 have oz:=Sm.jM s;rw[h0];have hx:=eR e b pre ((l5 _).1 hL e (by rw[he];exact List.mem_cons_self)) (hb.le (by omega));have vA:=l7 e b.vars.length b.aB.length;obtain⟨y,hy⟩:∃y,y=cB (b.vars.length+(cE b.vars.length b.aB.length e).2.vs.length) (b.is.length+(cE b.vars.length b.aB.length e).2.is.length+1) (b.aB.length+(cE b.vars.length b.aB.length e).2.ss.length) s.bd:=⟨_,rfl⟩;rw[<-ET b (cE b.vars.length b.aB.length e) y _ hy];generalize cE b.vars.length b.aB.length e=x at *;obtain⟨_,pi,_⟩:=cV b x.2;have yL:=ig (b.plus x.2) pre ⟨17,x.1,0,0,0,[]⟩ (by
  have:=hb.2.1;have:=vA.2.1;omega)
 rw[jk,pi]at yL;obtain⟨b0,WU⟩:∃b0,b0=b.plus (x.2.eK (dO ⟨17,x.1,0,0,0,[]⟩)):=⟨_,rfl⟩;rw[<-WU]at yL;have g0:b0.is[b.is.length+x.2.is.length]?=some ⟨17,x.1,0,0,0,[]⟩:=by
  rw[WU];simp[pX.Bl.plus,l9.eK,dO]
 have l0:b0.is.length=b.is.length+x.2.is.length+1:=by rw[WU];simp[pX.Bl.plus,l9.eK,dO,Nat.add_assoc]
 obtain⟨z0,z1,z2,z3,z4,z5,z6,z7,z8,z9,z10,z11,V0,R0,P0⟩:=AA b0 pre (by intro c;rw[c]at l0;simp at l0);have s0:=P0.set (b.is.length+x.2.is.length) ⟨17,x.1,0,0,((b.is.length+x.2.is.length+1:Nat):Int),[]⟩;have e01:b0.pY (b.is.length+x.2.is.length) ⟨17,x.1,0,0,((b.is.length+x.2.is.length+1:Nat):Int),[]⟩=b.plus (x.2.eK (dO ⟨17,x.1,0,0,((b.is.length+x.2.is.length+1:Nat):Int),[]⟩)):=by
  rw[WU];simp[pX.Bl.plus,pX.Bl.pY,l9.eK,dO,List.set_append]
 rw[e01]at s0;have q0:=P0.get _ _ g0;have w0:b.is.length+x.2.is.length<R0.length:=by rw[P0.len];omega
 obtain⟨b1,Ci⟩:∃b1,b1=b.plus (x.2.eK (dO ⟨17,x.1,0,0,((b.is.length+x.2.is.length+1:Nat):Int),[]⟩)):=⟨_,rfl⟩;have l1:b1.vars.length=b.vars.length+x.2.vs.length/\b1.is.length=b.is.length+x.2.is.length+1/\b1.aB.length=b.aB.length+x.2.ss.length:=by
  rw[Ci];obtain⟨p,q,r⟩:=cV b (x.2.eK (dO ⟨17,x.1,0,0,((b.is.length+x.2.is.length+1:Nat):Int),[]⟩));rw[p,q,r];simp[l9.eK,dO,Nat.add_assoc]
 have g1:b1.is[b.is.length+x.2.is.length]?=some ⟨17,x.1,0,0,((b.is.length+x.2.is.length+1:Nat):Int),[]⟩:=by
  rw[Ci];simp[Bl.plus,l9.eK,dO]
 rw[<-Ci]at s0 ⊢;have f1:Fb b1 (2*Sm.cR s.bd+1):=by
  obtain⟨p1,p2,p3⟩:=hb;obtain⟨q1,q2,q3⟩:=vA;obtain⟨r1,r2,r3⟩:=l1;exact⟨by omega,by omega,by omega⟩
 have y9:=fj s.bd sY b1 pre hB (f1.le (by omega));have FX:=Av hB (b.vars.length+x.2.vs.length) (b.is.length+x.2.is.length+1) (b.aB.length+x.2.ss.length);rw[l1.1,l1.2.1,l1.2.2,<-hy]at y9;rw[<-hy]at FX;have f2:=f1.plus FX;obtain⟨m1,m2,m3⟩:=cV b1 y;have g2:(b1.plus y).is[b.is.length+x.2.is.length]?=some ⟨17,x.1,0,0,((b.is.length+x.2.is.length+1:Nat):Int),[]⟩:=by
  show (b1.is++y.is)[_]?=_;rw[List.getElem?_append_left (by omega)];exact g1
 have ha:=ig (b1.plus y) pre ⟨16,0,0,0,(b.is.length:Int),[]⟩ (by have:=f2.2.1;omega);rw[jq,m2,l1.2.1]at ha;obtain⟨b3,yA⟩:∃b3,b3=(b1.plus y).plus (dO ⟨16,0,0,0,(b.is.length:Int),[]⟩):=⟨_,rfl⟩;rw[<-yA]at ha ⊢;have l3:b3.is.length=b.is.length+x.2.is.length+1+y.is.length+1:=by
  rw[yA];obtain⟨p,q,r⟩:=cV (b1.plus y) (dO ⟨16,0,0,0,(b.is.length:Int),[]⟩);rw[q,m2,l1.2.1];simp[dO]
 have g3:b3.is[b.is.length+x.2.is.length]?=some ⟨17,x.1,0,0,((b.is.length+x.2.is.length+1:Nat):Int),[]⟩:=by
  rw[yA];show ((b1.plus y).is++_)[_]?=_;rw[List.getElem?_append_left (by omega)];exact g2
 have Tv:b3.is.length<1000000000:=by have:=f2.2.1;omega
 obtain⟨r0,r1,r2,r3,r4,r5,r6,r7,r8,r9,r10,r11,V,R,P3⟩:=AA b3 pre (by intro c;rw[c]at l3;simp at l3);have s3:=P3.set (b.is.length+x.2.is.length) ⟨17,x.1,0,((b.is.length+x.2.is.length+1+y.is.length+1:Nat):Int),((b.is.length+x.2.is.length+1:Nat):Int),[]⟩;have q3:=P3.get _ _ g3;have w3:b.is.length+x.2.is.length<R.length:=by rw[P3.len];omega
 have hn:jE []=.U:=rfl;have e1:aD (aI s.es)=true:=aR;have e2:(aI s.es).view=aI s.es:=aN;have e3:aM (aI s.es)=[e.row]:=by show aM (aA _ _)=_;rw[aE,he];rfl
 have e4:bX 11 (aI s.es)=true:=zE;have d1:aD (aT s.bd)=true:=bn;have d2:(aT s.bd).view=aT s.bd:=aO;have u1:aD (aT s.el)=true:=bn;have u2:(aT s.el).view=aT s.el:=aO;have k1:aD (aI e.aC)=true:=aR;have k2:(aI e.aC).view=aI e.aC:=aN;have lr3:R.length=b.is.length+x.2.is.length+1+y.is.length+1:=by rw[P3.len];omega
 have BO:IntKind.i64.wrap (((b.is.length+x.2.is.length:Nat):Int)+1)=((b.is.length+x.2.is.length+1:Nat):Int):=by rw[ee]<;>omega
 have w33:b.is.length+x.2.is.length<b.is.length+x.2.is.length+1+y.is.length+1:=by omega
 simp only[In.row,hn]at yL ha s0 s3 q0 q3;rw[E.az]at hx e3;rw[Sm.az];refine ay (sf:=Fa) rfl rfl rfl ?_;by_cases Ta:b.is=[];have iu:iN b pre=pre++.rows 0 13 [[b.aS,bE 3 (b.EO.map T3.cells),bE 7 (b.dX.map Cd.row),bE 4 (b.aB.map Sd.row),.int .i64 b.main,.int .i64 b.dX.length,
  .int .i64 b.params,bE 3 (b.vars.map T3.cells),.bool b.bP,.int .i64 b.bz.b,.int .i64 b.bz.r,.int .i64 b.bz.d,.U]]::[]:=by simp only[iN,mK,sd,oo,if_pos Ta]
 have anI:b.is.length=0:=by rw[Ta];rfl
 rw[iu]at hx ⊢;generalize bE 3 (b.EO.map T3.cells)=OG at *;generalize bE 7 (b.dX.map Cd.row)=OC at *;generalize bE 4 (b.aB.map Sd.row)=OS at *;generalize bE 3 (b.vars.map T3.cells)=OV at *;have hz0:((b.is.length:Nat):Int)=0:=by omega
 rw[hz0]at ha;simp only[P0.eq,P3.eq,List.cons_append,List.nil_append]at hx yL y9 ha s0 s3;generalize iN (b3.pY (b.is.length+x.2.is.length) ⟨17,x.1,0,((b.is.length+x.2.is.length+1+y.is.length+1:Nat):Int),((b.is.length+x.2.is.length+1:Nat):Int),[]⟩) pre=st6 at *;generalize b.is.length+x.2.is.length+1+y.is.length+1=N4 at *;generalize b.is.length+x.2.is.length+1+y.is.length=N3 at *;generalize b.is.length+x.2.is.length+1=N2 at *;generalize b.is.length+x.2.is.length=N1 at *;generalize iN (b.plus x.2) pre=stx at *;generalize iN b1 pre=kM at *;generalize iN (b1.plus y) pre=kP at *;generalize aI e.aC=KV at *;generalize aI s.es=EV at *;generalize aT s.bd=DV at *;generalize aT s.el=LV at *;have v0:=λh:N1<R0.length=>(List.getElem?_eq_some_iff.1 q0).2;have v3:=λh:N1<R.length=>(List.getElem?_eq_some_iff.1 q3).2;simp[Fa,k6,e1,e2,e3,e4,d1,d2,u1,u2,k1,k2,eE.bg,AV.view,hx,yL,oA,L5,Lb,w0,q0,v0,BO,s0,y9,ha,w3,w33,q3,v3,lr3,s3,cut,ag,aQ,AV.ai,AV.ax,au,an];have iu:=Io b pre Ta;have NQ:(b.is.map In.row).length=b.is.length:=by simp
 rw[iu]at hx ⊢;generalize bE 3 (b.EO.map T3.cells)=OG at *;generalize bE 7 (b.dX.map Cd.row)=OC at *;generalize bE 4 (b.aB.map Sd.row)=OS at *;generalize bE 3 (b.vars.map T3.cells)=OV at *;generalize b.is.length-1=VV at *;generalize b.is.map In.row=IR at *;simp only[P0.eq,P3.eq,List.cons_append,List.nil_append]at hx yL y9 ha s0 s3;generalize iN (b3.pY (b.is.length+x.2.is.length) ⟨17,x.1,0,((b.is.length+x.2.is.length+1+y.is.length+1:Nat):Int),((b.is.length+x.2.is.length+1:Nat):Int),[]⟩) pre=st6 at *;generalize b.is.length+x.2.is.length+1+y.is.length+1=N4 at *;generalize b.is.length+x.2.is.length+1+y.is.length=N3 at *;generalize b.is.length+x.2.is.length+1=N2 at *;generalize b.is.length+x.2.is.length=N1 at *;generalize iN (b.plus x.2) pre=stx at *;generalize iN b1 pre=kM at *;generalize iN (b1.plus y) pre=kP at *;generalize aI e.aC=KV at *;generalize aI s.es=EV at *;generalize aT s.bd=DV at *;generalize aT s.el=LV at *;have v0:=λh:N1<R0.length=>(List.getElem?_eq_some_iff.1 q0).2;have v3:=λh:N1<R.length=>(List.getElem?_eq_some_iff.1 q3).2;simp[Fa,k6,NQ,e1,e2,e3,e4,d1,d2,u1,u2,k1,k2,eE.bg,AV.view,hx,yL,oA,L5,Lb,w0,q0,v0,BO,s0,y9,ha,w3,w33,q3,v3,lr3,s3,cut,ag,aQ,AV.ai,AV.ax,au,an]
end Bp
namespace Bp
open Ax Go bu V7 jG ke tf
open pX (Bl bE sd oo kV kW kX j8 ij dY Fb cV iQ kJ jq jk Az ES ET)
theorem L9(b:Bl)(pre:aj)(s:Sm)(k23:s.k=2\/s.k=3)(h1:s.es.length=1)(hL:LL s.es)(hr : -1000000000<s.cH)(hb:Fb b (E.cR s.es+1)) :
  (bh S).call 0 0 54 [.ptr pre.length 0 0 0,.agg s.row] (iN b pre)=some (.fm [],iN (b.plus ((cE b.vars.length b.aB.length (ld s.es)).2.eK (dO (Au s.cH (cE b.vars.length b.aB.length (ld s.es)).1)))) pre):=by
 obtain⟨e,he⟩:∃e,s.es=[e]:=⟨_,uP h1⟩;have h0:ld s.es=e:=by rw[he];rfl
 have dH:E.cR s.es=E.sz e:=by rw[he];simp[E.cR]
 rw[h0];have hx:=eR e b pre ((l5 _).1 hL e (by rw[he];exact List.mem_cons_self)) (hb.le (by omega));have vA:=l7 e b.vars.length b.aB.length;have f1:=(hb.le (by omega:E.sz e+1<=_)).plus vA;generalize cE b.vars.length b.aB.length e=x at *;have ha:=ig (b.plus x.2) pre (Au s.cH x.1) (by have:=f1.2.1;omega);rw[jk]at ha;have e1:aD (aI s.es)=true:=aR;have e2:(aI s.es).view=aI s.es:=aN;have e3:aM (aI s.es)=[e.row]:=by show aM (aA _ _)=_;rw[aE,he];rfl
 have e4:bX 11 (aI s.es)=true:=zE;have b1:aD (aT s.bd)=true:=bn;have b2:(aT s.bd).view=aT s.bd:=aO;have l1:aD (aT s.el)=true:=bn;have l2:(aT s.el).view=aT s.el:=aO;have k1:aD (aI e.aC)=true:=aR;have k2:(aI e.aC).view=aI e.aC:=aN;have hn:jE []=.U:=rfl;rw[E.az]at hx e3;rw[Sm.az];refine ay (sf:=Fa) rfl rfl rfl ?_;generalize iN (b.plus (x.2.eK (dO (Au s.cH x.1)))) pre=kP at *;generalize iN b pre=st at *;generalize iN (b.plus x.2) pre=kM at *;generalize aI e.aC=KV at *;generalize aI s.es=EV at *;generalize aT s.bd=DV at *;generalize aT s.el=LV at *;by_cases c:s.cH<0;have hw:IntKind.i64.wrap (-1-s.cH) = -1-s.cH:=by rw[ee]<;>omega
 simp only[Au,if_pos c,In.row,hn]at ha;rcases k23 with kk|kk<;>simp[Fa,kk,e1,e2,e3,e4,b1,l1,k2,eE.bg,AV.view,hx,cut,c,hw,ha,ag];simp only[Au,if_neg c,In.row,hn]at ha;rcases k23 with kk|kk<;>simp[Fa,kk,e1,e2,e3,e4,b1,l1,k2,eE.bg,AV.view,hx,cut,c,ha,ag]
theorem Dn(b:Bl)(pre:aj)(s:Sm)(kk4:s.k=4)(h1:s.es.length=2)(hL:LL s.es)(hk:(ld s.es).k=5\/(ld s.es).k=6)(hb:Fb b (E.cR s.es+1)) :
  (bh S).call 0 0 54 [.ptr pre.length 0 0 0,.agg s.row] (iN b pre)=some (.fm [],iN (b.plus (J9 b.vars.length b.aB.length (ld s.es) (pE b.vars.length b.aB.length (ld s.es).aC) (λnv ns=>cE nv ns (PK s.es)))) pre):=by
 obtain⟨e,f,he⟩:∃e f,s.es=[e,f]:=⟨_,_,L2 h1⟩;have h0:ld s.es=e:=by rw[he];rfl
 have h01:PK s.es=f:=by rw[he];rfl
 have dH:E.cR s.es=E.sz e+E.sz f:=by rw[he];simp[E.cR]
 have Tf:=E.mz e;rw[h0]at hk ⊢;rw[h01];rw[l5]at hL;have O8:=hL e (by rw[he];exact List.mem_cons_self);rw[Ka]at O8;obtain⟨_,q1,q2,_,_,Wv⟩:=O8;have hx:=CW e.aC (λx _=>eR x) b pre Wv (hb.le (by omega));have vA:=EJ e.aC b.vars.length b.aB.length;have f1:=(hb.le (by omega:E.cR e.aC+(E.sz f+1)<=_)).plus vA;have B1:=Az b.vars.length b.aB.length e.aC;unfold J9;obtain⟨pv,pi,ps⟩:=cV b (pE b.vars.length b.aB.length e.aC).2;generalize pE b.vars.length b.aB.length e.aC=x at *;have hy:=eR f (b.plus x.2) pre (hL f (by rw[he];simp)) (f1.le (by omega));have Tu:=l7 f (b.plus x.2).vars.length (b.plus x.2).aB.length;have f2:=f1.plus Tu;rw[pv,ps]at hy Tu f2;simp only;generalize cE (b.vars.length+x.2.vs.length) (b.aB.length+x.2.ss.length) f=y at *;have ha:=ig ((b.plus x.2).plus y.2) pre (FA e.k e.cH y.1 x.1) (by have:=f2.2.1;omega);simp only[jq,iQ,CT]at ha hy;rw[CT];have e1:aD (aI s.es)=true:=aR;have e2:(aI s.es).view=aI s.es:=aN;have e3:aM (aI s.es)=[e.row,f.row]:=by show aM (aA _ _)=_;rw[aE,he];rfl
 have e4:bX 11 (aI s.es)=true:=zE;have b1:aD (aT s.bd)=true:=bn;have b2:(aT s.bd).view=aT s.bd:=aO;have l1:aD (aT s.el)=true:=bn;have l2:(aT s.el).view=aT s.el:=aO;have k1:aD (aI e.aC)=true:=aR;have k2:(aI e.aC).view=aI e.aC:=aN;have k3:aD (aI f.aC)=true:=aR;have k4:(aI f.aC).view=aI f.aC:=aN;have hn:jE []=.U:=rfl;have m1:aD (bD 1 (bQ x.1))=true:=bY;have m2:(bD 1 (bQ x.1)).view=aA 1 (bQ x.1):=rfl;have m3:aD (aA 1 (bQ x.1))=true:=aL;have m5:aM (aA 1 (bQ x.1))=bQ x.1:=aE;have m6:bX 1 (aA 1 (bQ x.1))=true:=zI;have m7:aM (bD 1 (bQ x.1))=bQ x.1:=pQ;have m8:bX 1 (bD 1 (bQ x.1))=true:=by rw[xy];simp[bL,bQ]
 rw[E.az f]at hy;rw[E.az e,E.az f]at e3;rw[Sm.az];refine ay (sf:=Fa) rfl rfl rfl ?_;generalize iN (b.plus (x.2.eK (y.2.eK (dO (FA e.k e.cH y.1 x.1))))) pre=st3 at *;generalize iN (b.plus (x.2.eK y.2)) pre=kP at *;generalize iN b pre=st at *;generalize iN (b.plus x.2) pre=kM at *;generalize aI e.aC=KV at *;generalize aI f.aC=FV at *;generalize aI s.es=EV at *;generalize aT s.bd=DV at *;generalize aT s.el=LV at *;generalize bD 1 (bQ x.1)=MV at *;generalize aA 1 (bQ x.1)=NV at *;by_cases c:e.k=5;rw[L3 (by rw[B1];exact q1 (.inl c))]at m5 m7;simp only[FA,if_pos c,In.row,hn]at ha;simp[Fa,kk4,e1,e2,e3,e4,b1,l1,k2,k4,m7,m8,eE.bg,AV.view,hx,hy,cut,c,ha,ag,au,an];have c6:e.k=6:=by omega
 rw[L4 (by rw[B1];exact q2 (.inl c6))]at m5 m7;simp only[FA,if_neg c,In.row,hn]at ha;simp[Fa,kk4,e1,e2,e3,e4,b1,l1,k2,k4,m2,m5,m6,eE.bg,AV.view,hx,hy,cut,c6,ha,ag,au,an]
theorem oc(s:Sm):PS s:=by
 induction s using Sm.yx with
 |_ s sY k8=>
  intro b pre hL hb;rw[GI]at hL;obtain⟨h1,h2,h3,h4,h5,h6⟩:=hL;have oz:=Sm.jM s;have hn:jE []=.U:=rfl;have e1:aD (aI s.es)=true:=aR;have e2:(aI s.es).view=aI s.es:=aN;have e4:bX 11 (aI s.es)=true:=zE;have d1:aD (aT s.bd)=true:=bn;have d2:(aT s.bd).view=aT s.bd:=aO;have u1:aD (aT s.el)=true:=bn;have u2:(aT s.el).view=aT s.el:=aO;rw[Nz];by_cases c:s.k=2\/s.k=3;rw[if_pos c];exact L9 b pre s c (h2 (by omega)) h1 (h4 c) (hb.le (by omega));rw[if_neg c];by_cases c4:s.k=4;rw[if_pos c4];exact Dn b pre s c4 (h3 c4).1 h1 (h3 c4).2 (hb.le (by omega));rw[if_neg c4];by_cases c5:s.k=5;rw[if_pos c5];exact afu s c5 sY k8 b pre (h2 (by omega)) h1 h5 h6 hb;rw[if_neg c5];by_cases c6:s.k=6;rw[if_pos c6];exact TK s c6 sY b pre (h2 (by omega)) h1 h5 hb;rw[if_neg c6];by_cases c7:s.k=7;rw[if_pos c7];cases jR:s.es with
  |nil=>
   have ha:=ig b pre ⟨18,-1,0,0,0,[]⟩ (by have:=hb.2.1;omega);rw[jq]at ha;simp only[In.row,hn]at ha;have e3:aM (aI s.es)=[]:=(by show aM (aA _ _)=_;rw[aE,jR];rfl);dsimp only;generalize iN (b.plus (dO ⟨18,-1,0,0,0,[]⟩)) pre=kM at *;rw[Sm.az];refine ay (sf:=Fa) rfl rfl rfl ?_;generalize iN b pre=st at *;generalize aI s.es=EV at *;generalize aT s.bd=DV at *;generalize aT s.el=LV at *;simp[Fa,e1,e2,e3,d1,u1,eE.bg,AV.view,c7,ha,cut,ag]
  |cons e l=>
   have dH:E.cR s.es=E.sz e+E.cR l:=(by rw[jR];rfl);have hx:=eR e b pre ((l5 _).1 h1 e (by rw[jR];exact List.mem_cons_self)) (hb.le (by omega));have f1:=Fb.plus (hb.le (by omega:E.sz e+1<=_)) (l7 e b.vars.length b.aB.length);dsimp only;generalize cE b.vars.length b.aB.length e=x at *;have ha:=ig (b.plus x.2) pre ⟨18,x.1,0,0,0,[]⟩ (by have:=f1.2.1;omega);rw[jk]at ha;simp only[In.row,hn]at ha;have e3:aM (aI s.es)=e.row::E.rows l:=(by show aM (aA _ _)=_;rw[aE,jR];rfl);have k1:aD (aI e.aC)=true:=aR;have k2:(aI e.aC).view=aI e.aC:=aN;generalize iN (b.plus (x.2.eK (dO ⟨18,x.1,0,0,0,[]⟩))) pre=kP at *;rw[E.az]at hx e3;rw[Sm.az];refine ay (sf:=Fa) rfl rfl rfl ?_;generalize iN b pre=st at *;generalize iN (b.plus x.2) pre=kM at *;generalize aI e.aC=KV at *;generalize aI s.es=EV at *;generalize aT s.bd=DV at *;generalize aT s.el=LV at *;simp[Fa,e1,e2,e3,e4,d1,u1,k2,eE.bg,AV.view,c7,hx,ha,cut,ag]
  rw[if_neg c7];have one:(s.k=8\/s.k=9)->∃e,s.es=[e]/\ld s.es=e/\E.cR s.es=E.sz e/\aM (aI s.es)=[e.row]/\LE e:=λh=>by
   obtain⟨e,he⟩:∃e,s.es=[e]:=⟨_,uP (h2 (by omega))⟩;exact⟨e,he,by rw[he];rfl,by rw[he];simp[E.cR],by show aM (aA _ _)=_;rw[aE,he];rfl,(l5 _).1 h1 e (by rw[he];exact List.mem_cons_self)⟩
  by_cases c8:s.k=8;rw[if_pos c8];obtain⟨e,jR,h0,dH,e3,O8⟩:=one (.inl c8);rw[h0];have hx:=eR e b pre O8 (hb.le (by omega));have f1:=Fb.plus (hb.le (by omega:E.sz e+1<=_)) (l7 e b.vars.length b.aB.length);generalize cE b.vars.length b.aB.length e=x at *;have ha:=ig (b.plus x.2) pre ⟨15,x.1,0,0,0,[]⟩ (by have:=f1.2.1;omega);rw[jk]at ha;simp only[In.row,hn]at ha;have k1:aD (aI e.aC)=true:=aR;have k2:(aI e.aC).view=aI e.aC:=aN;generalize iN (b.plus (x.2.eK (dO ⟨15,x.1,0,0,0,[]⟩))) pre=kP at *;rw[E.az]at hx e3;rw[Sm.az];refine ay (sf:=Fa) rfl rfl rfl ?_;generalize iN b pre=st at *;generalize iN (b.plus x.2) pre=kM at *;generalize aI e.aC=KV at *;generalize aI s.es=EV at *;generalize aT s.bd=DV at *;generalize aT s.el=LV at *;simp[Fa,e1,e2,e3,e4,d1,u1,k2,eE.bg,AV.view,c8,hx,ha,cut,ag];rw[if_neg c8];by_cases c9:s.k=9;rw[if_pos c9];obtain⟨e,jR,h0,dH,e3,O8⟩:=one (.inr c9);rw[h0];have hx:=eR e b pre O8 (hb.le (by omega));generalize cE b.vars.length b.aB.length e=x at *;have k1:aD (aI e.aC)=true:=aR;have k2:(aI e.aC).view=aI e.aC:=aN;rw[E.az]at hx e3;rw[Sm.az];refine ay (sf:=Fa) rfl rfl rfl ?_;generalize iN b pre=st at *;generalize iN (b.plus x.2) pre=kM at *;generalize aI e.aC=KV at *;generalize aI s.es=EV at *;generalize aT s.bd=DV at *;generalize aT s.el=LV at *;simp[Fa,e1,e2,e3,e4,d1,u1,k2,eE.bg,AV.view,c9,hx,cut];rw[if_neg c9,kJ,Sm.az];refine ay (sf:=Fa) rfl rfl rfl ?_;generalize iN b pre=st at *;generalize aI s.es=EV at *;generalize aT s.bd=DV at *;generalize aT s.el=LV at *;have c2:¬s.k=2:=λh=>c (.inl h);have c3:¬s.k=3:=λh=>c (.inr h);simp[Fa,e1,d1,u1,eE.bg,AV.view,c2,c3,c4,c5,c6,c7,c8,c9,cut]
end Bp
