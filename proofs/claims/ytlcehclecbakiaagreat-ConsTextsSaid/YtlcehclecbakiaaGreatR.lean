/- Part of a proof. -/
import Derived.Test.YtlcehclecbakiaaGreatW
import Derived.Test.YtlcehclecbakiaaGreatF

open List renaming getElem_mem→aar,drop_eq_getElem_cons→aa3,drop_length→abp,mem_cons_self→aa4,getElem?_append_left→aaE,cons_append→acw,nil_append→adC,getElem?_eq_some_iff→aab
open Nat renaming add_assoc→afo
set_option maxRecDepth 100000
set_option maxHeartbeats 2000000
namespace F3
open Ax Go aF V7 jw jX sZ
open qG (Bl cU yP yQ ni nj nk nU hJ gG)
def mS(b:Bl)(k:Nat):List AV:=[b.aD,cU 3 (b.X6.map T3.cells),cU 7 (b.codes.map Cd.row),cU 4 (b.ax.map Sd.row),.int .i64 b.main,.int .i64 b.codes.length,
 .int .i64 b.params,cU 3 (b.vars.map T3.cells),.bool b.bg,.int .i64 b.res.b,.int .i64 b.res.r,.int .i64 b.res.d,yP b.is k]
def iS(b:Bl)(pre:ag):ag:=pre++.rows 0 13 [mS b (pre.length+1)]::yQ b.is
theorem BO(pre:ag)(o:dK)(r:ag):(pre++o::r)[pre.length]?=some o:=by simp
variable (wl aa:Nat)
theorem W4(b:Bl)(pre:ag)(i:In)(v:AV)(_:v.ay=true)(hc:v.cx=true)(hv:v.view=oI i.args)(hb:b.is.length<1000000000) :
  (aP S).call 0 0 75 [.ptr pre.length 0 0 0,.agg [.int .i64 i.op,.int .i64 i.a,.int .i64 i.b,.int .i64 i.c,.int .i64 i.n,v]] (iS b pre)=some (.int .i64 b.is.length,iS { b with is:=b.is++[i] } pre):=by
 refine aO (sf:=s75) rfl rfl rfl ?_;have wG:=ni i.args;have L9:=nj i.args;have hv2:=nk i.args;have hr:(b.is.length+1)*64<=dQ:=by unfold dQ;omega
 have hr0:64<=dQ:=by decide
 have hw:IntKind.i64.wrap ((b.is.length:Nat):Int)=b.is.length:=by rw[cI]<;>omega
 have h00:IntKind.i64.wrap 0=0:=by decide
 have hlen:(pre++[dK.rows 0 13 [[b.aD,cU 3 (b.X6.map T3.cells),cU 7 (b.codes.map Cd.row),cU 4 (b.ax.map Sd.row),.int .i64 b.main,.int .i64 b.codes.length,.int .i64 b.params,cU 3 (b.vars.map T3.cells),.bool b.bg,.int .i64 b.res.b,.int .i64 b.res.r,.int .i64 b.res.d,.U]]]).length=pre.length+1:=by simp
 by_cases e:b.is=[];simp[s75,iS,mS,yP,yQ,e,In.row,bD,AV.au,AV.ay,ai,ah,cut,hc,hv,wG,L9,hv2,bw,hr0,-List.append_assoc];simp;exact h00;simp[s75,iS,mS,yP,yQ,e,In.row,bD,AV.au,AV.ay,aj,ai,ah,cut,hc,hv,wG,L9,hv2,bw,hr,hw];have:=List.length_pos_iff.2 e;omega
end F3
namespace F3
open Ax Go aF V7 jw jX sZ
open qG (Bl cU yP yQ ni nj nk nU hJ gG)
variable (wl aa:Nat)
theorem lz(b:Bl)(pre:ag)(i:In)(hb:b.is.length<1000000000) :
  (aP S).call 0 0 75 [.ptr pre.length 0 0 0,.agg i.row] (iS b pre)=some (.int .i64 b.is.length,iS { b with is:=b.is++[i] } pre):=
 W4 b pre i (oI i.args) (ni _) (nj _) (nk _) hb
theorem Qd(pre:ag)(o:dK)(r:ag):List.take (pre.length+(r.length+1)) (pre++o::r)=pre++o::r:=List.take_of_length_le (by simp)
theorem JK(b:Bl)(pre:ag)(t:T3)(hb:b.vars.length<1000000000) :
  (aP S).call 0 aa 43 [.ptr pre.length 0 0 0,.agg t.cells] (iS b pre)=some (.int .i64 b.vars.length,iS { b with vars:=b.vars++[t] } pre):=by
 refine aO (sf:=s43) rfl rfl rfl ?_;have hr:(b.vars.length+1)*24<=dQ:=by unfold dQ;omega
 have hr0:24<=dQ:=by decide
 have hw:IntKind.i64.wrap ((b.vars.length:Nat):Int)=b.vars.length:=by rw[cI]<;>omega
 have h00:IntKind.i64.wrap 0=0:=by decide
 by_cases e:b.vars=[];have h0:cU 3 (b.vars.map T3.cells)=.U:=by simp[cU,e]
 have h1:cU 3 ((b.vars++[t]).map T3.cells)=.jz 3 [t.cells]:=by simp[cU,e]
 simp only[iS,mS,h0,h1];simp[s43,e,T3.cells,bD,AV.au,AV.ay,AV.eL,aU,fy,eK,bU,aj,ai,ah,cut,Qd,bw,hr0,h00];have h0:cU 3 (b.vars.map T3.cells)=.jz 3 (b.vars.map T3.cells):=by simp[cU,e]
 have h1:cU 3 ((b.vars++[t]).map T3.cells)=.jz 3 (b.vars.map T3.cells++[t.cells]):=by simp[cU]
 simp only[iS,mS,h0,h1];simp[s43,T3.cells,bD,AV.au,AV.ay,AV.eL,aU,fy,eK,bU,aj,ai,ah,cut,Qd,bw,hr,hw]
theorem JL(b:Bl)(pre:ag)(t:T3)(hb:b.ax.length<1000000000) :
  (aP S).call 0 aa 119 [.ptr pre.length 0 0 0,.agg t.cells] (iS b pre)=some (.int .i64 b.ax.length,iS { b with ax:=b.ax++[⟨b.codes.length,t⟩] } pre):=by
 refine aO (sf:=ZF) rfl rfl rfl ?_;have hr:(b.ax.length+1)*32<=dQ:=by unfold dQ;omega
 have hr0:32<=dQ:=by decide
 have hw:IntKind.i64.wrap ((b.ax.length:Nat):Int)=b.ax.length:=by rw[cI]<;>omega
 have h00:IntKind.i64.wrap 0=0:=by decide
 by_cases e:b.ax=[];have h0:cU 4 (b.ax.map Sd.row)=.U:=by simp[cU,e]
 have h1:cU 4 ((b.ax++[(⟨b.codes.length,t⟩:Sd)]).map Sd.row)=.jz 4 [[.int .i64 b.codes.length,.int .i64 t.b,.int .i64 t.r,.int .i64 t.d]]:=by simp[cU,e,Sd.row]
 simp only[iS,mS,h0,h1];simp[ZF,e,T3.cells,aU];rw[yd];simp[eE,ju,dY,bp,dG.aI,bD,AV.au,AV.ay,AV.eL,aU,fy,eK,bU,aj,cut,bw,hr0];refine⟨_,_,⟨rfl,rfl⟩,?_⟩;simp[bU,AV.cG,AV.view,eW.fB,AV.fB,cut,AV.ay,aU,fy,Qd,h00];have h0:cU 4 (b.ax.map Sd.row)=.jz 4 (b.ax.map Sd.row):=by simp[cU,e]
 have h1:cU 4 ((b.ax++[(⟨b.codes.length,t⟩:Sd)]).map Sd.row)=.jz 4 (b.ax.map Sd.row++[[.int .i64 b.codes.length,.int .i64 t.b,.int .i64 t.r,.int .i64 t.d]]):=by simp[cU,Sd.row]
 simp only[iS,mS,h0,h1];simp[ZF,T3.cells,aU];rw[yd];simp[eE,ju,dY,bp,dG.aI,bD,AV.au,AV.ay,AV.eL,aU,fy,eK,bU,aj,cut,bw,hr];refine⟨_,_,⟨rfl,rfl⟩,?_⟩;simp[bU,AV.cG,AV.view,eW.fB,AV.fB,cut,AV.ay,aU,fy,Qd,hw]
end F3
namespace F3
open Ax Go aF V7 jw jX sZ
open qG (Bl cU yP yQ ni nj nk nU hJ gG Fb eZ k8 oJ mJ Fw)
def PE(e:E):Prop:=∀(b:Bl)(pre:ag),LE e->Fb b (E.sz e)->(aP S).call 0 0 105 [.ptr pre.length 0 0 0,.agg e.row] (iS b pre)=some (.int .i64 (cE b.vars.length b.ax.length e).1,iS (b.plus (cE b.vars.length b.ax.length e).2) pre)
theorem Dx(l:List E)(ih:∀e∈l,PE e)(b:Bl)(pre:ag)(hL:LL l)(hb:Fb b (E.eH l)) :
  (aP S).call 0 0 106 [.ptr pre.length 0 0 0,bf l] (iS b pre)=some (bF 1 (cp (oX b.vars.length b.ax.length l).1),iS (b.plus (oX b.vars.length b.ax.length l).2) pre):=by
 have hz:bY 11 (bf l)=true:=zE;have jB:aL (bf l)=true:=bQ;have kQ:(bf l).view=bf l:=bH;have jn:aJ (bf l)=E.rows l:=aM;have hlen:=E.lK l;have hlb:l.length<1000000000:=by have:=hb.1;omega
 rw[tY]at hL;have qQ:(E.rows l).length=l.length:=by simp[iJ]
 refine aO (sf:=adF) rfl rfl rfl ?_;generalize bf l=lv at *;simp[adF];refine aT Pf.eq_1 (λx:Nat×List Int×Bl=>⟨[(0,.val (.ptr pre.length 0 0 0)),(1,.val lv),(5,.val (bF 1 (cp x.2.1))),(6,.val (.int .i64 x.1))],[],iS x.2.2 pre⟩)
  (λx=>x.1<=l.length/\x.2.1.length=x.1/\Fb x.2.2 (E.eH (l.drop x.1))/\(x.2.1++(oX x.2.2.vars.length x.2.2.ax.length (l.drop x.1)).1,x.2.2.plus (oX x.2.2.vars.length x.2.2.ax.length (l.drop x.1)).2)=((oX b.vars.length b.ax.length l).1,b.plus (oX b.vars.length b.ax.length l).2)) (λx=>l.length-x.1) (0,[],b) (by simp[bF,cp]) ⟨by simp,rfl,by simpa using hb,by simp⟩ ?_
 rintro⟨k,acc,b1⟩ ⟨hk,ajr,f1,hp⟩ rO;simp only at hk ajr f1 hp rO;by_cases aQ:k<l.length;have wA:=wk k (by omega);have hm:=aar aQ;rw[aa3 aQ]at f1 hp;simp only[E.eH]at f1;have fJ:=ih _ hm b1 pre (hL _ hm) (f1.le (by omega));have Iv:=sL l[k] b1.vars.length b1.ax.length;have f2:=f1.plus Iv;rw[xK]at hp;obtain⟨pv,_,ps⟩:=eZ b1 (cE b1.vars.length b1.ax.length l[k]).2;have e1:aL (bf l[k].aK)=true:=bQ;have e2:(bf l[k].aK).view=bf l[k].aK:=bH;have lq:k<(E.rows l).length:=by simpa [iJ] using aQ
 have BQ:=zO aQ lq;have nC:qY 1 8 (bF 1 (cp acc)) [[.int .i64 (cE b1.vars.length b1.ax.length l[k]).1]]=some (bF 1 (cp (acc++[(cE b1.vars.length b1.ax.length l[k]).1]))):=by
  rw[eB (by rfl) (by simp[dQ];omega)];simp
 have fA:=rO (k+1,acc++[(cE b1.vars.length b1.ax.length l[k]).1],b1.plus (cE b1.vars.length b1.ax.length l[k]).2) ⟨by simp only;omega,by simp[ajr],f2,by
  simp only[pv,ps];rw[<-hp,k8];simp⟩ (by simp only;omega)
 simp only at fA;rw[E.aE]at fJ BQ;generalize cE b1.vars.length b1.ax.length l[k]=y at *;generalize l[k]=x at *;generalize bf x.aK=xe at *;have g0:aL (bF 1 (cp acc))=true:=cP;have g1:aL (bF 1 (cp (acc++[y.1])))=true:=cP;generalize bF 1 (cp (acc++[y.1]))=m1 at *;generalize bF 1 (cp acc)=m0 at *;simp[aQ,qQ,wA,hz,jB,kQ,jn,BQ,fJ,e2,nC,AV.view];exact fA;have cL:k=l.length:=by omega
 rw[cL,abp]at hp;have h1:(oX b.vars.length b.ax.length l).1=acc:=by
  have:=congrArg Prod.fst hp;simpa [oX] using this.symm
 have h2:b.plus (oX b.vars.length b.ax.length l).2=b1:=by
  have:=congrArg Prod.snd hp;simp only[oX]at this;rw[oJ]at this;exact this.symm
 rw[h1,h2];have g0:aL (bF 1 (cp acc))=true:=cP;generalize bF 1 (cp acc)=m0 at *;simp[aQ,qQ,jB,kQ,jn]
theorem nE(e:E):PE e:=by
 induction e using E.zY with
 |_ e ih=>
  intro b pre hL hb;rw[Wn]at hL;obtain⟨hT,h1,h2,hk,hr,ajs⟩:=hL;have hsk:=E.vP e;have e1:aL (bf e.aK)=true:=bQ;have e2:(bf e.aK).view=bf e.aK:=bH;have hn:oI []=.U:=rfl;by_cases q:e.k=4/\0<=e.dz;rw[Cx,if_pos q,oJ,E.aE];obtain⟨st,iO⟩:∃s,s=iS b pre:=⟨_,rfl⟩;rw[<-iO];refine aO (sf:=tS) rfl rfl rfl ?_;generalize bf e.aK=KV at *;simp[tS,e1,dG.aI,AV.view,q];have uR:=Dx e.aK ih b pre ajs (hb.le (by omega));have Iv:=NS e.aK b.vars.length b.ax.length;have f1:Fb (b.plus (oX b.vars.length b.ax.length e.aK).2) 1:=qG.Fb.plus (hb.le (by omega)) Iv;have zN:=Fw b.vars.length b.ax.length e.aK;obtain⟨pv,pi,ps⟩:=eZ b (oX b.vars.length b.ax.length e.aK).2;rw[Cx,if_neg q];unfold cK;generalize oX b.vars.length b.ax.length e.aK=x at *;have q1:e.k=4->¬0<=e.dz:=λa b=>q ⟨a,b⟩;have m1:aL (bF 1 (cp x.1))=true:=cP;have m2:(bF 1 (cp x.1)).view=aB 1 (cp x.1):=rfl;have m3:aL (aB 1 (cp x.1))=true:=bq;have m4:(aB 1 (cp x.1)).view=aB 1 (cp x.1):=bC;have m5:aJ (aB 1 (cp x.1))=cp x.1:=aM;have m6:bY 1 (aB 1 (cp x.1))=true:=zI;have m7:aJ (bF 1 (cp x.1))=cp x.1:=qi;have m8:bY 1 (bF 1 (cp x.1))=true:=by rw[vr];simp[bw,cp]
  by_cases SJ:e.ty=T0;have c7:=hT SJ;have ha:=W4 (b.plus x.2) pre ⟨13,-1,0,e.dz,0,x.1⟩ _ (cD m1) (iH m1) rfl (by have:=f1.2.1;omega);rw[mJ,k8]at ha;rw[if_pos SJ];have eb:e.ty.b=0/\e.ty.r=0/\e.ty.d=0:=by rw[SJ];exact⟨rfl,rfl,rfl⟩
  obtain⟨eb1,eb2,eb3⟩:=eb;simp only;rw[E.aE];refine aO (sf:=tS) rfl rfl rfl ?_;generalize iS (b.plus (x.2.dW (eY ⟨13,-1,0,e.dz,0,x.1⟩))) pre=mQ at *;generalize iS (b.plus x.2) pre=nG at *;generalize iS b pre=st at *;generalize bF 1 (cp x.1)=MV at *;generalize bf e.aK=KV at *;simp[tS,e1,e2,dG.aI,AV.view,c7,eb1,eb2,eb3,uR,m1,ha,aj];rw[if_neg SJ];have eb:(decide (e.ty.b=0)&&(decide (e.ty.r=0)&&decide (e.ty.d=0)))=false:=by
   rcases h:e.ty with⟨u,v,w⟩;rw[h]at SJ;by_cases a:u=0<;>by_cases b:v=0<;>by_cases c:w=0<;>simp_all
  have ht:=λli=>JK li (b.plus x.2) pre e.ty (by have:=f1.1;omega);obtain⟨b2,Ee⟩:∃b2,b2={ b.plus x.2 with vars:=(b.plus x.2).vars++[e.ty] }:=⟨_,rfl⟩;rw[<-Ee,pv]at ht;have DS:b2.is.length<1000000000:=by rw[Ee];have:=f1.2.1;show (b.plus x.2).is.length<_;omega
  have YE:b2.ax.length<1000000000:=by rw[Ee];have:=f1.2.2;show (b.plus x.2).ax.length<_;omega
  have hs:=λli=>JL li b2 pre e.ty YE;have jB:b2.ax.length=b.ax.length+x.2.ss.length:=by rw[Ee];exact ps
  rw[jB]at hs;simp only;have nZ:∀J:In,¬(e.k=8\/e.k=9)->{ b2 with is:=b2.is++[J] }=b.plus (x.2.dW ⟨[e.ty],[J],if e.k=8\/e.k=9 then [e.ty] else []⟩):=λJ c=>by
   rw[Ee];simp[c,Bl.plus,kZ.dW]
  have aoq:∀J:In,(e.k=8\/e.k=9)->{ b2 with ax:=b2.ax++[(⟨b2.codes.length,e.ty⟩:Sd)],is:=b2.is++[J] }=b.plus (x.2.dW ⟨[e.ty],[J],if e.k=8\/e.k=9 then [e.ty] else []⟩):=λJ c=>by
   rw[Ee];simp[c,Bl.plus,kZ.dW]
  have W5:∀{l:List Int},l.length=1->cp l=[[.int .i64 (Cm l)]]:=Wq;have ajt:∀{l:List Int},l.length=2->cp l=[[.int .i64 (Cm l)],[.int .i64 (at1 l)]]:=Ws;simp only[T3.cells]at ht hs;by_cases c8:e.k=8\/e.k=9;have ha:=lz { b2 with ax:=b2.ax++[⟨b2.codes.length,e.ty⟩] } pre (lN e.k e.n e.dz ((b.vars.length+x.2.vs.length:Nat):Int) ((b.ax.length+x.2.ss.length:Nat):Int) x.1) DS;rw[aoq _ c8]at ha;generalize iS (b.plus (x.2.dW ⟨[e.ty],[lN e.k e.n e.dz ((b.vars.length+x.2.vs.length:Nat):Int) ((b.ax.length+x.2.ss.length:Nat):Int) x.1],if e.k=8\/e.k=9 then [e.ty] else []⟩)) pre=st4 at *;generalize ((b.vars.length+x.2.vs.length:Nat):Int)=tv at *;generalize ((b.ax.length+x.2.ss.length:Nat):Int)=sv at *;generalize iS { b2 with ax:=b2.ax++[⟨b2.codes.length,e.ty⟩] } pre=st3 at *;rw[E.aE];refine aO (sf:=tS) rfl rfl rfl ?_;generalize iS b2 pre=mQ at *;generalize iS (b.plus x.2) pre=nG at *;generalize iS b pre=st at *;rcases c8 with c8|c9;simp only[lN,c8,In.row]at ha;simp[hn]at ha;generalize bF 1 (cp x.1)=MV at *;generalize bf e.aK=KV at *;simp[tS,e1,e2,dG.aI,AV.view,c8,eb,uR,ht,hs,ha,aj];have hl:=zN.trans (h1 (by omega));simp only[lN,c9,In.row]at ha;simp[hn]at ha;generalize aB 1 (cp x.1)=LV at *;generalize bF 1 (cp x.1)=MV at *;generalize bf e.aK=KV at *;rw[W5 hl]at m5 m7;simp[tS,e1,e2,dG.aI,AV.view,c9,eb,uR,ht];rw[yd];simp[eE,ju,dY,bp,dG.aI,hs,ha,m7,m8,aj,AV.view];refine⟨_,_,⟨rfl,rfl⟩,?_⟩;simp[eW.fB,AV.fB,AV.s8,AV.qu,AV.view,AV.cG,m7,m8,cut];have ha:=lz b2 pre (lN e.k e.n e.dz ((b.vars.length+x.2.vs.length:Nat):Int) ((b.ax.length+x.2.ss.length:Nat):Int) x.1) DS;rw[nZ _ c8]at ha;have ha7:=W4 b2 pre (lN e.k e.n e.dz ((b.vars.length+x.2.vs.length:Nat):Int) ((b.ax.length+x.2.ss.length:Nat):Int) x.1) (bF 1 (cp x.1)) (cD m1) (iH m1);rw[nZ _ c8]at ha7;generalize iS (b.plus (x.2.dW ⟨[e.ty],[lN e.k e.n e.dz ((b.vars.length+x.2.vs.length:Nat):Int) ((b.ax.length+x.2.ss.length:Nat):Int) x.1],if e.k=8\/e.k=9 then [e.ty] else []⟩)) pre=st4 at *;generalize ((b.vars.length+x.2.vs.length:Nat):Int)=tv at *;generalize ((b.ax.length+x.2.ss.length:Nat):Int)=sv at *;have c8':¬e.k=8:=λh=>c8 (.inl h);have c9':¬e.k=9:=λh=>c8 (.inr h);rw[E.aE];refine aO (sf:=tS) rfl rfl rfl ?_;generalize iS b2 pre=mQ at *;generalize iS (b.plus x.2) pre=nG at *;generalize iS b pre=st at *;by_cases c1:e.k=1;simp only[lN,c1,In.row]at ha;simp[hn]at ha;generalize bF 1 (cp x.1)=MV at *;generalize bf e.aK=KV at *;simp[tS,e1,e2,dG.aI,AV.view,c1,eb,uR,ht,ha,aj];by_cases c2:e.k=2;simp only[lN,c2,In.row]at ha;simp[hn]at ha;generalize bF 1 (cp x.1)=MV at *;generalize bf e.aK=KV at *;simp[tS,e1,e2,dG.aI,AV.view,c2,eb,uR,ht,ha,aj];by_cases c3:e.k=3;simp only[lN,c3,In.row]at ha;simp[hn]at ha;generalize bF 1 (cp x.1)=MV at *;generalize bf e.aK=KV at *;simp[tS,e1,e2,dG.aI,AV.view,c3,eb,uR,ht,ha,aj];by_cases c4:e.k=4;have hq:=q1 c4;have hw:IntKind.i64.wrap (-1-e.dz) = -1-e.dz:=by have:=hr c4;rw[cI]<;>omega
  simp only[lN,c4,In.row]at ha;simp[hn]at ha;generalize bF 1 (cp x.1)=MV at *;generalize bf e.aK=KV at *;simp[tS,e1,e2,dG.aI,AV.view,c4,hq,eb,uR,ht,hw,ha,aj];by_cases c5:e.k=5
  skip
  simp only[lN,c5,In.row]at ha;simp[hn]at ha;generalize aB 1 (cp x.1)=LV at *;generalize bF 1 (cp x.1)=MV at *;generalize bf e.aK=KV at *;rw[W5 (zN.trans (h1 (by omega)))]at m5 m7;simp[tS,e1,e2,dG.aI,AV.view,c5,eb,uR,m7,m8,ht,ha,aj,ai,ah];by_cases c6:e.k=6
  skip
  simp only[lN,c6,In.row]at ha;simp[hn]at ha;generalize aB 1 (cp x.1)=LV at *;generalize bF 1 (cp x.1)=MV at *;generalize bf e.aK=KV at *;rw[ajt (zN.trans (h2 (by omega)))]at m5 m7;simp[tS,e1,e2,dG.aI,AV.view,c6,eb,uR,m2,m5,m6,ht,ha,aj,ai,ah];by_cases c7:e.k=7;have hv7:(bF 1 (cp x.1)).view=oI (lN e.k e.n e.dz tv sv x.1).args:=by rw[c7];rfl
  have ha7:=ha7 hv7 DS;simp only[lN,c7]at ha7;simp at ha7;clear ha hv7;generalize bF 1 (cp x.1)=MV at *;generalize bf e.aK=KV at *;simp[tS,e1,e2,dG.aI,AV.view,c7,eb,uR,m1,ht,ha7,aj];by_cases Cu:e.k=10
  skip
  simp only[lN,Cu,In.row]at ha;simp[hn]at ha;generalize aB 1 (cp x.1)=LV at *;generalize bF 1 (cp x.1)=MV at *;generalize bf e.aK=KV at *;rw[W5 (zN.trans (h1 (by omega)))]at m5 m7;simp[tS,e1,e2,dG.aI,AV.view,Cu,eb,uR,m7,m8,ht,ha,aj];by_cases PZ:e.k=11;simp only[lN,PZ,In.row]at ha;simp[hn]at ha;generalize bF 1 (cp x.1)=MV at *;generalize bf e.aK=KV at *;simp[tS,e1,e2,dG.aI,AV.view,PZ,eb,uR,ht,ha,aj];by_cases CX:e.k=12
  skip
  simp only[lN,CX,In.row]at ha;simp[hn]at ha;generalize aB 1 (cp x.1)=LV at *;generalize bF 1 (cp x.1)=MV at *;generalize bf e.aK=KV at *;rw[W5 (zN.trans (h1 (by omega)))]at m5 m7;simp[tS,e1,e2,dG.aI,AV.view,CX,eb,uR,m7,m8,ht,ha,aj,ai,ah];by_cases CY:e.k=13
  skip
  simp only[lN,CY,In.row]at ha;simp[hn]at ha;generalize aB 1 (cp x.1)=LV at *;generalize bF 1 (cp x.1)=MV at *;generalize bf e.aK=KV at *;rw[W5 (zN.trans (h1 (by omega)))]at m5 m7;simp[tS,e1,e2,dG.aI,AV.view,CY,eb,uR,m7,m8,ht,ha,aj,ai,ah]
  skip
  simp only[lN,c1,c2,c3,c4,c5,c6,c7,c8',c9',Cu,PZ,CX,CY,In.row,hn,or_self,if_false]at ha;generalize aB 1 (cp x.1)=LV at *;generalize bF 1 (cp x.1)=MV at *;generalize bf e.aK=KV at *;rw[ajt (zN.trans (h2 (by omega)))]at m5 m7;simp[tS,e1,e2,dG.aI,AV.view,c1,c2,c3,c4,c5,c6,c7,c8',c9',Cu,PZ,CX,CY,eb,uR,m2,m5,m6,ht,ha,aj,ai,ah]
end F3
namespace F3
open Ax Go aF V7 jw jX sZ
open qG (Bl cU yP yQ ni nj nk nU hJ gG Fb eZ k8 oJ mJ mg Fw JB JC)
def PS(s:Sm):Prop:=∀(b:Bl)(pre:ag),LS s->Fb b (2*Sm.sz s)->(aP S).call 0 0 74 [.ptr pre.length 0 0 0,.agg s.row] (iS b pre)=some (.ir [],iS (b.plus (cS b.vars.length b.is.length b.ax.length s)) pre)
theorem m9(l:List Sm)(ih:∀s∈l,PS s)(b:Bl)(pre:ag)(hL:LB l)(hb:Fb b (2*Sm.eH l)) :
  (aP S).call 0 0 44 [.ptr pre.length 0 0 0,bN l] (iS b pre)=some (.ir [],iS (b.plus (cB b.vars.length b.is.length b.ax.length l)) pre):=by
 have hz:bY 9 (bN l)=true:=zL (by simp[bw,iP,Sm.aE]);have jB:aL (bN l)=true:=cZ;have kQ:(bN l).view=bN l:=bz;have jn:aJ (bN l)=Sm.rows l:=aM;have hlen:=Sm.lK l;have hlb:l.length<1000000000:=by have:=hb.1;omega
 rw[Jr]at hL;have qQ:(Sm.rows l).length=l.length:=by simp[iP]
 refine aO (sf:=s44) rfl rfl rfl ?_;generalize bN l=lv at *;simp[s44];refine aT U0.eq_1 (λx:Nat×Bl=>⟨[(0,.val (.ptr pre.length 0 0 0)),(1,.val lv),(4,.val (.int .i64 x.1))],[],iS x.2 pre⟩)
  (λx=>x.1<=l.length/\Fb x.2 (2*Sm.eH (l.drop x.1))/\x.2.plus (cB x.2.vars.length x.2.is.length x.2.ax.length (l.drop x.1))=b.plus (cB b.vars.length b.is.length b.ax.length l)) (λx=>l.length-x.1) (0,b) (by simp) ⟨by simp,by simpa using hb,by simp⟩ ?_
 rintro⟨k,b1⟩ ⟨hk,f1,hp⟩ rO;simp only at hk f1 hp rO;by_cases aQ:k<l.length;have wA:=wk k (by omega);have hm:=aar aQ;rw[aa3 aQ]at f1 hp;simp only[Sm.eH]at f1;have fJ:=ih _ hm b1 pre (hL _ hm) (f1.le (by omega));have Iv:=abR l[k] (hL _ hm) b1.vars.length b1.is.length b1.ax.length;have f2:=qG.Fb.plus (f1.le (by omega:2*Sm.sz l[k]+2*Sm.eH (l.drop (k+1))<=_)) Iv;rw[Dv]at hp;unfold HB at hp;obtain⟨pv,pi,ps⟩:=eZ b1 (cS b1.vars.length b1.is.length b1.ax.length l[k]);obtain⟨e1,d1,l1⟩:aL (bf l[k].es)=true/\aL (bN l[k].bd)=true/\aL (bN l[k].el)=true:=⟨bQ,cZ,cZ⟩;have e2:(bf l[k].es).view=bf l[k].es:=bH;have d2:(bN l[k].bd).view=bN l[k].bd:=bz;have l2:(bN l[k].el).view=bN l[k].el:=bz;have lq:k<(Sm.rows l).length:=by omega
 have BQ:=AP aQ lq;have fA:=rO (k+1,b1.plus (cS b1.vars.length b1.is.length b1.ax.length l[k])) ⟨by simp only;omega,f2,by
  simp only[pv,pi,ps];rw[<-hp,k8]⟩ (by simp only;omega)
 simp only at fA;rw[Sm.aE]at fJ BQ;generalize cS b1.vars.length b1.is.length b1.ax.length l[k]=y at *;generalize l[k]=x at *;generalize bf x.es=xe at *;generalize bN x.bd=xb at *;generalize bN x.el=xl at *;simp[aQ,qQ,wA,hz,jB,kQ,jn,BQ,fJ,e2,d2,l2,AV.view];exact fA;have cL:k=l.length:=by omega
 rw[cL,abp,Jq,oJ]at hp;rw[<-hp];simp[aQ,qQ,jB,kQ,jn]
structure Pt (b:Bl)(pre:ag)(H:List AV)(V:Nat)(R:List (List AV)):Prop where
 eq:iS b pre=pre++.rows 0 13 [H++[.mu (pre.length+1) V]]::[.rows V 6 R]
 len:R.length=b.is.length
 set:∀(i:Nat) (a:In),(pre++.rows 0 13 [H++[.mu (pre.length+1) V]]::[.rows V 6 (R.set i (In.row a))]:ag)=iS (b.vY i a) pre
 get:∀(i:Nat) (a:In),b.is[i]?=some a->R[i]?=some a.row
theorem JM(b:Bl)(pre:ag)(h:b.is≠[]):iS b pre=pre++.rows 0 13 [[b.aD,cU 3 (b.X6.map T3.cells),cU 7 (b.codes.map Cd.row),cU 4 (b.ax.map Sd.row),.int .i64 b.main,.int .i64 b.codes.length,
  .int .i64 b.params,cU 3 (b.vars.map T3.cells),.bool b.bg,.int .i64 b.res.b,.int .i64 b.res.r,.int .i64 b.res.d,.mu (pre.length+1) (b.is.length-1)]]::[.rows (b.is.length-1) 6 (b.is.map In.row)]:=by
 simp only[iS,mS,yP,yQ,if_neg h]
theorem Mc(b:Bl)(pre:ag)(h:b.is≠[]):∃r0 r1 r2 r3 r4 r5 r6 r7 r8 r9 r10 r11 V R,Pt b pre [r0,r1,r2,r3,r4,r5,r6,r7,r8,r9,r10,r11] V R:=by
 refine⟨_,_,_,_,_,_,_,_,_,_,_,_,b.is.length-1,b.is.map In.row,JM b pre h,by simp,λi a=>?_,λi a h=>by simp[h]⟩;rw[JM (b.vY i a) pre (by intro c;apply h;have:=congrArg List.length c;simp[qG.Bl.vY]at this;exact this)];simp[qG.Bl.vY,List.map_set]
end F3
namespace F3
open Ax Go aF V7 jw jX sZ
open qG (Bl cU yP yQ ni nj nk nU hJ gG Fb eZ k8 oJ mJ mg Fw JB JC)
theorem aju(s:Sm)(k5:s.k=5)(vQ:∀x∈s.bd,PS x)(rO:∀x∈s.el,PS x)(b:Bl)(pre:ag)(h1:s.es.length=1)(hL:LL s.es)(hB:LB s.bd)(hE:LB s.el)(hb:Fb b (2*Sm.sz s)) :
  (aP S).call 0 0 74 [.ptr pre.length 0 0 0,.agg s.row] (iS b pre)=some (.ir [],iS (b.plus (X3 b.vars.length b.is.length b.ax.length (cE b.vars.length b.ax.length (nh s.es)) (λnv at_ ns=>cB nv at_ ns s.bd) (λnv at_ ns=>cB nv at_ ns s.el))) pre):=by
 obtain⟨e,he⟩:∃e,s.es=[e]:=⟨_,Fo h1⟩;have h0:nh s.es=e:=by rw[he];rfl
 have fM:E.eH s.es=E.sz e:=by rw[he];simp[E.eH]
 have BR:=Sm.uD s;rw[h0];have hx:=nE e b pre ((tY _).1 hL e (by rw[he];exact aa4)) (hb.le (by omega));have Iv:=sL e b.vars.length b.ax.length;obtain⟨y,hy⟩:∃y,y=cB (b.vars.length+(cE b.vars.length b.ax.length e).2.vs.length) (b.is.length+(cE b.vars.length b.ax.length e).2.is.length+1) (b.ax.length+(cE b.vars.length b.ax.length e).2.ss.length) s.bd:=⟨_,rfl⟩;obtain⟨z,hz⟩:∃z,z=cB (b.vars.length+(cE b.vars.length b.ax.length e).2.vs.length+y.vs.length) (b.is.length+(cE b.vars.length b.ax.length e).2.is.length+1+y.is.length+1) (b.ax.length+(cE b.vars.length b.ax.length e).2.ss.length+y.ss.length) s.el:=⟨_,rfl⟩;rw[<-JB b (cE b.vars.length b.ax.length e) y z _ _ hy hz];generalize cE b.vars.length b.ax.length e=x at *;obtain⟨_,pi,_⟩:=eZ b x.2;have Bt:=lz (b.plus x.2) pre ⟨17,x.1,0,0,0,[]⟩ (by
  have:=hb.2.1;have:=Iv.2.1;omega)
 rw[mg,pi]at Bt;obtain⟨b0,hb0⟩:∃b0,b0=b.plus (x.2.dW (eY ⟨17,x.1,0,0,0,[]⟩)):=⟨_,rfl⟩;rw[<-hb0]at Bt;have g0:b0.is[b.is.length+x.2.is.length]?=some ⟨17,x.1,0,0,0,[]⟩:=by
  rw[hb0];simp[qG.Bl.plus,kZ.dW,eY]
 have l0:b0.is.length=b.is.length+x.2.is.length+1:=by rw[hb0];simp[qG.Bl.plus,kZ.dW,eY,afo]
 obtain⟨z0,z1,z2,z3,z4,z5,z6,z7,z8,z9,z10,z11,V0,R0,P0⟩:=Mc b0 pre (by intro c;rw[c]at l0;simp at l0);have s0:=P0.set (b.is.length+x.2.is.length) ⟨17,x.1,0,0,((b.is.length+x.2.is.length+1:Nat):Int),[]⟩;have e01:b0.vY (b.is.length+x.2.is.length) ⟨17,x.1,0,0,((b.is.length+x.2.is.length+1:Nat):Int),[]⟩=b.plus (x.2.dW (eY ⟨17,x.1,0,0,((b.is.length+x.2.is.length+1:Nat):Int),[]⟩)):=by
  rw[hb0];simp[qG.Bl.plus,qG.Bl.vY,kZ.dW,eY]
 rw[e01]at s0;have q0:=P0.get _ _ g0;have w0:b.is.length+x.2.is.length<R0.length:=by rw[P0.len];omega
 obtain⟨b1,GJ⟩:∃b1,b1=b.plus (x.2.dW (eY ⟨17,x.1,0,0,((b.is.length+x.2.is.length+1:Nat):Int),[]⟩)):=⟨_,rfl⟩;have l1:b1.vars.length=b.vars.length+x.2.vs.length/\b1.is.length=b.is.length+x.2.is.length+1/\b1.ax.length=b.ax.length+x.2.ss.length:=by
  rw[GJ];obtain⟨p,q,r⟩:=eZ b (x.2.dW (eY ⟨17,x.1,0,0,((b.is.length+x.2.is.length+1:Nat):Int),[]⟩));rw[p,q,r];simp[kZ.dW,eY,afo]
 have g1:b1.is[b.is.length+x.2.is.length]?=some ⟨17,x.1,0,0,((b.is.length+x.2.is.length+1:Nat):Int),[]⟩:=by
  rw[GJ];simp[Bl.plus,kZ.dW,eY]
 rw[<-GJ]at s0 ⊢;have f1:Fb b1 (2*Sm.eH s.bd+(2*Sm.eH s.el+1)):=by
  obtain⟨p1,p2,p3⟩:=hb;obtain⟨q1,q2,q3⟩:=Iv;obtain⟨r1,r2,r3⟩:=l1;exact⟨by omega,by omega,by omega⟩
 have ME:=m9 s.bd vQ b1 pre hB (f1.le (by omega));have OP:=LW hB (b.vars.length+x.2.vs.length) (b.is.length+x.2.is.length+1) (b.ax.length+x.2.ss.length);rw[l1.1,l1.2.1,l1.2.2,<-hy]at ME;rw[<-hy]at OP;have f2:=f1.plus OP;obtain⟨m1,m2,m3⟩:=eZ b1 y;have g2:(b1.plus y).is[b.is.length+x.2.is.length]?=some ⟨17,x.1,0,0,((b.is.length+x.2.is.length+1:Nat):Int),[]⟩:=by
  show (b1.is++y.is)[_]?=_;rw[aaE (by omega)];exact g1
 have ha:=lz (b1.plus y) pre ⟨16,0,0,0,0,[]⟩ (by have:=f2.2.1;omega);rw[mJ,m2,l1.2.1]at ha;obtain⟨b3,F1⟩:∃b3,b3=(b1.plus y).plus (eY ⟨16,0,0,0,0,[]⟩):=⟨_,rfl⟩;rw[<-F1]at ha ⊢;have l3:b3.vars.length=b.vars.length+x.2.vs.length+y.vs.length/\b3.is.length=b.is.length+x.2.is.length+1+y.is.length+1/\b3.ax.length=b.ax.length+x.2.ss.length+y.ss.length:=by
  rw[F1];obtain⟨p,q,r⟩:=eZ (b1.plus y) (eY ⟨16,0,0,0,0,[]⟩);rw[p,q,r,m1,m2,m3,l1.1,l1.2.1,l1.2.2];simp[eY]
 have g3:b3.is[b.is.length+x.2.is.length]?=some ⟨17,x.1,0,0,((b.is.length+x.2.is.length+1:Nat):Int),[]⟩:=by
  rw[F1];show ((b1.plus y).is++_)[_]?=_;rw[aaE (by omega)];exact g2
 have g3j:b3.is[b.is.length+x.2.is.length+1+y.is.length]?=some ⟨16,0,0,0,0,[]⟩:=by
  rw[F1];show ((b1.plus y).is++[_])[_]?=_;rw[List.getElem?_append_right (by omega),m2,l1.2.1];simp
 have aov:b3.is.length<1000000000:=by have:=f2.2.1;omega
 obtain⟨r0,r1,r2,r3,r4,r5,r6,r7,r8,r9,r10,r11,V,R,P3⟩:=Mc b3 pre (by intro c;rw[c]at l3;simp at l3);obtain⟨b4,hb4⟩:∃b4,b4=b3.vY (b.is.length+x.2.is.length) ⟨17,x.1,0,((b.is.length+x.2.is.length+1+y.is.length+1:Nat):Int),((b.is.length+x.2.is.length+1:Nat):Int),[]⟩:=⟨_,rfl⟩;have s3:=P3.set (b.is.length+x.2.is.length) ⟨17,x.1,0,((b.is.length+x.2.is.length+1+y.is.length+1:Nat):Int),((b.is.length+x.2.is.length+1:Nat):Int),[]⟩;rw[<-hb4]at s3 ⊢;have l4:b4.vars.length=b3.vars.length/\b4.is.length=b3.is.length/\b4.ax.length=b3.ax.length:=by rw[hb4];simp[Bl.vY]
 have g4j:b4.is[b.is.length+x.2.is.length+1+y.is.length]?=some ⟨16,0,0,0,0,[]⟩:=by
  rw[hb4];show (b3.is.set _ _)[_]?=_;rw[List.getElem?_set_ne (by omega)];exact g3j
 have f4:Fb b4 (2*Sm.eH s.el):=by
  obtain⟨p1,p2,p3⟩:=f2;obtain⟨r1,r2,r3⟩:=l3;obtain⟨q1,q2,q3⟩:=l4;exact⟨by omega,by omega,by omega⟩
 have hel:=m9 s.el rO b4 pre hE f4;have Tj:=LW hE (b.vars.length+x.2.vs.length+y.vs.length) (b.is.length+x.2.is.length+1+y.is.length+1) (b.ax.length+x.2.ss.length+y.ss.length);rw[l4.1,l4.2.1,l4.2.2,l3.1,l3.2.1,l3.2.2,<-hz]at hel;rw[<-hz]at Tj;obtain⟨n1,n2,n3⟩:=eZ b4 z;have asb:(b4.plus z).is.length<1000000000:=by have:=f4.2.1;have:=Tj.2.1;omega
 have g5:(b4.plus z).is[b.is.length+x.2.is.length+1+y.is.length]?=some ⟨16,0,0,0,0,[]⟩:=by
  show (b4.is++z.is)[_]?=_;rw[aaE (by omega)];exact g4j
 obtain⟨t0,t1,t2,t3,t4,t5,t6,t7,t8,t9,t10,t11,W,Q,P5⟩:=Mc (b4.plus z) pre (by intro c;have:=n2;rw[c,List.length_nil]at this;omega);have wH:=P5.set (b.is.length+x.2.is.length+1+y.is.length) ⟨16,0,0,0,((b.is.length+x.2.is.length+1+y.is.length+1+z.is.length:Nat):Int),[]⟩;have q3:=P3.get _ _ g3;have q5:=P5.get _ _ g5;have w3:b.is.length+x.2.is.length<R.length:=by rw[P3.len];omega
 have w5:b.is.length+x.2.is.length+1+y.is.length<Q.length:=by rw[P5.len];omega
 have hn:oI []=.U:=rfl;have e1:aL (bf s.es)=true:=bQ;have e2:(bf s.es).view=bf s.es:=bH;have e3:aJ (bf s.es)=[e.row]:=by show aJ (aB _ _)=_;rw[aM,he];rfl
 have e4:bY 11 (bf s.es)=true:=zE;have d1:aL (bN s.bd)=true:=cZ;have d2:(bN s.bd).view=bN s.bd:=bz;have u1:aL (bN s.el)=true:=cZ;have u2:(bN s.el).view=bN s.el:=bz;have k1:aL (bf e.aK)=true:=bQ;have k2:(bf e.aK).view=bf e.aK:=bH;have lr3:R.length=b.is.length+x.2.is.length+1+y.is.length+1:=by rw[P3.len];omega
 have lr5:Q.length=b.is.length+x.2.is.length+1+y.is.length+1+z.is.length:=by rw[P5.len];omega
 have nR:IntKind.i64.wrap (((b.is.length+x.2.is.length:Nat):Int)+1)=((b.is.length+x.2.is.length+1:Nat):Int):=by rw[cI]<;>omega
 have hw4:IntKind.i64.wrap (((b.is.length+x.2.is.length+1+y.is.length:Nat):Int)+1)=((b.is.length+x.2.is.length+1+y.is.length+1:Nat):Int):=by rw[cI]<;>omega
 have w55:b.is.length+x.2.is.length+1+y.is.length<b.is.length+x.2.is.length+1+y.is.length+1+z.is.length:=by omega
 simp only[In.row,hn]at Bt ha s0 s3 wH q0 q3 q5;simp only[P0.eq,P3.eq,P5.eq,acw,adC]at hx Bt ME ha s0 s3 hel wH;rw[E.aE]at hx e3;rw[Sm.aE];refine aO (sf:=FZ) rfl rfl rfl ?_;generalize iS ((b4.plus z).vY (b.is.length+x.2.is.length+1+y.is.length) ⟨16,0,0,0,((b.is.length+x.2.is.length+1+y.is.length+1+z.is.length:Nat):Int),[]⟩) pre=st6 at *;generalize b.is.length+x.2.is.length+1+y.is.length+1+z.is.length=N5 at *;generalize b.is.length+x.2.is.length+1+y.is.length+1=N4 at *;generalize b.is.length+x.2.is.length+1+y.is.length=N3 at *;generalize b.is.length+x.2.is.length+1=N2 at *;generalize b.is.length+x.2.is.length=N1 at *;generalize iS (b.plus x.2) pre=stx at *;generalize iS b pre=st at *;generalize iS b1 pre=nG at *;generalize iS (b1.plus y) pre=mQ at *;generalize iS b4 pre=st4 at *;generalize bf e.aK=KV at *;generalize bf s.es=EV at *;generalize bN s.bd=DV at *;generalize bN s.el=LV at *;have v0:=λh:N1<R0.length=>(aab.1 q0).2;have v3:=λh:N1<R.length=>(aab.1 q3).2;have v5:=λh:N3<Q.length=>(aab.1 q5).2;simp[FZ,k5,e1,e2,e3,e4,d1,d2,u1,u2,k2,dG.aI,AV.view,hx,Bt,w0,v0,nR,s0,ME,ha,w3,v3,hw4,s3,hel,w55,v5,lr5,wH,cut,aj,bD,AV.au,AV.ay,ai,ah]
theorem W6(s:Sm)(k6:s.k=6)(vQ:∀x∈s.bd,PS x)(b:Bl)(pre:ag)(h1:s.es.length=1)(hL:LL s.es)(hB:LB s.bd)(hb:Fb b (2*Sm.sz s)) :
  (aP S).call 0 0 74 [.ptr pre.length 0 0 0,.agg s.row] (iS b pre)=some (.ir [],iS (b.plus (X4 b.vars.length b.is.length b.ax.length (cE b.vars.length b.ax.length (nh s.es)) (λnv at_ ns=>cB nv at_ ns s.bd))) pre):=by
 obtain⟨e,he⟩:∃e,s.es=[e]:=⟨_,Fo h1⟩;have h0:nh s.es=e:=by rw[he];rfl
 have fM:E.eH s.es=E.sz e:=by rw[he];simp[E.eH]
 have BR:=Sm.uD s;rw[h0];have hx:=nE e b pre ((tY _).1 hL e (by rw[he];exact aa4)) (hb.le (by omega));have Iv:=sL e b.vars.length b.ax.length;obtain⟨y,hy⟩:∃y,y=cB (b.vars.length+(cE b.vars.length b.ax.length e).2.vs.length) (b.is.length+(cE b.vars.length b.ax.length e).2.is.length+1) (b.ax.length+(cE b.vars.length b.ax.length e).2.ss.length) s.bd:=⟨_,rfl⟩;rw[<-JC b (cE b.vars.length b.ax.length e) y _ hy];generalize cE b.vars.length b.ax.length e=x at *;obtain⟨_,pi,_⟩:=eZ b x.2;have Bt:=lz (b.plus x.2) pre ⟨17,x.1,0,0,0,[]⟩ (by
  have:=hb.2.1;have:=Iv.2.1;omega)
 rw[mg,pi]at Bt;obtain⟨b0,hb0⟩:∃b0,b0=b.plus (x.2.dW (eY ⟨17,x.1,0,0,0,[]⟩)):=⟨_,rfl⟩;rw[<-hb0]at Bt;have g0:b0.is[b.is.length+x.2.is.length]?=some ⟨17,x.1,0,0,0,[]⟩:=by
  rw[hb0];simp[qG.Bl.plus,kZ.dW,eY]
 have l0:b0.is.length=b.is.length+x.2.is.length+1:=by rw[hb0];simp[qG.Bl.plus,kZ.dW,eY,afo]
 obtain⟨z0,z1,z2,z3,z4,z5,z6,z7,z8,z9,z10,z11,V0,R0,P0⟩:=Mc b0 pre (by intro c;rw[c]at l0;simp at l0);have s0:=P0.set (b.is.length+x.2.is.length) ⟨17,x.1,0,0,((b.is.length+x.2.is.length+1:Nat):Int),[]⟩;have e01:b0.vY (b.is.length+x.2.is.length) ⟨17,x.1,0,0,((b.is.length+x.2.is.length+1:Nat):Int),[]⟩=b.plus (x.2.dW (eY ⟨17,x.1,0,0,((b.is.length+x.2.is.length+1:Nat):Int),[]⟩)):=by
  rw[hb0];simp[qG.Bl.plus,qG.Bl.vY,kZ.dW,eY]
 rw[e01]at s0;have q0:=P0.get _ _ g0;have w0:b.is.length+x.2.is.length<R0.length:=by rw[P0.len];omega
 obtain⟨b1,GJ⟩:∃b1,b1=b.plus (x.2.dW (eY ⟨17,x.1,0,0,((b.is.length+x.2.is.length+1:Nat):Int),[]⟩)):=⟨_,rfl⟩;have l1:b1.vars.length=b.vars.length+x.2.vs.length/\b1.is.length=b.is.length+x.2.is.length+1/\b1.ax.length=b.ax.length+x.2.ss.length:=by
  rw[GJ];obtain⟨p,q,r⟩:=eZ b (x.2.dW (eY ⟨17,x.1,0,0,((b.is.length+x.2.is.length+1:Nat):Int),[]⟩));rw[p,q,r];simp[kZ.dW,eY,afo]
 have g1:b1.is[b.is.length+x.2.is.length]?=some ⟨17,x.1,0,0,((b.is.length+x.2.is.length+1:Nat):Int),[]⟩:=by
  rw[GJ];simp[Bl.plus,kZ.dW,eY]
 rw[<-GJ]at s0 ⊢;have f1:Fb b1 (2*Sm.eH s.bd+1):=by
  obtain⟨p1,p2,p3⟩:=hb;obtain⟨q1,q2,q3⟩:=Iv;obtain⟨r1,r2,r3⟩:=l1;exact⟨by omega,by omega,by omega⟩
 have ME:=m9 s.bd vQ b1 pre hB (f1.le (by omega));have OP:=LW hB (b.vars.length+x.2.vs.length) (b.is.length+x.2.is.length+1) (b.ax.length+x.2.ss.length);rw[l1.1,l1.2.1,l1.2.2,<-hy]at ME;rw[<-hy]at OP;have f2:=f1.plus OP;obtain⟨m1,m2,m3⟩:=eZ b1 y;have g2:(b1.plus y).is[b.is.length+x.2.is.length]?=some ⟨17,x.1,0,0,((b.is.length+x.2.is.length+1:Nat):Int),[]⟩:=by
  show (b1.is++y.is)[_]?=_;rw[aaE (by omega)];exact g1
 have ha:=lz (b1.plus y) pre ⟨16,0,0,0,(b.is.length:Int),[]⟩ (by have:=f2.2.1;omega);rw[mJ,m2,l1.2.1]at ha;obtain⟨b3,F1⟩:∃b3,b3=(b1.plus y).plus (eY ⟨16,0,0,0,(b.is.length:Int),[]⟩):=⟨_,rfl⟩;rw[<-F1]at ha ⊢;have l3:b3.is.length=b.is.length+x.2.is.length+1+y.is.length+1:=by
  rw[F1];obtain⟨p,q,r⟩:=eZ (b1.plus y) (eY ⟨16,0,0,0,(b.is.length:Int),[]⟩);rw[q,m2,l1.2.1];simp[eY]
 have g3:b3.is[b.is.length+x.2.is.length]?=some ⟨17,x.1,0,0,((b.is.length+x.2.is.length+1:Nat):Int),[]⟩:=by
  rw[F1];show ((b1.plus y).is++_)[_]?=_;rw[aaE (by omega)];exact g2
 have aov:b3.is.length<1000000000:=by have:=f2.2.1;omega
 obtain⟨r0,r1,r2,r3,r4,r5,r6,r7,r8,r9,r10,r11,V,R,P3⟩:=Mc b3 pre (by intro c;rw[c]at l3;simp at l3);have s3:=P3.set (b.is.length+x.2.is.length) ⟨17,x.1,0,((b.is.length+x.2.is.length+1+y.is.length+1:Nat):Int),((b.is.length+x.2.is.length+1:Nat):Int),[]⟩;have q3:=P3.get _ _ g3;have w3:b.is.length+x.2.is.length<R.length:=by rw[P3.len];omega
 have hn:oI []=.U:=rfl;have e1:aL (bf s.es)=true:=bQ;have e2:(bf s.es).view=bf s.es:=bH;have e3:aJ (bf s.es)=[e.row]:=by show aJ (aB _ _)=_;rw[aM,he];rfl
 have e4:bY 11 (bf s.es)=true:=zE;have d1:aL (bN s.bd)=true:=cZ;have d2:(bN s.bd).view=bN s.bd:=bz;have u1:aL (bN s.el)=true:=cZ;have u2:(bN s.el).view=bN s.el:=bz;have k1:aL (bf e.aK)=true:=bQ;have k2:(bf e.aK).view=bf e.aK:=bH;have lr3:R.length=b.is.length+x.2.is.length+1+y.is.length+1:=by rw[P3.len];omega
 have nR:IntKind.i64.wrap (((b.is.length+x.2.is.length:Nat):Int)+1)=((b.is.length+x.2.is.length+1:Nat):Int):=by rw[cI]<;>omega
 have w33:b.is.length+x.2.is.length<b.is.length+x.2.is.length+1+y.is.length+1:=by omega
 simp only[In.row,hn]at Bt ha s0 s3 q0 q3;rw[E.aE]at hx e3;rw[Sm.aE];refine aO (sf:=FZ) rfl rfl rfl ?_;by_cases hbe:b.is=[];have iO:iS b pre=pre++.rows 0 13 [[b.aD,cU 3 (b.X6.map T3.cells),cU 7 (b.codes.map Cd.row),cU 4 (b.ax.map Sd.row),.int .i64 b.main,.int .i64 b.codes.length,
  .int .i64 b.params,cU 3 (b.vars.map T3.cells),.bool b.bg,.int .i64 b.res.b,.int .i64 b.res.r,.int .i64 b.res.d,.U]]::[]:=by simp only[iS,mS,yP,yQ,if_pos hbe]
 have asf:b.is.length=0:=by rw[hbe];rfl
 rw[iO]at hx ⊢;generalize cU 3 (b.X6.map T3.cells)=OG at *;generalize cU 7 (b.codes.map Cd.row)=OC at *;generalize cU 4 (b.ax.map Sd.row)=OS at *;generalize cU 3 (b.vars.map T3.cells)=OV at *;have hz0:((b.is.length:Nat):Int)=0:=by omega
 rw[hz0]at ha;simp only[P0.eq,P3.eq,acw,adC]at hx Bt ME ha s0 s3;generalize iS (b3.vY (b.is.length+x.2.is.length) ⟨17,x.1,0,((b.is.length+x.2.is.length+1+y.is.length+1:Nat):Int),((b.is.length+x.2.is.length+1:Nat):Int),[]⟩) pre=st6 at *;generalize b.is.length+x.2.is.length+1+y.is.length+1=N4 at *;generalize b.is.length+x.2.is.length+1+y.is.length=N3 at *;generalize b.is.length+x.2.is.length+1=N2 at *;generalize b.is.length+x.2.is.length=N1 at *;generalize iS (b.plus x.2) pre=stx at *;generalize iS b1 pre=nG at *;generalize iS (b1.plus y) pre=mQ at *;generalize bf e.aK=KV at *;generalize bf s.es=EV at *;generalize bN s.bd=DV at *;generalize bN s.el=LV at *;have v0:=λh:N1<R0.length=>(aab.1 q0).2;have v3:=λh:N1<R.length=>(aab.1 q3).2;simp[FZ,k6,e1,e2,e3,e4,d1,d2,u1,k2,dG.aI,AV.view,hx,Bt,w0,v0,nR,s0,ME,ha,w33,v3,lr3,s3,cut,aj,bD,AV.au,AV.ay,ai,ah];have iO:=JM b pre hbe;have hbl:(b.is.map In.row).length=b.is.length:=by simp
 rw[iO]at hx ⊢;generalize cU 3 (b.X6.map T3.cells)=OG at *;generalize cU 7 (b.codes.map Cd.row)=OC at *;generalize cU 4 (b.ax.map Sd.row)=OS at *;generalize cU 3 (b.vars.map T3.cells)=OV at *;generalize b.is.length-1=VV at *;generalize b.is.map In.row=IR at *;simp only[P0.eq,P3.eq,acw,adC]at hx Bt ME ha s0 s3;generalize iS (b3.vY (b.is.length+x.2.is.length) ⟨17,x.1,0,((b.is.length+x.2.is.length+1+y.is.length+1:Nat):Int),((b.is.length+x.2.is.length+1:Nat):Int),[]⟩) pre=st6 at *;generalize b.is.length+x.2.is.length+1+y.is.length+1=N4 at *;generalize b.is.length+x.2.is.length+1+y.is.length=N3 at *;generalize b.is.length+x.2.is.length+1=N2 at *;generalize b.is.length+x.2.is.length=N1 at *;generalize iS (b.plus x.2) pre=stx at *;generalize iS b1 pre=nG at *;generalize iS (b1.plus y) pre=mQ at *;generalize bf e.aK=KV at *;generalize bf s.es=EV at *;generalize bN s.bd=DV at *;generalize bN s.el=LV at *;have v0:=λh:N1<R0.length=>(aab.1 q0).2;have v3:=λh:N1<R.length=>(aab.1 q3).2;simp[FZ,k6,hbl,e1,e2,e3,e4,d1,d2,u1,k2,dG.aI,AV.view,hx,Bt,w0,v0,nR,s0,ME,ha,w33,v3,lr3,s3,cut,aj,bD,AV.au,AV.ay,ai,ah]
end F3
namespace F3
open Ax Go aF V7 jw jX sZ
open qG (Bl cU yP yQ ni nj nk nU hJ gG Fb eZ k8 oJ mJ mg Fw JB JC)
theorem aeU(b:Bl)(pre:ag)(s:Sm)(k23:s.k=2\/s.k=3)(h1:s.es.length=1)(hL:LL s.es)(hr : -1000000000<s.dz)(hb:Fb b (E.eH s.es+1)) :
  (aP S).call 0 0 74 [.ptr pre.length 0 0 0,.agg s.row] (iS b pre)=some (.ir [],iS (b.plus ((cE b.vars.length b.ax.length (nh s.es)).2.dW (eY (Gm s.dz (cE b.vars.length b.ax.length (nh s.es)).1)))) pre):=by
 obtain⟨e,he⟩:∃e,s.es=[e]:=⟨_,Fo h1⟩;have h0:nh s.es=e:=by rw[he];rfl
 have fM:E.eH s.es=E.sz e:=by rw[he];simp[E.eH]
 rw[h0];have hx:=nE e b pre ((tY _).1 hL e (by rw[he];exact aa4)) (hb.le (by omega));have Iv:=sL e b.vars.length b.ax.length;have f1:=(hb.le (by omega:E.sz e+1<=_)).plus Iv;generalize cE b.vars.length b.ax.length e=x at *;have ha:=lz (b.plus x.2) pre (Gm s.dz x.1) (by have:=f1.2.1;omega);rw[mg]at ha;have e1:aL (bf s.es)=true:=bQ;have e2:(bf s.es).view=bf s.es:=bH;have e3:aJ (bf s.es)=[e.row]:=by show aJ (aB _ _)=_;rw[aM,he];rfl
 have e4:bY 11 (bf s.es)=true:=zE;have b1:aL (bN s.bd)=true:=cZ;have b2:(bN s.bd).view=bN s.bd:=bz;have l1:aL (bN s.el)=true:=cZ;have l2:(bN s.el).view=bN s.el:=bz;have k1:aL (bf e.aK)=true:=bQ;have k2:(bf e.aK).view=bf e.aK:=bH;have hn:oI []=.U:=rfl;rw[E.aE]at hx e3;rw[Sm.aE];refine aO (sf:=FZ) rfl rfl rfl ?_;generalize iS (b.plus (x.2.dW (eY (Gm s.dz x.1)))) pre=mQ at *;generalize iS b pre=st at *;generalize iS (b.plus x.2) pre=nG at *;generalize bf e.aK=KV at *;generalize bf s.es=EV at *;generalize bN s.bd=DV at *;generalize bN s.el=LV at *;by_cases c:s.dz<0;have hw:IntKind.i64.wrap (-1-s.dz) = -1-s.dz:=by rw[cI]<;>omega
 simp only[Gm,if_pos c,In.row,hn]at ha;rcases k23 with kk|kk<;>simp[FZ,kk,e1,e2,e3,e4,b1,l1,k2,dG.aI,AV.view,hx,cut,c,hw,ha,aj];simp only[Gm,if_neg c,In.row,hn]at ha;rcases k23 with kk|kk<;>simp[FZ,kk,e1,e2,e3,e4,b1,l1,k2,dG.aI,AV.view,hx,cut,c,ha,aj]
theorem TA(b:Bl)(pre:ag)(s:Sm)(kk4:s.k=4)(h1:s.es.length=2)(hL:LL s.es)(hk:(nh s.es).k=5\/(nh s.es).k=6)(hb:Fb b (E.eH s.es+1)) :
  (aP S).call 0 0 74 [.ptr pre.length 0 0 0,.agg s.row] (iS b pre)=some (.ir [],iS (b.plus (LR b.vars.length b.ax.length (nh s.es) (oX b.vars.length b.ax.length (nh s.es).aK) (λnv ns=>cE nv ns (X2 s.es)))) pre):=by
 obtain⟨e,f,he⟩:∃e f,s.es=[e,f]:=⟨_,_,Wp h1⟩;have h0:nh s.es=e:=by rw[he];rfl
 have h01:X2 s.es=f:=by rw[he];rfl
 have fM:E.eH s.es=E.sz e+E.sz f:=by rw[he];simp[E.eH]
 have hsk:=E.vP e;rw[h0]at hk ⊢;rw[h01];rw[tY]at hL;have hLe:=hL e (by rw[he];exact aa4);rw[Wn]at hLe;obtain⟨_,q1,q2,_,_,hLk⟩:=hLe;have hx:=Dx e.aK (λx _=>nE x) b pre hLk (hb.le (by omega));have Iv:=NS e.aK b.vars.length b.ax.length;have f1:=(hb.le (by omega:E.eH e.aK+(E.sz f+1)<=_)).plus Iv;have zN:=Fw b.vars.length b.ax.length e.aK;unfold LR;obtain⟨pv,pi,ps⟩:=eZ b (oX b.vars.length b.ax.length e.aK).2;generalize oX b.vars.length b.ax.length e.aK=x at *;have hy:=nE f (b.plus x.2) pre (hL f (by rw[he];simp)) (f1.le (by omega));have ajv:=sL f (b.plus x.2).vars.length (b.plus x.2).ax.length;have f2:=f1.plus ajv;rw[pv,ps]at hy ajv f2;simp only;generalize cE (b.vars.length+x.2.vs.length) (b.ax.length+x.2.ss.length) f=y at *;have ha:=lz ((b.plus x.2).plus y.2) pre (LQ e.k e.dz y.1 x.1) (by have:=f2.2.1;omega);simp only[mJ,k8,PY]at ha hy;rw[PY];have e1:aL (bf s.es)=true:=bQ;have e2:(bf s.es).view=bf s.es:=bH;have e3:aJ (bf s.es)=[e.row,f.row]:=by show aJ (aB _ _)=_;rw[aM,he];rfl
 have e4:bY 11 (bf s.es)=true:=zE;have b1:aL (bN s.bd)=true:=cZ;have b2:(bN s.bd).view=bN s.bd:=bz;have l1:aL (bN s.el)=true:=cZ;have l2:(bN s.el).view=bN s.el:=bz;have k1:aL (bf e.aK)=true:=bQ;have k2:(bf e.aK).view=bf e.aK:=bH;have k3:aL (bf f.aK)=true:=bQ;have k4:(bf f.aK).view=bf f.aK:=bH;have hn:oI []=.U:=rfl;have m1:aL (bF 1 (cp x.1))=true:=cP;have m2:(bF 1 (cp x.1)).view=aB 1 (cp x.1):=rfl;have m3:aL (aB 1 (cp x.1))=true:=bq;have m5:aJ (aB 1 (cp x.1))=cp x.1:=aM;have m6:bY 1 (aB 1 (cp x.1))=true:=zI;have m7:aJ (bF 1 (cp x.1))=cp x.1:=qi;have m8:bY 1 (bF 1 (cp x.1))=true:=by rw[vr];simp[bw,cp]
 rw[E.aE f]at hy;rw[E.aE e,E.aE f]at e3;rw[Sm.aE];refine aO (sf:=FZ) rfl rfl rfl ?_;generalize iS (b.plus (x.2.dW (y.2.dW (eY (LQ e.k e.dz y.1 x.1))))) pre=st3 at *;generalize iS (b.plus (x.2.dW y.2)) pre=mQ at *;generalize iS b pre=st at *;generalize iS (b.plus x.2) pre=nG at *;generalize bf e.aK=KV at *;generalize bf f.aK=FV at *;generalize bf s.es=EV at *;generalize bN s.bd=DV at *;generalize bN s.el=LV at *;generalize bF 1 (cp x.1)=MV at *;generalize aB 1 (cp x.1)=NV at *;by_cases c:e.k=5;rw[Wq (by rw[zN];exact q1 (.inl c))]at m5 m7;simp only[LQ,if_pos c,In.row,hn]at ha;simp[FZ,kk4,e1,e2,e3,e4,b1,l1,k2,k4,m7,m8,dG.aI,AV.view,hx,hy,cut,c,ha,aj,ai,ah];have c6:e.k=6:=by omega
 rw[Ws (by rw[zN];exact q2 (.inl c6))]at m5 m7;simp only[LQ,if_neg c,In.row,hn]at ha;simp[FZ,kk4,e1,e2,e3,e4,b1,l1,k2,k4,m2,m5,m6,dG.aI,AV.view,hx,hy,cut,c6,ha,aj,ai,ah]
theorem AM(s:Sm):PS s:=by
 induction s using Sm.zY with
 |_ s vQ rO=>
  intro b pre hL hb;rw[LU]at hL;obtain⟨h1,h2,h3,h4,h5,h6⟩:=hL;have BR:=Sm.uD s;have hn:oI []=.U:=rfl;have e1:aL (bf s.es)=true:=bQ;have e2:(bf s.es).view=bf s.es:=bH;have e4:bY 11 (bf s.es)=true:=zE;have d1:aL (bN s.bd)=true:=cZ;have d2:(bN s.bd).view=bN s.bd:=bz;have u1:aL (bN s.el)=true:=cZ;have u2:(bN s.el).view=bN s.el:=bz;rw[Wm];by_cases c:s.k=2\/s.k=3;rw[if_pos c];exact aeU b pre s c (h2 (by omega)) h1 (h4 c) (hb.le (by omega));rw[if_neg c];by_cases c4:s.k=4;rw[if_pos c4];exact TA b pre s c4 (h3 c4).1 h1 (h3 c4).2 (hb.le (by omega));rw[if_neg c4];by_cases c5:s.k=5;rw[if_pos c5];exact aju s c5 vQ rO b pre (h2 (by omega)) h1 h5 h6 hb;rw[if_neg c5];by_cases c6:s.k=6;rw[if_pos c6];exact W6 s c6 vQ b pre (h2 (by omega)) h1 h5 hb;rw[if_neg c6];by_cases c7:s.k=7;rw[if_pos c7];cases qU:s.es with
  |nil=>
   have ha:=lz b pre ⟨18,-1,0,0,0,[]⟩ (by have:=hb.2.1;omega);rw[mJ]at ha;simp only[In.row,hn]at ha;have e3:aJ (bf s.es)=[]:=(by show aJ (aB _ _)=_;rw[aM,qU];rfl);dsimp only;generalize iS (b.plus (eY ⟨18,-1,0,0,0,[]⟩)) pre=nG at *;rw[Sm.aE];refine aO (sf:=FZ) rfl rfl rfl ?_;generalize iS b pre=st at *;generalize bf s.es=EV at *;generalize bN s.bd=DV at *;generalize bN s.el=LV at *;simp[FZ,e1,e2,e3,d1,u1,dG.aI,AV.view,c7,ha,cut,aj]
  |cons e l=>
   have fM:E.eH s.es=E.sz e+E.eH l:=(by rw[qU];rfl);have hx:=nE e b pre ((tY _).1 h1 e (by rw[qU];exact aa4)) (hb.le (by omega));have f1:=Fb.plus (hb.le (by omega:E.sz e+1<=_)) (sL e b.vars.length b.ax.length);dsimp only;generalize cE b.vars.length b.ax.length e=x at *;have ha:=lz (b.plus x.2) pre ⟨18,x.1,0,0,0,[]⟩ (by have:=f1.2.1;omega);rw[mg]at ha;simp only[In.row,hn]at ha;have e3:aJ (bf s.es)=e.row::E.rows l:=(by show aJ (aB _ _)=_;rw[aM,qU];rfl);have k1:aL (bf e.aK)=true:=bQ;have k2:(bf e.aK).view=bf e.aK:=bH;generalize iS (b.plus (x.2.dW (eY ⟨18,x.1,0,0,0,[]⟩))) pre=mQ at *;rw[E.aE]at hx e3;rw[Sm.aE];refine aO (sf:=FZ) rfl rfl rfl ?_;generalize iS b pre=st at *;generalize iS (b.plus x.2) pre=nG at *;generalize bf e.aK=KV at *;generalize bf s.es=EV at *;generalize bN s.bd=DV at *;generalize bN s.el=LV at *;simp[FZ,e1,e2,e3,e4,d1,u1,k2,dG.aI,AV.view,c7,hx,ha,cut,aj]
  rw[if_neg c7];have one:(s.k=8\/s.k=9)->∃e,s.es=[e]/\nh s.es=e/\E.eH s.es=E.sz e/\aJ (bf s.es)=[e.row]/\LE e:=λh=>by
   obtain⟨e,he⟩:∃e,s.es=[e]:=⟨_,Fo (h2 (by omega))⟩;exact⟨e,he,by rw[he];rfl,by rw[he];simp[E.eH],by show aJ (aB _ _)=_;rw[aM,he];rfl,(tY _).1 h1 e (by rw[he];exact aa4)⟩
  by_cases c8:s.k=8;rw[if_pos c8];obtain⟨e,qU,h0,fM,e3,hLe⟩:=one (.inl c8);rw[h0];have hx:=nE e b pre hLe (hb.le (by omega));have f1:=Fb.plus (hb.le (by omega:E.sz e+1<=_)) (sL e b.vars.length b.ax.length);generalize cE b.vars.length b.ax.length e=x at *;have ha:=lz (b.plus x.2) pre ⟨15,x.1,0,0,0,[]⟩ (by have:=f1.2.1;omega);rw[mg]at ha;simp only[In.row,hn]at ha;have k1:aL (bf e.aK)=true:=bQ;have k2:(bf e.aK).view=bf e.aK:=bH;generalize iS (b.plus (x.2.dW (eY ⟨15,x.1,0,0,0,[]⟩))) pre=mQ at *;rw[E.aE]at hx e3;rw[Sm.aE];refine aO (sf:=FZ) rfl rfl rfl ?_;generalize iS b pre=st at *;generalize iS (b.plus x.2) pre=nG at *;generalize bf e.aK=KV at *;generalize bf s.es=EV at *;generalize bN s.bd=DV at *;generalize bN s.el=LV at *;simp[FZ,e1,e2,e3,e4,d1,u1,k2,dG.aI,AV.view,c8,hx,ha,cut,aj];rw[if_neg c8];by_cases c9:s.k=9;rw[if_pos c9];obtain⟨e,qU,h0,fM,e3,hLe⟩:=one (.inr c9);rw[h0];have hx:=nE e b pre hLe (hb.le (by omega));generalize cE b.vars.length b.ax.length e=x at *;have k1:aL (bf e.aK)=true:=bQ;have k2:(bf e.aK).view=bf e.aK:=bH;rw[E.aE]at hx e3;rw[Sm.aE];refine aO (sf:=FZ) rfl rfl rfl ?_;generalize iS b pre=st at *;generalize iS (b.plus x.2) pre=nG at *;generalize bf e.aK=KV at *;generalize bf s.es=EV at *;generalize bN s.bd=DV at *;generalize bN s.el=LV at *;simp[FZ,e1,e2,e3,e4,d1,u1,k2,dG.aI,AV.view,c9,hx,cut];rw[if_neg c9,oJ,Sm.aE];refine aO (sf:=FZ) rfl rfl rfl ?_;generalize iS b pre=st at *;generalize bf s.es=EV at *;generalize bN s.bd=DV at *;generalize bN s.el=LV at *;have c2:¬s.k=2:=λh=>c (.inl h);have c3:¬s.k=3:=λh=>c (.inr h);simp[FZ,e1,d1,u1,dG.aI,AV.view,c2,c3,c4,c5,c6,c7,c8,c9,cut]
end F3
