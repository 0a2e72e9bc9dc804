/- Part of a proof. -/
import Derived.Test.YtachcambnjecnaaGreatW
import Derived.Test.YtachcambnjecnaaGreatF

set_option maxRecDepth 100000
set_option maxHeartbeats 2000000
namespace Bn
open Ax Go bu V7 jG j9 tc
open pU (Bl bE rY oo kU kV kW ld ij fj)
def mJ(b:Bl)(k:Nat):List AV:=[b.aR,bE 3 (b.EK.map T3.cells),bE 7 (b.dX.map Cd.row),bE 4 (b.aB.map Sd.row),.int .i64 b.main,.int .i64 b.dX.length,
 .int .i64 b.params,bE 3 (b.vars.map T3.cells),.bool b.bO,.int .i64 b.bz.b,.int .i64 b.bz.r,.int .i64 b.bz.d,rY b.is k]
def iN(b:Bl)(pre:aj):aj:=pre++.rows 0 13 [mJ b (pre.length+1)]::oo b.is
theorem Wi(pre:aj)(o:dy)(r:aj):(pre++o::r)[pre.length]?=some o:=by simp
theorem ah0(pre:aj)(o p:dy)(r:aj):(pre++o::r).set pre.length p=pre++p::r:=by
 rw[List.set_append_right _ _ (Nat.le_refl _)];simp
theorem ah1(pre:aj)(o i j:dy)(r:aj):(pre++o::i::r).set (pre.length+1) j=pre++o::j::r:=by
 rw[List.set_append_right _ _ (by omega)];simp
variable (wl af:Nat)
theorem EL(b:Bl)(pre:aj)(i:In)(v:AV)(hp:v.ax=true)(hc:v.cx=true)(hv:v.view=jE i.args)(hb:b.is.length<1000000000) :
  (bh S).call 0 0 55 [.ptr pre.length 0 0 0,.agg [.int .i64 i.op,.int .i64 i.a,.int .i64 i.b,.int .i64 i.c,.int .i64 i.n,v]] (iN b pre)=some (.int .i64 b.is.length,iN { b with is:=b.is++[i] } pre):=by
 refine ay (sf:=s55) rfl rfl rfl ?_;have ur:=kU i.args;have Bg:=kV i.args;have Wn:=kW i.args;have hr:(b.is.length+1)*64<=cR:=by unfold cR;omega
 have IK:64<=cR:=by decide
 have hw:IntKind.i64.wrap ((b.is.length:Nat):Int)=b.is.length:=by rw[dZ]<;>omega
 have Tm:IntKind.i64.wrap 0=0:=by decide
 have hlen:(pre++[dy.rows 0 13 [[b.aR,bE 3 (b.EK.map T3.cells),bE 7 (b.dX.map Cd.row),bE 4 (b.aB.map Sd.row),.int .i64 b.main,.int .i64 b.dX.length,.int .i64 b.params,bE 3 (b.vars.map T3.cells),.bool b.bO,.int .i64 b.bz.b,.int .i64 b.bz.r,.int .i64 b.bz.d,.U]]]).length=pre.length+1:=by simp
 by_cases e:b.is=[];simp[s55,iN,mJ,rY,oo,e,In.row,aY,AV.ai,AV.ax,au,an,cut,hc,hv,ur,Bg,Wn,bN,IK,-List.append_assoc];simp;exact Tm;simp[s55,iN,mJ,rY,oo,e,In.row,aY,AV.ai,AV.ax,ag,au,an,cut,hc,hv,ur,Bg,Wn,bN,hr,hw];have:=List.length_pos_iff.2 e;omega
end Bn
namespace Bn
open Ax Go bu V7 jG j9 tc
open pU (Bl bE rY oo kU kV kW ld ij fj)
variable (wl af:Nat)
theorem ig(b:Bl)(pre:aj)(i:In)(hb:b.is.length<1000000000) :
  (bh S).call 0 0 55 [.ptr pre.length 0 0 0,.agg i.row] (iN b pre)=some (.int .i64 b.is.length,iN { b with is:=b.is++[i] } pre):=
 EL b pre i (jE i.args) (kU _) (kV _) (kW _) hb
theorem ND(pre:aj)(o:dy)(r:aj):List.take (pre.length+(r.length+1)) (pre++o::r)=pre++o::r:=List.take_of_length_le (by simp)
theorem uQ(b:Bl)(pre:aj)(t:T3)(hb:b.vars.length<1000000000) :
  (bh S).call 0 af 27 [.ptr pre.length 0 0 0,.agg t.cells] (iN b pre)=some (.int .i64 b.vars.length,iN { b with vars:=b.vars++[t] } pre):=by
 refine ay (sf:=s27) rfl rfl rfl ?_;have hr:(b.vars.length+1)*24<=cR:=by unfold cR;omega
 have IK:24<=cR:=by decide
 have hw:IntKind.i64.wrap ((b.vars.length:Nat):Int)=b.vars.length:=by rw[dZ]<;>omega
 have Tm:IntKind.i64.wrap 0=0:=by decide
 by_cases e:b.vars=[];have h0:bE 3 (b.vars.map T3.cells)=.U:=by simp[bE,e]
 have h1:bE 3 ((b.vars++[t]).map T3.cells)=.iO 3 [t.cells]:=by simp[bE,e]
 simp only[iN,mJ,h0,h1];simp[s27,e,T3.cells,aY,AV.ai,AV.ax,AV.dJ,aV,dM,cV,bP,ag,au,an,cut,ND,bN,IK,Tm];have h0:bE 3 (b.vars.map T3.cells)=.iO 3 (b.vars.map T3.cells):=by simp[bE,e]
 have h1:bE 3 ((b.vars++[t]).map T3.cells)=.iO 3 (b.vars.map T3.cells++[t.cells]):=by simp[bE]
 simp only[iN,mJ,h0,h1];simp[s27,T3.cells,aY,AV.ai,AV.ax,AV.dJ,aV,dM,cV,bP,ag,au,an,cut,ND,bN,hr,hw]
theorem Ib(b:Bl)(pre:aj)(t:T3)(hb:b.aB.length<1000000000) :
  (bh S).call 0 af 114 [.ptr pre.length 0 0 0,.agg t.cells] (iN b pre)=some (.int .i64 b.aB.length,iN { b with aB:=b.aB++[⟨b.dX.length,t⟩] } pre):=by
 refine ay (sf:=Vs) rfl rfl rfl ?_;have hr:(b.aB.length+1)*32<=cR:=by unfold cR;omega
 have IK:32<=cR:=by decide
 have hw:IntKind.i64.wrap ((b.aB.length:Nat):Int)=b.aB.length:=by rw[dZ]<;>omega
 have Tm:IntKind.i64.wrap 0=0:=by decide
 by_cases e:b.aB=[];have h0:bE 4 (b.aB.map Sd.row)=.U:=by simp[bE,e]
 have h1:bE 4 ((b.aB++[(⟨b.dX.length,t⟩:Sd)]).map Sd.row)=.iO 4 [[.int .i64 b.dX.length,.int .i64 t.b,.int .i64 t.r,.int .i64 t.d]]:=by simp[bE,e,Sd.row]
 simp only[iN,mJ,h0,h1];simp[Vs,e,T3.cells,aV];rw[mV];simp[dS,gO,cW,bG,eC.bg,aY,AV.ai,AV.ax,AV.dJ,aV,dM,cV,bP,ag,cut,bN,IK];refine⟨_,_,⟨rfl,rfl⟩,?_⟩;simp[bP,AV.cq,AV.view,fq.fG,AV.fG,cut,AV.ax,aV,dM,ND,Tm];have h0:bE 4 (b.aB.map Sd.row)=.iO 4 (b.aB.map Sd.row):=by simp[bE,e]
 have h1:bE 4 ((b.aB++[(⟨b.dX.length,t⟩:Sd)]).map Sd.row)=.iO 4 (b.aB.map Sd.row++[[.int .i64 b.dX.length,.int .i64 t.b,.int .i64 t.r,.int .i64 t.d]]):=by simp[bE,Sd.row]
 simp only[iN,mJ,h0,h1];simp[Vs,T3.cells,aV];rw[mV];simp[dS,gO,cW,bG,eC.bg,aY,AV.ai,AV.ax,AV.dJ,aV,dM,cV,bP,ag,cut,bN,hr];refine⟨_,_,⟨rfl,rfl⟩,?_⟩;simp[bP,AV.cq,AV.view,fq.fG,AV.fG,cut,AV.ax,aV,dM,ND,hw]
end Bn
namespace Bn
open Ax Go bu V7 jG j9 tc
open pU (Bl bE rY oo kU kV kW ld ij fj Fb cU iQ kI jq Aw)
def PE(e:E):Prop:=∀(b:Bl)(pre:aj),LE e->Fb b (E.sz e)->(bh S).call 0 0 93 [.ptr pre.length 0 0 0,.agg e.row] (iN b pre)=some (.int .i64 (cE b.vars.length b.aB.length e).1,iN (b.plus (cE b.vars.length b.aB.length e).2) pre)
theorem CT(l:List E)(ih:∀e∈l,PE e)(b:Bl)(pre:aj)(hL:LL l)(hb:Fb b (E.cQ l)) :
  (bh S).call 0 0 94 [.ptr pre.length 0 0 0,aI l] (iN b pre)=some (bD 1 (bQ (pC b.vars.length b.aB.length l).1),iN (b.plus (pC b.vars.length b.aB.length l).2) pre):=by
 have hz:bX 11 (aI l)=true:=zE;have cA:aD (aI l)=true:=aQ;have dW:(aI l).view=aI l:=aN;have cN:aM (aI l)=E.rows l:=aE;have hlen:=E.dD l;have hlb:l.length<1000000000:=by have:=hb.1;omega
 rw[l5]at hL;have ni:(E.rows l).length=l.length:=by simp[gh]
 refine ay (sf:=s94) rfl rfl rfl ?_;generalize aI l=lv at *;simp[s94];refine bf R3.eq_1 (λx:Nat×List Int×Bl=>⟨[(0,.val (.ptr pre.length 0 0 0)),(1,.val lv),(5,.val (bD 1 (bQ x.2.1))),(6,.val (.int .i64 x.1))],[],iN x.2.2 pre⟩)
  (λx=>x.1<=l.length/\x.2.1.length=x.1/\Fb x.2.2 (E.cQ (l.drop x.1))/\(x.2.1++(pC x.2.2.vars.length x.2.2.aB.length (l.drop x.1)).1,x.2.2.plus (pC x.2.2.vars.length x.2.2.aB.length (l.drop x.1)).2)=((pC b.vars.length b.aB.length l).1,b.plus (pC b.vars.length b.aB.length l).2)) (λx=>l.length-x.1) (0,[],b) (by simp[bD,bQ]) ⟨by simp,rfl,by simpa using hb,by simp⟩ ?_
 rintro⟨k,acc,b1⟩ ⟨hk,To,f1,hp⟩ k7;simp only at hk To f1 hp k7;by_cases aW:k<l.length;have nK:=wk k (by omega);have hm:=List.getElem_mem aW;rw[List.drop_eq_getElem_cons aW]at f1 hp;simp only[E.cQ]at f1;have ct:=ih _ hm b1 pre (hL _ hm) (f1.le (by omega));have vr:=l7 l[k] b1.vars.length b1.aB.length;have f2:=f1.plus vr;rw[wP]at hp;obtain⟨pv,_,ps⟩:=cU b1 (cE b1.vars.length b1.aB.length l[k]).2;have e1:aD (aI l[k].aC)=true:=aQ;have e2:(aI l[k].aC).view=aI l[k].aC:=aN;have gY:k<(E.rows l).length:=by simpa [gh] using aW
 have mZ:=oW aW gY;have lJ:nH 1 8 (bD 1 (bQ acc)) [[.int .i64 (cE b1.vars.length b1.aB.length l[k]).1]]=some (bD 1 (bQ (acc++[(cE b1.vars.length b1.aB.length l[k]).1]))):=by
  rw[dV (by rfl) (by simp[cR];omega)];simp
 have dx:=k7 (k+1,acc++[(cE b1.vars.length b1.aB.length l[k]).1],b1.plus (cE b1.vars.length b1.aB.length l[k]).2) ⟨by simp only;omega,by simp[To],f2,by
  simp only[pv,ps];rw[<-hp,iQ];simp⟩ (by simp only;omega)
 simp only at dx;rw[E.az]at ct mZ;generalize cE b1.vars.length b1.aB.length l[k]=y at *;generalize l[k]=x at *;generalize aI x.aC=xe at *;have g0:aD (bD 1 (bQ acc))=true:=bY;have g1:aD (bD 1 (bQ (acc++[y.1])))=true:=bY;generalize bD 1 (bQ (acc++[y.1]))=m1 at *;generalize bD 1 (bQ acc)=m0 at *;simp[aW,ni,nK,hz,cA,dW,cN,mZ,ct,e2,lJ,AV.view];exact dx;have eK:k=l.length:=by omega
 rw[eK,List.drop_length]at hp;have h1:(pC b.vars.length b.aB.length l).1=acc:=by
  have:=congrArg Prod.fst hp;simpa [pC] using this.symm
 have h2:b.plus (pC b.vars.length b.aB.length l).2=b1:=by
  have:=congrArg Prod.snd hp;simp only[pC]at this;rw[kI]at this;exact this.symm
 rw[h1,h2];have g0:aD (bD 1 (bQ acc))=true:=bY;generalize bD 1 (bQ acc)=m0 at *;simp[aW,ni,cA,dW,cN]
theorem eP(e:E):PE e:=by
 induction e using E.yu with
 |_ e ih=>
  intro b pre hL hb;rw[J6]at hL;obtain⟨hT,h1,h2,hk,hr,Tp⟩:=hL;have Ta:=E.mz e;have e1:aD (aI e.aC)=true:=aQ;have e2:(aI e.aC).view=aI e.aC:=aN;have hn:jE []=.U:=rfl;by_cases q:e.k=4/\0<=e.cG;rw[Gz,if_pos q,kI,E.az];obtain⟨st,iu⟩:∃s,s=iN b pre:=⟨_,rfl⟩;rw[<-iu];refine ay (sf:=Fm) rfl rfl rfl ?_;generalize aI e.aC=KV at *;simp[Fm,e1,eC.bg,AV.view,q];have nj:=CT e.aC ih b pre Tp (hb.le (by omega));have vr:=EF e.aC b.vars.length b.aB.length;have f1:Fb (b.plus (pC b.vars.length b.aB.length e.aC).2) 1:=pU.Fb.plus (hb.le (by omega)) vr;have BZ:=Aw b.vars.length b.aB.length e.aC;obtain⟨pv,pi,ps⟩:=cU b (pC b.vars.length b.aB.length e.aC).2;rw[Gz,if_neg q];unfold cK;generalize pC b.vars.length b.aB.length e.aC=x at *;have q1:e.k=4->¬0<=e.cG:=λa b=>q ⟨a,b⟩;have m1:aD (bD 1 (bQ x.1))=true:=bY;have m2:(bD 1 (bQ x.1)).view=aA 1 (bQ x.1):=rfl;have m3:aD (aA 1 (bQ x.1))=true:=aL;have m4:(aA 1 (bQ x.1)).view=aA 1 (bQ x.1):=aJ;have m5:aM (aA 1 (bQ x.1))=bQ x.1:=aE;have m6:bX 1 (aA 1 (bQ x.1))=true:=zI;have m7:aM (bD 1 (bQ x.1))=bQ x.1:=pN;have m8:bX 1 (bD 1 (bQ x.1))=true:=by rw[xu];simp[bN,bQ]
  by_cases Uu:e.ty=T0;have c7:=hT Uu;have ha:=EL (b.plus x.2) pre ⟨13,-1,0,e.cG,0,x.1⟩ _ (ck m1) (bU m1) rfl (by have:=f1.2.1;omega);rw[jq,iQ]at ha;rw[if_pos Uu];have eb:e.ty.b=0/\e.ty.r=0/\e.ty.d=0:=by rw[Uu];exact⟨rfl,rfl,rfl⟩
  obtain⟨eb1,eb2,eb3⟩:=eb;simp only;rw[E.az];refine ay (sf:=Fm) rfl rfl rfl ?_;generalize iN (b.plus (x.2.eJ (dO ⟨13,-1,0,e.cG,0,x.1⟩))) pre=kO at *;generalize iN (b.plus x.2) pre=kL at *;generalize iN b pre=st at *;generalize bD 1 (bQ x.1)=MV at *;generalize aI e.aC=KV at *;simp[Fm,e1,e2,eC.bg,AV.view,c7,eb1,eb2,eb3,nj,m1,ha,ag];rw[if_neg Uu];have eb:(decide (e.ty.b=0)&&(decide (e.ty.r=0)&&decide (e.ty.d=0)))=false:=by
   rcases h:e.ty with⟨u,v,w⟩;rw[h]at Uu;by_cases a:u=0<;>by_cases b:v=0<;>by_cases c:w=0<;>simp_all
  have ht:=λli=>uQ li (b.plus x.2) pre e.ty (by have:=f1.1;omega);obtain⟨b2,Hf⟩:∃b2,b2={ b.plus x.2 with vars:=(b.plus x.2).vars++[e.ty] }:=⟨_,rfl⟩;rw[<-Hf,pv]at ht;have Kk:b2.is.length<1000000000:=by rw[Hf];have:=f1.2.1;show (b.plus x.2).is.length<_;omega
  have Uv:b2.aB.length<1000000000:=by rw[Hf];have:=f1.2.2;show (b.plus x.2).aB.length<_;omega
  have hs:=λli=>Ib li b2 pre e.ty Uv;have cA:b2.aB.length=b.aB.length+x.2.ss.length:=by rw[Hf];exact ps
  rw[cA]at hs;simp only;have lG:∀J:In,¬(e.k=8\/e.k=9)->{ b2 with is:=b2.is++[J] }=b.plus (x.2.eJ ⟨[e.ty],[J],if e.k=8\/e.k=9 then [e.ty] else []⟩):=λJ c=>by
   rw[Hf];simp[c,Bl.plus,l9.eJ]
  have aj5:∀J:In,(e.k=8\/e.k=9)->{ b2 with aB:=b2.aB++[(⟨b2.dX.length,e.ty⟩:Sd)],is:=b2.is++[J] }=b.plus (x.2.eJ ⟨[e.ty],[J],if e.k=8\/e.k=9 then [e.ty] else []⟩):=λJ c=>by
   rw[Hf];simp[c,Bl.plus,l9.eJ]
  have EM:∀{l:List Int},l.length=1->bQ l=[[.int .i64 (zd l)]]:=LY;have Tn:∀{l:List Int},l.length=2->bQ l=[[.int .i64 (zd l)],[.int .i64 (XU l)]]:=LZ;simp only[T3.cells]at ht hs;by_cases c8:e.k=8\/e.k=9;have ha:=ig { b2 with aB:=b2.aB++[⟨b2.dX.length,e.ty⟩] } pre (dh e.k e.n e.cG ((b.vars.length+x.2.vs.length:Nat):Int) ((b.aB.length+x.2.ss.length:Nat):Int) x.1) Kk;rw[aj5 _ c8]at ha;generalize iN (b.plus (x.2.eJ ⟨[e.ty],[dh e.k e.n e.cG ((b.vars.length+x.2.vs.length:Nat):Int) ((b.aB.length+x.2.ss.length:Nat):Int) x.1],if e.k=8\/e.k=9 then [e.ty] else []⟩)) pre=st4 at *;generalize ((b.vars.length+x.2.vs.length:Nat):Int)=tv at *;generalize ((b.aB.length+x.2.ss.length:Nat):Int)=sv at *;generalize iN { b2 with aB:=b2.aB++[⟨b2.dX.length,e.ty⟩] } pre=st3 at *;rw[E.az];refine ay (sf:=Fm) rfl rfl rfl ?_;generalize iN b2 pre=kO at *;generalize iN (b.plus x.2) pre=kL at *;generalize iN b pre=st at *;rcases c8 with c8|c9;simp only[dh,c8,In.row]at ha;simp[hn]at ha;generalize bD 1 (bQ x.1)=MV at *;generalize aI e.aC=KV at *;simp[Fm,e1,e2,eC.bg,AV.view,c8,eb,nj,ht,hs,ha,ag];have hl:=BZ.trans (h1 (by omega));simp only[dh,c9,In.row]at ha;simp[hn]at ha;generalize aA 1 (bQ x.1)=LV at *;generalize bD 1 (bQ x.1)=MV at *;generalize aI e.aC=KV at *;rw[EM hl]at m5 m7;simp[Fm,e1,e2,eC.bg,AV.view,c9,eb,nj,ht];rw[mV];simp[dS,gO,cW,bG,eC.bg,hs,ha,m7,m8,ag,AV.view];refine⟨_,_,⟨rfl,rfl⟩,?_⟩;simp[fq.fG,AV.fG,AV.qT,AV.qU,AV.view,AV.cq,m7,m8,cut];have ha:=ig b2 pre (dh e.k e.n e.cG ((b.vars.length+x.2.vs.length:Nat):Int) ((b.aB.length+x.2.ss.length:Nat):Int) x.1) Kk;rw[lG _ c8]at ha;have ha7:=EL b2 pre (dh e.k e.n e.cG ((b.vars.length+x.2.vs.length:Nat):Int) ((b.aB.length+x.2.ss.length:Nat):Int) x.1) (bD 1 (bQ x.1)) (ck m1) (bU m1);rw[lG _ c8]at ha7;generalize iN (b.plus (x.2.eJ ⟨[e.ty],[dh e.k e.n e.cG ((b.vars.length+x.2.vs.length:Nat):Int) ((b.aB.length+x.2.ss.length:Nat):Int) x.1],if e.k=8\/e.k=9 then [e.ty] else []⟩)) pre=st4 at *;generalize ((b.vars.length+x.2.vs.length:Nat):Int)=tv at *;generalize ((b.aB.length+x.2.ss.length:Nat):Int)=sv at *;have c8':¬e.k=8:=λh=>c8 (.inl h);have c9':¬e.k=9:=λh=>c8 (.inr h);rw[E.az];refine ay (sf:=Fm) rfl rfl rfl ?_;generalize iN b2 pre=kO at *;generalize iN (b.plus x.2) pre=kL at *;generalize iN b pre=st at *;by_cases c1:e.k=1;simp only[dh,c1,In.row]at ha;simp[hn]at ha;generalize bD 1 (bQ x.1)=MV at *;generalize aI e.aC=KV at *;simp[Fm,e1,e2,eC.bg,AV.view,c1,eb,nj,ht,ha,ag];by_cases c2:e.k=2;simp only[dh,c2,In.row]at ha;simp[hn]at ha;generalize bD 1 (bQ x.1)=MV at *;generalize aI e.aC=KV at *;simp[Fm,e1,e2,eC.bg,AV.view,c2,eb,nj,ht,ha,ag];by_cases c3:e.k=3;simp only[dh,c3,In.row]at ha;simp[hn]at ha;generalize bD 1 (bQ x.1)=MV at *;generalize aI e.aC=KV at *;simp[Fm,e1,e2,eC.bg,AV.view,c3,eb,nj,ht,ha,ag];by_cases c4:e.k=4;have hq:=q1 c4;have hw:IntKind.i64.wrap (-1-e.cG) = -1-e.cG:=by have:=hr c4;rw[dZ]<;>omega
  simp only[dh,c4,In.row]at ha;simp[hn]at ha;generalize bD 1 (bQ x.1)=MV at *;generalize aI e.aC=KV at *;simp[Fm,e1,e2,eC.bg,AV.view,c4,hq,eb,nj,ht,hw,ha,ag];by_cases c5:e.k=5
  skip
  simp only[dh,c5,In.row]at ha;simp[hn]at ha;generalize aA 1 (bQ x.1)=LV at *;generalize bD 1 (bQ x.1)=MV at *;generalize aI e.aC=KV at *;rw[EM (BZ.trans (h1 (by omega)))]at m5 m7;simp[Fm,e1,e2,eC.bg,AV.view,c5,eb,nj,m7,m8,ht,ha,ag,au,an];by_cases c6:e.k=6
  skip
  simp only[dh,c6,In.row]at ha;simp[hn]at ha;generalize aA 1 (bQ x.1)=LV at *;generalize bD 1 (bQ x.1)=MV at *;generalize aI e.aC=KV at *;rw[Tn (BZ.trans (h2 (by omega)))]at m5 m7;simp[Fm,e1,e2,eC.bg,AV.view,c6,eb,nj,m2,m5,m6,ht,ha,ag,au,an];by_cases c7:e.k=7;have hv7:(bD 1 (bQ x.1)).view=jE (dh e.k e.n e.cG tv sv x.1).args:=by rw[c7];rfl
  have ha7:=ha7 hv7 Kk;simp only[dh,c7]at ha7;simp at ha7;clear ha hv7;generalize bD 1 (bQ x.1)=MV at *;generalize aI e.aC=KV at *;simp[Fm,e1,e2,eC.bg,AV.view,c7,eb,nj,m1,ht,ha7,ag];by_cases HO:e.k=10
  skip
  simp only[dh,HO,In.row]at ha;simp[hn]at ha;generalize aA 1 (bQ x.1)=LV at *;generalize bD 1 (bQ x.1)=MV at *;generalize aI e.aC=KV at *;rw[EM (BZ.trans (h1 (by omega)))]at m5 m7;simp[Fm,e1,e2,eC.bg,AV.view,HO,eb,nj,m7,m8,ht,ha,ag];by_cases O1:e.k=11;simp only[dh,O1,In.row]at ha;simp[hn]at ha;generalize bD 1 (bQ x.1)=MV at *;generalize aI e.aC=KV at *;simp[Fm,e1,e2,eC.bg,AV.view,O1,eb,nj,ht,ha,ag];by_cases HP:e.k=12
  skip
  simp only[dh,HP,In.row]at ha;simp[hn]at ha;generalize aA 1 (bQ x.1)=LV at *;generalize bD 1 (bQ x.1)=MV at *;generalize aI e.aC=KV at *;rw[EM (BZ.trans (h1 (by omega)))]at m5 m7;simp[Fm,e1,e2,eC.bg,AV.view,HP,eb,nj,m7,m8,ht,ha,ag,au,an];by_cases Kr:e.k=13
  skip
  simp only[dh,Kr,In.row]at ha;simp[hn]at ha;generalize aA 1 (bQ x.1)=LV at *;generalize bD 1 (bQ x.1)=MV at *;generalize aI e.aC=KV at *;rw[EM (BZ.trans (h1 (by omega)))]at m5 m7;simp[Fm,e1,e2,eC.bg,AV.view,Kr,eb,nj,m7,m8,ht,ha,ag,au,an]
  skip
  simp only[dh,c1,c2,c3,c4,c5,c6,c7,c8',c9',HO,O1,HP,Kr,In.row,hn,or_self,if_false]at ha;generalize aA 1 (bQ x.1)=LV at *;generalize bD 1 (bQ x.1)=MV at *;generalize aI e.aC=KV at *;rw[Tn (BZ.trans (h2 (by omega)))]at m5 m7;simp[Fm,e1,e2,eC.bg,AV.view,c1,c2,c3,c4,c5,c6,c7,c8',c9',HO,O1,HP,Kr,eb,nj,m2,m5,m6,ht,ha,ag,au,an]
end Bn
namespace Bn
open Ax Go bu V7 jG j9 tc
open pU (Bl bE rY oo kU kV kW ld ij fj Fb cU iQ kI jq jk Aw EN EO)
def PS(s:Sm):Prop:=∀(b:Bl)(pre:aj),LS s->Fb b (2*Sm.sz s)->(bh S).call 0 0 54 [.ptr pre.length 0 0 0,.agg s.row] (iN b pre)=some (.fm [],iN (b.plus (cS b.vars.length b.is.length b.aB.length s)) pre)
theorem fh(l:List Sm)(ih:∀s∈l,PS s)(b:Bl)(pre:aj)(hL:LB l)(hb:Fb b (2*Sm.cQ l)) :
  (bh S).call 0 0 28 [.ptr pre.length 0 0 0,aS l] (iN b pre)=some (.fm [],iN (b.plus (cB b.vars.length b.is.length b.aB.length l)) pre):=by
 have hz:bX 9 (aS l)=true:=zL (by simp[bN,fY,Sm.az]);have cA:aD (aS l)=true:=bn;have dW:(aS l).view=aS l:=aO;have cN:aM (aS l)=Sm.rows l:=aE;have hlen:=Sm.dD l;have hlb:l.length<1000000000:=by have:=hb.1;omega
 rw[EG]at hL;have ni:(Sm.rows l).length=l.length:=by simp[fY]
 refine ay (sf:=s28) rfl rfl rfl ?_;generalize aS l=lv at *;simp[s28];refine bf Rk.eq_1 (λx:Nat×Bl=>⟨[(0,.val (.ptr pre.length 0 0 0)),(1,.val lv),(4,.val (.int .i64 x.1))],[],iN x.2 pre⟩)
  (λx=>x.1<=l.length/\Fb x.2 (2*Sm.cQ (l.drop x.1))/\x.2.plus (cB x.2.vars.length x.2.is.length x.2.aB.length (l.drop x.1))=b.plus (cB b.vars.length b.is.length b.aB.length l)) (λx=>l.length-x.1) (0,b) (by simp) ⟨by simp,by simpa using hb,by simp⟩ ?_
 rintro⟨k,b1⟩ ⟨hk,f1,hp⟩ k7;simp only at hk f1 hp k7;by_cases aW:k<l.length;have nK:=wk k (by omega);have hm:=List.getElem_mem aW;rw[List.drop_eq_getElem_cons aW]at f1 hp;simp only[Sm.cQ]at f1;have ct:=ih _ hm b1 pre (hL _ hm) (f1.le (by omega));have vr:=Tf l[k] (hL _ hm) b1.vars.length b1.is.length b1.aB.length;have f2:=pU.Fb.plus (f1.le (by omega:2*Sm.sz l[k]+2*Sm.cQ (l.drop (k+1))<=_)) vr;rw[CO]at hp;unfold J4 at hp;obtain⟨pv,pi,ps⟩:=cU b1 (cS b1.vars.length b1.is.length b1.aB.length l[k]);obtain⟨e1,d1,l1⟩:aD (aI l[k].es)=true/\aD (aS l[k].bd)=true/\aD (aS l[k].el)=true:=⟨aQ,bn,bn⟩;have e2:(aI l[k].es).view=aI l[k].es:=aN;have d2:(aS l[k].bd).view=aS l[k].bd:=aO;have l2:(aS l[k].el).view=aS l[k].el:=aO;have gY:k<(Sm.rows l).length:=by omega
 have mZ:=qG aW gY;have dx:=k7 (k+1,b1.plus (cS b1.vars.length b1.is.length b1.aB.length l[k])) ⟨by simp only;omega,f2,by
  simp only[pv,pi,ps];rw[<-hp,iQ]⟩ (by simp only;omega)
 simp only at dx;rw[Sm.az]at ct mZ;generalize cS b1.vars.length b1.is.length b1.aB.length l[k]=y at *;generalize l[k]=x at *;generalize aI x.es=xe at *;generalize aS x.bd=xb at *;generalize aS x.el=xl at *;simp[aW,ni,nK,hz,cA,dW,cN,mZ,ct,e2,d2,l2,AV.view];exact dx;have eK:k=l.length:=by omega
 rw[eK,List.drop_length,H9,kI]at hp;rw[<-hp];simp[aW,ni,cA,dW,cN]
structure Pt (b:Bl)(pre:aj)(H:List AV)(V:Nat)(R:List (List AV)):Prop where
 eq:iN b pre=pre++.rows 0 13 [H++[.mu (pre.length+1) V]]::[.rows V 6 R]
 len:R.length=b.is.length
 set:∀(i:Nat) (a:In),(pre++.rows 0 13 [H++[.mu (pre.length+1) V]]::[.rows V 6 (R.set i (In.row a))]:aj)=iN (b.pV i a) pre
 get:∀(i:Nat) (a:In),b.is[i]?=some a->R[i]?=some a.row
theorem Ij(b:Bl)(pre:aj)(h:b.is≠[]):iN b pre=pre++.rows 0 13 [[b.aR,bE 3 (b.EK.map T3.cells),bE 7 (b.dX.map Cd.row),bE 4 (b.aB.map Sd.row),.int .i64 b.main,.int .i64 b.dX.length,
  .int .i64 b.params,bE 3 (b.vars.map T3.cells),.bool b.bO,.int .i64 b.bz.b,.int .i64 b.bz.r,.int .i64 b.bz.d,.mu (pre.length+1) (b.is.length-1)]]::[.rows (b.is.length-1) 6 (b.is.map In.row)]:=by
 simp only[iN,mJ,rY,oo,if_neg h]
theorem Ay(b:Bl)(pre:aj)(h:b.is≠[]):∃r0 r1 r2 r3 r4 r5 r6 r7 r8 r9 r10 r11 V R,Pt b pre [r0,r1,r2,r3,r4,r5,r6,r7,r8,r9,r10,r11] V R:=by
 refine⟨_,_,_,_,_,_,_,_,_,_,_,_,b.is.length-1,b.is.map In.row,Ij b pre h,by simp,λi a=>?_,λi a h=>by simp[h]⟩;rw[Ij (b.pV i a) pre (by intro c;apply h;have:=congrArg List.length c;simp[pU.Bl.pV]at this;exact this)];simp[pU.Bl.pV,List.map_set]
end Bn
namespace Bn
open Ax Go bu V7 jG j9 tc
open pU (Bl bE rY oo kU kV kW ld ij fj Fb cU iQ kI jq jk Aw EN EO)
theorem afo(s:Sm)(k5:s.k=5)(sW:∀x∈s.bd,PS x)(k7:∀x∈s.el,PS x)(b:Bl)(pre:aj)(h1:s.es.length=1)(hL:LL s.es)(hB:LB s.bd)(hE:LB s.el)(hb:Fb b (2*Sm.sz s)) :
  (bh S).call 0 0 54 [.ptr pre.length 0 0 0,.agg s.row] (iN b pre)=some (.fm [],iN (b.plus (XW b.vars.length b.is.length b.aB.length (cE b.vars.length b.aB.length (k9 s.es)) (λnv at_ ns=>cB nv at_ ns s.bd) (λnv at_ ns=>cB nv at_ ns s.el))) pre):=by
 obtain⟨e,he⟩:∃e,s.es=[e]:=⟨_,uM h1⟩;have h0:k9 s.es=e:=by rw[he];rfl
 have dF:E.cQ s.es=E.sz e:=by rw[he];simp[E.cQ]
 have oz:=Sm.jM s;rw[h0];have hx:=eP e b pre ((l5 _).1 hL e (by rw[he];exact List.mem_cons_self)) (hb.le (by omega));have vr:=l7 e b.vars.length b.aB.length;obtain⟨y,hy⟩:∃y,y=cB (b.vars.length+(cE b.vars.length b.aB.length e).2.vs.length) (b.is.length+(cE b.vars.length b.aB.length e).2.is.length+1) (b.aB.length+(cE b.vars.length b.aB.length e).2.ss.length) s.bd:=⟨_,rfl⟩;obtain⟨z,hz⟩:∃z,z=cB (b.vars.length+(cE b.vars.length b.aB.length e).2.vs.length+y.vs.length) (b.is.length+(cE b.vars.length b.aB.length e).2.is.length+1+y.is.length+1) (b.aB.length+(cE b.vars.length b.aB.length e).2.ss.length+y.ss.length) s.el:=⟨_,rfl⟩;rw[<-EN b (cE b.vars.length b.aB.length e) y z _ _ hy hz];generalize cE b.vars.length b.aB.length e=x at *;obtain⟨_,pi,_⟩:=cU b x.2;have yJ:=ig (b.plus x.2) pre ⟨17,x.1,0,0,0,[]⟩ (by
  have:=hb.2.1;have:=vr.2.1;omega)
 rw[jk,pi]at yJ;obtain⟨b0,WM⟩:∃b0,b0=b.plus (x.2.eJ (dO ⟨17,x.1,0,0,0,[]⟩)):=⟨_,rfl⟩;rw[<-WM]at yJ;have g0:b0.is[b.is.length+x.2.is.length]?=some ⟨17,x.1,0,0,0,[]⟩:=by
  rw[WM];simp[pU.Bl.plus,l9.eJ,dO]
 have l0:b0.is.length=b.is.length+x.2.is.length+1:=by rw[WM];simp[pU.Bl.plus,l9.eJ,dO,Nat.add_assoc]
 obtain⟨z0,z1,z2,z3,z4,z5,z6,z7,z8,z9,z10,z11,V0,R0,P0⟩:=Ay b0 pre (by intro c;rw[c]at l0;simp at l0);have s0:=P0.set (b.is.length+x.2.is.length) ⟨17,x.1,0,0,((b.is.length+x.2.is.length+1:Nat):Int),[]⟩;have e01:b0.pV (b.is.length+x.2.is.length) ⟨17,x.1,0,0,((b.is.length+x.2.is.length+1:Nat):Int),[]⟩=b.plus (x.2.eJ (dO ⟨17,x.1,0,0,((b.is.length+x.2.is.length+1:Nat):Int),[]⟩)):=by
  rw[WM];simp[pU.Bl.plus,pU.Bl.pV,l9.eJ,dO]
 rw[e01]at s0;have q0:=P0.get _ _ g0;have w0:b.is.length+x.2.is.length<R0.length:=by rw[P0.len];omega
 obtain⟨b1,Cf⟩:∃b1,b1=b.plus (x.2.eJ (dO ⟨17,x.1,0,0,((b.is.length+x.2.is.length+1:Nat):Int),[]⟩)):=⟨_,rfl⟩;have l1:b1.vars.length=b.vars.length+x.2.vs.length/\b1.is.length=b.is.length+x.2.is.length+1/\b1.aB.length=b.aB.length+x.2.ss.length:=by
  rw[Cf];obtain⟨p,q,r⟩:=cU b (x.2.eJ (dO ⟨17,x.1,0,0,((b.is.length+x.2.is.length+1:Nat):Int),[]⟩));rw[p,q,r];simp[l9.eJ,dO,Nat.add_assoc]
 have g1:b1.is[b.is.length+x.2.is.length]?=some ⟨17,x.1,0,0,((b.is.length+x.2.is.length+1:Nat):Int),[]⟩:=by
  rw[Cf];simp[Bl.plus,l9.eJ,dO]
 rw[<-Cf]at s0 ⊢;have f1:Fb b1 (2*Sm.cQ s.bd+(2*Sm.cQ s.el+1)):=by
  obtain⟨p1,p2,p3⟩:=hb;obtain⟨q1,q2,q3⟩:=vr;obtain⟨r1,r2,r3⟩:=l1;exact⟨by omega,by omega,by omega⟩
 have y7:=fh s.bd sW b1 pre hB (f1.le (by omega));have FM:=As hB (b.vars.length+x.2.vs.length) (b.is.length+x.2.is.length+1) (b.aB.length+x.2.ss.length);rw[l1.1,l1.2.1,l1.2.2,<-hy]at y7;rw[<-hy]at FM;have f2:=f1.plus FM;obtain⟨m1,m2,m3⟩:=cU b1 y;have g2:(b1.plus y).is[b.is.length+x.2.is.length]?=some ⟨17,x.1,0,0,((b.is.length+x.2.is.length+1:Nat):Int),[]⟩:=by
  show (b1.is++y.is)[_]?=_;rw[List.getElem?_append_left (by omega)];exact g1
 have ha:=ig (b1.plus y) pre ⟨16,0,0,0,0,[]⟩ (by have:=f2.2.1;omega);rw[jq,m2,l1.2.1]at ha;obtain⟨b3,yy⟩:∃b3,b3=(b1.plus y).plus (dO ⟨16,0,0,0,0,[]⟩):=⟨_,rfl⟩;rw[<-yy]at ha ⊢;have l3:b3.vars.length=b.vars.length+x.2.vs.length+y.vs.length/\b3.is.length=b.is.length+x.2.is.length+1+y.is.length+1/\b3.aB.length=b.aB.length+x.2.ss.length+y.ss.length:=by
  rw[yy];obtain⟨p,q,r⟩:=cU (b1.plus y) (dO ⟨16,0,0,0,0,[]⟩);rw[p,q,r,m1,m2,m3,l1.1,l1.2.1,l1.2.2];simp[dO]
 have g3:b3.is[b.is.length+x.2.is.length]?=some ⟨17,x.1,0,0,((b.is.length+x.2.is.length+1:Nat):Int),[]⟩:=by
  rw[yy];show ((b1.plus y).is++_)[_]?=_;rw[List.getElem?_append_left (by omega)];exact g2
 have g3j:b3.is[b.is.length+x.2.is.length+1+y.is.length]?=some ⟨16,0,0,0,0,[]⟩:=by
  rw[yy];show ((b1.plus y).is++[_])[_]?=_;rw[List.getElem?_append_right (by omega),m2,l1.2.1];simp
 have Tr:b3.is.length<1000000000:=by have:=f2.2.1;omega
 obtain⟨r0,r1,r2,r3,r4,r5,r6,r7,r8,r9,r10,r11,V,R,P3⟩:=Ay b3 pre (by intro c;rw[c]at l3;simp at l3);obtain⟨b4,hb4⟩:∃b4,b4=b3.pV (b.is.length+x.2.is.length) ⟨17,x.1,0,((b.is.length+x.2.is.length+1+y.is.length+1:Nat):Int),((b.is.length+x.2.is.length+1:Nat):Int),[]⟩:=⟨_,rfl⟩;have s3:=P3.set (b.is.length+x.2.is.length) ⟨17,x.1,0,((b.is.length+x.2.is.length+1+y.is.length+1:Nat):Int),((b.is.length+x.2.is.length+1:Nat):Int),[]⟩;rw[<-hb4]at s3 ⊢;have l4:b4.vars.length=b3.vars.length/\b4.is.length=b3.is.length/\b4.aB.length=b3.aB.length:=by rw[hb4];simp[Bl.pV]
 have g4j:b4.is[b.is.length+x.2.is.length+1+y.is.length]?=some ⟨16,0,0,0,0,[]⟩:=by
  rw[hb4];show (b3.is.set _ _)[_]?=_;rw[List.getElem?_set_ne (by omega)];exact g3j
 have f4:Fb b4 (2*Sm.cQ s.el):=by
  obtain⟨p1,p2,p3⟩:=f2;obtain⟨r1,r2,r3⟩:=l3;obtain⟨q1,q2,q3⟩:=l4;exact⟨by omega,by omega,by omega⟩
 have E4:=fh s.el k7 b4 pre hE f4;have Mu:=As hE (b.vars.length+x.2.vs.length+y.vs.length) (b.is.length+x.2.is.length+1+y.is.length+1) (b.aB.length+x.2.ss.length+y.ss.length);rw[l4.1,l4.2.1,l4.2.2,l3.1,l3.2.1,l3.2.2,<-hz]at E4;rw[<-hz]at Mu;obtain⟨n1,n2,n3⟩:=cU b4 z;have ae5:(b4.plus z).is.length<1000000000:=by have:=f4.2.1;have:=Mu.2.1;omega
 have g5:(b4.plus z).is[b.is.length+x.2.is.length+1+y.is.length]?=some ⟨16,0,0,0,0,[]⟩:=by
  show (b4.is++z.is)[_]?=_;rw[List.getElem?_append_left (by omega)];exact g4j
 obtain⟨t0,t1,t2,t3,t4,t5,t6,t7,t8,t9,t10,t11,W,Q,P5⟩:=Ay (b4.plus z) pre (by intro c;have:=n2;rw[c,List.length_nil]at this;omega);have s5:=P5.set (b.is.length+x.2.is.length+1+y.is.length) ⟨16,0,0,0,((b.is.length+x.2.is.length+1+y.is.length+1+z.is.length:Nat):Int),[]⟩;have q3:=P3.get _ _ g3;have q5:=P5.get _ _ g5;have w3:b.is.length+x.2.is.length<R.length:=by rw[P3.len];omega
 have w5:b.is.length+x.2.is.length+1+y.is.length<Q.length:=by rw[P5.len];omega
 have hn:jE []=.U:=rfl;have e1:aD (aI s.es)=true:=aQ;have e2:(aI s.es).view=aI s.es:=aN;have e3:aM (aI s.es)=[e.row]:=by show aM (aA _ _)=_;rw[aE,he];rfl
 have e4:bX 11 (aI s.es)=true:=zE;have d1:aD (aS s.bd)=true:=bn;have d2:(aS s.bd).view=aS s.bd:=aO;have u1:aD (aS s.el)=true:=bn;have u2:(aS s.el).view=aS s.el:=aO;have k1:aD (aI e.aC)=true:=aQ;have k2:(aI e.aC).view=aI e.aC:=aN;have lr3:R.length=b.is.length+x.2.is.length+1+y.is.length+1:=by rw[P3.len];omega
 have lr5:Q.length=b.is.length+x.2.is.length+1+y.is.length+1+z.is.length:=by rw[P5.len];omega
 have BJ:IntKind.i64.wrap (((b.is.length+x.2.is.length:Nat):Int)+1)=((b.is.length+x.2.is.length+1:Nat):Int):=by rw[dZ]<;>omega
 have hw4:IntKind.i64.wrap (((b.is.length+x.2.is.length+1+y.is.length:Nat):Int)+1)=((b.is.length+x.2.is.length+1+y.is.length+1:Nat):Int):=by rw[dZ]<;>omega
 have w55:b.is.length+x.2.is.length+1+y.is.length<b.is.length+x.2.is.length+1+y.is.length+1+z.is.length:=by omega
 simp only[In.row,hn]at yJ ha s0 s3 s5 q0 q3 q5;simp only[P0.eq,P3.eq,P5.eq,List.cons_append,List.nil_append]at hx yJ y7 ha s0 s3 E4 s5;rw[E.az]at hx e3;rw[Sm.az];refine ay (sf:=E6) rfl rfl rfl ?_;generalize iN ((b4.plus z).pV (b.is.length+x.2.is.length+1+y.is.length) ⟨16,0,0,0,((b.is.length+x.2.is.length+1+y.is.length+1+z.is.length:Nat):Int),[]⟩) pre=st6 at *;generalize b.is.length+x.2.is.length+1+y.is.length+1+z.is.length=N5 at *;generalize b.is.length+x.2.is.length+1+y.is.length+1=N4 at *;generalize b.is.length+x.2.is.length+1+y.is.length=N3 at *;generalize b.is.length+x.2.is.length+1=N2 at *;generalize b.is.length+x.2.is.length=N1 at *;generalize iN (b.plus x.2) pre=stx at *;generalize iN b pre=st at *;generalize iN b1 pre=kL at *;generalize iN (b1.plus y) pre=kO at *;generalize iN b4 pre=st4 at *;generalize aI e.aC=KV at *;generalize aI s.es=EV at *;generalize aS s.bd=DV at *;generalize aS s.el=LV at *;have v0:=λh:N1<R0.length=>(List.getElem?_eq_some_iff.1 q0).2;have v3:=λh:N1<R.length=>(List.getElem?_eq_some_iff.1 q3).2;have v5:=λh:N3<Q.length=>(List.getElem?_eq_some_iff.1 q5).2;simp[E6,k5,e1,e2,e3,e4,d1,d2,u1,u2,k2,eC.bg,AV.view,hx,yJ,w0,v0,BJ,s0,y7,ha,w3,v3,hw4,s3,E4,w55,v5,lr5,s5,cut,ag,aY,AV.ai,AV.ax,au,an]
theorem TF(s:Sm)(k6:s.k=6)(sW:∀x∈s.bd,PS x)(b:Bl)(pre:aj)(h1:s.es.length=1)(hL:LL s.es)(hB:LB s.bd)(hb:Fb b (2*Sm.sz s)) :
  (bh S).call 0 0 54 [.ptr pre.length 0 0 0,.agg s.row] (iN b pre)=some (.fm [],iN (b.plus (XX b.vars.length b.is.length b.aB.length (cE b.vars.length b.aB.length (k9 s.es)) (λnv at_ ns=>cB nv at_ ns s.bd))) pre):=by
 obtain⟨e,he⟩:∃e,s.es=[e]:=⟨_,uM h1⟩;have h0:k9 s.es=e:=by rw[he];rfl
 have dF:E.cQ s.es=E.sz e:=by rw[he];simp[E.cQ]
 have oz:=Sm.jM s;rw[h0];have hx:=eP e b pre ((l5 _).1 hL e (by rw[he];exact List.mem_cons_self)) (hb.le (by omega));have vr:=l7 e b.vars.length b.aB.length;obtain⟨y,hy⟩:∃y,y=cB (b.vars.length+(cE b.vars.length b.aB.length e).2.vs.length) (b.is.length+(cE b.vars.length b.aB.length e).2.is.length+1) (b.aB.length+(cE b.vars.length b.aB.length e).2.ss.length) s.bd:=⟨_,rfl⟩;rw[<-EO b (cE b.vars.length b.aB.length e) y _ hy];generalize cE b.vars.length b.aB.length e=x at *;obtain⟨_,pi,_⟩:=cU b x.2;have yJ:=ig (b.plus x.2) pre ⟨17,x.1,0,0,0,[]⟩ (by
  have:=hb.2.1;have:=vr.2.1;omega)
 rw[jk,pi]at yJ;obtain⟨b0,WM⟩:∃b0,b0=b.plus (x.2.eJ (dO ⟨17,x.1,0,0,0,[]⟩)):=⟨_,rfl⟩;rw[<-WM]at yJ;have g0:b0.is[b.is.length+x.2.is.length]?=some ⟨17,x.1,0,0,0,[]⟩:=by
  rw[WM];simp[pU.Bl.plus,l9.eJ,dO]
 have l0:b0.is.length=b.is.length+x.2.is.length+1:=by rw[WM];simp[pU.Bl.plus,l9.eJ,dO,Nat.add_assoc]
 obtain⟨z0,z1,z2,z3,z4,z5,z6,z7,z8,z9,z10,z11,V0,R0,P0⟩:=Ay b0 pre (by intro c;rw[c]at l0;simp at l0);have s0:=P0.set (b.is.length+x.2.is.length) ⟨17,x.1,0,0,((b.is.length+x.2.is.length+1:Nat):Int),[]⟩;have e01:b0.pV (b.is.length+x.2.is.length) ⟨17,x.1,0,0,((b.is.length+x.2.is.length+1:Nat):Int),[]⟩=b.plus (x.2.eJ (dO ⟨17,x.1,0,0,((b.is.length+x.2.is.length+1:Nat):Int),[]⟩)):=by
  rw[WM];simp[pU.Bl.plus,pU.Bl.pV,l9.eJ,dO]
 rw[e01]at s0;have q0:=P0.get _ _ g0;have w0:b.is.length+x.2.is.length<R0.length:=by rw[P0.len];omega
 obtain⟨b1,Cf⟩:∃b1,b1=b.plus (x.2.eJ (dO ⟨17,x.1,0,0,((b.is.length+x.2.is.length+1:Nat):Int),[]⟩)):=⟨_,rfl⟩;have l1:b1.vars.length=b.vars.length+x.2.vs.length/\b1.is.length=b.is.length+x.2.is.length+1/\b1.aB.length=b.aB.length+x.2.ss.length:=by
  rw[Cf];obtain⟨p,q,r⟩:=cU b (x.2.eJ (dO ⟨17,x.1,0,0,((b.is.length+x.2.is.length+1:Nat):Int),[]⟩));rw[p,q,r];simp[l9.eJ,dO,Nat.add_assoc]
 have g1:b1.is[b.is.length+x.2.is.length]?=some ⟨17,x.1,0,0,((b.is.length+x.2.is.length+1:Nat):Int),[]⟩:=by
  rw[Cf];simp[Bl.plus,l9.eJ,dO]
 rw[<-Cf]at s0 ⊢;have f1:Fb b1 (2*Sm.cQ s.bd+1):=by
  obtain⟨p1,p2,p3⟩:=hb;obtain⟨q1,q2,q3⟩:=vr;obtain⟨r1,r2,r3⟩:=l1;exact⟨by omega,by omega,by omega⟩
 have y7:=fh s.bd sW b1 pre hB (f1.le (by omega));have FM:=As hB (b.vars.length+x.2.vs.length) (b.is.length+x.2.is.length+1) (b.aB.length+x.2.ss.length);rw[l1.1,l1.2.1,l1.2.2,<-hy]at y7;rw[<-hy]at FM;have f2:=f1.plus FM;obtain⟨m1,m2,m3⟩:=cU b1 y;have g2:(b1.plus y).is[b.is.length+x.2.is.length]?=some ⟨17,x.1,0,0,((b.is.length+x.2.is.length+1:Nat):Int),[]⟩:=by
  show (b1.is++y.is)[_]?=_;rw[List.getElem?_append_left (by omega)];exact g1
 have ha:=ig (b1.plus y) pre ⟨16,0,0,0,(b.is.length:Int),[]⟩ (by have:=f2.2.1;omega);rw[jq,m2,l1.2.1]at ha;obtain⟨b3,yy⟩:∃b3,b3=(b1.plus y).plus (dO ⟨16,0,0,0,(b.is.length:Int),[]⟩):=⟨_,rfl⟩;rw[<-yy]at ha ⊢;have l3:b3.is.length=b.is.length+x.2.is.length+1+y.is.length+1:=by
  rw[yy];obtain⟨p,q,r⟩:=cU (b1.plus y) (dO ⟨16,0,0,0,(b.is.length:Int),[]⟩);rw[q,m2,l1.2.1];simp[dO]
 have g3:b3.is[b.is.length+x.2.is.length]?=some ⟨17,x.1,0,0,((b.is.length+x.2.is.length+1:Nat):Int),[]⟩:=by
  rw[yy];show ((b1.plus y).is++_)[_]?=_;rw[List.getElem?_append_left (by omega)];exact g2
 have Tr:b3.is.length<1000000000:=by have:=f2.2.1;omega
 obtain⟨r0,r1,r2,r3,r4,r5,r6,r7,r8,r9,r10,r11,V,R,P3⟩:=Ay b3 pre (by intro c;rw[c]at l3;simp at l3);have s3:=P3.set (b.is.length+x.2.is.length) ⟨17,x.1,0,((b.is.length+x.2.is.length+1+y.is.length+1:Nat):Int),((b.is.length+x.2.is.length+1:Nat):Int),[]⟩;have q3:=P3.get _ _ g3;have w3:b.is.length+x.2.is.length<R.length:=by rw[P3.len];omega
 have hn:jE []=.U:=rfl;have e1:aD (aI s.es)=true:=aQ;have e2:(aI s.es).view=aI s.es:=aN;have e3:aM (aI s.es)=[e.row]:=by show aM (aA _ _)=_;rw[aE,he];rfl
 have e4:bX 11 (aI s.es)=true:=zE;have d1:aD (aS s.bd)=true:=bn;have d2:(aS s.bd).view=aS s.bd:=aO;have u1:aD (aS s.el)=true:=bn;have u2:(aS s.el).view=aS s.el:=aO;have k1:aD (aI e.aC)=true:=aQ;have k2:(aI e.aC).view=aI e.aC:=aN;have lr3:R.length=b.is.length+x.2.is.length+1+y.is.length+1:=by rw[P3.len];omega
 have BJ:IntKind.i64.wrap (((b.is.length+x.2.is.length:Nat):Int)+1)=((b.is.length+x.2.is.length+1:Nat):Int):=by rw[dZ]<;>omega
 have w33:b.is.length+x.2.is.length<b.is.length+x.2.is.length+1+y.is.length+1:=by omega
 simp only[In.row,hn]at yJ ha s0 s3 q0 q3;rw[E.az]at hx e3;rw[Sm.az];refine ay (sf:=E6) rfl rfl rfl ?_;by_cases S4:b.is=[];have iu:iN b pre=pre++.rows 0 13 [[b.aR,bE 3 (b.EK.map T3.cells),bE 7 (b.dX.map Cd.row),bE 4 (b.aB.map Sd.row),.int .i64 b.main,.int .i64 b.dX.length,
  .int .i64 b.params,bE 3 (b.vars.map T3.cells),.bool b.bO,.int .i64 b.bz.b,.int .i64 b.bz.r,.int .i64 b.bz.d,.U]]::[]:=by simp only[iN,mJ,rY,oo,if_pos S4]
 have anE:b.is.length=0:=by rw[S4];rfl
 rw[iu]at hx ⊢;generalize bE 3 (b.EK.map T3.cells)=OG at *;generalize bE 7 (b.dX.map Cd.row)=OC at *;generalize bE 4 (b.aB.map Sd.row)=OS at *;generalize bE 3 (b.vars.map T3.cells)=OV at *;have hz0:((b.is.length:Nat):Int)=0:=by omega
 rw[hz0]at ha;simp only[P0.eq,P3.eq,List.cons_append,List.nil_append]at hx yJ y7 ha s0 s3;generalize iN (b3.pV (b.is.length+x.2.is.length) ⟨17,x.1,0,((b.is.length+x.2.is.length+1+y.is.length+1:Nat):Int),((b.is.length+x.2.is.length+1:Nat):Int),[]⟩) pre=st6 at *;generalize b.is.length+x.2.is.length+1+y.is.length+1=N4 at *;generalize b.is.length+x.2.is.length+1+y.is.length=N3 at *;generalize b.is.length+x.2.is.length+1=N2 at *;generalize b.is.length+x.2.is.length=N1 at *;generalize iN (b.plus x.2) pre=stx at *;generalize iN b1 pre=kL at *;generalize iN (b1.plus y) pre=kO at *;generalize aI e.aC=KV at *;generalize aI s.es=EV at *;generalize aS s.bd=DV at *;generalize aS s.el=LV at *;have v0:=λh:N1<R0.length=>(List.getElem?_eq_some_iff.1 q0).2;have v3:=λh:N1<R.length=>(List.getElem?_eq_some_iff.1 q3).2;simp[E6,k6,e1,e2,e3,e4,d1,d2,u1,k2,eC.bg,AV.view,hx,yJ,w0,v0,BJ,s0,y7,ha,w33,v3,lr3,s3,cut,ag,aY,AV.ai,AV.ax,au,an];have iu:=Ij b pre S4;have NK:(b.is.map In.row).length=b.is.length:=by simp
 rw[iu]at hx ⊢;generalize bE 3 (b.EK.map T3.cells)=OG at *;generalize bE 7 (b.dX.map Cd.row)=OC at *;generalize bE 4 (b.aB.map Sd.row)=OS at *;generalize bE 3 (b.vars.map T3.cells)=OV at *;generalize b.is.length-1=VV at *;generalize b.is.map In.row=IR at *;simp only[P0.eq,P3.eq,List.cons_append,List.nil_append]at hx yJ y7 ha s0 s3;generalize iN (b3.pV (b.is.length+x.2.is.length) ⟨17,x.1,0,((b.is.length+x.2.is.length+1+y.is.length+1:Nat):Int),((b.is.length+x.2.is.length+1:Nat):Int),[]⟩) pre=st6 at *;generalize b.is.length+x.2.is.length+1+y.is.length+1=N4 at *;generalize b.is.length+x.2.is.length+1+y.is.length=N3 at *;generalize b.is.length+x.2.is.length+1=N2 at *;generalize b.is.length+x.2.is.length=N1 at *;generalize iN (b.plus x.2) pre=stx at *;generalize iN b1 pre=kL at *;generalize iN (b1.plus y) pre=kO at *;generalize aI e.aC=KV at *;generalize aI s.es=EV at *;generalize aS s.bd=DV at *;generalize aS s.el=LV at *;have v0:=λh:N1<R0.length=>(List.getElem?_eq_some_iff.1 q0).2;have v3:=λh:N1<R.length=>(List.getElem?_eq_some_iff.1 q3).2;simp[E6,k6,NK,e1,e2,e3,e4,d1,d2,u1,k2,eC.bg,AV.view,hx,yJ,w0,v0,BJ,s0,y7,ha,w33,v3,lr3,s3,cut,ag,aY,AV.ai,AV.ax,au,an]
end Bn
namespace Bn
open Ax Go bu V7 jG j9 tc
open pU (Bl bE rY oo kU kV kW ld ij fj Fb cU iQ kI jq jk Aw EN EO)
theorem L3(b:Bl)(pre:aj)(s:Sm)(k23:s.k=2\/s.k=3)(h1:s.es.length=1)(hL:LL s.es)(hr : -1000000000<s.cG)(hb:Fb b (E.cQ s.es+1)) :
  (bh S).call 0 0 54 [.ptr pre.length 0 0 0,.agg s.row] (iN b pre)=some (.fm [],iN (b.plus ((cE b.vars.length b.aB.length (k9 s.es)).2.eJ (dO (Ar s.cG (cE b.vars.length b.aB.length (k9 s.es)).1)))) pre):=by
 obtain⟨e,he⟩:∃e,s.es=[e]:=⟨_,uM h1⟩;have h0:k9 s.es=e:=by rw[he];rfl
 have dF:E.cQ s.es=E.sz e:=by rw[he];simp[E.cQ]
 rw[h0];have hx:=eP e b pre ((l5 _).1 hL e (by rw[he];exact List.mem_cons_self)) (hb.le (by omega));have vr:=l7 e b.vars.length b.aB.length;have f1:=(hb.le (by omega:E.sz e+1<=_)).plus vr;generalize cE b.vars.length b.aB.length e=x at *;have ha:=ig (b.plus x.2) pre (Ar s.cG x.1) (by have:=f1.2.1;omega);rw[jk]at ha;have e1:aD (aI s.es)=true:=aQ;have e2:(aI s.es).view=aI s.es:=aN;have e3:aM (aI s.es)=[e.row]:=by show aM (aA _ _)=_;rw[aE,he];rfl
 have e4:bX 11 (aI s.es)=true:=zE;have b1:aD (aS s.bd)=true:=bn;have b2:(aS s.bd).view=aS s.bd:=aO;have l1:aD (aS s.el)=true:=bn;have l2:(aS s.el).view=aS s.el:=aO;have k1:aD (aI e.aC)=true:=aQ;have k2:(aI e.aC).view=aI e.aC:=aN;have hn:jE []=.U:=rfl;rw[E.az]at hx e3;rw[Sm.az];refine ay (sf:=E6) rfl rfl rfl ?_;generalize iN (b.plus (x.2.eJ (dO (Ar s.cG x.1)))) pre=kO at *;generalize iN b pre=st at *;generalize iN (b.plus x.2) pre=kL at *;generalize aI e.aC=KV at *;generalize aI s.es=EV at *;generalize aS s.bd=DV at *;generalize aS s.el=LV at *;by_cases c:s.cG<0;have hw:IntKind.i64.wrap (-1-s.cG) = -1-s.cG:=by rw[dZ]<;>omega
 simp only[Ar,if_pos c,In.row,hn]at ha;rcases k23 with kk|kk<;>simp[E6,kk,e1,e2,e3,e4,b1,l1,k2,eC.bg,AV.view,hx,cut,c,hw,ha,ag];simp only[Ar,if_neg c,In.row,hn]at ha;rcases k23 with kk|kk<;>simp[E6,kk,e1,e2,e3,e4,b1,l1,k2,eC.bg,AV.view,hx,cut,c,ha,ag]
theorem Dj(b:Bl)(pre:aj)(s:Sm)(kk4:s.k=4)(h1:s.es.length=2)(hL:LL s.es)(hk:(k9 s.es).k=5\/(k9 s.es).k=6)(hb:Fb b (E.cQ s.es+1)) :
  (bh S).call 0 0 54 [.ptr pre.length 0 0 0,.agg s.row] (iN b pre)=some (.fm [],iN (b.plus (J5 b.vars.length b.aB.length (k9 s.es) (pC b.vars.length b.aB.length (k9 s.es).aC) (λnv ns=>cE nv ns (Pz s.es)))) pre):=by
 obtain⟨e,f,he⟩:∃e f,s.es=[e,f]:=⟨_,_,LX h1⟩;have h0:k9 s.es=e:=by rw[he];rfl
 have h01:Pz s.es=f:=by rw[he];rfl
 have dF:E.cQ s.es=E.sz e+E.sz f:=by rw[he];simp[E.cQ]
 have Ta:=E.mz e;rw[h0]at hk ⊢;rw[h01];rw[l5]at hL;have O3:=hL e (by rw[he];exact List.mem_cons_self);rw[J6]at O3;obtain⟨_,q1,q2,_,_,Wq⟩:=O3;have hx:=CT e.aC (λx _=>eP x) b pre Wq (hb.le (by omega));have vr:=EF e.aC b.vars.length b.aB.length;have f1:=(hb.le (by omega:E.cQ e.aC+(E.sz f+1)<=_)).plus vr;have BZ:=Aw b.vars.length b.aB.length e.aC;unfold J5;obtain⟨pv,pi,ps⟩:=cU b (pC b.vars.length b.aB.length e.aC).2;generalize pC b.vars.length b.aB.length e.aC=x at *;have hy:=eP f (b.plus x.2) pre (hL f (by rw[he];simp)) (f1.le (by omega));have Tq:=l7 f (b.plus x.2).vars.length (b.plus x.2).aB.length;have f2:=f1.plus Tq;rw[pv,ps]at hy Tq f2;simp only;generalize cE (b.vars.length+x.2.vs.length) (b.aB.length+x.2.ss.length) f=y at *;have ha:=ig ((b.plus x.2).plus y.2) pre (Fv e.k e.cG y.1 x.1) (by have:=f2.2.1;omega);simp only[jq,iQ,CP]at ha hy;rw[CP];have e1:aD (aI s.es)=true:=aQ;have e2:(aI s.es).view=aI s.es:=aN;have e3:aM (aI s.es)=[e.row,f.row]:=by show aM (aA _ _)=_;rw[aE,he];rfl
 have e4:bX 11 (aI s.es)=true:=zE;have b1:aD (aS s.bd)=true:=bn;have b2:(aS s.bd).view=aS s.bd:=aO;have l1:aD (aS s.el)=true:=bn;have l2:(aS s.el).view=aS s.el:=aO;have k1:aD (aI e.aC)=true:=aQ;have k2:(aI e.aC).view=aI e.aC:=aN;have k3:aD (aI f.aC)=true:=aQ;have k4:(aI f.aC).view=aI f.aC:=aN;have hn:jE []=.U:=rfl;have m1:aD (bD 1 (bQ x.1))=true:=bY;have m2:(bD 1 (bQ x.1)).view=aA 1 (bQ x.1):=rfl;have m3:aD (aA 1 (bQ x.1))=true:=aL;have m5:aM (aA 1 (bQ x.1))=bQ x.1:=aE;have m6:bX 1 (aA 1 (bQ x.1))=true:=zI;have m7:aM (bD 1 (bQ x.1))=bQ x.1:=pN;have m8:bX 1 (bD 1 (bQ x.1))=true:=by rw[xu];simp[bN,bQ]
 rw[E.az f]at hy;rw[E.az e,E.az f]at e3;rw[Sm.az];refine ay (sf:=E6) rfl rfl rfl ?_;generalize iN (b.plus (x.2.eJ (y.2.eJ (dO (Fv e.k e.cG y.1 x.1))))) pre=st3 at *;generalize iN (b.plus (x.2.eJ y.2)) pre=kO at *;generalize iN b pre=st at *;generalize iN (b.plus x.2) pre=kL at *;generalize aI e.aC=KV at *;generalize aI f.aC=FV at *;generalize aI s.es=EV at *;generalize aS s.bd=DV at *;generalize aS s.el=LV at *;generalize bD 1 (bQ x.1)=MV at *;generalize aA 1 (bQ x.1)=NV at *;by_cases c:e.k=5;rw[LY (by rw[BZ];exact q1 (.inl c))]at m5 m7;simp only[Fv,if_pos c,In.row,hn]at ha;simp[E6,kk4,e1,e2,e3,e4,b1,l1,k2,k4,m7,m8,eC.bg,AV.view,hx,hy,cut,c,ha,ag,au,an];have c6:e.k=6:=by omega
 rw[LZ (by rw[BZ];exact q2 (.inl c6))]at m5 m7;simp only[Fv,if_neg c,In.row,hn]at ha;simp[E6,kk4,e1,e2,e3,e4,b1,l1,k2,k4,m2,m5,m6,eC.bg,AV.view,hx,hy,cut,c6,ha,ag,au,an]
theorem oc(s:Sm):PS s:=by
 induction s using Sm.yu with
 |_ s sW k7=>
  intro b pre hL hb;rw[GA]at hL;obtain⟨h1,h2,h3,h4,h5,h6⟩:=hL;have oz:=Sm.jM s;have hn:jE []=.U:=rfl;have e1:aD (aI s.es)=true:=aQ;have e2:(aI s.es).view=aI s.es:=aN;have e4:bX 11 (aI s.es)=true:=zE;have d1:aD (aS s.bd)=true:=bn;have d2:(aS s.bd).view=aS s.bd:=aO;have u1:aD (aS s.el)=true:=bn;have u2:(aS s.el).view=aS s.el:=aO;rw[Nt];by_cases c:s.k=2\/s.k=3;rw[if_pos c];exact L3 b pre s c (h2 (by omega)) h1 (h4 c) (hb.le (by omega));rw[if_neg c];by_cases c4:s.k=4;rw[if_pos c4];exact Dj b pre s c4 (h3 c4).1 h1 (h3 c4).2 (hb.le (by omega));rw[if_neg c4];by_cases c5:s.k=5;rw[if_pos c5];exact afo s c5 sW k7 b pre (h2 (by omega)) h1 h5 h6 hb;rw[if_neg c5];by_cases c6:s.k=6;rw[if_pos c6];exact TF s c6 sW b pre (h2 (by omega)) h1 h5 hb;rw[if_neg c6];by_cases c7:s.k=7;rw[if_pos c7];cases jR:s.es with
  |nil=>
   have ha:=ig b pre ⟨18,-1,0,0,0,[]⟩ (by have:=hb.2.1;omega);rw[jq]at ha;simp only[In.row,hn]at ha;have e3:aM (aI s.es)=[]:=(by show aM (aA _ _)=_;rw[aE,jR];rfl);dsimp only;generalize iN (b.plus (dO ⟨18,-1,0,0,0,[]⟩)) pre=kL at *;rw[Sm.az];refine ay (sf:=E6) rfl rfl rfl ?_;generalize iN b pre=st at *;generalize aI s.es=EV at *;generalize aS s.bd=DV at *;generalize aS s.el=LV at *;simp[E6,e1,e2,e3,d1,u1,eC.bg,AV.view,c7,ha,cut,ag]
  |cons e l=>
   have dF:E.cQ s.es=E.sz e+E.cQ l:=(by rw[jR];rfl);have hx:=eP e b pre ((l5 _).1 h1 e (by rw[jR];exact List.mem_cons_self)) (hb.le (by omega));have f1:=Fb.plus (hb.le (by omega:E.sz e+1<=_)) (l7 e b.vars.length b.aB.length);dsimp only;generalize cE b.vars.length b.aB.length e=x at *;have ha:=ig (b.plus x.2) pre ⟨18,x.1,0,0,0,[]⟩ (by have:=f1.2.1;omega);rw[jk]at ha;simp only[In.row,hn]at ha;have e3:aM (aI s.es)=e.row::E.rows l:=(by show aM (aA _ _)=_;rw[aE,jR];rfl);have k1:aD (aI e.aC)=true:=aQ;have k2:(aI e.aC).view=aI e.aC:=aN;generalize iN (b.plus (x.2.eJ (dO ⟨18,x.1,0,0,0,[]⟩))) pre=kO at *;rw[E.az]at hx e3;rw[Sm.az];refine ay (sf:=E6) rfl rfl rfl ?_;generalize iN b pre=st at *;generalize iN (b.plus x.2) pre=kL at *;generalize aI e.aC=KV at *;generalize aI s.es=EV at *;generalize aS s.bd=DV at *;generalize aS s.el=LV at *;simp[E6,e1,e2,e3,e4,d1,u1,k2,eC.bg,AV.view,c7,hx,ha,cut,ag]
  rw[if_neg c7];have one:(s.k=8\/s.k=9)->∃e,s.es=[e]/\k9 s.es=e/\E.cQ s.es=E.sz e/\aM (aI s.es)=[e.row]/\LE e:=λh=>by
   obtain⟨e,he⟩:∃e,s.es=[e]:=⟨_,uM (h2 (by omega))⟩;exact⟨e,he,by rw[he];rfl,by rw[he];simp[E.cQ],by show aM (aA _ _)=_;rw[aE,he];rfl,(l5 _).1 h1 e (by rw[he];exact List.mem_cons_self)⟩
  by_cases c8:s.k=8;rw[if_pos c8];obtain⟨e,jR,h0,dF,e3,O3⟩:=one (.inl c8);rw[h0];have hx:=eP e b pre O3 (hb.le (by omega));have f1:=Fb.plus (hb.le (by omega:E.sz e+1<=_)) (l7 e b.vars.length b.aB.length);generalize cE b.vars.length b.aB.length e=x at *;have ha:=ig (b.plus x.2) pre ⟨15,x.1,0,0,0,[]⟩ (by have:=f1.2.1;omega);rw[jk]at ha;simp only[In.row,hn]at ha;have k1:aD (aI e.aC)=true:=aQ;have k2:(aI e.aC).view=aI e.aC:=aN;generalize iN (b.plus (x.2.eJ (dO ⟨15,x.1,0,0,0,[]⟩))) pre=kO at *;rw[E.az]at hx e3;rw[Sm.az];refine ay (sf:=E6) rfl rfl rfl ?_;generalize iN b pre=st at *;generalize iN (b.plus x.2) pre=kL at *;generalize aI e.aC=KV at *;generalize aI s.es=EV at *;generalize aS s.bd=DV at *;generalize aS s.el=LV at *;simp[E6,e1,e2,e3,e4,d1,u1,k2,eC.bg,AV.view,c8,hx,ha,cut,ag];rw[if_neg c8];by_cases c9:s.k=9;rw[if_pos c9];obtain⟨e,jR,h0,dF,e3,O3⟩:=one (.inr c9);rw[h0];have hx:=eP e b pre O3 (hb.le (by omega));generalize cE b.vars.length b.aB.length e=x at *;have k1:aD (aI e.aC)=true:=aQ;have k2:(aI e.aC).view=aI e.aC:=aN;rw[E.az]at hx e3;rw[Sm.az];refine ay (sf:=E6) rfl rfl rfl ?_;generalize iN b pre=st at *;generalize iN (b.plus x.2) pre=kL at *;generalize aI e.aC=KV at *;generalize aI s.es=EV at *;generalize aS s.bd=DV at *;generalize aS s.el=LV at *;simp[E6,e1,e2,e3,e4,d1,u1,k2,eC.bg,AV.view,c9,hx,cut];rw[if_neg c9,kI,Sm.az];refine ay (sf:=E6) rfl rfl rfl ?_;generalize iN b pre=st at *;generalize aI s.es=EV at *;generalize aS s.bd=DV at *;generalize aS s.el=LV at *;have c2:¬s.k=2:=λh=>c (.inl h);have c3:¬s.k=3:=λh=>c (.inr h);simp[E6,e1,d1,u1,eC.bg,AV.view,c2,c3,c4,c5,c6,c7,c8,c9,cut]
end Bn
