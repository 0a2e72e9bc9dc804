/- Part of a proof. -/
import Derived.Test.YtgblgbgjmgjfkaaGreatW

open List renaming length->Q
open Option renaming some->Z
open Bool renaming true->Y,false->X
open Decidable renaming decide->V
open List renaming getElem_mem->aah,drop_eq_getElem_cons->aan,drop_length->aaF,mem_cons_self->aat,getElem?_append_left->aaj,cons_append->abb,nil_append->aeN,getElem?_eq_some_iff->aad
open Nat renaming add_assoc->afx
set_option maxRecDepth 100000
set_option maxHeartbeats 2000000
namespace LN
open Ax Go aM V7 jb jn qA
open uE (Bl eK DG DH qC qD qE nq fK fz)
def qo(b:Bl)(k:Nat):List AV:=[b.aR,eK 3 (b.glo.map T3.cells),eK 7 (b.aJ.map Cd.aK),eK 4 (b.aI.map Sd.aK),.int .i64 b.main,.int .i64 (Q b.aJ),
 .int .i64 b.params,eK 3 (b.vars.map T3.cells),.bool b.bY,.int .i64 b.res.b,.int .i64 b.res.r,.int .i64 b.res.d,DG b.is k]
def kD(b:Bl)(pre:aO):aO:=pre++.rows 0 13 [qo b (Q pre+1)]::DH b.is
theorem Hf(pre:aO)(o)(r:aO):(pre++o::r)[Q pre]?=Z o:=by simp
variable (wl ai:Nat)
theorem ad8(b pre i v)(_:v.aH=Y)(j:v.cT=Y)(p:v.aj=tG i.args)(o:Q b.is<1000000000):
  (bh S).call 0 0 92 [.ptr (Q pre) 0 0 0,.agg [.int .i64 i.op,.int .i64 i.a,.int .i64 i.b,.int .i64 i.c,.int .i64 i.n,v]] (kD b pre)=Z (.int .i64 (Q b.is),kD { b with is:=b.is++[i] } pre):=by
 refine aG (sf:=s92) rfl rfl rfl ?_;have U:=qC i.args;have P:=qD i.args;have h:=qE i.args;have k:(Q b.is+1)*64<=dj:=by unfold dj;omega
 have g:64<=dj:=by decide
 have l:IntKind.i64.wrap ((Q b.is:Nat):Int)=Q b.is:=by rw[dg]<;>omega
 have H:IntKind.i64.wrap 0=0:=by decide
 have m:Q (pre++[iW.rows 0 13 [[b.aR,eK 3 (b.glo.map T3.cells),eK 7 (b.aJ.map Cd.aK),eK 4 (b.aI.map Sd.aK),.int .i64 b.main,.int .i64 (Q b.aJ),.int .i64 b.params,eK 3 (b.vars.map T3.cells),.bool b.bY,.int .i64 b.res.b,.int .i64 b.res.r,.int .i64 b.res.d,.aF]]])=Q pre+1:=by simp
 by_cases e:b.is=[];simp[s92,kD,qo,DG,DH,e,In.aK,bw,AV.aD,AV.aH,aA,ay,cut,j,p,U,P,h,cy,g,-List.append_assoc];simp;exact H;simp[s92,kD,qo,DG,DH,e,In.aK,bw,AV.aD,AV.aH,aB,aA,ay,cut,j,p,U,P,h,cy,k,l];have:=List.length_pos_iff.2 e;omega
end LN
namespace LN
open Ax Go aM V7 jb jn qA
open uE (Bl eK DG DH qC qD qE nq fK fz)
variable (wl ai:Nat)
theorem pC(b pre i)(l:Q b.is<1000000000):
  (bh S).call 0 0 92 [.ptr (Q pre) 0 0 0,.agg i.aK] (kD b pre)=Z (.int .i64 (Q b.is),kD { b with is:=b.is++[i] } pre):=
 ad8 b pre i (tG i.args) (qC _) (qD _) (qE _) l
theorem Xl(pre:aO)(o)(r:aO):List.take (Q pre+(Q r+1)) (pre++o::r)=pre++o::r:=List.take_of_length_le (by simp)
theorem Pp(b pre t)(l:Q b.vars<1000000000):
  (bh S).call 0 ai 37 [.ptr (Q pre) 0 0 0,.agg t.cells] (kD b pre)=Z (.int .i64 (Q b.vars),kD { b with vars:=b.vars++[t] } pre):=by
 refine aG (sf:=s37) rfl rfl rfl ?_;have j:(Q b.vars+1)*24<=dj:=by unfold dj;omega
 have g:24<=dj:=by decide
 have k:IntKind.i64.wrap ((Q b.vars:Nat):Int)=Q b.vars:=by rw[dg]<;>omega
 have H:IntKind.i64.wrap 0=0:=by decide
 by_cases e:b.vars=[];have B:eK 3 (b.vars.map T3.cells)=.aF:=by simp[eK,e]
 have h:eK 3 ((b.vars++[t]).map T3.cells)=.iY 3 [t.cells]:=by simp[eK,e]
 simp only[kD,qo,B,h];simp[s37,e,T3.cells,bw,AV.aD,AV.aH,AV.gK,bD,gP,gT,bO,aB,aA,ay,cut,Xl,cy,g,H];have B:eK 3 (b.vars.map T3.cells)=.iY 3 (b.vars.map T3.cells):=by simp[eK,e]
 have h:eK 3 ((b.vars++[t]).map T3.cells)=.iY 3 (b.vars.map T3.cells++[t.cells]):=by simp[eK]
 simp only[kD,qo,B,h];simp[s37,T3.cells,bw,AV.aD,AV.aH,AV.gK,bD,gP,gT,bO,aB,aA,ay,cut,Xl,cy,j,k]
theorem Pq(b pre t)(l:Q b.aI<1000000000):
  (bh S).call 0 ai 157 [.ptr (Q pre) 0 0 0,.agg t.cells] (kD b pre)=Z (.int .i64 (Q b.aI),kD { b with aI:=b.aI++[⟨Q b.aJ,t⟩] } pre):=by
 refine aG (sf:=ahh) rfl rfl rfl ?_;have j:(Q b.aI+1)*32<=dj:=by unfold dj;omega
 have g:32<=dj:=by decide
 have k:IntKind.i64.wrap ((Q b.aI:Nat):Int)=Q b.aI:=by rw[dg]<;>omega
 have H:IntKind.i64.wrap 0=0:=by decide
 by_cases e:b.aI=[];have B:eK 4 (b.aI.map Sd.aK)=.aF:=by simp[eK,e]
 have h:eK 4 ((b.aI++[(⟨Q b.aJ,t⟩:Sd)]).map Sd.aK)=.iY 4 [[.int .i64 (Q b.aJ),.int .i64 t.b,.int .i64 t.r,.int .i64 t.d]]:=by simp[eK,e,Sd.aK]
 simp only[kD,qo,B,h];simp[ahh,e,T3.cells,bD];rw[iu];simp[cY,fh,cA,bP,eu.aX,bw,AV.aD,AV.aH,AV.gK,bD,gP,gT,bO,aB,cut,cy,g];refine⟨_,_,⟨rfl,rfl⟩,?_⟩;simp[bO,AV.cP,AV.aj,kz.de,AV.de,cut,AV.aH,bD,gP,Xl,H];have B:eK 4 (b.aI.map Sd.aK)=.iY 4 (b.aI.map Sd.aK):=by simp[eK,e]
 have h:eK 4 ((b.aI++[(⟨Q b.aJ,t⟩:Sd)]).map Sd.aK)=.iY 4 (b.aI.map Sd.aK++[[.int .i64 (Q b.aJ),.int .i64 t.b,.int .i64 t.r,.int .i64 t.d]]):=by simp[eK,Sd.aK]
 simp only[kD,qo,B,h];simp[ahh,T3.cells,bD];rw[iu];simp[cY,fh,cA,bP,eu.aX,bw,AV.aD,AV.aH,AV.gK,bD,gP,gT,bO,aB,cut,cy,j];refine⟨_,_,⟨rfl,rfl⟩,?_⟩;simp[bO,AV.cP,AV.aj,kz.de,AV.de,cut,AV.aH,bD,gP,Xl,k]
end LN
namespace LN
open Ax Go aM V7 jb jn qA
open uE (Bl eK DG DH qC qD qE nq fK fz Fb g8 oh sC pX Ld)
def PE(e:E):Prop:=∀(b:Bl)(pre:aO),LE e->Fb b (E.sz e)->(bh S).call 0 0 137 [.ptr (Q pre) 0 0 0,.agg e.aK] (kD b pre)=Z (.int .i64 (cE (Q b.vars) (Q b.aI) e).1,kD (b.plus (cE (Q b.vars) (Q b.aI) e).2) pre)
theorem ym(l)(P:∀e∈l,PE e)(b pre)(W:LL l)(H:Fb b (E.eJ l)):
  (bh S).call 0 0 138 [.ptr (Q pre) 0 0 0,bL l] (kD b pre)=Z (cw 1 (aT (lT (Q b.vars) (Q b.aI) l).1),kD (b.plus (lT (Q b.vars) (Q b.aI) l).2) pre):=by
 have O:cU 11 (bL l)=Y:=zE;have q:bn (bL l)=Y:=cu;have r:(bL l).aj=bL l:=ck;have p:bf (bL l)=E.rows l:=br;have n:=E.mq l;have N:Q l<1000000000:=by have:=H.1;omega
 rw[yQ]at W;have s:Q (E.rows l)=Q l:=by simp[jI]
 refine aG (sf:=ams) rfl rfl rfl ?_;generalize bL l=T at *;simp[ams];refine bM WD.eq_1 (λx:Nat×List Int×Bl=>⟨[(0,.val (.ptr (Q pre) 0 0 0)),(1,.val T),(5,.val (cw 1 (aT x.2.1))),(6,.val (.int .i64 x.1))],[],kD x.2.2 pre⟩)
  (λx=>x.1<=Q l/\Q x.2.1=x.1/\Fb x.2.2 (E.eJ (l.drop x.1))/\(x.2.1++(lT (Q x.2.2.vars) (Q x.2.2.aI) (l.drop x.1)).1,x.2.2.plus (lT (Q x.2.2.vars) (Q x.2.2.aI) (l.drop x.1)).2)=((lT (Q b.vars) (Q b.aI) l).1,b.plus (lT (Q b.vars) (Q b.aI) l).2)) (λx=>Q l-x.1) (0,[],b) (by simp[cw,aT]) ⟨by simp,rfl,by simpa using H,by simp⟩ ?_
 rintro⟨k,g,B⟩ ⟨M,h,F,j⟩ U;simp only at M h F j U;by_cases R:k<Q l;have J:=wk k (by omega);have o:=aah R;rw[aan R]at F j;simp only[E.eJ]at F;have m:=P _ o B pre (W _ o) (F.le (by omega));have G:=xx l[k] (Q B.vars) (Q B.aI);have w:=F.plus G;rw[qB]at j;obtain⟨pv,_,ps⟩:=g8 B (cE (Q B.vars) (Q B.aI) l[k]).2;have e1:bn (bL l[k].aP)=Y:=cu;have v:(bL l[k].aP).aj=bL l[k].aP:=ck;have mY:k<Q (E.rows l):=by simpa [jI] using R
 have D:=Ch R mY;have tV:wS 1 8 (cw 1 (aT g)) [[.int .i64 (cE (Q B.vars) (Q B.aI) l[k]).1]]=Z (cw 1 (aT (g++[(cE (Q B.vars) (Q B.aI) l[k]).1]))):=by
  rw[iw (by rfl) (by simp[dj];omega)];simp
 have I:=U (k+1,g++[(cE (Q B.vars) (Q B.aI) l[k]).1],B.plus (cE (Q B.vars) (Q B.aI) l[k]).2) ⟨by simp only;omega,by simp[h],w,by
  simp only[pv,ps];rw[<-j,oh];simp⟩ (by simp only;omega)
 simp only at I;rw[E.aU]at m D;generalize cE (Q B.vars) (Q B.aI) l[k]=y at *;generalize l[k]=x at *;generalize bL x.aP=xe at *;have z:bn (cw 1 (aT g))=Y:=ey;have g1:bn (cw 1 (aT (g++[y.1])))=Y:=ey;generalize cw 1 (aT (g++[y.1]))=m1 at *;generalize cw 1 (aT g)=m0 at *;simp[R,s,J,O,q,r,p,D,m,v,tV,AV.aj];exact I;have t:k=Q l:=by omega
 rw[t,aaF]at j;have C:(lT (Q b.vars) (Q b.aI) l).1=g:=by
  have:=congrArg Prod.fst j;simpa [lT] using this.symm
 have L:b.plus (lT (Q b.vars) (Q b.aI) l).2=B:=by
  have:=congrArg Prod.snd j;simp only[lT]at this;rw[sC]at this;exact this.symm
 rw[C,L];have z:bn (cw 1 (aT g))=Y:=ey;generalize cw 1 (aT g)=m0 at *;simp[R,s,q,r,p]
theorem nO(e):PE e:=by
 induction e using E.C6 with
 |_ e ih=>
  intro b pre hL hb;rw[adC]at hL;obtain⟨hT,R,h2,hk,hr,aea⟩:=hL;have hsk:=E.sx e;have g:bn (bL e.aP)=Y:=cu;have t:(bL e.aP).aj=bL e.aP:=ck;have z:tG []=.aF:=rfl;by_cases q:e.k=4/\0<=e.ref;rw[D5,af q,sC,E.aU];obtain⟨st,iX⟩:∃s,s=kD b pre:=⟨_,rfl⟩;rw[<-iX];refine aG (sf:=yI) rfl rfl rfl ?_;generalize bL e.aP=p at *;simp[yI,g,eu.aX,AV.aj,q];have o:=ym e.aP ih b pre aea (hb.le (by omega));have GC:=UH e.aP (Q b.vars) (Q b.aI);have f1:Fb (b.plus (lT (Q b.vars) (Q b.aI) e.aP).2) 1:=uE.Fb.plus (hb.le (by omega)) GC;have P:=Ld (Q b.vars) (Q b.aI) e.aP;obtain⟨pv,pi,ps⟩:=g8 b (lT (Q b.vars) (Q b.aI) e.aP).2;rw[D5,U q];unfold cK;generalize lT (Q b.vars) (Q b.aI) e.aP=x at *;have q1:e.k=4->¬0<=e.ref:=λa b=>q ⟨a,b⟩;have G:bn (cw 1 (aT x.1))=Y:=ey;have m2:(cw 1 (aT x.1)).aj=aN 1 (aT x.1):=rfl;have m3:bn (aN 1 (aT x.1))=Y:=bU;have m4:(aN 1 (aT x.1)).aj=aN 1 (aT x.1):=cg;have D:bf (aN 1 (aT x.1))=aT x.1:=br;have m6:cU 1 (aN 1 (aT x.1))=Y:=zI;have C:bf (cw 1 (aT x.1))=aT x.1:=oZ;have I:cU 1 (cw 1 (aT x.1))=Y:=by rw[Ja];simp[cy,aT]
  by_cases T:e.ty=T0;have c7:=hT T;have H:=ad8 (b.plus x.2) pre ⟨13,-1,0,e.ref,0,x.1⟩ _ (dV G) (j9 G) rfl (by have:=f1.2.1;omega);rw[pX,oh]at H;rw[af T];have j:e.ty.b=0/\e.ty.r=0/\e.ty.d=0:=by rw[T];exact⟨rfl,rfl,rfl⟩
  obtain⟨eb1,eb2,eb3⟩:=j;simp only;rw[E.aU];refine aG (sf:=yI) rfl rfl rfl ?_;generalize kD (b.plus (x.2.eD (gx ⟨13,-1,0,e.ref,0,x.1⟩))) pre=qh,kD (b.plus x.2) pre=qS,kD b pre=st,cw 1 (aT x.1)=M,bL e.aP=p at *;simp[yI,g,t,eu.aX,AV.aj,c7,eb1,eb2,eb3,o,G,H,aB];rw[U T];have j:(V (e.ty.b=0)&&(V (e.ty.r=0)&&V (e.ty.d=0)))=X:=by
   rcases h:e.ty with⟨u,v,w⟩;rw[h]at T;by_cases a:u=0<;>by_cases b:v=0<;>by_cases c:w=0<;>simp_all
  have m:=λli=>Pp li (b.plus x.2) pre e.ty (by have:=f1.1;omega);obtain⟨B,F⟩:∃B,B={ b.plus x.2 with vars:=(b.plus x.2).vars++[e.ty] }:=⟨_,rfl⟩;rw[<-F,pv]at m;have JF:Q B.is<1000000000:=by rw[F];have:=f1.2.1;show Q (b.plus x.2).is<_;omega
  have E2:Q B.aI<1000000000:=by rw[F];have:=f1.2.2;show Q (b.plus x.2).aI<_;omega
  have hs:=λli=>Pq li B pre e.ty E2;have kO:Q B.aI=Q b.aI+Q x.2.ss:=by rw[F];exact ps
  rw[kO]at hs;simp only;have mJ:∀J:In,¬(e.k=8\/e.k=9)->{ B with is:=B.is++[J] }=b.plus (x.2.eD ⟨[e.ty],[J],if e.k=8\/e.k=9 then [e.ty] else []⟩):=λJ c=>by
   rw[F];simp[c,Bl.plus,nj.eD]
  have ayz:∀J:In,(e.k=8\/e.k=9)->{ B with aI:=B.aI++[(⟨Q B.aJ,e.ty⟩:Sd)],is:=B.is++[J] }=b.plus (x.2.eD ⟨[e.ty],[J],if e.k=8\/e.k=9 then [e.ty] else []⟩):=λJ c=>by
   rw[F];simp[c,Bl.plus,nj.eD]
  have Bu:∀{l:List Int},Q l=1->aT l=[[.int .i64 (rE l)]]:=adF;have ZD:∀{l:List Int},Q l=2->aT l=[[.int .i64 (rE l)],[.int .i64 (Mf l)]]:=adG;simp only[T3.cells]at m hs;by_cases c8:e.k=8\/e.k=9;have H:=pC { B with aI:=B.aI++[⟨Q B.aJ,e.ty⟩] } pre (mB e.k e.n e.ref ((Q b.vars+Q x.2.vs:Nat):Int) ((Q b.aI+Q x.2.ss:Nat):Int) x.1) JF;rw[ayz _ c8]at H;generalize kD (b.plus (x.2.eD ⟨[e.ty],[mB e.k e.n e.ref ((Q b.vars+Q x.2.vs:Nat):Int) ((Q b.aI+Q x.2.ss:Nat):Int) x.1],if e.k=8\/e.k=9 then [e.ty] else []⟩)) pre=st4 at *;generalize ((Q b.vars+Q x.2.vs:Nat):Int)=tv,((Q b.aI+Q x.2.ss:Nat):Int)=sv,kD { B with aI:=B.aI++[⟨Q B.aJ,e.ty⟩] } pre=st3 at *;rw[E.aU];refine aG (sf:=yI) rfl rfl rfl ?_;generalize kD B pre=qh,kD (b.plus x.2) pre=qS,kD b pre=st at *;rcases c8 with c8|c9;simp only[mB,c8,In.aK]at H;simp[z]at H;generalize cw 1 (aT x.1)=M,bL e.aP=p at *;simp[yI,g,t,eu.aX,AV.aj,c8,j,o,m,hs,H,aB];have hl:=P.trans (R (by omega));simp only[mB,c9,In.aK]at H;simp[z]at H;generalize aN 1 (aT x.1)=L,cw 1 (aT x.1)=M,bL e.aP=p at *;rw[Bu hl]at D C;simp[yI,g,t,eu.aX,AV.aj,c9,j,o,m];rw[iu];simp[cY,fh,cA,bP,eu.aX,hs,H,C,I,aB,AV.aj];refine⟨_,_,⟨rfl,rfl⟩,?_⟩;simp[kz.de,AV.de,AV.vk,AV.rM,AV.aj,AV.cP,C,I,cut];have H:=pC B pre (mB e.k e.n e.ref ((Q b.vars+Q x.2.vs:Nat):Int) ((Q b.aI+Q x.2.ss:Nat):Int) x.1) JF;rw[mJ _ c8]at H;have y:=ad8 B pre (mB e.k e.n e.ref ((Q b.vars+Q x.2.vs:Nat):Int) ((Q b.aI+Q x.2.ss:Nat):Int) x.1) (cw 1 (aT x.1)) (dV G) (j9 G);rw[mJ _ c8]at y;generalize kD (b.plus (x.2.eD ⟨[e.ty],[mB e.k e.n e.ref ((Q b.vars+Q x.2.vs:Nat):Int) ((Q b.aI+Q x.2.ss:Nat):Int) x.1],if e.k=8\/e.k=9 then [e.ty] else []⟩)) pre=st4 at *;generalize ((Q b.vars+Q x.2.vs:Nat):Int)=tv,((Q b.aI+Q x.2.ss:Nat):Int)=sv at *;have N:¬e.k=8:=λh=>c8 (.inl h);have O:¬e.k=9:=λh=>c8 (.inr h);rw[E.aU];refine aG (sf:=yI) rfl rfl rfl ?_;generalize kD B pre=qh,kD (b.plus x.2) pre=qS,kD b pre=st at *;by_cases c1:e.k=1;simp only[mB,c1,In.aK]at H;simp[z]at H;generalize cw 1 (aT x.1)=M,bL e.aP=p at *;simp[yI,g,t,eu.aX,AV.aj,c1,j,o,m,H,aB];by_cases c2:e.k=2;simp only[mB,c2,In.aK]at H;simp[z]at H;generalize cw 1 (aT x.1)=M,bL e.aP=p at *;simp[yI,g,t,eu.aX,AV.aj,c2,j,o,m,H,aB];by_cases c3:e.k=3;simp only[mB,c3,In.aK]at H;simp[z]at H;generalize cw 1 (aT x.1)=M,bL e.aP=p at *;simp[yI,g,t,eu.aX,AV.aj,c3,j,o,m,H,aB];by_cases c4:e.k=4;have hq:=q1 c4;have hw:IntKind.i64.wrap (-1-e.ref) = -1-e.ref:=by have:=hr c4;rw[dg]<;>omega
  simp only[mB,c4,In.aK]at H;simp[z]at H;generalize cw 1 (aT x.1)=M,bL e.aP=p at *;simp[yI,g,t,eu.aX,AV.aj,c4,hq,j,o,m,hw,H,aB];by_cases W:e.k=5
  skip
  simp only[mB,W,In.aK]at H;simp[z]at H;generalize aN 1 (aT x.1)=L,cw 1 (aT x.1)=M,bL e.aP=p at *;rw[Bu (P.trans (R (by omega)))]at D C;simp[yI,g,t,eu.aX,AV.aj,W,j,o,C,I,m,H,aB,aA,ay];by_cases c6:e.k=6
  skip
  simp only[mB,c6,In.aK]at H;simp[z]at H;generalize aN 1 (aT x.1)=L,cw 1 (aT x.1)=M,bL e.aP=p at *;rw[ZD (P.trans (h2 (by omega)))]at D C;simp[yI,g,t,eu.aX,AV.aj,c6,j,o,m2,D,m6,m,H,aB,aA,ay];by_cases c7:e.k=7;have S:(cw 1 (aT x.1)).aj=tG (mB e.k e.n e.ref tv sv x.1).args:=by rw[c7];rfl
  have y:=y S JF;simp only[mB,c7]at y;simp at y;clear H S;generalize cw 1 (aT x.1)=M,bL e.aP=p at *;simp[yI,g,t,eu.aX,AV.aj,c7,j,o,G,m,y,aB];by_cases D4:e.k=10
  skip
  simp only[mB,D4,In.aK]at H;simp[z]at H;generalize aN 1 (aT x.1)=L,cw 1 (aT x.1)=M,bL e.aP=p at *;rw[Bu (P.trans (R (by omega)))]at D C;simp[yI,g,t,eu.aX,AV.aj,D4,j,o,C,I,m,H,aB];by_cases Mg:e.k=11;simp only[mB,Mg,In.aK]at H;simp[z]at H;generalize cw 1 (aT x.1)=M,bL e.aP=p at *;simp[yI,g,t,eu.aX,AV.aj,Mg,j,o,m,H,aB];by_cases Ew:e.k=12
  skip
  simp only[mB,Ew,In.aK]at H;simp[z]at H;generalize aN 1 (aT x.1)=L,cw 1 (aT x.1)=M,bL e.aP=p at *;rw[Bu (P.trans (R (by omega)))]at D C;simp[yI,g,t,eu.aX,AV.aj,Ew,j,o,C,I,m,H,aB,aA,ay];by_cases Gs:e.k=13
  skip
  simp only[mB,Gs,In.aK]at H;simp[z]at H;generalize aN 1 (aT x.1)=L,cw 1 (aT x.1)=M,bL e.aP=p at *;rw[Bu (P.trans (R (by omega)))]at D C;simp[yI,g,t,eu.aX,AV.aj,Gs,j,o,C,I,m,H,aB,aA,ay]
  skip
  simp only[mB,c1,c2,c3,c4,W,c6,c7,N,O,D4,Mg,Ew,Gs,In.aK,z,or_self,bC]at H;generalize aN 1 (aT x.1)=L,cw 1 (aT x.1)=M,bL e.aP=p at *;rw[ZD (P.trans (h2 (by omega)))]at D C;simp[yI,g,t,eu.aX,AV.aj,c1,c2,c3,c4,W,c6,c7,N,O,D4,Mg,Ew,Gs,j,o,m2,D,m6,m,H,aB,aA,ay]
end LN
namespace LN
open Ax Go aM V7 jb jn qA
open uE (Bl eK DG DH qC qD qE nq fK fz Fb g8 oh sC pX pz Ld Pd Pe)
def PS(s:Sm):Prop:=∀(b:Bl)(pre:aO),LS s->Fb b (2*Sm.sz s)->(bh S).call 0 0 91 [.ptr (Q pre) 0 0 0,.agg s.aK] (kD b pre)=Z (.fC [],kD (b.plus (cS (Q b.vars) (Q b.is) (Q b.aI) s)) pre)
theorem qz(l)(C:∀s∈l,PS s)(b pre)(W:LB l)(h:Fb b (2*Sm.eJ l)):
  (bh S).call 0 0 38 [.ptr (Q pre) 0 0 0,cn l] (kD b pre)=Z (.fC [],kD (b.plus (cB (Q b.vars) (Q b.is) (Q b.aI) l)) pre):=by
 have z:cU 9 (cn l)=Y:=zL (by simp[cy,kB,Sm.aU]);have o:bn (cn l)=Y:=cW;have p:(cn l).aj=cn l:=bZ;have n:bf (cn l)=Sm.rows l:=br;have m:=Sm.mq l;have N:Q l<1000000000:=by have:=h.1;omega
 rw[O7]at W;have q:Q (Sm.rows l)=Q l:=by simp[kB]
 refine aG (sf:=s38) rfl rfl rfl ?_;generalize cn l=M at *;simp[s38];refine bM acK.eq_1 (λx:Nat×Bl=>⟨[(0,.val (.ptr (Q pre) 0 0 0)),(1,.val M),(4,.val (.int .i64 x.1))],[],kD x.2 pre⟩)
  (λx=>x.1<=Q l/\Fb x.2 (2*Sm.eJ (l.drop x.1))/\x.2.plus (cB (Q x.2.vars) (Q x.2.is) (Q x.2.aI) (l.drop x.1))=b.plus (cB (Q b.vars) (Q b.is) (Q b.aI) l)) (λx=>Q l-x.1) (0,b) (by simp) ⟨by simp,by simpa using h,by simp⟩ ?_
 rintro⟨k,B⟩ ⟨w,F,j⟩ U;simp only at w F j U;by_cases R:k<Q l;have J:=wk k (by omega);have H:=aah R;rw[aan R]at F j;simp only[Sm.eJ]at F;have g:=C _ H B pre (W _ H) (F.le (by omega));have G:=akc l[k] (W _ H) (Q B.vars) (Q B.is) (Q B.aI);have v:=uE.Fb.plus (F.le (by omega:2*Sm.sz l[k]+2*Sm.eJ (l.drop (k+1))<=_)) G;rw[FF]at j;unfold K5 at j;obtain⟨pv,P,ps⟩:=g8 B (cS (Q B.vars) (Q B.is) (Q B.aI) l[k]);obtain⟨e1,T,l1⟩:bn (bL l[k].es)=Y/\bn (cn l[k].bd)=Y/\bn (cn l[k].el)=Y:=⟨cu,cW,cW⟩;have E:(bL l[k].es).aj=bL l[k].es:=ck;have r:(cn l[k].bd).aj=cn l[k].bd:=bZ;have L:(cn l[k].el).aj=cn l[k].el:=bZ;have O:k<Q (Sm.rows l):=by omega
 have D:=Dc R O;have I:=U (k+1,B.plus (cS (Q B.vars) (Q B.is) (Q B.aI) l[k])) ⟨by simp only;omega,v,by
  simp only[pv,P,ps];rw[<-j,oh]⟩ (by simp only;omega)
 simp only at I;rw[Sm.aU]at g D;generalize cS (Q B.vars) (Q B.is) (Q B.aI) l[k]=y at *;generalize l[k]=x at *;generalize bL x.es=xe,cn x.bd=xb,cn x.el=xl at *;simp[R,q,J,z,o,p,n,D,g,E,r,L,AV.aj];exact I;have t:k=Q l:=by omega
 rw[t,aaF,K6,sC]at j;rw[<-j];simp[R,q,o,p,n]
structure Pt (b:Bl)(pre:aO)(H:List AV)(V:Nat)(R:List (List AV)):Prop where
 eq:kD b pre=pre++.rows 0 13 [H++[.mu (pre.length+1) V]]::[.rows V 6 R]
 len:R.length=b.is.length
 set:∀(i:Nat) (a:In),(pre++.rows 0 13 [H++[.mu (pre.length+1) V]]::[.rows V 6 (R.set i (In.aK a))]:aO)=kD (b.AM i a) pre
 get:∀(i:Nat) (a:In),b.is[i]?=some a->R[i]?=some a.aK
theorem Pr(b pre)(h:b.is≠[]):kD b pre=pre++.rows 0 13 [[b.aR,eK 3 (b.glo.map T3.cells),eK 7 (b.aJ.map Cd.aK),eK 4 (b.aI.map Sd.aK),.int .i64 b.main,.int .i64 (Q b.aJ),
  .int .i64 b.params,eK 3 (b.vars.map T3.cells),.bool b.bY,.int .i64 b.res.b,.int .i64 b.res.r,.int .i64 b.res.d,.mu (Q pre+1) (Q b.is-1)]]::[.rows (Q b.is-1) 6 (b.is.map In.aK)]:=by
 simp only[kD,qo,DG,DH,U h]
theorem SF(b pre)(h:b.is≠[]):∃r0 j k l m n U o p q r g v R,Pt b pre [r0,j,k,l,m,n,U,o,p,q,r,g] v R:=by
 refine⟨_,_,_,_,_,_,_,_,_,_,_,_,Q b.is-1,b.is.map In.aK,Pr b pre h,by simp,λi a=>?_,λi a h=>by simp[h]⟩;rw[Pr (b.AM i a) pre (by intro c;apply h;have:=congrArg List.length c;simp[uE.Bl.AM]at this;exact this)];simp[uE.Bl.AM,List.map_set]
theorem asX(s)(k5:s.k=5)(yN:∀x∈s.bd,PS x)(uC:∀x∈s.el,PS x)(b pre)(h1:Q s.es=1)(hL:LL s.es)(hB:LB s.bd)(hE:LB s.el)(hb:Fb b (2*Sm.sz s)):
  (bh S).call 0 0 91 [.ptr (Q pre) 0 0 0,.agg s.aK] (kD b pre)=Z (.fC [],kD (b.plus (Qg (Q b.vars) (Q b.is) (Q b.aI) (cE (Q b.vars) (Q b.aI) (jR s.es)) (λnv at_ ns=>cB nv at_ ns s.bd) (λnv at_ ns=>cB nv at_ ns s.el))) pre):=by
 obtain⟨e,F⟩:∃e,s.es=[e]:=⟨_,K4 h1⟩;have h0:jR s.es=e:=by rw[F];rfl
 have fM:E.eJ s.es=E.sz e:=by rw[F];simp[E.eJ]
 have Bt:=Sm.w9 s;rw[h0];have hx:=nO e b pre ((yQ _).1 hL e (by rw[F];exact aat)) (hb.le (by omega));have GC:=xx e (Q b.vars) (Q b.aI);obtain⟨y,hy⟩:∃y,y=cB (Q b.vars+Q (cE (Q b.vars) (Q b.aI) e).2.vs) (Q b.is+Q (cE (Q b.vars) (Q b.aI) e).2.is+1) (Q b.aI+Q (cE (Q b.vars) (Q b.aI) e).2.ss) s.bd:=⟨_,rfl⟩;obtain⟨z,hz⟩:∃z,z=cB (Q b.vars+Q (cE (Q b.vars) (Q b.aI) e).2.vs+Q y.vs) (Q b.is+Q (cE (Q b.vars) (Q b.aI) e).2.is+1+Q y.is+1) (Q b.aI+Q (cE (Q b.vars) (Q b.aI) e).2.ss+Q y.ss) s.el:=⟨_,rfl⟩;rw[<-Pd b (cE (Q b.vars) (Q b.aI) e) y z _ _ hy hz];generalize cE (Q b.vars) (Q b.aI) e=x at *;obtain⟨_,pi,_⟩:=g8 b x.2;have O:=pC (b.plus x.2) pre ⟨17,x.1,0,0,0,[]⟩ (by
  have:=hb.2.1;have:=GC.2.1;omega)
 rw[pz,pi]at O;obtain⟨J,H⟩:∃J,J=b.plus (x.2.eD (gx ⟨17,x.1,0,0,0,[]⟩)):=⟨_,rfl⟩;rw[<-H]at O;have g0:J.is[Q b.is+Q x.2.is]?=Z ⟨17,x.1,0,0,0,[]⟩:=by
  rw[H];simp[uE.Bl.plus,nj.eD,gx]
 have l0:Q J.is=Q b.is+Q x.2.is+1:=by rw[H];simp[uE.Bl.plus,nj.eD,gx,afx]
 obtain⟨z0,z1,z2,z3,z4,z5,z6,z7,z8,z9,z10,z11,V0,R0,D⟩:=SF J pre (by intro c;rw[c]at l0;simp at l0);have w:=D.set (Q b.is+Q x.2.is) ⟨17,x.1,0,0,((Q b.is+Q x.2.is+1:Nat):Int),[]⟩;have e01:J.AM (Q b.is+Q x.2.is) ⟨17,x.1,0,0,((Q b.is+Q x.2.is+1:Nat):Int),[]⟩=b.plus (x.2.eD (gx ⟨17,x.1,0,0,((Q b.is+Q x.2.is+1:Nat):Int),[]⟩)):=by
  rw[H];simp[uE.Bl.plus,uE.Bl.AM,nj.eD,gx]
 rw[e01]at w;have q0:=D.get _ _ g0;have w0:Q b.is+Q x.2.is<Q R0:=by rw[D.len];omega
 obtain⟨B,T⟩:∃B,B=b.plus (x.2.eD (gx ⟨17,x.1,0,0,((Q b.is+Q x.2.is+1:Nat):Int),[]⟩)):=⟨_,rfl⟩;have l:Q B.vars=Q b.vars+Q x.2.vs/\Q B.is=Q b.is+Q x.2.is+1/\Q B.aI=Q b.aI+Q x.2.ss:=by
  rw[T];obtain⟨p,q,r⟩:=g8 b (x.2.eD (gx ⟨17,x.1,0,0,((Q b.is+Q x.2.is+1:Nat):Int),[]⟩));rw[p,q,r];simp[nj.eD,gx,afx]
 have g1:B.is[Q b.is+Q x.2.is]?=Z ⟨17,x.1,0,0,((Q b.is+Q x.2.is+1:Nat):Int),[]⟩:=by
  rw[T];simp[Bl.plus,nj.eD,gx]
 rw[<-T]at w ⊢;have f1:Fb B (2*Sm.eJ s.bd+(2*Sm.eJ s.el+1)):=by
  obtain⟨p1,p2,p3⟩:=hb;obtain⟨q1,q2,I⟩:=GC;obtain⟨r1,r2,r3⟩:=l;exact⟨by omega,by omega,by omega⟩
 have U:=qz s.bd yN B pre hB (f1.le (by omega));have VM:=Sj hB (Q b.vars+Q x.2.vs) (Q b.is+Q x.2.is+1) (Q b.aI+Q x.2.ss);rw[l.1,l.2.1,l.2.2,<-hy]at U;rw[<-hy]at VM;have f2:=f1.plus VM;obtain⟨m1,m2,m3⟩:=g8 B y;have g2:(B.plus y).is[Q b.is+Q x.2.is]?=Z ⟨17,x.1,0,0,((Q b.is+Q x.2.is+1:Nat):Int),[]⟩:=by
  show (B.is++y.is)[_]?=_;rw[aaj (by omega)];exact g1
 have t:=pC (B.plus y) pre ⟨16,0,0,0,0,[]⟩ (by have:=f2.2.1;omega);rw[pX,m2,l.2.1]at t;obtain⟨j,C⟩:∃j,j=(B.plus y).plus (gx ⟨16,0,0,0,0,[]⟩):=⟨_,rfl⟩;rw[<-C]at t ⊢;have L:Q j.vars=Q b.vars+Q x.2.vs+Q y.vs/\Q j.is=Q b.is+Q x.2.is+1+Q y.is+1/\Q j.aI=Q b.aI+Q x.2.ss+Q y.ss:=by
  rw[C];obtain⟨p,q,r⟩:=g8 (B.plus y) (gx ⟨16,0,0,0,0,[]⟩);rw[p,q,r,m1,m2,m3,l.1,l.2.1,l.2.2];simp[gx]
 have g3:j.is[Q b.is+Q x.2.is]?=Z ⟨17,x.1,0,0,((Q b.is+Q x.2.is+1:Nat):Int),[]⟩:=by
  rw[C];show ((B.plus y).is++_)[_]?=_;rw[aaj (by omega)];exact g2
 have g3j:j.is[Q b.is+Q x.2.is+1+Q y.is]?=Z ⟨16,0,0,0,0,[]⟩:=by
  rw[C];show ((B.plus y).is++[_])[_]?=_;rw[List.getElem?_append_right (by omega),m2,l.2.1];simp
 have ayE:Q j.is<1000000000:=by have:=f2.2.1;omega
 obtain⟨r0,r1,r2,r3,r4,r5,r6,r7,r8,r9,r10,r11,v,R,P⟩:=SF j pre (by intro c;rw[c]at L;simp at L);obtain⟨M,m⟩:∃M,M=j.AM (Q b.is+Q x.2.is) ⟨17,x.1,0,((Q b.is+Q x.2.is+1+Q y.is+1:Nat):Int),((Q b.is+Q x.2.is+1:Nat):Int),[]⟩:=⟨_,rfl⟩;have N:=P.set (Q b.is+Q x.2.is) ⟨17,x.1,0,((Q b.is+Q x.2.is+1+Q y.is+1:Nat):Int),((Q b.is+Q x.2.is+1:Nat):Int),[]⟩;rw[<-m]at N ⊢;have G:Q M.vars=Q j.vars/\Q M.is=Q j.is/\Q M.aI=Q j.aI:=by rw[m];simp[Bl.AM]
 have g4j:M.is[Q b.is+Q x.2.is+1+Q y.is]?=Z ⟨16,0,0,0,0,[]⟩:=by
  rw[m];show (j.is.set _ _)[_]?=_;rw[List.getElem?_set_ne (by omega)];exact g3j
 have f4:Fb M (2*Sm.eJ s.el):=by
  obtain⟨p1,p2,p3⟩:=f2;obtain⟨r1,r2,r3⟩:=L;obtain⟨q1,q2,I⟩:=G;exact⟨by omega,by omega,by omega⟩
 have n:=qz s.el uC M pre hE f4;have VI:=Sj hE (Q b.vars+Q x.2.vs+Q y.vs) (Q b.is+Q x.2.is+1+Q y.is+1) (Q b.aI+Q x.2.ss+Q y.ss);rw[G.1,G.2.1,G.2.2,L.1,L.2.1,L.2.2,<-hz]at n;rw[<-hz]at VI;obtain⟨n1,n2,n3⟩:=g8 M z;have aDN:Q (M.plus z).is<1000000000:=by have:=f4.2.1;have:=VI.2.1;omega
 have g5:(M.plus z).is[Q b.is+Q x.2.is+1+Q y.is]?=Z ⟨16,0,0,0,0,[]⟩:=by
  show (M.is++z.is)[_]?=_;rw[aaj (by omega)];exact g4j
 obtain⟨t0,t1,t2,t3,t4,t5,t6,t7,t8,t9,t10,t11,W,g,o⟩:=SF (M.plus z) pre (by intro c;have:=n2;rw[c,List.length_nil]at this;omega);have By:=o.set (Q b.is+Q x.2.is+1+Q y.is) ⟨16,0,0,0,((Q b.is+Q x.2.is+1+Q y.is+1+Q z.is:Nat):Int),[]⟩;have I:=P.get _ _ g3;have q5:=o.get _ _ g5;have w3:Q b.is+Q x.2.is<Q R:=by rw[P.len];omega
 have w5:Q b.is+Q x.2.is+1+Q y.is<Q g:=by rw[o.len];omega
 have hn:tG []=.aF:=rfl;have e1:bn (bL s.es)=Y:=cu;have e2:(bL s.es).aj=bL s.es:=ck;have e3:bf (bL s.es)=[e.aK]:=by show bf (aN _ _)=_;rw[br,F];rfl
 have e4:cU 11 (bL s.es)=Y:=zE;have d1:bn (cn s.bd)=Y:=cW;have d2:(cn s.bd).aj=cn s.bd:=bZ;have u1:bn (cn s.el)=Y:=cW;have u2:(cn s.el).aj=cn s.el:=bZ;have k1:bn (bL e.aP)=Y:=cu;have k2:(bL e.aP).aj=bL e.aP:=ck;have lr3:Q R=Q b.is+Q x.2.is+1+Q y.is+1:=by rw[P.len];omega
 have lr5:Q g=Q b.is+Q x.2.is+1+Q y.is+1+Q z.is:=by rw[o.len];omega
 have rJ:IntKind.i64.wrap (((Q b.is+Q x.2.is:Nat):Int)+1)=((Q b.is+Q x.2.is+1:Nat):Int):=by rw[dg]<;>omega
 have hw4:IntKind.i64.wrap (((Q b.is+Q x.2.is+1+Q y.is:Nat):Int)+1)=((Q b.is+Q x.2.is+1+Q y.is+1:Nat):Int):=by rw[dg]<;>omega
 have w55:Q b.is+Q x.2.is+1+Q y.is<Q b.is+Q x.2.is+1+Q y.is+1+Q z.is:=by omega
 simp only[In.aK,hn]at O t w N By q0 I q5;simp only[D.eq,P.eq,o.eq,abb,aeN]at hx O U t w N n By;rw[E.aU]at hx e3;rw[Sm.aU];refine aG (sf:=LI) rfl rfl rfl ?_;generalize kD ((M.plus z).AM (Q b.is+Q x.2.is+1+Q y.is) ⟨16,0,0,0,((Q b.is+Q x.2.is+1+Q y.is+1+Q z.is:Nat):Int),[]⟩) pre=st6 at *;generalize (Q b.is)+Q x.2.is+1+Q y.is+1+Q z.is=N5 at *;generalize (Q b.is)+Q x.2.is+1+Q y.is+1=N4 at *;generalize (Q b.is)+Q x.2.is+1+Q y.is=N3 at *;generalize (Q b.is)+Q x.2.is+1=N2 at *;generalize (Q b.is)+Q x.2.is=N1,kD (b.plus x.2) pre=stx,kD b pre=st,kD B pre=qS,kD (B.plus y) pre=qh,kD M pre=st4,bL e.aP=KV,bL s.es=EV,cn s.bd=DV,cn s.el=LV at *;have v0:=λh:N1<Q R0=>(aad.1 q0).2;have v3:=λh:N1<Q R=>(aad.1 I).2;have v5:=λh:N3<Q g=>(aad.1 q5).2;simp[LI,k5,e1,e2,e3,e4,d1,d2,u1,u2,k2,eu.aX,AV.aj,hx,O,w0,v0,rJ,w,U,t,w3,v3,hw4,N,n,w55,v5,lr5,By,cut,aB,bw,AV.aD,AV.aH,aA,ay]
theorem aec(s)(k6:s.k=6)(yN:∀x∈s.bd,PS x)(b pre)(h1:Q s.es=1)(hL:LL s.es)(hB:LB s.bd)(U:Fb b (2*Sm.sz s)):
  (bh S).call 0 0 91 [.ptr (Q pre) 0 0 0,.agg s.aK] (kD b pre)=Z (.fC [],kD (b.plus (Tn (Q b.vars) (Q b.is) (Q b.aI) (cE (Q b.vars) (Q b.aI) (jR s.es)) (λnv at_ ns=>cB nv at_ ns s.bd))) pre):=by
 obtain⟨e,z⟩:∃e,s.es=[e]:=⟨_,K4 h1⟩;have h0:jR s.es=e:=by rw[z];rfl
 have fM:E.eJ s.es=E.sz e:=by rw[z];simp[E.eJ]
 have Bt:=Sm.w9 s;rw[h0];have m:=nO e b pre ((yQ _).1 hL e (by rw[z];exact aat)) (U.le (by omega));have GC:=xx e (Q b.vars) (Q b.aI);obtain⟨y,hy⟩:∃y,y=cB (Q b.vars+Q (cE (Q b.vars) (Q b.aI) e).2.vs) (Q b.is+Q (cE (Q b.vars) (Q b.aI) e).2.is+1) (Q b.aI+Q (cE (Q b.vars) (Q b.aI) e).2.ss) s.bd:=⟨_,rfl⟩;rw[<-Pe b (cE (Q b.vars) (Q b.aI) e) y _ hy];generalize cE (Q b.vars) (Q b.aI) e=x at *;obtain⟨_,pi,_⟩:=g8 b x.2;have O:=pC (b.plus x.2) pre ⟨17,x.1,0,0,0,[]⟩ (by
  have:=U.2.1;have:=GC.2.1;omega)
 rw[pz,pi]at O;obtain⟨J,H⟩:∃J,J=b.plus (x.2.eD (gx ⟨17,x.1,0,0,0,[]⟩)):=⟨_,rfl⟩;rw[<-H]at O;have g0:J.is[Q b.is+Q x.2.is]?=Z ⟨17,x.1,0,0,0,[]⟩:=by
  rw[H];simp[uE.Bl.plus,nj.eD,gx]
 have l0:Q J.is=Q b.is+Q x.2.is+1:=by rw[H];simp[uE.Bl.plus,nj.eD,gx,afx]
 obtain⟨z0,z1,z2,z3,z4,z5,z6,z7,z8,z9,z10,z11,V0,I,D⟩:=SF J pre (by intro c;rw[c]at l0;simp at l0);have w:=D.set (Q b.is+Q x.2.is) ⟨17,x.1,0,0,((Q b.is+Q x.2.is+1:Nat):Int),[]⟩;have M:J.AM (Q b.is+Q x.2.is) ⟨17,x.1,0,0,((Q b.is+Q x.2.is+1:Nat):Int),[]⟩=b.plus (x.2.eD (gx ⟨17,x.1,0,0,((Q b.is+Q x.2.is+1:Nat):Int),[]⟩)):=by
  rw[H];simp[uE.Bl.plus,uE.Bl.AM,nj.eD,gx]
 rw[M]at w;have q0:=D.get _ _ g0;have w0:Q b.is+Q x.2.is<Q I:=by rw[D.len];omega
 obtain⟨B,F⟩:∃B,B=b.plus (x.2.eD (gx ⟨17,x.1,0,0,((Q b.is+Q x.2.is+1:Nat):Int),[]⟩)):=⟨_,rfl⟩;have L:Q B.vars=Q b.vars+Q x.2.vs/\Q B.is=Q b.is+Q x.2.is+1/\Q B.aI=Q b.aI+Q x.2.ss:=by
  rw[F];obtain⟨p,q,r⟩:=g8 b (x.2.eD (gx ⟨17,x.1,0,0,((Q b.is+Q x.2.is+1:Nat):Int),[]⟩));rw[p,q,r];simp[nj.eD,gx,afx]
 have g1:B.is[Q b.is+Q x.2.is]?=Z ⟨17,x.1,0,0,((Q b.is+Q x.2.is+1:Nat):Int),[]⟩:=by
  rw[F];simp[Bl.plus,nj.eD,gx]
 rw[<-F]at w ⊢;have f1:Fb B (2*Sm.eJ s.bd+1):=by
  obtain⟨p1,p2,p3⟩:=U;obtain⟨q1,q2,C⟩:=GC;obtain⟨r1,r2,r3⟩:=L;exact⟨by omega,by omega,by omega⟩
 have T:=qz s.bd yN B pre hB (f1.le (by omega));have VM:=Sj hB (Q b.vars+Q x.2.vs) (Q b.is+Q x.2.is+1) (Q b.aI+Q x.2.ss);rw[L.1,L.2.1,L.2.2,<-hy]at T;rw[<-hy]at VM;have f2:=f1.plus VM;obtain⟨m1,m2,m3⟩:=g8 B y;have g2:(B.plus y).is[Q b.is+Q x.2.is]?=Z ⟨17,x.1,0,0,((Q b.is+Q x.2.is+1:Nat):Int),[]⟩:=by
  show (B.is++y.is)[_]?=_;rw[aaj (by omega)];exact g1
 have j:=pC (B.plus y) pre ⟨16,0,0,0,(Q b.is:Int),[]⟩ (by have:=f2.2.1;omega);rw[pX,m2,L.2.1]at j;obtain⟨g,G⟩:∃g,g=(B.plus y).plus (gx ⟨16,0,0,0,(Q b.is:Int),[]⟩):=⟨_,rfl⟩;rw[<-G]at j ⊢;have l3:Q g.is=Q b.is+Q x.2.is+1+Q y.is+1:=by
  rw[G];obtain⟨p,q,r⟩:=g8 (B.plus y) (gx ⟨16,0,0,0,(Q b.is:Int),[]⟩);rw[q,m2,L.2.1];simp[gx]
 have g3:g.is[Q b.is+Q x.2.is]?=Z ⟨17,x.1,0,0,((Q b.is+Q x.2.is+1:Nat):Int),[]⟩:=by
  rw[G];show ((B.plus y).is++_)[_]?=_;rw[aaj (by omega)];exact g2
 have ayE:Q g.is<1000000000:=by have:=f2.2.1;omega
 obtain⟨r0,r1,r2,r3,r4,r5,r6,r7,r8,r9,r10,r11,v,R,P⟩:=SF g pre (by intro c;rw[c]at l3;simp at l3);have t:=P.set (Q b.is+Q x.2.is) ⟨17,x.1,0,((Q b.is+Q x.2.is+1+Q y.is+1:Nat):Int),((Q b.is+Q x.2.is+1:Nat):Int),[]⟩;have C:=P.get _ _ g3;have w3:Q b.is+Q x.2.is<Q R:=by rw[P.len];omega
 have hn:tG []=.aF:=rfl;have e1:bn (bL s.es)=Y:=cu;have e2:(bL s.es).aj=bL s.es:=ck;have N:bf (bL s.es)=[e.aK]:=by show bf (aN _ _)=_;rw[br,z];rfl
 have e4:cU 11 (bL s.es)=Y:=zE;have d1:bn (cn s.bd)=Y:=cW;have d2:(cn s.bd).aj=cn s.bd:=bZ;have u1:bn (cn s.el)=Y:=cW;have u2:(cn s.el).aj=cn s.el:=bZ;have k1:bn (bL e.aP)=Y:=cu;have k2:(bL e.aP).aj=bL e.aP:=ck;have o:Q R=Q b.is+Q x.2.is+1+Q y.is+1:=by rw[P.len];omega
 have rJ:IntKind.i64.wrap (((Q b.is+Q x.2.is:Nat):Int)+1)=((Q b.is+Q x.2.is+1:Nat):Int):=by rw[dg]<;>omega
 have W:Q b.is+Q x.2.is<Q b.is+Q x.2.is+1+Q y.is+1:=by omega
 simp only[In.aK,hn]at O j w t q0 C;rw[E.aU]at m N;rw[Sm.aU];refine aG (sf:=LI) rfl rfl rfl ?_;by_cases l:b.is=[];have iX:kD b pre=pre++.rows 0 13 [[b.aR,eK 3 (b.glo.map T3.cells),eK 7 (b.aJ.map Cd.aK),eK 4 (b.aI.map Sd.aK),.int .i64 b.main,.int .i64 (Q b.aJ),
  .int .i64 b.params,eK 3 (b.vars.map T3.cells),.bool b.bY,.int .i64 b.res.b,.int .i64 b.res.r,.int .i64 b.res.d,.aF]]::[]:=by simp only[kD,qo,DG,DH,af l]
 have aDQ:Q b.is=0:=by rw[l];rfl
 rw[iX]at m ⊢;generalize eK 3 (b.glo.map T3.cells)=OG,eK 7 (b.aJ.map Cd.aK)=OC,eK 4 (b.aI.map Sd.aK)=OS,eK 3 (b.vars.map T3.cells)=OV at *;have hz0:((Q b.is:Nat):Int)=0:=by omega
 rw[hz0]at j;simp only[D.eq,P.eq,abb,aeN]at m O T j w t;generalize kD (g.AM (Q b.is+Q x.2.is) ⟨17,x.1,0,((Q b.is+Q x.2.is+1+Q y.is+1:Nat):Int),((Q b.is+Q x.2.is+1:Nat):Int),[]⟩) pre=st6 at *;generalize (Q b.is)+Q x.2.is+1+Q y.is+1=N4 at *;generalize (Q b.is)+Q x.2.is+1+Q y.is=N3 at *;generalize (Q b.is)+Q x.2.is+1=N2 at *;generalize (Q b.is)+Q x.2.is=n,kD (b.plus x.2) pre=stx,kD B pre=qS,kD (B.plus y) pre=qh,bL e.aP=KV,bL s.es=EV,cn s.bd=DV,cn s.el=LV at *;have v0:=λh:n<Q I=>(aad.1 q0).2;have v3:=λh:n<Q R=>(aad.1 C).2;simp[LI,k6,e1,e2,N,e4,d1,d2,u1,k2,eu.aX,AV.aj,m,O,w0,v0,rJ,w,T,j,W,v3,o,t,cut,aB,bw,AV.aD,AV.aH,aA,ay];have iX:=Pr b pre l;have XZ:Q (b.is.map In.aK)=Q b.is:=by simp
 rw[iX]at m ⊢;generalize eK 3 (b.glo.map T3.cells)=OG,eK 7 (b.aJ.map Cd.aK)=OC,eK 4 (b.aI.map Sd.aK)=OS,eK 3 (b.vars.map T3.cells)=OV,Q b.is-1=VV,b.is.map In.aK=IR at *;simp only[D.eq,P.eq,abb,aeN]at m O T j w t;generalize kD (g.AM (Q b.is+Q x.2.is) ⟨17,x.1,0,((Q b.is+Q x.2.is+1+Q y.is+1:Nat):Int),((Q b.is+Q x.2.is+1:Nat):Int),[]⟩) pre=st6 at *;generalize (Q b.is)+Q x.2.is+1+Q y.is+1=N4 at *;generalize (Q b.is)+Q x.2.is+1+Q y.is=N3 at *;generalize (Q b.is)+Q x.2.is+1=N2 at *;generalize (Q b.is)+Q x.2.is=n,kD (b.plus x.2) pre=stx,kD B pre=qS,kD (B.plus y) pre=qh,bL e.aP=KV,bL s.es=EV,cn s.bd=DV,cn s.el=LV at *;have v0:=λh:n<Q I=>(aad.1 q0).2;have v3:=λh:n<Q R=>(aad.1 C).2;simp[LI,k6,XZ,e1,e2,N,e4,d1,d2,u1,k2,eu.aX,AV.aj,m,O,w0,v0,rJ,w,T,j,W,v3,o,t,cut,aB,bw,AV.aD,AV.aH,aA,ay]
theorem tL(b pre)(s:Sm)(g:s.k=2\/s.k=3)(t:Q s.es=1)(W:LL s.es)(J: -1000000000<s.ref)(n:Fb b (E.eJ s.es+1)):
  (bh S).call 0 0 91 [.ptr (Q pre) 0 0 0,.agg s.aK] (kD b pre)=Z (.fC [],kD (b.plus ((cE (Q b.vars) (Q b.aI) (jR s.es)).2.eD (gx (IK s.ref (cE (Q b.vars) (Q b.aI) (jR s.es)).1)))) pre):=by
 obtain⟨e,B⟩:∃e,s.es=[e]:=⟨_,K4 t⟩;have q:jR s.es=e:=by rw[B];rfl
 have O:E.eJ s.es=E.sz e:=by rw[B];simp[E.eJ]
 rw[q];have h:=nO e b pre ((yQ _).1 W e (by rw[B];exact aat)) (n.le (by omega));have G:=xx e (Q b.vars) (Q b.aI);have F:=(n.le (by omega:E.sz e+1<=_)).plus G;generalize cE (Q b.vars) (Q b.aI) e=x at *;have H:=pC (b.plus x.2) pre (IK s.ref x.1) (by have:=F.2.1;omega);rw[pz]at H;have m:bn (bL s.es)=Y:=cu;have r:(bL s.es).aj=bL s.es:=ck;have l:bf (bL s.es)=[e.aK]:=by show bf (aN _ _)=_;rw[br,B];rfl
 have p:cU 11 (bL s.es)=Y:=zE;have j:bn (cn s.bd)=Y:=cW;have I:(cn s.bd).aj=cn s.bd:=bZ;have L:bn (cn s.el)=Y:=cW;have N:(cn s.el).aj=cn s.el:=bZ;have M:bn (bL e.aP)=Y:=cu;have v:(bL e.aP).aj=bL e.aP:=ck;have o:tG []=.aF:=rfl;rw[E.aU]at h l;rw[Sm.aU];refine aG (sf:=LI) rfl rfl rfl ?_;generalize kD (b.plus (x.2.eD (gx (IK s.ref x.1)))) pre=qh,kD b pre=st,kD (b.plus x.2) pre=qS,bL e.aP=z,bL s.es=y,cn s.bd=D,cn s.el=C at *;by_cases c:s.ref<0;have w:IntKind.i64.wrap (-1-s.ref) = -1-s.ref:=by rw[dg]<;>omega
 simp only[IK,af c,In.aK,o]at H;rcases g with kk|kk<;>simp[LI,kk,m,r,l,p,j,L,v,eu.aX,AV.aj,h,cut,c,w,H,aB];simp only[IK,U c,In.aK,o]at H;rcases g with kk|kk<;>simp[LI,kk,m,r,l,p,j,L,v,eu.aX,AV.aj,h,cut,c,H,aB]
theorem yF(b pre)(s:Sm)(j:s.k=4)(O:Q s.es=2)(W:LL s.es)(R:(jR s.es).k=5\/(jR s.es).k=6)(w:Fb b (E.eJ s.es+1)):
  (bh S).call 0 0 91 [.ptr (Q pre) 0 0 0,.agg s.aK] (kD b pre)=Z (.fC [],kD (b.plus (O6 (Q b.vars) (Q b.aI) (jR s.es) (lT (Q b.vars) (Q b.aI) (jR s.es).aP) (λnv ns=>cE nv ns (es1 s.es)))) pre):=by
 obtain⟨e,f,B⟩:∃e f,s.es=[e,f]:=⟨_,_,adE O⟩;have N:jR s.es=e:=by rw[B];rfl
 have n:es1 s.es=f:=by rw[B];rfl
 have fM:E.eJ s.es=E.sz e+E.sz f:=by rw[B];simp[E.eJ]
 have T:=E.sx e;rw[N]at R ⊢;rw[n];rw[yQ]at W;have h:=W e (by rw[B];exact aat);rw[adC]at h;obtain⟨_,q1,q2,_,_,o⟩:=h;have G:=ym e.aP (λx _=>nO x) b pre o (w.le (by omega));have M:=UH e.aP (Q b.vars) (Q b.aI);have F:=(w.le (by omega:E.eJ e.aP+(E.sz f+1)<=_)).plus M;have P:=Ld (Q b.vars) (Q b.aI) e.aP;unfold O6;obtain⟨pv,pi,ps⟩:=g8 b (lT (Q b.vars) (Q b.aI) e.aP).2;generalize lT (Q b.vars) (Q b.aI) e.aP=x at *;have m:=nO f (b.plus x.2) pre (W f (by rw[B];simp)) (F.le (by omega));have g:=xx f (Q (b.plus x.2).vars) (Q (b.plus x.2).aI);have v:=F.plus g;rw[pv,ps]at m g v;simp only;generalize cE (Q b.vars+Q x.2.vs) (Q b.aI+Q x.2.ss) f=y at *;have H:=pC ((b.plus x.2).plus y.2) pre (IL e.k e.ref y.1 x.1) (by have:=v.2.1;omega);simp only[pX,oh,W8]at H m;rw[W8];have q:bn (bL s.es)=Y:=cu;have r:(bL s.es).aj=bL s.es:=ck;have l:bf (bL s.es)=[e.aK,f.aK]:=by show bf (aN _ _)=_;rw[br,B];rfl
 have t:cU 11 (bL s.es)=Y:=zE;have p:bn (cn s.bd)=Y:=cW;have b2:(cn s.bd).aj=cn s.bd:=bZ;have L:bn (cn s.el)=Y:=cW;have l2:(cn s.el).aj=cn s.el:=bZ;have k1:bn (bL e.aP)=Y:=cu;have I:(bL e.aP).aj=bL e.aP:=ck;have k3:bn (bL f.aP)=Y:=cu;have J:(bL f.aP).aj=bL f.aP:=ck;have z:tG []=.aF:=rfl;have m1:bn (cw 1 (aT x.1))=Y:=ey;have m2:(cw 1 (aT x.1)).aj=aN 1 (aT x.1):=rfl;have m3:bn (aN 1 (aT x.1))=Y:=bU;have D:bf (aN 1 (aT x.1))=aT x.1:=br;have m6:cU 1 (aN 1 (aT x.1))=Y:=zI;have C:bf (cw 1 (aT x.1))=aT x.1:=oZ;have m8:cU 1 (cw 1 (aT x.1))=Y:=by rw[Ja];simp[cy,aT]
 rw[E.aU f]at m;rw[E.aU e,E.aU f]at l;rw[Sm.aU];refine aG (sf:=LI) rfl rfl rfl ?_;generalize kD (b.plus (x.2.eD (y.2.eD (gx (IL e.k e.ref y.1 x.1))))) pre=st3,kD (b.plus (x.2.eD y.2)) pre=qh,kD b pre=st,kD (b.plus x.2) pre=qS,bL e.aP=KV,bL f.aP=FV,bL s.es=EV,cn s.bd=DV,cn s.el=LV,cw 1 (aT x.1)=MV,aN 1 (aT x.1)=NV at *;by_cases c:e.k=5;rw[adF (by rw[P];exact q1 (.inl c))]at D C;simp only[IL,af c,In.aK,z]at H;simp[LI,j,q,r,l,t,p,L,I,J,C,m8,eu.aX,AV.aj,G,m,cut,c,H,aB,aA,ay];have c6:e.k=6:=by omega
 rw[adG (by rw[P];exact q2 (.inl c6))]at D C;simp only[IL,U c,In.aK,z]at H;simp[LI,j,q,r,l,t,p,L,I,J,m2,D,m6,eu.aX,AV.aj,G,m,cut,c6,H,aB,aA,ay]
theorem yg(s):PS s:=by
 induction s using Sm.C6 with
 |_ s S uC=>
  intro b pre W j;rw[Si]at W;obtain⟨o,w,N,T,P,h6⟩:=W;have Bt:=Sm.w9 s;have J:tG []=.aF:=rfl;have p:bn (bL s.es)=Y:=cu;have t:(bL s.es).aj=bL s.es:=ck;have z:cU 11 (bL s.es)=Y:=zE;have D:bn (cn s.bd)=Y:=cW;have d2:(cn s.bd).aj=cn s.bd:=bZ;have F:bn (cn s.el)=Y:=cW;have u2:(cn s.el).aj=cn s.el:=bZ;rw[Sh];by_cases c:s.k=2\/s.k=3;rw[af c];exact tL b pre s c (w (by omega)) o (T c) (j.le (by omega));rw[U c];by_cases c4:s.k=4;rw[af c4];exact yF b pre s c4 (N c4).1 o (N c4).2 (j.le (by omega));rw[U c4];by_cases r:s.k=5;rw[af r];exact asX s r S uC b pre (w (by omega)) o P h6 j;rw[U r];by_cases c6:s.k=6;rw[af c6];exact aec s c6 S b pre (w (by omega)) o P j;rw[U c6];by_cases c7:s.k=7;rw[af c7];cases C:s.es with
  |nil=>
   have H:=pC b pre ⟨18,-1,0,0,0,[]⟩ (by have:=j.2.1;omega);rw[pX]at H;simp only[In.aK,J]at H;have g:bf (bL s.es)=[]:=(by show bf (aN _ _)=_;rw[br,C];rfl);dsimp only;generalize kD (b.plus (gx ⟨18,-1,0,0,0,[]⟩)) pre=qS at *;rw[Sm.aU];refine aG (sf:=LI) rfl rfl rfl ?_;generalize kD b pre=st,bL s.es=y,cn s.bd=q,cn s.el=L at *;simp[LI,p,t,g,D,F,eu.aX,AV.aj,c7,H,cut,aB]
  |cons e l=>
   have O:E.eJ s.es=E.sz e+E.eJ l:=(by rw[C];rfl);have m:=nO e b pre ((yQ _).1 o e (by rw[C];exact aat)) (j.le (by omega));have G:=Fb.plus (j.le (by omega:E.sz e+1<=_)) (xx e (Q b.vars) (Q b.aI));dsimp only;generalize cE (Q b.vars) (Q b.aI) e=x at *;have H:=pC (b.plus x.2) pre ⟨18,x.1,0,0,0,[]⟩ (by have:=G.2.1;omega);rw[pz]at H;simp only[In.aK,J]at H;have g:bf (bL s.es)=e.aK::E.rows l:=(by show bf (aN _ _)=_;rw[br,C];rfl);have R:bn (bL e.aP)=Y:=cu;have v:(bL e.aP).aj=bL e.aP:=ck;generalize kD (b.plus (x.2.eD (gx ⟨18,x.1,0,0,0,[]⟩))) pre=qh at *;rw[E.aU]at m g;rw[Sm.aU];refine aG (sf:=LI) rfl rfl rfl ?_;generalize kD b pre=st,kD (b.plus x.2) pre=qS,bL e.aP=M,bL s.es=y,cn s.bd=q,cn s.el=L at *;simp[LI,p,t,g,z,D,F,v,eu.aX,AV.aj,c7,m,H,cut,aB]
  rw[U c7];have one:(s.k=8\/s.k=9)->∃e,s.es=[e]/\jR s.es=e/\E.eJ s.es=E.sz e/\bf (bL s.es)=[e.aK]/\LE e:=λh=>by
   obtain⟨e,B⟩:∃e,s.es=[e]:=⟨_,K4 (w (by omega))⟩;exact⟨e,B,by rw[B];rfl,by rw[B];simp[E.eJ],by show bf (aN _ _)=_;rw[br,B];rfl,(yQ _).1 o e (by rw[B];exact aat)⟩
  by_cases c8:s.k=8;rw[af c8];obtain⟨e,C,I,O,g,n⟩:=one (.inl c8);rw[I];have m:=nO e b pre n (j.le (by omega));have G:=Fb.plus (j.le (by omega:E.sz e+1<=_)) (xx e (Q b.vars) (Q b.aI));generalize cE (Q b.vars) (Q b.aI) e=x at *;have H:=pC (b.plus x.2) pre ⟨15,x.1,0,0,0,[]⟩ (by have:=G.2.1;omega);rw[pz]at H;simp only[In.aK,J]at H;have R:bn (bL e.aP)=Y:=cu;have v:(bL e.aP).aj=bL e.aP:=ck;generalize kD (b.plus (x.2.eD (gx ⟨15,x.1,0,0,0,[]⟩))) pre=qh at *;rw[E.aU]at m g;rw[Sm.aU];refine aG (sf:=LI) rfl rfl rfl ?_;generalize kD b pre=st,kD (b.plus x.2) pre=qS,bL e.aP=M,bL s.es=y,cn s.bd=q,cn s.el=L at *;simp[LI,p,t,g,z,D,F,v,eu.aX,AV.aj,c8,m,H,cut,aB];rw[U c8];by_cases c9:s.k=9;rw[af c9];obtain⟨e,C,I,O,g,n⟩:=one (.inr c9);rw[I];have m:=nO e b pre n (j.le (by omega));generalize cE (Q b.vars) (Q b.aI) e=x at *;have R:bn (bL e.aP)=Y:=cu;have v:(bL e.aP).aj=bL e.aP:=ck;rw[E.aU]at m g;rw[Sm.aU];refine aG (sf:=LI) rfl rfl rfl ?_;generalize kD b pre=st,kD (b.plus x.2) pre=qS,bL e.aP=M,bL s.es=y,cn s.bd=q,cn s.el=L at *;simp[LI,p,t,g,z,D,F,v,eu.aX,AV.aj,c9,m,cut];rw[U c9,sC,Sm.aU];refine aG (sf:=LI) rfl rfl rfl ?_;generalize kD b pre=st,bL s.es=y,cn s.bd=q,cn s.el=L at *;have c2:¬s.k=2:=λh=>c (.inl h);have c3:¬s.k=3:=λh=>c (.inr h);simp[LI,p,D,F,eu.aX,AV.aj,c2,c3,c4,r,c6,c7,c8,c9,cut]
end LN
