/- Part of a proof. -/
import Derived.Test.YtgblgbgjmgjfkaaGreatW

open List renaming getElem_mem->acH,drop_eq_getElem_cons->adB,drop_length->aep,mem_cons_self->aeb,getElem?_append_left->acJ,cons_append->aer,nil_append->aeN,getElem?_eq_some_iff->aac
open Nat renaming add_assoc->af0
set_option maxRecDepth 100000
set_option maxHeartbeats 2000000
namespace K2
open Ax Go aO V7 iQ iZ qb
open tQ (Bl ey CT CU pO pP pQ mw fj eW)
def pC(b:Bl)(k:Nat):List AV:=[b.aU,ey 3 (b.glo.map T3.cells),ey 7 (b.aR.map Cd.aI),ey 4 (b.aJ.map Sd.aI),.int .i64 b.main,.int .i64 b.aR.length,
 .int .i64 b.params,ey 3 (b.vars.map T3.cells),.bool b.bR,.int .i64 b.res.b,.int .i64 b.res.r,.int .i64 b.res.d,CT b.is k]
def jT(b:Bl)(pre:aj):aj:=pre++.rows 0 13 [pC b (pre.length+1)]::CU b.is
theorem F7(pre:aj)(o:dJ)(r:aj):(pre++o::r)[pre.length]?=some o:=by simp
variable (wl ah:Nat)
theorem ac0(b:Bl)(pre:aj)(i:In)(v:AV)(q:v.aH=true)(j:v.cM=true)(p:v.ai=sB i.args)(o:b.is.length<1000000000) :
  (aZ S).call 0 0 92 [.ptr pre.length 0 0 0,.agg [.int .i64 i.op,.int .i64 i.a,.int .i64 i.b,.int .i64 i.c,.int .i64 i.n,v]] (jT b pre)=some (.int .i64 b.is.length,jT { b with is:=b.is++[i] } pre):=by
 refine aG (sf:=s92) rfl rfl rfl ?_;have R:=pO i.args;have O:=pP i.args;have h:=pQ i.args;have k:(b.is.length+1)*64<=cZ:=by unfold cZ;omega
 have g:64<=cZ:=by decide
 have l:IntKind.i64.wrap ((b.is.length:Nat):Int)=b.is.length:=by rw[dY]<;>omega
 have H:IntKind.i64.wrap 0=0:=by decide
 have m:(pre++[dJ.rows 0 13 [[b.aU,ey 3 (b.glo.map T3.cells),ey 7 (b.aR.map Cd.aI),ey 4 (b.aJ.map Sd.aI),.int .i64 b.main,.int .i64 b.aR.length,.int .i64 b.params,ey 3 (b.vars.map T3.cells),.bool b.bR,.int .i64 b.res.b,.int .i64 b.res.r,.int .i64 b.res.d,.aF]]]).length=pre.length+1:=by simp
 by_cases e:b.is=[];simp[s92,jT,pC,CT,CU,e,In.aI,bu,AV.aB,AV.aH,aD,aC,cut,j,p,R,O,h,cr,g,-List.append_assoc];simp;exact H;simp[s92,jT,pC,CT,CU,e,In.aI,bu,AV.aB,AV.aH,ay,aD,aC,cut,j,p,R,O,h,cr,k,l];have:=List.length_pos_iff.2 e;omega
end K2
namespace K2
open Ax Go aO V7 iQ iZ qb
open tQ (Bl ey CT CU pO pP pQ mw fj eW)
variable (wl ah:Nat)
theorem ou(b:Bl)(pre:aj)(i:In)(l:b.is.length<1000000000) :
  (aZ S).call 0 0 92 [.ptr pre.length 0 0 0,.agg i.aI] (jT b pre)=some (.int .i64 b.is.length,jT { b with is:=b.is++[i] } pre):=
 ac0 b pre i (sB i.args) (pO _) (pP _) (pQ _) l
theorem Wh(pre:aj)(o:dJ)(r:aj):List.take (pre.length+(r.length+1)) (pre++o::r)=pre++o::r:=List.take_of_length_le (by simp)
theorem OB(b:Bl)(pre:aj)(t:T3)(l:b.vars.length<1000000000) :
  (aZ S).call 0 ah 37 [.ptr pre.length 0 0 0,.agg t.cells] (jT b pre)=some (.int .i64 b.vars.length,jT { b with vars:=b.vars++[t] } pre):=by
 refine aG (sf:=s37) rfl rfl rfl ?_;have j:(b.vars.length+1)*24<=cZ:=by unfold cZ;omega
 have g:24<=cZ:=by decide
 have k:IntKind.i64.wrap ((b.vars.length:Nat):Int)=b.vars.length:=by rw[dY]<;>omega
 have H:IntKind.i64.wrap 0=0:=by decide
 by_cases e:b.vars=[];have r:ey 3 (b.vars.map T3.cells)=.aF:=by simp[ey,e]
 have h:ey 3 ((b.vars++[t]).map T3.cells)=.ju 3 [t.cells]:=by simp[ey,e]
 simp only[jT,pC,r,h];simp[s37,e,T3.cells,bu,AV.aB,AV.aH,AV.gi,bz,gm,fR,bH,ay,aD,aC,cut,Wh,cr,g,H];have r:ey 3 (b.vars.map T3.cells)=.ju 3 (b.vars.map T3.cells):=by simp[ey,e]
 have h:ey 3 ((b.vars++[t]).map T3.cells)=.ju 3 (b.vars.map T3.cells++[t.cells]):=by simp[ey]
 simp only[jT,pC,r,h];simp[s37,T3.cells,bu,AV.aB,AV.aH,AV.gi,bz,gm,fR,bH,ay,aD,aC,cut,Wh,cr,j,k]
theorem OD(b:Bl)(pre:aj)(t:T3)(m:b.aJ.length<1000000000) :
  (aZ S).call 0 ah 157 [.ptr pre.length 0 0 0,.agg t.cells] (jT b pre)=some (.int .i64 b.aJ.length,jT { b with aJ:=b.aJ++[⟨b.aR.length,t⟩] } pre):=by
 refine aG (sf:=af6) rfl rfl rfl ?_;have k:(b.aJ.length+1)*32<=cZ:=by unfold cZ;omega
 have j:32<=cZ:=by decide
 have l:IntKind.i64.wrap ((b.aJ.length:Nat):Int)=b.aJ.length:=by rw[dY]<;>omega
 have H:IntKind.i64.wrap 0=0:=by decide
 by_cases e:b.aJ=[];have h:ey 4 (b.aJ.map Sd.aI)=.aF:=by simp[ey,e]
 have g:ey 4 ((b.aJ++[(⟨b.aR.length,t⟩:Sd)]).map Sd.aI)=.ju 4 [[.int .i64 b.aR.length,.int .i64 t.b,.int .i64 t.r,.int .i64 t.d]]:=by simp[ey,e,Sd.aI]
 simp only[jT,pC,h,g];simp[af6,e,T3.cells,bz];rw[gO];simp[cR,eR,cw,di,fZ.bM,bu,AV.aB,AV.aH,AV.gi,bz,gm,fR,bH,ay,cut,cr,j];refine⟨_,_,⟨rfl,rfl⟩,?_⟩;simp[bH,AV.cC,AV.ai,fz.cU,AV.cU,cut,AV.aH,bz,gm,Wh,H];have h:ey 4 (b.aJ.map Sd.aI)=.ju 4 (b.aJ.map Sd.aI):=by simp[ey,e]
 have g:ey 4 ((b.aJ++[(⟨b.aR.length,t⟩:Sd)]).map Sd.aI)=.ju 4 (b.aJ.map Sd.aI++[[.int .i64 b.aR.length,.int .i64 t.b,.int .i64 t.r,.int .i64 t.d]]):=by simp[ey,Sd.aI]
 simp only[jT,pC,h,g];simp[af6,T3.cells,bz];rw[gO];simp[cR,eR,cw,di,fZ.bM,bu,AV.aB,AV.aH,AV.gi,bz,gm,fR,bH,ay,cut,cr,k];refine⟨_,_,⟨rfl,rfl⟩,?_⟩;simp[bH,AV.cC,AV.ai,fz.cU,AV.cU,cut,AV.aH,bz,gm,Wh,l]
end K2
namespace K2
open Ax Go aO V7 iQ iZ qb
open tQ (Bl ey CT CU pO pP pQ mw fj eW Fb gC nq rz oT Ku)
def PE(e:E):Prop:=∀(b:Bl)(pre:aj),LE e->Fb b (E.sz e)->(aZ S).call 0 0 137 [.ptr pre.length 0 0 0,.agg e.aI] (jT b pre)=some (.int .i64 (cE b.vars.length b.aJ.length e).1,jT (b.plus (cE b.vars.length b.aJ.length e).2) pre)
theorem xG(l:List E)(O:∀e∈l,PE e)(b:Bl)(pre:aj)(R:LL l)(H:Fb b (E.eD l)) :
  (aZ S).call 0 0 138 [.ptr pre.length 0 0 0,bG l] (jT b pre)=some (cq 1 (aP (kT b.vars.length b.aJ.length l).1),jT (b.plus (kT b.vars.length b.aJ.length l).2) pre):=by
 have N:cN 11 (bG l)=true:=zE;have q:bf (bG l)=true:=ck;have K:(bG l).ai=bG l:=bY;have J:aY (bG l)=E.rows l:=bn;have o:=E.lF l;have M:l.length<1000000000:=by have:=H.1;omega
 rw[ya]at R;have r:(E.rows l).length=l.length:=by simp[jq]
 refine aG (sf:=akQ) rfl rfl rfl ?_;generalize bG l=Z at *;simp[akQ];refine bN VE.eq_1 (λx:Nat×List Int×Bl=>⟨[(0,.val (.ptr pre.length 0 0 0)),(1,.val Z),(5,.val (cq 1 (aP x.2.1))),(6,.val (.int .i64 x.1))],[],jT x.2.2 pre⟩)
  (λx=>x.1<=l.length/\x.2.1.length=x.1/\Fb x.2.2 (E.eD (l.drop x.1))/\(x.2.1++(kT x.2.2.vars.length x.2.2.aJ.length (l.drop x.1)).1,x.2.2.plus (kT x.2.2.vars.length x.2.2.aJ.length (l.drop x.1)).2)=((kT b.vars.length b.aJ.length l).1,b.plus (kT b.vars.length b.aJ.length l).2)) (λx=>l.length-x.1) (0,[],b) (by simp[cq,aP]) ⟨by simp,rfl,by simpa using H,by simp⟩ ?_
 rintro⟨k,g,B⟩ ⟨L,h,m,j⟩ t;simp only at L h m j t;by_cases F:k<l.length;have D:=wk k (by omega);have p:=acH F;rw[adB F]at m j;simp only[E.eD]at m;have n:=O _ p B pre (R _ p) (m.le (by omega));have s:=wH l[k] B.vars.length B.aJ.length;have w:=m.plus s;rw[pN]at j;obtain⟨pv,_,ps⟩:=gC B (cE B.vars.length B.aJ.length l[k]).2;have U:bf (bG l[k].aN)=true:=ck;have v:(bG l[k].aN).ai=bG l[k].aN:=bY;have P:k<(E.rows l).length:=by simpa [jq] using F
 have T:=Bo F P;have Q:v8 1 8 (cq 1 (aP g)) [[.int .i64 (cE B.vars.length B.aJ.length l[k]).1]]=some (cq 1 (aP (g++[(cE B.vars.length B.aJ.length l[k]).1]))):=by
  rw[gP (by rfl) (by simp[cZ];omega)];simp
 have W:=t (k+1,g++[(cE B.vars.length B.aJ.length l[k]).1],B.plus (cE B.vars.length B.aJ.length l[k]).2) ⟨by simp only;omega,by simp[h],w,by
  simp only[pv,ps];rw[<-j,nq];simp⟩ (by simp only;omega)
 simp only at W;rw[E.aQ]at n T;generalize cE B.vars.length B.aJ.length l[k]=y at *;generalize l[k]=x at *;generalize bG x.aN=Y at *;have G:bf (cq 1 (aP g))=true:=dM;have V:bf (cq 1 (aP (g++[y.1])))=true:=dM;generalize cq 1 (aP (g++[y.1]))=X at *;generalize cq 1 (aP g)=m0 at *;simp[F,r,D,N,q,K,J,T,n,v,Q,AV.ai];exact W;have z:k=l.length:=by omega
 rw[z,aep]at j;have C:(kT b.vars.length b.aJ.length l).1=g:=by
  have:=congrArg Prod.fst j;simpa [kT] using this.symm
 have I:b.plus (kT b.vars.length b.aJ.length l).2=B:=by
  have:=congrArg Prod.snd j;simp only[kT]at this;rw[rz]at this;exact this.symm
 rw[C,I];have G:bf (cq 1 (aP g))=true:=dM;generalize cq 1 (aP g)=m0 at *;simp[F,r,q,K,J]
theorem mS(e:E):PE e:=by
 induction e using E.Cf with
 |_ e ih=>
  intro b pre hL hb;rw[acq]at hL;obtain⟨hT,N,h2,hk,hr,V⟩:=hL;have hsk:=E.rj e;have g:bf (bG e.aN)=true:=ck;have m:(bG e.aN).ai=bG e.aN:=bY;have p:sB []=.aF:=rfl;by_cases q:e.k=4/\0<=e.ref;rw[Dg,af q,rz,E.aQ];obtain⟨st,iH⟩:∃s,s=jT b pre:=⟨_,rfl⟩;rw[<-iH];refine aG (sf:=xV) rfl rfl rfl ?_;generalize bG e.aN=K at *;simp[xV,g,fZ.bM,AV.ai,q];have Z:=xG e.aN ih b pre V (hb.le (by omega));have FC:=TU e.aN b.vars.length b.aJ.length;have Q:Fb (b.plus (kT b.vars.length b.aJ.length e.aN).2) 1:=tQ.Fb.plus (hb.le (by omega)) FC;have z:=Ku b.vars.length b.aJ.length e.aN;obtain⟨pv,pi,ps⟩:=gC b (kT b.vars.length b.aJ.length e.aN).2;rw[Dg,U q];unfold cK;generalize kT b.vars.length b.aJ.length e.aN=x at *;have q1:e.k=4->¬0<=e.ref:=λa b=>q ⟨a,b⟩;have D:bf (cq 1 (aP x.1))=true:=dM;have m2:(cq 1 (aP x.1)).ai=aM 1 (aP x.1):=rfl;have m3:bf (aM 1 (aP x.1))=true:=bL;have m4:(aM 1 (aP x.1)).ai=aM 1 (aP x.1):=bU;have y:aY (aM 1 (aP x.1))=aP x.1:=bn;have m6:cN 1 (aM 1 (aP x.1))=true:=zI;have t:aY (cq 1 (aP x.1))=aP x.1:=oe;have F:cN 1 (cq 1 (aP x.1))=true:=by rw[Ih];simp[cr,aP]
  by_cases S:e.ty=T0;have c7:=hT S;have H:=ac0 (b.plus x.2) pre ⟨13,-1,0,e.ref,0,x.1⟩ _ (eC D) (jI D) rfl (by have:=Q.2.1;omega);rw[oT,nq]at H;rw[af S];have j:e.ty.b=0/\e.ty.r=0/\e.ty.d=0:=by rw[S];exact⟨rfl,rfl,rfl⟩
  obtain⟨Y,eb2,eb3⟩:=j;simp only;rw[E.aQ];refine aG (sf:=xV) rfl rfl rfl ?_;generalize jT (b.plus (x.2.dO (fW ⟨13,-1,0,e.ref,0,x.1⟩))) pre=pg,jT (b.plus x.2) pre=qg,jT b pre=st,cq 1 (aP x.1)=M,bG e.aN=K at *;simp[xV,g,m,fZ.bM,AV.ai,c7,Y,eb2,eb3,Z,D,H,ay];rw[U S];have j:(decide (e.ty.b=0)&&(decide (e.ty.r=0)&&decide (e.ty.d=0)))=false:=by
   rcases h:e.ty with⟨u,v,w⟩;rw[h]at S;by_cases a:u=0<;>by_cases b:v=0<;>by_cases c:w=0<;>simp_all
  have X:=λli=>OB li (b.plus x.2) pre e.ty (by have:=Q.1;omega);obtain⟨B,C⟩:∃B,B={ b.plus x.2 with vars:=(b.plus x.2).vars++[e.ty] }:=⟨_,rfl⟩;rw[<-C,pv]at X;have T:B.is.length<1000000000:=by rw[C];have:=Q.2.1;show (b.plus x.2).is.length<_;omega
  have Al:B.aJ.length<1000000000:=by rw[C];have:=Q.2.2;show (b.plus x.2).aJ.length<_;omega
  have R:=λli=>OD li B pre e.ty Al;have jY:B.aJ.length=b.aJ.length+x.2.ss.length:=by rw[C];exact ps
  rw[jY]at R;simp only;have oJ:∀J:In,¬(e.k=8\/e.k=9)->{ B with is:=B.is++[J] }=b.plus (x.2.dO ⟨[e.ty],[J],if e.k=8\/e.k=9 then [e.ty] else []⟩):=λJ c=>by
   rw[C];simp[c,Bl.plus,jt.dO]
  have W:∀J:In,(e.k=8\/e.k=9)->{ B with aJ:=B.aJ++[(⟨B.aR.length,e.ty⟩:Sd)],is:=B.is++[J] }=b.plus (x.2.dO ⟨[e.ty],[J],if e.k=8\/e.k=9 then [e.ty] else []⟩):=λJ c=>by
   rw[C];simp[c,Bl.plus,jt.dO]
  have Aw:∀{l:List Int},l.length=1->aP l=[[.int .i64 (qD l)]]:=acu;have YJ:∀{l:List Int},l.length=2->aP l=[[.int .i64 (qD l)],[.int .i64 (Lt l)]]:=acv;simp only[T3.cells]at X R;by_cases c8:e.k=8\/e.k=9;have H:=ou { B with aJ:=B.aJ++[⟨B.aR.length,e.ty⟩] } pre (lJ e.k e.n e.ref ((b.vars.length+x.2.vs.length:Nat):Int) ((b.aJ.length+x.2.ss.length:Nat):Int) x.1) T;rw[W _ c8]at H;generalize jT (b.plus (x.2.dO ⟨[e.ty],[lJ e.k e.n e.ref ((b.vars.length+x.2.vs.length:Nat):Int) ((b.aJ.length+x.2.ss.length:Nat):Int) x.1],if e.k=8\/e.k=9 then [e.ty] else []⟩)) pre=st4 at *;generalize ((b.vars.length+x.2.vs.length:Nat):Int)=tv,((b.aJ.length+x.2.ss.length:Nat):Int)=sv,jT { B with aJ:=B.aJ++[⟨B.aR.length,e.ty⟩] } pre=st3 at *;rw[E.aQ];refine aG (sf:=xV) rfl rfl rfl ?_;generalize jT B pre=pg,jT (b.plus x.2) pre=qg,jT b pre=st at *;rcases c8 with c8|c9;simp only[lJ,c8,In.aI]at H;simp[p]at H;generalize cq 1 (aP x.1)=M,bG e.aN=K at *;simp[xV,g,m,fZ.bM,AV.ai,c8,j,Z,X,R,H,ay];have hl:=z.trans (N (by omega));simp only[lJ,c9,In.aI]at H;simp[p]at H;generalize aM 1 (aP x.1)=L,cq 1 (aP x.1)=M,bG e.aN=K at *;rw[Aw hl]at y t;simp[xV,g,m,fZ.bM,AV.ai,c9,j,Z,X];rw[gO];simp[cR,eR,cw,di,fZ.bM,R,H,t,F,ay,AV.ai];refine⟨_,_,⟨rfl,rfl⟩,?_⟩;simp[fz.cU,AV.cU,AV.uw,AV.qK,AV.ai,AV.cC,t,F,cut];have H:=ou B pre (lJ e.k e.n e.ref ((b.vars.length+x.2.vs.length:Nat):Int) ((b.aJ.length+x.2.ss.length:Nat):Int) x.1) T;rw[oJ _ c8]at H;have o:=ac0 B pre (lJ e.k e.n e.ref ((b.vars.length+x.2.vs.length:Nat):Int) ((b.aJ.length+x.2.ss.length:Nat):Int) x.1) (cq 1 (aP x.1)) (eC D) (jI D);rw[oJ _ c8]at o;generalize jT (b.plus (x.2.dO ⟨[e.ty],[lJ e.k e.n e.ref ((b.vars.length+x.2.vs.length:Nat):Int) ((b.aJ.length+x.2.ss.length:Nat):Int) x.1],if e.k=8\/e.k=9 then [e.ty] else []⟩)) pre=st4 at *;generalize ((b.vars.length+x.2.vs.length:Nat):Int)=tv,((b.aJ.length+x.2.ss.length:Nat):Int)=sv at *;have G:¬e.k=8:=λh=>c8 (.inl h);have I:¬e.k=9:=λh=>c8 (.inr h);rw[E.aQ];refine aG (sf:=xV) rfl rfl rfl ?_;generalize jT B pre=pg,jT (b.plus x.2) pre=qg,jT b pre=st at *;by_cases c1:e.k=1;simp only[lJ,c1,In.aI]at H;simp[p]at H;generalize cq 1 (aP x.1)=M,bG e.aN=K at *;simp[xV,g,m,fZ.bM,AV.ai,c1,j,Z,X,H,ay];by_cases c2:e.k=2;simp only[lJ,c2,In.aI]at H;simp[p]at H;generalize cq 1 (aP x.1)=M,bG e.aN=K at *;simp[xV,g,m,fZ.bM,AV.ai,c2,j,Z,X,H,ay];by_cases c3:e.k=3;simp only[lJ,c3,In.aI]at H;simp[p]at H;generalize cq 1 (aP x.1)=M,bG e.aN=K at *;simp[xV,g,m,fZ.bM,AV.ai,c3,j,Z,X,H,ay];by_cases c4:e.k=4;have hq:=q1 c4;have hw:IntKind.i64.wrap (-1-e.ref) = -1-e.ref:=by have:=hr c4;rw[dY]<;>omega
  simp only[lJ,c4,In.aI]at H;simp[p]at H;generalize cq 1 (aP x.1)=M,bG e.aN=K at *;simp[xV,g,m,fZ.bM,AV.ai,c4,hq,j,Z,X,hw,H,ay];by_cases P:e.k=5
  skip
  simp only[lJ,P,In.aI]at H;simp[p]at H;generalize aM 1 (aP x.1)=L,cq 1 (aP x.1)=M,bG e.aN=K at *;rw[Aw (z.trans (N (by omega)))]at y t;simp[xV,g,m,fZ.bM,AV.ai,P,j,Z,t,F,X,H,ay,aD,aC];by_cases c6:e.k=6
  skip
  simp only[lJ,c6,In.aI]at H;simp[p]at H;generalize aM 1 (aP x.1)=L,cq 1 (aP x.1)=M,bG e.aN=K at *;rw[YJ (z.trans (h2 (by omega)))]at y t;simp[xV,g,m,fZ.bM,AV.ai,c6,j,Z,m2,y,m6,X,H,ay,aD,aC];by_cases c7:e.k=7;have O:(cq 1 (aP x.1)).ai=sB (lJ e.k e.n e.ref tv sv x.1).args:=by rw[c7];rfl
  have o:=o O T;simp only[lJ,c7]at o;simp at o;clear H O;generalize cq 1 (aP x.1)=M,bG e.aN=K at *;simp[xV,g,m,fZ.bM,AV.ai,c7,j,Z,D,X,o,ay];by_cases Df:e.k=10
  skip
  simp only[lJ,Df,In.aI]at H;simp[p]at H;generalize aM 1 (aP x.1)=L,cq 1 (aP x.1)=M,bG e.aN=K at *;rw[Aw (z.trans (N (by omega)))]at y t;simp[xV,g,m,fZ.bM,AV.ai,Df,j,Z,t,F,X,H,ay];by_cases Lu:e.k=11;simp only[lJ,Lu,In.aI]at H;simp[p]at H;generalize cq 1 (aP x.1)=M,bG e.aN=K at *;simp[xV,g,m,fZ.bM,AV.ai,Lu,j,Z,X,H,ay];by_cases DJ:e.k=12
  skip
  simp only[lJ,DJ,In.aI]at H;simp[p]at H;generalize aM 1 (aP x.1)=L,cq 1 (aP x.1)=M,bG e.aN=K at *;rw[Aw (z.trans (N (by omega)))]at y t;simp[xV,g,m,fZ.bM,AV.ai,DJ,j,Z,t,F,X,H,ay,aD,aC];by_cases Fo:e.k=13
  skip
  simp only[lJ,Fo,In.aI]at H;simp[p]at H;generalize aM 1 (aP x.1)=L,cq 1 (aP x.1)=M,bG e.aN=K at *;rw[Aw (z.trans (N (by omega)))]at y t;simp[xV,g,m,fZ.bM,AV.ai,Fo,j,Z,t,F,X,H,ay,aD,aC]
  skip
  simp only[lJ,c1,c2,c3,c4,P,c6,c7,G,I,Df,Lu,DJ,Fo,In.aI,p,or_self,br]at H;generalize aM 1 (aP x.1)=L,cq 1 (aP x.1)=M,bG e.aN=K at *;rw[YJ (z.trans (h2 (by omega)))]at y t;simp[xV,g,m,fZ.bM,AV.ai,c1,c2,c3,c4,P,c6,c7,G,I,Df,Lu,DJ,Fo,j,Z,m2,y,m6,X,H,ay,aD,aC]
end K2
namespace K2
open Ax Go aO V7 iQ iZ qb
open tQ (Bl ey CT CU pO pP pQ mw fj eW Fb gC nq rz oT oq Ku Oq Ot)
def PS(s:Sm):Prop:=∀(b:Bl)(pre:aj),LS s->Fb b (2*Sm.sz s)->(aZ S).call 0 0 91 [.ptr pre.length 0 0 0,.agg s.aI] (jT b pre)=some (.eY [],jT (b.plus (cS b.vars.length b.is.length b.aJ.length s)) pre)
theorem pL(l:List Sm)(I:∀s∈l,PS s)(b:Bl)(pre:aj)(R:LB l)(m:Fb b (2*Sm.eD l)) :
  (aZ S).call 0 0 38 [.ptr pre.length 0 0 0,bZ l] (jT b pre)=some (.eY [],jT (b.plus (cB b.vars.length b.is.length b.aJ.length l)) pre):=by
 have z:cN 9 (bZ l)=true:=zL (by simp[cr,jQ,Sm.aQ]);have o:bf (bZ l)=true:=cQ;have K:(bZ l).ai=bZ l:=bQ;have J:aY (bZ l)=Sm.rows l:=bn;have n:=Sm.lF l;have M:l.length<1000000000:=by have:=m.1;omega
 rw[Oh]at R;have p:(Sm.rows l).length=l.length:=by simp[jQ]
 refine aG (sf:=s38) rfl rfl rfl ?_;generalize bZ l=Z at *;simp[s38];refine bN abi.eq_1 (λx:Nat×Bl=>⟨[(0,.val (.ptr pre.length 0 0 0)),(1,.val Z),(4,.val (.int .i64 x.1))],[],jT x.2 pre⟩)
  (λx=>x.1<=l.length/\Fb x.2 (2*Sm.eD (l.drop x.1))/\x.2.plus (cB x.2.vars.length x.2.is.length x.2.aJ.length (l.drop x.1))=b.plus (cB b.vars.length b.is.length b.aJ.length l)) (λx=>l.length-x.1) (0,b) (by simp) ⟨by simp,by simpa using m,by simp⟩ ?_
 rintro⟨k,B⟩ ⟨w,g,j⟩ t;simp only at w g j t;by_cases F:k<l.length;have D:=wk k (by omega);have H:=acH F;rw[adB F]at g j;simp only[Sm.eD]at g;have h:=I _ H B pre (R _ H) (g.le (by omega));have q:=aiQ l[k] (R _ H) B.vars.length B.is.length B.aJ.length;have v:=tQ.Fb.plus (g.le (by omega:2*Sm.sz l[k]+2*Sm.eD (l.drop (k+1))<=_)) q;rw[EG]at j;unfold Ko at j;obtain⟨pv,P,ps⟩:=gC B (cS B.vars.length B.is.length B.aJ.length l[k]);obtain⟨O,N,Q⟩:bf (bG l[k].es)=true/\bf (bZ l[k].bd)=true/\bf (bZ l[k].el)=true:=⟨ck,cQ,cQ⟩;have E:(bG l[k].es).ai=bG l[k].es:=bY;have r:(bZ l[k].bd).ai=bZ l[k].bd:=bQ;have L:(bZ l[k].el).ai=bZ l[k].el:=bQ;have C:k<(Sm.rows l).length:=by omega
 have T:=Cl F C;have W:=t (k+1,B.plus (cS B.vars.length B.is.length B.aJ.length l[k])) ⟨by simp only;omega,v,by
  simp only[pv,P,ps];rw[<-j,nq]⟩ (by simp only;omega)
 simp only at W;rw[Sm.aQ]at h T;generalize cS B.vars.length B.is.length B.aJ.length l[k]=y at *;generalize l[k]=x at *;generalize bG x.es=Y,bZ x.bd=X,bZ x.el=U at *;simp[F,p,D,z,o,K,J,T,h,E,r,L,AV.ai];exact W;have G:k=l.length:=by omega
 rw[G,aep,Kp,rz]at j;rw[<-j];simp[F,p,o,K,J]
structure Pt (b:Bl)(pre:aj)(H:List AV)(V:Nat)(R:List (List AV)):Prop where
 eq:jT b pre=pre++.rows 0 13 [H++[.mu (pre.length+1) V]]::[.rows V 6 R]
 len:R.length=b.is.length
 set:∀(i:Nat) (a:In),(pre++.rows 0 13 [H++[.mu (pre.length+1) V]]::[.rows V 6 (R.set i (In.aI a))]:aj)=jT (b.zO i a) pre
 get:∀(i:Nat) (a:In),b.is[i]?=some a->R[i]?=some a.aI
theorem OF(b:Bl)(pre:aj)(h:b.is≠[]):jT b pre=pre++.rows 0 13 [[b.aU,ey 3 (b.glo.map T3.cells),ey 7 (b.aR.map Cd.aI),ey 4 (b.aJ.map Sd.aI),.int .i64 b.main,.int .i64 b.aR.length,
  .int .i64 b.params,ey 3 (b.vars.map T3.cells),.bool b.bR,.int .i64 b.res.b,.int .i64 b.res.r,.int .i64 b.res.d,.mu (pre.length+1) (b.is.length-1)]]::[.rows (b.is.length-1) 6 (b.is.map In.aI)]:=by
 simp only[jT,pC,CT,CU,U h]
theorem Ry(b:Bl)(pre:aj)(h:b.is≠[]):∃r0 j k l m n O o p q r g V R,Pt b pre [r0,j,k,l,m,n,O,o,p,q,r,g] V R:=by
 refine⟨_,_,_,_,_,_,_,_,_,_,_,_,b.is.length-1,b.is.map In.aI,OF b pre h,by simp,λi a=>?_,λi a h=>by simp[h]⟩;rw[OF (b.zO i a) pre (by intro c;apply h;have:=congrArg List.length c;simp[tQ.Bl.zO]at this;exact this)];simp[tQ.Bl.zO,List.map_set]
end K2
namespace K2
open Ax Go aO V7 iQ iZ qb
open tQ (Bl ey CT CU pO pP pQ mw fj eW Fb gC nq rz oT oq Ku Oq Ot)
theorem ark(s:Sm)(k5:s.k=5)(xZ:∀x∈s.bd,PS x)(tE:∀x∈s.el,PS x)(b:Bl)(pre:aj)(h1:s.es.length=1)(hL:LL s.es)(hB:LB s.bd)(hE:LB s.el)(X:Fb b (2*Sm.sz s)) :
  (aZ S).call 0 0 91 [.ptr pre.length 0 0 0,.agg s.aI] (jT b pre)=some (.eY [],jT (b.plus (Ph b.vars.length b.is.length b.aJ.length (cE b.vars.length b.aJ.length (jk s.es)) (λnv at_ ns=>cB nv at_ ns s.bd) (λnv at_ ns=>cB nv at_ ns s.el))) pre):=by
 obtain⟨e,U⟩:∃e,s.es=[e]:=⟨_,Kn h1⟩;have h0:jk s.es=e:=by rw[U];rfl
 have eO:E.eD s.es=E.sz e:=by rw[U];simp[E.eD]
 have Av:=Sm.wz s;rw[h0];have hx:=mS e b pre ((ya _).1 hL e (by rw[U];exact aeb)) (X.le (by omega));have FC:=wH e b.vars.length b.aJ.length;obtain⟨y,hy⟩:∃y,y=cB (b.vars.length+(cE b.vars.length b.aJ.length e).2.vs.length) (b.is.length+(cE b.vars.length b.aJ.length e).2.is.length+1) (b.aJ.length+(cE b.vars.length b.aJ.length e).2.ss.length) s.bd:=⟨_,rfl⟩;obtain⟨z,hz⟩:∃z,z=cB (b.vars.length+(cE b.vars.length b.aJ.length e).2.vs.length+y.vs.length) (b.is.length+(cE b.vars.length b.aJ.length e).2.is.length+1+y.is.length+1) (b.aJ.length+(cE b.vars.length b.aJ.length e).2.ss.length+y.ss.length) s.el:=⟨_,rfl⟩;rw[<-Oq b (cE b.vars.length b.aJ.length e) y z _ _ hy hz];generalize cE b.vars.length b.aJ.length e=x at *;obtain⟨_,pi,_⟩:=gC b x.2;have o:=ou (b.plus x.2) pre ⟨17,x.1,0,0,0,[]⟩ (by
  have:=X.2.1;have:=FC.2.1;omega)
 rw[oq,pi]at o;obtain⟨m,H⟩:∃m,m=b.plus (x.2.dO (fW ⟨17,x.1,0,0,0,[]⟩)):=⟨_,rfl⟩;rw[<-H]at o;have g0:m.is[b.is.length+x.2.is.length]?=some ⟨17,x.1,0,0,0,[]⟩:=by
  rw[H];simp[tQ.Bl.plus,jt.dO,fW]
 have l0:m.is.length=b.is.length+x.2.is.length+1:=by rw[H];simp[tQ.Bl.plus,jt.dO,fW,af0]
 obtain⟨z0,z1,z2,z3,z4,z5,z6,z7,z8,z9,z10,z11,V0,R0,C⟩:=Ry m pre (by intro c;rw[c]at l0;simp at l0);have w:=C.set (b.is.length+x.2.is.length) ⟨17,x.1,0,0,((b.is.length+x.2.is.length+1:Nat):Int),[]⟩;have M:m.zO (b.is.length+x.2.is.length) ⟨17,x.1,0,0,((b.is.length+x.2.is.length+1:Nat):Int),[]⟩=b.plus (x.2.dO (fW ⟨17,x.1,0,0,((b.is.length+x.2.is.length+1:Nat):Int),[]⟩)):=by
  rw[H];simp[tQ.Bl.plus,tQ.Bl.zO,jt.dO,fW]
 rw[M]at w;have q0:=C.get _ _ g0;have w0:b.is.length+x.2.is.length<R0.length:=by rw[C.len];omega
 obtain⟨B,J⟩:∃B,B=b.plus (x.2.dO (fW ⟨17,x.1,0,0,((b.is.length+x.2.is.length+1:Nat):Int),[]⟩)):=⟨_,rfl⟩;have l:B.vars.length=b.vars.length+x.2.vs.length/\B.is.length=b.is.length+x.2.is.length+1/\B.aJ.length=b.aJ.length+x.2.ss.length:=by
  rw[J];obtain⟨p,q,r⟩:=gC b (x.2.dO (fW ⟨17,x.1,0,0,((b.is.length+x.2.is.length+1:Nat):Int),[]⟩));rw[p,q,r];simp[jt.dO,fW,af0]
 have g1:B.is[b.is.length+x.2.is.length]?=some ⟨17,x.1,0,0,((b.is.length+x.2.is.length+1:Nat):Int),[]⟩:=by
  rw[J];simp[Bl.plus,jt.dO,fW]
 rw[<-J]at w ⊢;have f1:Fb B (2*Sm.eD s.bd+(2*Sm.eD s.el+1)):=by
  obtain⟨p1,p2,p3⟩:=X;obtain⟨q1,q2,F⟩:=FC;obtain⟨r1,r2,r3⟩:=l;exact⟨by omega,by omega,by omega⟩
 have K:=pL s.bd xZ B pre hB (f1.le (by omega));have UW:=Rf hB (b.vars.length+x.2.vs.length) (b.is.length+x.2.is.length+1) (b.aJ.length+x.2.ss.length);rw[l.1,l.2.1,l.2.2,<-hy]at K;rw[<-hy]at UW;have N:=f1.plus UW;obtain⟨m1,m2,m3⟩:=gC B y;have g2:(B.plus y).is[b.is.length+x.2.is.length]?=some ⟨17,x.1,0,0,((b.is.length+x.2.is.length+1:Nat):Int),[]⟩:=by
  show (B.is++y.is)[_]?=_;rw[acJ (by omega)];exact g1
 have v:=ou (B.plus y) pre ⟨16,0,0,0,0,[]⟩ (by have:=N.2.1;omega);rw[oT,m2,l.2.1]at v;obtain⟨n,I⟩:∃n,n=(B.plus y).plus (fW ⟨16,0,0,0,0,[]⟩):=⟨_,rfl⟩;rw[<-I]at v ⊢;have L:n.vars.length=b.vars.length+x.2.vs.length+y.vs.length/\n.is.length=b.is.length+x.2.is.length+1+y.is.length+1/\n.aJ.length=b.aJ.length+x.2.ss.length+y.ss.length:=by
  rw[I];obtain⟨p,q,r⟩:=gC (B.plus y) (fW ⟨16,0,0,0,0,[]⟩);rw[p,q,r,m1,m2,m3,l.1,l.2.1,l.2.2];simp[fW]
 have g3:n.is[b.is.length+x.2.is.length]?=some ⟨17,x.1,0,0,((b.is.length+x.2.is.length+1:Nat):Int),[]⟩:=by
  rw[I];show ((B.plus y).is++_)[_]?=_;rw[acJ (by omega)];exact g2
 have O:n.is[b.is.length+x.2.is.length+1+y.is.length]?=some ⟨16,0,0,0,0,[]⟩:=by
  rw[I];show ((B.plus y).is++[_])[_]?=_;rw[List.getElem?_append_right (by omega),m2,l.2.1];simp
 have awY:n.is.length<1000000000:=by have:=N.2.1;omega
 obtain⟨r0,r1,r2,r3,r4,r5,r6,r7,r8,r9,r10,r11,V,R,P⟩:=Ry n pre (by intro c;rw[c]at L;simp at L);obtain⟨g,j⟩:∃g,g=n.zO (b.is.length+x.2.is.length) ⟨17,x.1,0,((b.is.length+x.2.is.length+1+y.is.length+1:Nat):Int),((b.is.length+x.2.is.length+1:Nat):Int),[]⟩:=⟨_,rfl⟩;have G:=P.set (b.is.length+x.2.is.length) ⟨17,x.1,0,((b.is.length+x.2.is.length+1+y.is.length+1:Nat):Int),((b.is.length+x.2.is.length+1:Nat):Int),[]⟩;rw[<-j]at G ⊢;have D:g.vars.length=n.vars.length/\g.is.length=n.is.length/\g.aJ.length=n.aJ.length:=by rw[j];simp[Bl.zO]
 have T:g.is[b.is.length+x.2.is.length+1+y.is.length]?=some ⟨16,0,0,0,0,[]⟩:=by
  rw[j];show (n.is.set _ _)[_]?=_;rw[List.getElem?_set_ne (by omega)];exact O
 have f4:Fb g (2*Sm.eD s.el):=by
  obtain⟨p1,p2,p3⟩:=N;obtain⟨r1,r2,r3⟩:=L;obtain⟨q1,q2,F⟩:=D;exact⟨by omega,by omega,by omega⟩
 have Z:=pL s.el tE g pre hE f4;have US:=Rf hE (b.vars.length+x.2.vs.length+y.vs.length) (b.is.length+x.2.is.length+1+y.is.length+1) (b.aJ.length+x.2.ss.length+y.ss.length);rw[D.1,D.2.1,D.2.2,L.1,L.2.1,L.2.2,<-hz]at Z;rw[<-hz]at US;obtain⟨n1,n2,n3⟩:=gC g z;have aB6:(g.plus z).is.length<1000000000:=by have:=f4.2.1;have:=US.2.1;omega
 have g5:(g.plus z).is[b.is.length+x.2.is.length+1+y.is.length]?=some ⟨16,0,0,0,0,[]⟩:=by
  show (g.is++z.is)[_]?=_;rw[acJ (by omega)];exact T
 obtain⟨t0,t1,t2,t3,t4,t5,t6,t7,t8,t9,t10,t11,W,Q,t⟩:=Ry (g.plus z) pre (by intro c;have:=n2;rw[c,List.length_nil]at this;omega);have AB:=t.set (b.is.length+x.2.is.length+1+y.is.length) ⟨16,0,0,0,((b.is.length+x.2.is.length+1+y.is.length+1+z.is.length:Nat):Int),[]⟩;have F:=P.get _ _ g3;have q5:=t.get _ _ g5;have w3:b.is.length+x.2.is.length<R.length:=by rw[P.len];omega
 have w5:b.is.length+x.2.is.length+1+y.is.length<Q.length:=by rw[t.len];omega
 have hn:sB []=.aF:=rfl;have e1:bf (bG s.es)=true:=ck;have e2:(bG s.es).ai=bG s.es:=bY;have e3:aY (bG s.es)=[e.aI]:=by show aY (aM _ _)=_;rw[bn,U];rfl
 have e4:cN 11 (bG s.es)=true:=zE;have d1:bf (bZ s.bd)=true:=cQ;have d2:(bZ s.bd).ai=bZ s.bd:=bQ;have u1:bf (bZ s.el)=true:=cQ;have u2:(bZ s.el).ai=bZ s.el:=bQ;have k1:bf (bG e.aN)=true:=ck;have k2:(bG e.aN).ai=bG e.aN:=bY;have lr3:R.length=b.is.length+x.2.is.length+1+y.is.length+1:=by rw[P.len];omega
 have lr5:Q.length=b.is.length+x.2.is.length+1+y.is.length+1+z.is.length:=by rw[t.len];omega
 have xx:IntKind.i64.wrap (((b.is.length+x.2.is.length:Nat):Int)+1)=((b.is.length+x.2.is.length+1:Nat):Int):=by rw[dY]<;>omega
 have Y:IntKind.i64.wrap (((b.is.length+x.2.is.length+1+y.is.length:Nat):Int)+1)=((b.is.length+x.2.is.length+1+y.is.length+1:Nat):Int):=by rw[dY]<;>omega
 have w55:b.is.length+x.2.is.length+1+y.is.length<b.is.length+x.2.is.length+1+y.is.length+1+z.is.length:=by omega
 simp only[In.aI,hn]at o v w G AB q0 F q5;simp only[C.eq,P.eq,t.eq,aer,aeN]at hx o K v w G Z AB;rw[E.aQ]at hx e3;rw[Sm.aQ];refine aG (sf:=K0) rfl rfl rfl ?_;generalize jT ((g.plus z).zO (b.is.length+x.2.is.length+1+y.is.length) ⟨16,0,0,0,((b.is.length+x.2.is.length+1+y.is.length+1+z.is.length:Nat):Int),[]⟩) pre=st6 at *;generalize b.is.length+x.2.is.length+1+y.is.length+1+z.is.length=N5 at *;generalize b.is.length+x.2.is.length+1+y.is.length+1=N4 at *;generalize b.is.length+x.2.is.length+1+y.is.length=N3 at *;generalize b.is.length+x.2.is.length+1=N2 at *;generalize b.is.length+x.2.is.length=N1,jT (b.plus x.2) pre=stx,jT b pre=st,jT B pre=qg,jT (B.plus y) pre=pg,jT g pre=st4,bG e.aN=KV,bG s.es=EV,bZ s.bd=DV,bZ s.el=LV at *;have v0:=λh:N1<R0.length=>(aac.1 q0).2;have v3:=λh:N1<R.length=>(aac.1 F).2;have v5:=λh:N3<Q.length=>(aac.1 q5).2;simp[K0,k5,e1,e2,e3,e4,d1,d2,u1,u2,k2,fZ.bM,AV.ai,hx,o,w0,v0,xx,w,K,v,w3,v3,Y,G,Z,w55,v5,lr5,AB,cut,ay,bu,AV.aB,AV.aH,aD,aC]
theorem ac4(s:Sm)(k6:s.k=6)(xZ:∀x∈s.bd,PS x)(b:Bl)(pre:aj)(h1:s.es.length=1)(hL:LL s.es)(hB:LB s.bd)(J:Fb b (2*Sm.sz s)) :
  (aZ S).call 0 0 91 [.ptr pre.length 0 0 0,.agg s.aI] (jT b pre)=some (.eY [],jT (b.plus (So b.vars.length b.is.length b.aJ.length (cE b.vars.length b.aJ.length (jk s.es)) (λnv at_ ns=>cB nv at_ ns s.bd))) pre):=by
 obtain⟨e,U⟩:∃e,s.es=[e]:=⟨_,Kn h1⟩;have h0:jk s.es=e:=by rw[U];rfl
 have eO:E.eD s.es=E.sz e:=by rw[U];simp[E.eD]
 have Av:=Sm.wz s;rw[h0];have l:=mS e b pre ((ya _).1 hL e (by rw[U];exact aeb)) (J.le (by omega));have Y:=wH e b.vars.length b.aJ.length;obtain⟨y,K⟩:∃y,y=cB (b.vars.length+(cE b.vars.length b.aJ.length e).2.vs.length) (b.is.length+(cE b.vars.length b.aJ.length e).2.is.length+1) (b.aJ.length+(cE b.vars.length b.aJ.length e).2.ss.length) s.bd:=⟨_,rfl⟩;rw[<-Ot b (cE b.vars.length b.aJ.length e) y _ K];generalize cE b.vars.length b.aJ.length e=x at *;obtain⟨_,pi,_⟩:=gC b x.2;have j:=ou (b.plus x.2) pre ⟨17,x.1,0,0,0,[]⟩ (by
  have:=J.2.1;have:=Y.2.1;omega)
 rw[oq,pi]at j;obtain⟨m,H⟩:∃m,m=b.plus (x.2.dO (fW ⟨17,x.1,0,0,0,[]⟩)):=⟨_,rfl⟩;rw[<-H]at j;have g0:m.is[b.is.length+x.2.is.length]?=some ⟨17,x.1,0,0,0,[]⟩:=by
  rw[H];simp[tQ.Bl.plus,jt.dO,fW]
 have l0:m.is.length=b.is.length+x.2.is.length+1:=by rw[H];simp[tQ.Bl.plus,jt.dO,fW,af0]
 obtain⟨z0,z1,z2,z3,z4,z5,z6,z7,z8,z9,z10,z11,V0,F,C⟩:=Ry m pre (by intro c;rw[c]at l0;simp at l0);have w:=C.set (b.is.length+x.2.is.length) ⟨17,x.1,0,0,((b.is.length+x.2.is.length+1:Nat):Int),[]⟩;have M:m.zO (b.is.length+x.2.is.length) ⟨17,x.1,0,0,((b.is.length+x.2.is.length+1:Nat):Int),[]⟩=b.plus (x.2.dO (fW ⟨17,x.1,0,0,((b.is.length+x.2.is.length+1:Nat):Int),[]⟩)):=by
  rw[H];simp[tQ.Bl.plus,tQ.Bl.zO,jt.dO,fW]
 rw[M]at w;have q0:=C.get _ _ g0;have w0:b.is.length+x.2.is.length<F.length:=by rw[C.len];omega
 obtain⟨B,D⟩:∃B,B=b.plus (x.2.dO (fW ⟨17,x.1,0,0,((b.is.length+x.2.is.length+1:Nat):Int),[]⟩)):=⟨_,rfl⟩;have o:B.vars.length=b.vars.length+x.2.vs.length/\B.is.length=b.is.length+x.2.is.length+1/\B.aJ.length=b.aJ.length+x.2.ss.length:=by
  rw[D];obtain⟨p,q,r⟩:=gC b (x.2.dO (fW ⟨17,x.1,0,0,((b.is.length+x.2.is.length+1:Nat):Int),[]⟩));rw[p,q,r];simp[jt.dO,fW,af0]
 have g1:B.is[b.is.length+x.2.is.length]?=some ⟨17,x.1,0,0,((b.is.length+x.2.is.length+1:Nat):Int),[]⟩:=by
  rw[D];simp[Bl.plus,jt.dO,fW]
 rw[<-D]at w ⊢;have f1:Fb B (2*Sm.eD s.bd+1):=by
  obtain⟨p1,p2,p3⟩:=J;obtain⟨q1,q2,Q⟩:=Y;obtain⟨r1,r2,r3⟩:=o;exact⟨by omega,by omega,by omega⟩
 have t:=pL s.bd xZ B pre hB (f1.le (by omega));have Z:=Rf hB (b.vars.length+x.2.vs.length) (b.is.length+x.2.is.length+1) (b.aJ.length+x.2.ss.length);rw[o.1,o.2.1,o.2.2,<-K]at t;rw[<-K]at Z;have f2:=f1.plus Z;obtain⟨m1,m2,m3⟩:=gC B y;have g2:(B.plus y).is[b.is.length+x.2.is.length]?=some ⟨17,x.1,0,0,((b.is.length+x.2.is.length+1:Nat):Int),[]⟩:=by
  show (B.is++y.is)[_]?=_;rw[acJ (by omega)];exact g1
 have g:=ou (B.plus y) pre ⟨16,0,0,0,(b.is.length:Int),[]⟩ (by have:=f2.2.1;omega);rw[oT,m2,o.2.1]at g;obtain⟨n,I⟩:∃n,n=(B.plus y).plus (fW ⟨16,0,0,0,(b.is.length:Int),[]⟩):=⟨_,rfl⟩;rw[<-I]at g ⊢;have l3:n.is.length=b.is.length+x.2.is.length+1+y.is.length+1:=by
  rw[I];obtain⟨p,q,r⟩:=gC (B.plus y) (fW ⟨16,0,0,0,(b.is.length:Int),[]⟩);rw[q,m2,o.2.1];simp[fW]
 have g3:n.is[b.is.length+x.2.is.length]?=some ⟨17,x.1,0,0,((b.is.length+x.2.is.length+1:Nat):Int),[]⟩:=by
  rw[I];show ((B.plus y).is++_)[_]?=_;rw[acJ (by omega)];exact g2
 have awY:n.is.length<1000000000:=by have:=f2.2.1;omega
 obtain⟨r0,r1,r2,r3,r4,r5,r6,r7,r8,r9,r10,r11,V,R,P⟩:=Ry n pre (by intro c;rw[c]at l3;simp at l3);have z:=P.set (b.is.length+x.2.is.length) ⟨17,x.1,0,((b.is.length+x.2.is.length+1+y.is.length+1:Nat):Int),((b.is.length+x.2.is.length+1:Nat):Int),[]⟩;have Q:=P.get _ _ g3;have w3:b.is.length+x.2.is.length<R.length:=by rw[P.len];omega
 have hn:sB []=.aF:=rfl;have e1:bf (bG s.es)=true:=ck;have e2:(bG s.es).ai=bG s.es:=bY;have G:aY (bG s.es)=[e.aI]:=by show aY (aM _ _)=_;rw[bn,U];rfl
 have e4:cN 11 (bG s.es)=true:=zE;have d1:bf (bZ s.bd)=true:=cQ;have d2:(bZ s.bd).ai=bZ s.bd:=bQ;have u1:bf (bZ s.el)=true:=cQ;have u2:(bZ s.el).ai=bZ s.el:=bQ;have k1:bf (bG e.aN)=true:=ck;have k2:(bG e.aN).ai=bG e.aN:=bY;have v:R.length=b.is.length+x.2.is.length+1+y.is.length+1:=by rw[P.len];omega
 have xx:IntKind.i64.wrap (((b.is.length+x.2.is.length:Nat):Int)+1)=((b.is.length+x.2.is.length+1:Nat):Int):=by rw[dY]<;>omega
 have W:b.is.length+x.2.is.length<b.is.length+x.2.is.length+1+y.is.length+1:=by omega
 simp only[In.aI,hn]at j g w z q0 Q;rw[E.aQ]at l G;rw[Sm.aQ];refine aG (sf:=K0) rfl rfl rfl ?_;by_cases L:b.is=[];have O:jT b pre=pre++.rows 0 13 [[b.aU,ey 3 (b.glo.map T3.cells),ey 7 (b.aR.map Cd.aI),ey 4 (b.aJ.map Sd.aI),.int .i64 b.main,.int .i64 b.aR.length,
  .int .i64 b.params,ey 3 (b.vars.map T3.cells),.bool b.bR,.int .i64 b.res.b,.int .i64 b.res.r,.int .i64 b.res.d,.aF]]::[]:=by simp only[jT,pC,CT,CU,af L]
 have aCa:b.is.length=0:=by rw[L];rfl
 rw[O]at l ⊢;generalize ey 3 (b.glo.map T3.cells)=OG,ey 7 (b.aR.map Cd.aI)=OC,ey 4 (b.aJ.map Sd.aI)=OS,ey 3 (b.vars.map T3.cells)=OV at *;have ZU:((b.is.length:Nat):Int)=0:=by omega
 rw[ZU]at g;simp only[C.eq,P.eq,aer,aeN]at l j t g w z;generalize jT (n.zO (b.is.length+x.2.is.length) ⟨17,x.1,0,((b.is.length+x.2.is.length+1+y.is.length+1:Nat):Int),((b.is.length+x.2.is.length+1:Nat):Int),[]⟩) pre=T at *;generalize b.is.length+x.2.is.length+1+y.is.length+1=N4 at *;generalize b.is.length+x.2.is.length+1+y.is.length=N3 at *;generalize b.is.length+x.2.is.length+1=N2 at *;generalize b.is.length+x.2.is.length=N,jT (b.plus x.2) pre=stx,jT B pre=qg,jT (B.plus y) pre=pg,bG e.aN=KV,bG s.es=EV,bZ s.bd=DV,bZ s.el=LV at *;have v0:=λh:N<F.length=>(aac.1 q0).2;have X:=λh:N<R.length=>(aac.1 Q).2;simp[K0,k6,e1,e2,G,e4,d1,d2,u1,k2,fZ.bM,AV.ai,l,j,w0,v0,xx,w,t,g,W,X,v,z,cut,ay,bu,AV.aB,AV.aH,aD,aC];have O:=OF b pre L;have W3:(b.is.map In.aI).length=b.is.length:=by simp
 rw[O]at l ⊢;generalize ey 3 (b.glo.map T3.cells)=OG,ey 7 (b.aR.map Cd.aI)=OC,ey 4 (b.aJ.map Sd.aI)=OS,ey 3 (b.vars.map T3.cells)=OV,b.is.length-1=VV,b.is.map In.aI=IR at *;simp only[C.eq,P.eq,aer,aeN]at l j t g w z;generalize jT (n.zO (b.is.length+x.2.is.length) ⟨17,x.1,0,((b.is.length+x.2.is.length+1+y.is.length+1:Nat):Int),((b.is.length+x.2.is.length+1:Nat):Int),[]⟩) pre=T at *;generalize b.is.length+x.2.is.length+1+y.is.length+1=N4 at *;generalize b.is.length+x.2.is.length+1+y.is.length=N3 at *;generalize b.is.length+x.2.is.length+1=N2 at *;generalize b.is.length+x.2.is.length=N,jT (b.plus x.2) pre=stx,jT B pre=qg,jT (B.plus y) pre=pg,bG e.aN=KV,bG s.es=EV,bZ s.bd=DV,bZ s.el=LV at *;have v0:=λh:N<F.length=>(aac.1 q0).2;have X:=λh:N<R.length=>(aac.1 Q).2;simp[K0,k6,W3,e1,e2,G,e4,d1,d2,u1,k2,fZ.bM,AV.ai,l,j,w0,v0,xx,w,t,g,W,X,v,z,cut,ay,bu,AV.aB,AV.aH,aD,aC]
end K2
namespace K2
open Ax Go aO V7 iQ iZ qb
open tQ (Bl ey CT CU pO pP pQ mw fj eW Fb gC nq rz oT oq Ku Oq Ot)
theorem sE(b:Bl)(pre:aj)(s:Sm)(K:s.k=2\/s.k=3)(v:s.es.length=1)(R:LL s.es)(J : -1000000000<s.ref)(n:Fb b (E.eD s.es+1)) :
  (aZ S).call 0 0 91 [.ptr pre.length 0 0 0,.agg s.aI] (jT b pre)=some (.eY [],jT (b.plus ((cE b.vars.length b.aJ.length (jk s.es)).2.dO (fW (HQ s.ref (cE b.vars.length b.aJ.length (jk s.es)).1)))) pre):=by
 obtain⟨e,h⟩:∃e,s.es=[e]:=⟨_,Kn v⟩;have t:jk s.es=e:=by rw[h];rfl
 have I:E.eD s.es=E.sz e:=by rw[h];simp[E.eD]
 rw[t];have l:=mS e b pre ((ya _).1 R e (by rw[h];exact aeb)) (n.le (by omega));have F:=wH e b.vars.length b.aJ.length;have r:=(n.le (by omega:E.sz e+1<=_)).plus F;generalize cE b.vars.length b.aJ.length e=x at *;have H:=ou (b.plus x.2) pre (HQ s.ref x.1) (by have:=r.2.1;omega);rw[oq]at H;have j:bf (bG s.es)=true:=ck;have q:(bG s.es).ai=bG s.es:=bY;have g:aY (bG s.es)=[e.aI]:=by show aY (aM _ _)=_;rw[bn,h];rfl
 have m:cN 11 (bG s.es)=true:=zE;have B:bf (bZ s.bd)=true:=cQ;have G:(bZ s.bd).ai=bZ s.bd:=bQ;have L:bf (bZ s.el)=true:=cQ;have N:(bZ s.el).ai=bZ s.el:=bQ;have M:bf (bG e.aN)=true:=ck;have p:(bG e.aN).ai=bG e.aN:=bY;have o:sB []=.aF:=rfl;rw[E.aQ]at l g;rw[Sm.aQ];refine aG (sf:=K0) rfl rfl rfl ?_;generalize jT (b.plus (x.2.dO (fW (HQ s.ref x.1)))) pre=pg,jT b pre=st,jT (b.plus x.2) pre=qg,bG e.aN=z,bG s.es=y,bZ s.bd=D,bZ s.el=C at *;by_cases c:s.ref<0;have w:IntKind.i64.wrap (-1-s.ref) = -1-s.ref:=by rw[dY]<;>omega
 simp only[HQ,af c,In.aI,o]at H;rcases K with kk|kk<;>simp[K0,kk,j,q,g,m,B,L,p,fZ.bM,AV.ai,l,cut,c,w,H,ay];simp only[HQ,U c,In.aI,o]at H;rcases K with kk|kk<;>simp[K0,kk,j,q,g,m,B,L,p,fZ.bM,AV.ai,l,cut,c,H,ay]
theorem xS(b:Bl)(pre:aj)(s:Sm)(K:s.k=4)(O:s.es.length=2)(R:LL s.es)(P:(jk s.es).k=5\/(jk s.es).k=6)(z:Fb b (E.eD s.es+1)) :
  (aZ S).call 0 0 91 [.ptr pre.length 0 0 0,.agg s.aI] (jT b pre)=some (.eY [],jT (b.plus (Og b.vars.length b.aJ.length (jk s.es) (kT b.vars.length b.aJ.length (jk s.es).aN) (λY X=>cE Y X (es1 s.es)))) pre):=by
 obtain⟨e,f,h⟩:∃e f,s.es=[e,f]:=⟨_,_,acs O⟩;have N:jk s.es=e:=by rw[h];rfl
 have n:es1 s.es=f:=by rw[h];rfl
 have eO:E.eD s.es=E.sz e+E.sz f:=by rw[h];simp[E.eD]
 have Q:=E.rj e;rw[N]at P ⊢;rw[n];rw[ya]at R;have H:=R e (by rw[h];exact aeb);rw[acq]at H;obtain⟨_,q1,q2,_,_,o⟩:=H;have D:=xG e.aN (λx _=>mS x) b pre o (z.le (by omega));have J:=TU e.aN b.vars.length b.aJ.length;have F:=(z.le (by omega:E.eD e.aN+(E.sz f+1)<=_)).plus J;have p:=Ku b.vars.length b.aJ.length e.aN;unfold Og;obtain⟨pv,pi,ps⟩:=gC b (kT b.vars.length b.aJ.length e.aN).2;generalize kT b.vars.length b.aJ.length e.aN=x at *;have l:=mS f (b.plus x.2) pre (R f (by rw[h];simp)) (F.le (by omega));have g:=wH f (b.plus x.2).vars.length (b.plus x.2).aJ.length;have w:=F.plus g;rw[pv,ps]at l g w;simp only;generalize cE (b.vars.length+x.2.vs.length) (b.aJ.length+x.2.ss.length) f=y at *;have j:=ou ((b.plus x.2).plus y.2) pre (HR e.k e.ref y.1 x.1) (by have:=w.2.1;omega);simp only[oT,nq,V5]at j l;rw[V5];have q:bf (bG s.es)=true:=ck;have r:(bG s.es).ai=bG s.es:=bY;have m:aY (bG s.es)=[e.aI,f.aI]:=by show aY (aM _ _)=_;rw[bn,h];rfl
 have v:cN 11 (bG s.es)=true:=zE;have B:bf (bZ s.bd)=true:=cQ;have b2:(bZ s.bd).ai=bZ s.bd:=bQ;have L:bf (bZ s.el)=true:=cQ;have l2:(bZ s.el).ai=bZ s.el:=bQ;have k1:bf (bG e.aN)=true:=ck;have G:(bG e.aN).ai=bG e.aN:=bY;have k3:bf (bG f.aN)=true:=ck;have I:(bG f.aN).ai=bG f.aN:=bY;have C:sB []=.aF:=rfl;have m1:bf (cq 1 (aP x.1))=true:=dM;have T:(cq 1 (aP x.1)).ai=aM 1 (aP x.1):=rfl;have m3:bf (aM 1 (aP x.1))=true:=bL;have M:aY (aM 1 (aP x.1))=aP x.1:=bn;have V:cN 1 (aM 1 (aP x.1))=true:=zI;have t:aY (cq 1 (aP x.1))=aP x.1:=oe;have W:cN 1 (cq 1 (aP x.1))=true:=by rw[Ih];simp[cr,aP]
 rw[E.aQ f]at l;rw[E.aQ e,E.aQ f]at m;rw[Sm.aQ];refine aG (sf:=K0) rfl rfl rfl ?_;generalize jT (b.plus (x.2.dO (y.2.dO (fW (HR e.k e.ref y.1 x.1))))) pre=Z,jT (b.plus (x.2.dO y.2)) pre=pg,jT b pre=st,jT (b.plus x.2) pre=qg,bG e.aN=KV,bG f.aN=FV,bG s.es=EV,bZ s.bd=DV,bZ s.el=LV,cq 1 (aP x.1)=MV,aM 1 (aP x.1)=NV at *;by_cases c:e.k=5;rw[acu (by rw[p];exact q1 (.inl c))]at M t;simp only[HR,af c,In.aI,C]at j;simp[K0,K,q,r,m,v,B,L,G,I,t,W,fZ.bM,AV.ai,D,l,cut,c,j,ay,aD,aC];have c6:e.k=6:=by omega
 rw[acv (by rw[p];exact q2 (.inl c6))]at M t;simp only[HR,U c,In.aI,C]at j;simp[K0,K,q,r,m,v,B,L,G,I,T,M,V,fZ.bM,AV.ai,D,l,cut,c6,j,ay,aD,aC]
theorem xE(s:Sm):PS s:=by
 induction s using Sm.Cf with
 |_ s X T=>
  intro b pre R j;rw[Re]at R;obtain⟨o,v,N,P,V,Q⟩:=R;have S:=Sm.wz s;have G:sB []=.aF:=rfl;have p:bf (bG s.es)=true:=ck;have t:(bG s.es).ai=bG s.es:=bY;have w:cN 11 (bG s.es)=true:=zE;have D:bf (bZ s.bd)=true:=cQ;have W:(bZ s.bd).ai=bZ s.bd:=bQ;have F:bf (bZ s.el)=true:=cQ;have Y:(bZ s.el).ai=bZ s.el:=bQ;rw[Rd];by_cases c:s.k=2\/s.k=3;rw[af c];exact sE b pre s c (v (by omega)) o (P c) (j.le (by omega));rw[U c];by_cases c4:s.k=4;rw[af c4];exact xS b pre s c4 (N c4).1 o (N c4).2 (j.le (by omega));rw[U c4];by_cases C:s.k=5;rw[af C];exact ark s C X T b pre (v (by omega)) o V Q j;rw[U C];by_cases c6:s.k=6;rw[af c6];exact ac4 s c6 X b pre (v (by omega)) o V j;rw[U c6];by_cases c7:s.k=7;rw[af c7];cases M:s.es with
  |nil=>
   have H:=ou b pre ⟨18,-1,0,0,0,[]⟩ (by have:=j.2.1;omega);rw[oT]at H;simp only[In.aI,G]at H;have g:aY (bG s.es)=[]:=(by show aY (aM _ _)=_;rw[bn,M];rfl);dsimp only;generalize jT (b.plus (fW ⟨18,-1,0,0,0,[]⟩)) pre=qg at *;rw[Sm.aQ];refine aG (sf:=K0) rfl rfl rfl ?_;generalize jT b pre=st,bG s.es=y,bZ s.bd=r,bZ s.el=L at *;simp[K0,p,t,g,D,F,fZ.bM,AV.ai,c7,H,cut,ay]
  |cons e l=>
   have J:E.eD s.es=E.sz e+E.eD l:=(by rw[M];rfl);have m:=mS e b pre ((ya _).1 o e (by rw[M];exact aeb)) (j.le (by omega));have z:=Fb.plus (j.le (by omega:E.sz e+1<=_)) (wH e b.vars.length b.aJ.length);dsimp only;generalize cE b.vars.length b.aJ.length e=x at *;have H:=ou (b.plus x.2) pre ⟨18,x.1,0,0,0,[]⟩ (by have:=z.2.1;omega);rw[oq]at H;simp only[In.aI,G]at H;have g:aY (bG s.es)=e.aI::E.rows l:=(by show aY (aM _ _)=_;rw[bn,M];rfl);have O:bf (bG e.aN)=true:=ck;have K:(bG e.aN).ai=bG e.aN:=bY;generalize jT (b.plus (x.2.dO (fW ⟨18,x.1,0,0,0,[]⟩))) pre=pg at *;rw[E.aQ]at m g;rw[Sm.aQ];refine aG (sf:=K0) rfl rfl rfl ?_;generalize jT b pre=st,jT (b.plus x.2) pre=qg,bG e.aN=I,bG s.es=y,bZ s.bd=r,bZ s.el=L at *;simp[K0,p,t,g,w,D,F,K,fZ.bM,AV.ai,c7,m,H,cut,ay]
  rw[U c7];have one:(s.k=8\/s.k=9)->∃e,s.es=[e]/\jk s.es=e/\E.eD s.es=E.sz e/\aY (bG s.es)=[e.aI]/\LE e:=λh=>by
   obtain⟨e,q⟩:∃e,s.es=[e]:=⟨_,Kn (v (by omega))⟩;exact⟨e,q,by rw[q];rfl,by rw[q];simp[E.eD],by show aY (aM _ _)=_;rw[bn,q];rfl,(ya _).1 o e (by rw[q];exact aeb)⟩
  by_cases c8:s.k=8;rw[af c8];obtain⟨e,M,B,J,g,n⟩:=one (.inl c8);rw[B];have m:=mS e b pre n (j.le (by omega));have z:=Fb.plus (j.le (by omega:E.sz e+1<=_)) (wH e b.vars.length b.aJ.length);generalize cE b.vars.length b.aJ.length e=x at *;have H:=ou (b.plus x.2) pre ⟨15,x.1,0,0,0,[]⟩ (by have:=z.2.1;omega);rw[oq]at H;simp only[In.aI,G]at H;have O:bf (bG e.aN)=true:=ck;have K:(bG e.aN).ai=bG e.aN:=bY;generalize jT (b.plus (x.2.dO (fW ⟨15,x.1,0,0,0,[]⟩))) pre=pg at *;rw[E.aQ]at m g;rw[Sm.aQ];refine aG (sf:=K0) rfl rfl rfl ?_;generalize jT b pre=st,jT (b.plus x.2) pre=qg,bG e.aN=I,bG s.es=y,bZ s.bd=r,bZ s.el=L at *;simp[K0,p,t,g,w,D,F,K,fZ.bM,AV.ai,c8,m,H,cut,ay];rw[U c8];by_cases c9:s.k=9;rw[af c9];obtain⟨e,M,B,J,g,n⟩:=one (.inr c9);rw[B];have m:=mS e b pre n (j.le (by omega));generalize cE b.vars.length b.aJ.length e=x at *;have O:bf (bG e.aN)=true:=ck;have K:(bG e.aN).ai=bG e.aN:=bY;rw[E.aQ]at m g;rw[Sm.aQ];refine aG (sf:=K0) rfl rfl rfl ?_;generalize jT b pre=st,jT (b.plus x.2) pre=qg,bG e.aN=I,bG s.es=y,bZ s.bd=r,bZ s.el=L at *;simp[K0,p,t,g,w,D,F,K,fZ.bM,AV.ai,c9,m,cut];rw[U c9,rz,Sm.aQ];refine aG (sf:=K0) rfl rfl rfl ?_;generalize jT b pre=st,bG s.es=y,bZ s.bd=r,bZ s.el=L at *;have c2:¬s.k=2:=λh=>c (.inl h);have c3:¬s.k=3:=λh=>c (.inr h);simp[K0,p,D,F,fZ.bM,AV.ai,c2,c3,c4,C,c6,c7,c8,c9,cut]
end K2
