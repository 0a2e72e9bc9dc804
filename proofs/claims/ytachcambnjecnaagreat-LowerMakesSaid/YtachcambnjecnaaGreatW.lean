/- Part of a proof. -/
import Derived.Test.YtachcambnjecnaaGreatCode2
import Derived.Test.YtachcambnjecnaaGreatA6
import Derived.Test.YtachcambnjecnaaGreatF
import Derived.Test.YtachcambnjecnaaGreatC

set_option maxRecDepth 100000
set_option maxHeartbeats 4000000
namespace pU
open Ax Go bu V7 jG j9 tc
def bE(sz:Nat)(l:List (List AV)):AV:=if l=[] then .U else .iO sz l
structure Bl where
 aR:AV
 EK:List T3
 dX:List Cd
 aB:List Sd
 main:Int
 params:Int
 vars:List T3
 bO:Bool
 bz:T3
 is:List In
def rY(l:List In)(k:Nat):AV:=if l=[] then .U else .mu k (l.length-1)
def Bl.cells(b:Bl)(k:Nat):List AV:=[b.aR,bE 3 (b.EK.map T3.cells),bE 7 (b.dX.map Cd.row),bE 4 (b.aB.map Sd.row),.int .i64 b.main,
 .int .i64 b.params,bE 3 (b.vars.map T3.cells),.bool b.bO,.int .i64 b.bz.b,.int .i64 b.bz.r,.int .i64 b.bz.d,rY b.is k]
def oo(l:List In):aj:=if l=[] then [] else [.rows (l.length-1) 6 (l.map In.row)]
def iw(b:Bl)(pre:aj):aj:=.rows 0 12 [b.cells (pre.length+1)]::(pre++oo b.is)
abbrev pB:AV:=.ptr 0 0 0 0
theorem kU(l:List Int):(jE l).ax=true:=by cases l<;>simp[jE,aA,bD,bQ,AV.ax]
theorem kV(l:List Int):(jE l).cx=true:=by cases l<;>simp[jE,aA,bD,bQ,AV.cx]
theorem kW(l:List Int):(jE l).view=jE l:=by cases l<;>simp[jE,aA,bD,bQ,AV.view]
variable (wl af:Nat)
theorem EL(b:Bl)(pre:aj)(i:In)(v:AV)(_hp:v.ax=true)(hc:v.cx=true)(hv:v.view=jE i.args)(hb:b.is.length<1000000000) :
  (bh S).call 0 0 48 [pB,.agg [.int .i64 i.op,.int .i64 i.a,.int .i64 i.b,.int .i64 i.c,.int .i64 i.n,v]] (iw b pre)=some (.int .i64 b.is.length,iw { b with is:=b.is++[i] } pre):=by
 refine ay (sf:=s48) rfl rfl rfl ?_;have ur:=kU i.args;have Bg:=kV i.args;have Wn:=kW i.args;have hr:(b.is.length+1)*64<=cR:=by unfold cR;omega
 have IK:64<=cR:=by decide
 have hw:IntKind.i64.wrap ((b.is.length:Nat):Int)=b.is.length:=by rw[dZ]<;>omega
 have Tm:IntKind.i64.wrap 0=0:=by decide
 by_cases e:b.is=[];simp[s48,iw,pB,Bl.cells,rY,oo,e,In.row,aY,AV.ai,AV.ax,ag,au,an,cut,hc,hv,ur,Bg,Wn,bN,IK,Tm];simp[s48,iw,pB,Bl.cells,rY,oo,e,In.row,aY,AV.ai,AV.ax,ag,au,an,cut,hc,hv,ur,Bg,Wn,bN,hr,hw];have:=List.length_pos_iff.2 e;omega
theorem ig(b:Bl)(pre:aj)(i:In)(hb:b.is.length<1000000000) :
  (bh S).call 0 0 48 [pB,.agg i.row] (iw b pre)=some (.int .i64 b.is.length,iw { b with is:=b.is++[i] } pre):=
 EL b pre i (jE i.args) (kU _) (kV _) (kW _) hb
theorem uQ(b:Bl)(pre:aj)(t:T3)(hb:b.vars.length<1000000000) :
  (bh S).call 0 af 47 [pB,.agg t.cells] (iw b pre)=some (.int .i64 b.vars.length,iw { b with vars:=b.vars++[t] } pre):=by
 refine ay (sf:=s47) rfl rfl rfl ?_;have hr:(b.vars.length+1)*24<=cR:=by unfold cR;omega
 have IK:24<=cR:=by decide
 have hw:IntKind.i64.wrap ((b.vars.length:Nat):Int)=b.vars.length:=by rw[dZ]<;>omega
 have Tm:IntKind.i64.wrap 0=0:=by decide
 have D2:List.take (pre.length+(oo b.is).length) (pre++oo b.is)=pre++oo b.is:=List.take_of_length_le (by simp);by_cases e:b.vars=[];have h0:bE 3 (b.vars.map T3.cells)=.U:=by simp[bE,e]
 have h1:bE 3 ((b.vars++[t]).map T3.cells)=.iO 3 [t.cells]:=by simp[bE,e]
 simp only[iw,pB,Bl.cells,h0,h1];simp[s47,e,T3.cells,aY,AV.ai,AV.ax,AV.dJ,aV,dM,cV,bP,ag,au,an,cut,D2,bN,IK,Tm];have h0:bE 3 (b.vars.map T3.cells)=.iO 3 (b.vars.map T3.cells):=by simp[bE,e]
 have h1:bE 3 ((b.vars++[t]).map T3.cells)=.iO 3 (b.vars.map T3.cells++[t.cells]):=by simp[bE]
 simp only[iw,pB,Bl.cells,h0,h1];simp[s47,T3.cells,aY,AV.ai,AV.ax,AV.dJ,aV,dM,cV,bP,ag,au,an,cut,D2,bN,hr,hw]
theorem Av(b:Bl)(pre:aj)(_hb:b.is.length<1000000000) :
  (bh S).call 0 af 127 [pB] (iw b pre)=some (.int .i64 b.is.length,iw b pre):=by
 refine ay (sf:=Vu) rfl rfl rfl ?_;have D2:∀y:dy,List.take (pre.length+1) (pre++[y])=pre++[y]:=λy=>List.take_of_length_le (by simp);by_cases e:b.is=[];simp[Vu,iw,pB,Bl.cells,rY,oo,e,cut];simp[Vu,iw,pB,Bl.cells,rY,oo,e,cut,D2]
end pU
namespace pU
open Ax Go bu V7 jG j9 tc
mutual
theorem ld:∀a:AV,a.fG a=true
 |.undef|.gone|.fF|.U|.gn|.jc|.ke|.mK=>rfl|.bool b=>by simp[AV.fG]|.int k n=>by simp[AV.fG]|.str l=>by simp[AV.fG]|.agg l=>by simp only[AV.fG];exact ij l|.fm l=>by simp only[AV.fG];exact ij l|.dL s r=>by simp only[AV.fG,beq_self_eq_true,Bool.true_and];exact fj r|.iO s r=>by simp only[AV.fG,beq_self_eq_true,Bool.true_and];exact fj r|.raw s r=>by simp only[AV.fG,beq_self_eq_true,Bool.true_and];exact fj r|.mu i v=>by simp[AV.fG]|.ptr a b c d=>by simp[AV.fG]|.qd s a i k=>by simp only[AV.fG,beq_self_eq_true,Bool.true_and,Bool.and_true];exact fj a|.map i=>by simp[AV.fG]|.fn f a b=>by simp only[AV.fG,beq_self_eq_true,Bool.true_and,Bool.and_eq_true];exact⟨ij a,ij b⟩
theorem ij:∀l:List AV,AV.qT l l=true
 |[]=>rfl|a::l=>by simp only[AV.qT,ld a,ij l,Bool.and_self]
theorem fj:∀l:List (List AV),AV.qU l l=true
 |[]=>rfl|a::l=>by simp only[AV.qU,ij a,fj l,Bool.and_self]
end
variable (wl af:Nat)
theorem Ib(b:Bl)(pre:aj)(t:T3)(hb:b.aB.length<1000000000) :
  (bh S).call 0 af 143 [pB,.agg t.cells] (iw b pre)=some (.int .i64 b.aB.length,iw { b with aB:=b.aB++[⟨b.dX.length,t⟩] } pre):=by
 refine ay (sf:=ZE) rfl rfl rfl ?_;have hr:(b.aB.length+1)*32<=cR:=by unfold cR;omega
 have IK:32<=cR:=by decide
 have hw:IntKind.i64.wrap ((b.aB.length:Nat):Int)=b.aB.length:=by rw[dZ]<;>omega
 have Tm:IntKind.i64.wrap 0=0:=by decide
 have D2:List.take (pre.length+(oo b.is).length) (pre++oo b.is)=pre++oo b.is:=List.take_of_length_le (by simp);have hc:b.dX=[]/\bE 7 (b.dX.map Cd.row)=.U\/b.dX≠[]/\bE 7 (b.dX.map Cd.row)=.iO 7 (b.dX.map Cd.row):=by
  by_cases e:b.dX=[];exact .inl ⟨e,by simp[bE,e]⟩;exact .inr ⟨e,by simp[bE,e]⟩
 have hs:b.aB=[]/\bE 4 (b.aB.map Sd.row)=.U\/b.aB≠[]/\bE 4 (b.aB.map Sd.row)=.iO 4 (b.aB.map Sd.row):=by
  by_cases e:b.aB=[];exact .inl ⟨e,by simp[bE,e]⟩;exact .inr ⟨e,by simp[bE,e]⟩
 rcases hs with⟨e,h0⟩|⟨e,h0⟩<;>rcases hc with⟨e2,hc⟩|⟨e2,hc⟩<;>
 (simp only[iw,pB,Bl.cells,h0,hc]
  simp[ZE,e,e2,T3.cells,Sd.row,aV];rw[mV];simp[dS,gO,cW,bG,eC.bg,aY,AV.ai,AV.ax,AV.dJ,aV,dM,cV,bP,ag,cut,bN,hr,IK];refine⟨_,_,⟨rfl,rfl⟩,?_⟩;simp[bE,fj,bP,AV.cq,AV.view,fq.fG,AV.fG,cut,AV.ax,aV,dM,D2,hw,Tm])
end pU
namespace pU
open Ax Go bu V7 jG j9 tc
def Bl.plus(b:Bl)(o:l9):Bl:={ b with vars:=b.vars++o.vs,is:=b.is++o.is,aB:=b.aB++o.ss.map (λt=>⟨b.dX.length,t⟩) }
theorem kI(b:Bl):b.plus O0=b:=by simp[Bl.plus,O0]
theorem iQ(b:Bl)(x y:l9):(b.plus x).plus y=b.plus (x.eJ y):=by simp[Bl.plus,l9.eJ]
theorem jq(b:Bl)(i:In):{ b with is:=b.is++[i] }=b.plus (dO i):=by simp[Bl.plus,dO]
def Fb(b:Bl)(n:Nat):Prop:=b.vars.length+n<1000000000/\b.is.length+n<1000000000/\b.aB.length+n<1000000000
theorem cU(b:Bl)(o:l9):(b.plus o).vars.length=b.vars.length+o.vs.length/\(b.plus o).is.length=b.is.length+o.is.length/\(b.plus o).aB.length=b.aB.length+o.ss.length:=by simp[Bl.plus]
theorem Fb.plus{b:Bl}{o:l9}{n m:Nat}(h:Fb b (m+n))(g:Lo o m):Fb (b.plus o) n:=by
 obtain⟨a1,a2,a3⟩:=cU b o;obtain⟨h1,h2,h3⟩:=h;obtain⟨g1,g2,g3⟩:=g;exact⟨by omega,by omega,by omega⟩
theorem Fb.le{b:Bl}{n m:Nat}(h:Fb b m)(g:n<=m):Fb b n:=⟨by have:=h.1;omega,by have:=h.2.1;omega,by have:=h.2.2;omega⟩
theorem NA(b b':Bl)(pre:aj)(h:b'.is=b.is):List.take (iw b pre).length (iw b' pre)=iw b' pre:=by
 apply List.take_of_length_le;simp[iw,oo,h]
variable (wl af:Nat)
def rZ(b:Bl)(k:Int)(t:T3):Bl:=if k=8\/k=9 then { b with aB:=b.aB++[⟨b.dX.length,t⟩] } else b
theorem Wo(b:Bl)(k:Int)(t:T3):(rZ b k t).is=b.is:=by unfold rZ;split<;>rfl
theorem aaK(b:Bl)(pre:aj)(e:E)(l:List Int)(hb:b.aB.length<1000000000)(h7:e.k≠7)(h1:e.k=5\/e.k=9\/e.k=10\/e.k=12\/e.k=13->l.length=1)(h2:e.k=6\/14<=e.k->l.length=2)
  (hk:0<e.k/\e.k<25)(hr:e.k=4→-1000000000<e.cG/\e.cG<0) :
  (bh S).call 0 af 129 [pB,.agg e.row,bD 1 (bQ l)] (iw b pre)=some (.agg (dh e.k e.n e.cG 0 b.aB.length l).row,iw (rZ b e.k e.ty) pre):=by
 have hs:=λli=>Ib li b pre e.ty hb;have EM:∀{l:List Int},l.length=1->l=[zd l]:=fun {l} h=>by
  match l,h with
  |[a],_=>rfl
 have Tn:∀{l:List Int},l.length=2->l=[zd l,XU l]:=fun {l} h=>by
  match l,h with
  |[a,b],_=>rfl
 have e1:aD (aI e.aC)=true:=aQ;have e2:(aI e.aC).view=aI e.aC:=aN;have m1:aD (bD 1 (bQ l))=true:=bY;have m2:(bD 1 (bQ l)).view=aA 1 (bQ l):=rfl;have m3:aD (aA 1 (bQ l))=true:=aL;have m4:(aA 1 (bQ l)).view=aA 1 (bQ l):=aJ;have m5:aM (aA 1 (bQ l))=bQ l:=aE;have m6:bX 1 (aA 1 (bQ l))=true:=zI;have m7:aM (bD 1 (bQ l))=bQ l:=pN;have m8:bX 1 (bD 1 (bQ l))=true:=by rw[xu];simp[bN,bQ]
 have yH:List.take (iw b pre).length (iw b pre)=iw b pre:=NA b b pre rfl;have xK:List.take (iw b pre).length (iw { b with aB:=b.aB++[⟨b.dX.length,e.ty⟩] } pre)=iw { b with aB:=b.aB++[⟨b.dX.length,e.ty⟩] } pre:=NA b _ pre rfl;have hn:jE []=.U:=rfl;rw[E.az];simp only[T3.cells]at hs;refine ay (sf:=ZA) rfl rfl rfl ?_;generalize aI e.aC=KV at *;generalize bD 1 (bQ l)=MV at *;generalize aA 1 (bQ l)=LV at *;obtain⟨st,iu⟩:∃s,s=iw b pre:=⟨_,rfl⟩;rw[<-iu]at hs yH xK ⊢;simp[ZA,e1,eC.bg,AV.view,pB];by_cases c1:e.k=1;simp[c1,dh,rZ,In.row,hn,ag,yH,<-iu];by_cases c2:e.k=2;simp[c2,dh,rZ,In.row,hn,ag,yH,<-iu];by_cases c3:e.k=3;simp[c3,dh,rZ,In.row,hn,ag,yH,<-iu];by_cases c4:e.k=4;have hw:IntKind.i64.wrap (-1-e.cG) = -1-e.cG:=by obtain⟨a,b⟩:=hr c4;rw[dZ]<;>omega
 simp[c4,dh,rZ,In.row,hn,ag,yH,<-iu,hw];by_cases c5:e.k=5;obtain⟨a,rfl⟩:∃a,l=[a]:=⟨_,EM (h1 (.inl c5))⟩;simp[c5,dh,rZ,In.row,hn,ag,yH,<-iu,au,an,m7,m8,bQ,zd];by_cases c6:e.k=6;obtain⟨a,b,rfl⟩:∃a b,l=[a,b]:=⟨_,_,Tn (h2 (.inl c6))⟩;simp[c6,dh,rZ,In.row,hn,ag,yH,<-iu,au,an,m2,m5,m6,bQ,zd,XU];by_cases c8:e.k=8;simp[c8,dh,rZ,In.row,hn,ag,AV.view,hs,xK];by_cases c9:e.k=9;obtain⟨a,rfl⟩:∃a,l=[a]:=⟨_,EM (h1 (.inr (.inl c9)))⟩;have Cc:=λli=>hs li;simp only[pB]at Cc;simp[c9,dh,rZ,In.row,hn,AV.view,zd];rw[mV];simp[dS,gO,cW,bG,eC.bg,Cc,m7,m8,bQ,ag,AV.view];refine⟨_,_,⟨rfl,rfl⟩,?_⟩;simp[fq.fG,AV.fG,AV.qT,AV.qU,AV.view,AV.cq,xK,m7,m8,bQ,cut];by_cases HO:e.k=10;obtain⟨a,rfl⟩:∃a,l=[a]:=⟨_,EM (h1 (by omega))⟩;simp[HO,dh,rZ,In.row,hn,ag,yH,<-iu,m7,m8,bQ,zd];by_cases O1:e.k=11;simp[O1,dh,rZ,In.row,hn,ag,yH,<-iu];by_cases HP:e.k=12;obtain⟨a,rfl⟩:∃a,l=[a]:=⟨_,EM (h1 (by omega))⟩;simp[HP,dh,rZ,In.row,hn,ag,yH,<-iu,au,an,m7,m8,bQ,zd];by_cases Kr:e.k=13;obtain⟨a,rfl⟩:∃a,l=[a]:=⟨_,EM (h1 (by omega))⟩;simp[Kr,dh,rZ,In.row,hn,ag,yH,<-iu,au,an,m7,m8,bQ,zd];obtain⟨a,b,rfl⟩:∃a b,l=[a,b]:=⟨_,_,Tn (h2 (by omega))⟩;simp[c1,c2,c3,c4,c5,c6,h7,c8,c9,HO,O1,HP,Kr,dh,rZ,In.row,hn,ag,yH,<-iu,au,an,m2,m5,m6,bQ,zd,XU]
theorem zJ(b:Bl)(pre:aj)(e:E)(l:List Int)(hb:Fb b 1) :
  (bh S).call 0 0 128 [pB,.agg e.row,bD 1 (bQ l)] (iw b pre)=some (.int .i64 (if e.ty=T0 then -1 else b.vars.length),iw (b.plus (if e.ty=T0 then dO ⟨13,-1,0,e.cG,0,l⟩ else ⟨[e.ty],[⟨13,b.vars.length,0,e.cG,0,l⟩],[]⟩)) pre):=by
 obtain⟨hv,hi,hs⟩:=hb;have e1:aD (aI e.aC)=true:=aQ;have e2:(aI e.aC).view=aI e.aC:=aN;have m1:aD (bD 1 (bQ l))=true:=bY;have m2:(bD 1 (bQ l)).view=aA 1 (bQ l):=rfl;have m3:aD (aA 1 (bQ l))=true:=aL;have m4:(aA 1 (bQ l)).view=aA 1 (bQ l):=aJ;have ha:jE l=aA 1 (bQ l):=rfl;rw[E.az];by_cases ht:e.ty=T0;have tt:=EL b pre ⟨13,-1,0,e.cG,0,l⟩ _ (ck m1) (bU m1) rfl (by omega);have eb:e.ty.b=0/\e.ty.r=0/\e.ty.d=0:=by rw[ht];exact⟨rfl,rfl,rfl⟩
 rw[if_pos ht,if_pos ht,<-jq];refine ay (sf:=R8) rfl rfl rfl ?_;generalize aI e.aC=KV at *;generalize bD 1 (bQ l)=MV at *;generalize aA 1 (bQ l)=LV at *;simp[R8,e1,m1,eC.bg,AV.view,pB,eb,ag,tt];have t1:=λli=>uQ li b pre e.ty (by omega);have tt:=EL { b with vars:=b.vars++[e.ty] } pre ⟨13,b.vars.length,0,e.cG,0,l⟩ _ (ck m1) (bU m1) rfl (by show b.is.length<_;omega);simp only[T3.cells]at t1;have eb:(!decide (e.ty.b=0)||(!decide (e.ty.r=0) || !decide (e.ty.d=0)))=true:=by
  rcases h:e.ty with⟨x,y,z⟩;rw[h]at ht;by_cases a:x=0<;>by_cases b:y=0<;>by_cases c:z=0<;>simp_all
 rw[if_neg ht,if_neg ht];have ep:b.plus ⟨[e.ty],[⟨13,b.vars.length,0,e.cG,0,l⟩],[]⟩={ b with vars:=b.vars++[e.ty],is:=b.is++[⟨13,b.vars.length,0,e.cG,0,l⟩] }:=by simp[Bl.plus]
 rw[ep];refine ay (sf:=R8) rfl rfl rfl ?_;generalize aI e.aC=KV at *;generalize bD 1 (bQ l)=MV at *;generalize aA 1 (bQ l)=LV at *;simp[R8,e1,m1,eC.bg,AV.view,pB,eb,ag,t1,tt]
end pU
namespace pU
open Ax Go bu V7 jG j9 tc
def PE(e:E):Prop:=∀(b:Bl)(pre:aj),LE e->Fb b (E.sz e)->(bh S).call 0 0 106 [pB,.agg e.row] (iw b pre)=some (.int .i64 (cE b.vars.length b.aB.length e).1,iw (b.plus (cE b.vars.length b.aB.length e).2) pre)
theorem J8(l:List E)(ih:∀e∈l,PE e)(b:Bl)(pre:aj)(hL:LL l)(hb:Fb b (E.cQ l)) :
  (bh S).call 0 0 125 [pB,aI l] (iw b pre)=some (bD 1 (bQ (pC b.vars.length b.aB.length l).1),iw (b.plus (pC b.vars.length b.aB.length l).2) pre):=by
 have hz:bX 11 (aI l)=true:=zE;have cA:aD (aI l)=true:=aQ;have dW:(aI l).view=aI l:=aN;have cN:aM (aI l)=E.rows l:=aE;have hlen:=E.dD l;have hlb:l.length<1000000000:=by have:=hb.1;omega
 rw[l5]at hL;have ni:(E.rows l).length=l.length:=by simp[gh]
 refine ay (sf:=Zx) rfl rfl rfl ?_;generalize aI l=lv at *;simp[Zx,cA,dW,cN,ni,pB];refine bf MU.eq_1 (λx:Nat×List Int×Bl×List AV=>⟨[(0,.val (.ptr 0 0 0 0)),(5,.val (bD 1 (bQ x.2.1))),(8,.val lv),(9,.val (.int .i64 l.length)),(10,.val (.int .i64 x.1))],[x.2.2.2],iw x.2.2.1 pre⟩)
  (λx=>x.1<=l.length/\x.2.1.length=x.1/\Fb x.2.2.1 (E.cQ (l.drop x.1))/\(x.2.1++(pC x.2.2.1.vars.length x.2.2.1.aB.length (l.drop x.1)).1,x.2.2.1.plus (pC x.2.2.1.vars.length x.2.2.1.aB.length (l.drop x.1)).2)=((pC b.vars.length b.aB.length l).1,b.plus (pC b.vars.length b.aB.length l).2)) (λx=>l.length-x.1) (0,[],b,[]) (by simp[bD,bQ]) ⟨by simp,rfl,by simpa using hb,by simp⟩ ?_
 rintro⟨k,acc,b1,bx⟩ ⟨hk,To,f1,hp⟩ k7;simp only at hk To f1 hp k7;by_cases aW:k<l.length;have nK:=wk k (by omega);have hm:=List.getElem_mem aW;rw[List.drop_eq_getElem_cons aW]at f1 hp;simp only[E.cQ]at f1;have ct:=ih _ hm b1 pre (hL _ hm) (f1.le (by omega));have vr:=l7 l[k] b1.vars.length b1.aB.length;have f2:=f1.plus vr;rw[wP]at hp;obtain⟨pv,_,ps⟩:=cU b1 (cE b1.vars.length b1.aB.length l[k]).2;have e1:aD (aI l[k].aC)=true:=aQ;have e2:(aI l[k].aC).view=aI l[k].aC:=aN;have gE:=uZ aW;have gY:k<(E.rows l).length:=by simpa [gh] using aW
 have mZ:=oW aW gY;have lJ:nH 1 8 (bD 1 (bQ acc)) [[.int .i64 (cE b1.vars.length b1.aB.length l[k]).1]]=some (bD 1 (bQ (acc++[(cE b1.vars.length b1.aB.length l[k]).1]))):=by
  rw[dV (by rfl) (by simp[cR];omega)];simp
 have dx:=λbx=>k7 (k+1,acc++[(cE b1.vars.length b1.aB.length l[k]).1],b1.plus (cE b1.vars.length b1.aB.length l[k]).2,bx) ⟨by simp only;omega,by simp[To],f2,by
  simp only[pv,ps];rw[<-hp,iQ];simp⟩ (by simp only;omega)
 simp only at dx;rw[E.az]at ct gE mZ;generalize cE b1.vars.length b1.aB.length l[k]=y at *;generalize l[k]=x at *;generalize aI x.aC=xe at *;have g0:aD (bD 1 (bQ acc))=true:=bY;have g1:aD (bD 1 (bQ (acc++[y.1])))=true:=bY;generalize bD 1 (bQ (acc++[y.1]))=m1 at *;generalize bD 1 (bQ acc)=m0 at *;simp only[pB]at ct;simp[aW,nK,hz,dW,cN,mZ,ct,e1,e2,lJ,ag,AV.view];exact dx _;have eK:k=l.length:=by omega
 rw[eK,List.drop_length]at hp;have h1:(pC b.vars.length b.aB.length l).1=acc:=by
  have:=congrArg Prod.fst hp;simpa [pC] using this.symm
 have h2:b.plus (pC b.vars.length b.aB.length l).2=b1:=by
  have:=congrArg Prod.snd hp;simp only[pC]at this;rw[kI]at this;exact this.symm
 rw[h1,h2];have g0:aD (bD 1 (bQ acc))=true:=bY;generalize bD 1 (bQ acc)=m0 at *;simp[aW]
theorem Aw(nv ns:Nat):∀l:List E,(pC nv ns l).1.length=l.length
 |[]=>rfl|e::l=>by rw[wP];simp[Aw]
theorem Wp(k n cG t s:Int)(l:List Int)(h7:k≠7):(dh k n cG t s l).row=[.int .i64 (dh k n cG 0 s l).op,.int .i64 t,.int .i64 (dh k n cG 0 s l).b,.int .i64 (dh k n cG 0 s l).c,.int .i64 (dh k n cG 0 s l).n,jE (dh k n cG 0 s l).args]/\(dh k n cG 0 s l).a=0:=by
 by_cases c1:k=1\/k=2;simp[dh,c1,In.row];by_cases c3:k=3;simp[dh,c3,In.row];by_cases c4:k=4;simp[dh,c4,In.row];by_cases c5:k=5;simp[dh,c5,In.row];by_cases c6:k=6;simp[dh,c6,In.row];by_cases c8:k=8;simp[dh,c8,In.row];by_cases c9:k=9;simp[dh,c9,In.row];by_cases HO:k=10;simp[dh,HO,In.row];by_cases O1:k=11;simp[dh,O1,In.row];by_cases HP:k=12\/k=13;rcases HP with rfl|rfl<;>simp[dh,In.row];simp[dh,c1,c3,c4,c5,c6,h7,c8,c9,HO,O1,HP,In.row]
theorem eP(e:E):PE e:=by
 induction e using E.yu with
 |_ e ih=>
  intro b pre hL hb;rw[J6]at hL;obtain⟨hT,h1,h2,hk,hr,Tp⟩:=hL;have Ta:=E.mz e;have e1:aD (aI e.aC)=true:=aQ;have e2:(aI e.aC).view=aI e.aC:=aN;by_cases q:e.k=4/\0<=e.cG;rw[Gz,if_pos q,kI,E.az];obtain⟨st,iu⟩:∃s,s=iw b pre:=⟨_,rfl⟩;rw[<-iu];refine ay (sf:=Jq) rfl rfl rfl ?_;generalize aI e.aC=KV at *;simp[Jq,e1,eC.bg,AV.view,q,pB];have nj:=J8 e.aC ih b pre Tp (hb.le (by omega));have vr:=EF e.aC b.vars.length b.aB.length;have f1:Fb (b.plus (pC b.vars.length b.aB.length e.aC).2) 1:=Fb.plus (hb.le (by omega)) vr;have BZ:=Aw b.vars.length b.aB.length e.aC;obtain⟨pv,pi,ps⟩:=cU b (pC b.vars.length b.aB.length e.aC).2;rw[Gz,if_neg q];unfold cK;generalize pC b.vars.length b.aB.length e.aC=x at *;have q1:e.k=4->¬0<=e.cG:=λa b=>q ⟨a,b⟩;have m1:aD (bD 1 (bQ x.1))=true:=bY;by_cases c7:e.k=7;have hc:=zJ (b.plus x.2) pre e x.1 f1;have ea:∀{α:Type} (p q:α),(if e.ty=T0 then p else q)=if e.ty=T0 then p else q:=λ_ _=>rfl
  rw[iQ]at hc;have er:(if e.ty=T0 then ((-1:Int),x.2.eJ (dO ⟨13,-1,0,e.cG,0,x.1⟩)) else (((b.vars.length+x.2.vs.length:Nat):Int),x.2.eJ ⟨[e.ty],[dh e.k e.n e.cG ((b.vars.length+x.2.vs.length:Nat):Int) ((b.aB.length+x.2.ss.length:Nat):Int) x.1],if e.k=8\/e.k=9 then [e.ty] else []⟩))
    = ((if e.ty=T0 then (-1:Int) else ((b.plus x.2).vars.length:Int)),x.2.eJ (if e.ty=T0 then dO ⟨13,-1,0,e.cG,0,x.1⟩ else ⟨[e.ty],[⟨13,((b.plus x.2).vars.length:Int),0,e.cG,0,x.1⟩],[]⟩)):=by
   split
   rfl
   rw[pv];simp[c7,dh]
  rw[er];generalize (if e.ty=T0 then (-1:Int) else ((b.plus x.2).vars.length:Int))=rv at *;generalize b.plus (x.2.eJ (if e.ty=T0 then dO ⟨13,-1,0,e.cG,0,x.1⟩ else ⟨[e.ty],[⟨13,((b.plus x.2).vars.length:Int),0,e.cG,0,x.1⟩],[]⟩))=rb at *;rw[E.az]at hc ⊢;refine ay (sf:=Jq) rfl rfl rfl ?_;generalize iw b pre=st at *;generalize iw (b.plus x.2) pre=kL at *;generalize bD 1 (bQ x.1)=MV at *;generalize aI e.aC=KV at *;simp only[pB]at nj hc;rw[c7]at hc;simp[Jq,e1,e2,eC.bg,AV.view,c7,pB,nj,hc];have hT':¬e.ty=T0:=λc=>c7 (hT c);rw[if_neg hT'];have ht:=λli=>uQ li (b.plus x.2) pre e.ty (by have:=f1.1;omega);have hi:=λli=>aaK li { b.plus x.2 with vars:=(b.plus x.2).vars++[e.ty] } pre e x.1 (by have:=f1.2.2;show (b.plus x.2).aB.length<_;omega) c7 (λh=>by rw[BZ];exact h1 h) (λh=>by rw[BZ];exact h2 h) hk (λh=>⟨hr h,by have:=q1 h;omega⟩);have ha:=ig (rZ { b.plus x.2 with vars:=(b.plus x.2).vars++[e.ty] } e.k e.ty) pre (dh e.k e.n e.cG ((b.vars.length+x.2.vs.length:Nat):Int) ((b.aB.length+x.2.ss.length:Nat):Int) x.1) (by rw[Wo];have:=f1.2.1;show (b.plus x.2).is.length<_;omega);have cA:{ b.plus x.2 with vars:=(b.plus x.2).vars++[e.ty] }.aB.length=b.aB.length+x.2.ss.length:=ps;rw[cA]at hi;obtain⟨r1,r2⟩:=Wp e.k e.n e.cG ((b.vars.length+x.2.vs.length:Nat):Int) ((b.aB.length+x.2.ss.length:Nat):Int) x.1 c7;rw[r1]at ha;simp only[In.row,r2]at hi;have tP:{ rZ { b.plus x.2 with vars:=(b.plus x.2).vars++[e.ty] } e.k e.ty with is:=(rZ { b.plus x.2 with vars:=(b.plus x.2).vars++[e.ty] } e.k e.ty).is++[dh e.k e.n e.cG ((b.vars.length+x.2.vs.length:Nat):Int) ((b.aB.length+x.2.ss.length:Nat):Int) x.1] } =
    b.plus (x.2.eJ ⟨[e.ty],[dh e.k e.n e.cG ((b.vars.length+x.2.vs.length:Nat):Int) ((b.aB.length+x.2.ss.length:Nat):Int) x.1],if e.k=8\/e.k=9 then [e.ty] else []⟩):=by
   by_cases c:e.k=8\/e.k=9;simp[rZ,c,Bl.plus,l9.eJ];simp[rZ,c,Bl.plus,l9.eJ]
  rw[tP]at ha;rw[pv]at ht;simp only;generalize dh e.k e.n e.cG 0 ((b.aB.length+x.2.ss.length:Nat):Int) x.1=J at *;have ja:aD (jE J.args)=true:=aL;have jb:(jE J.args).view=jE J.args:=aJ;generalize (dh e.k e.n e.cG ((b.vars.length+x.2.vs.length:Nat):Int) ((b.aB.length+x.2.ss.length:Nat):Int) x.1)=J2 at *;generalize b.plus (x.2.eJ ⟨[e.ty],[J2],if e.k=8\/e.k=9 then [e.ty] else []⟩)=rb at *;rw[E.az]at hi ⊢;refine ay (sf:=Jq) rfl rfl rfl ?_;generalize iw (rZ { b.plus x.2 with vars:=(b.plus x.2).vars++[e.ty] } e.k e.ty) pre=st3 at *;generalize iw { b.plus x.2 with vars:=(b.plus x.2).vars++[e.ty] } pre=kO at *;generalize iw b pre=st at *;generalize iw (b.plus x.2) pre=kL at *;generalize iw rb pre=st4 at *;generalize ((b.vars.length+x.2.vs.length:Nat):Int)=tv at *;generalize bD 1 (bQ x.1)=MV at *;generalize aI e.aC=KV at *;generalize jE J.args=AV1 at *;simp only[pB,T3.cells]at nj hi ht ha;by_cases c4:e.k=4;have q4:=q1 c4;simp only[c4]at hi;simp[Jq,e1,e2,eC.bg,AV.view,c4,q4,pB,nj,ht,hi,ha,ja,jb,ag];simp[Jq,e1,e2,eC.bg,AV.view,c7,c4,pB,nj,ht,hi,ha,ja,jb,ag]
end pU
namespace pU
open Ax Go bu V7 jG j9 tc
theorem jk(b:Bl)(x:l9)(i:In):{ b.plus x with is:=(b.plus x).is++[i] }=b.plus (x.eJ (dO i)):=by rw[jq,iQ]
theorem L3(b:Bl)(pre:aj)(s:Sm)(h1:s.es.length=1)(hL:LL s.es)(hr : -1000000000<s.cG)(hb:Fb b (E.cQ s.es+1)) :
  (bh S).call 0 0 102 [pB,.agg s.row] (iw b pre)=some (.fm [],iw (b.plus ((cE b.vars.length b.aB.length (k9 s.es)).2.eJ (dO (Ar s.cG (cE b.vars.length b.aB.length (k9 s.es)).1)))) pre):=by
 obtain⟨e,he⟩:∃e,s.es=[e]:=⟨_,uM h1⟩;have h0:k9 s.es=e:=by rw[he];rfl
 have dF:E.cQ s.es=E.sz e:=by rw[he];simp[E.cQ]
 rw[h0];have hx:=eP e b pre ((l5 _).1 hL e (by rw[he];exact List.mem_cons_self)) (hb.le (by omega));have vr:=l7 e b.vars.length b.aB.length;have f1:=(hb.le (by omega:E.sz e+1<=_)).plus vr;generalize cE b.vars.length b.aB.length e=x at *;have ha:=ig (b.plus x.2) pre (Ar s.cG x.1) (by have:=f1.2.1;omega);rw[jk]at ha;have e1:aD (aI s.es)=true:=aQ;have e2:(aI s.es).view=aI s.es:=aN;have e3:aM (aI s.es)=[e.row]:=by show aM (aA _ _)=_;rw[aE,he];rfl
 have e4:bX 11 (aI s.es)=true:=zE;have b1:aD (aS s.bd)=true:=bn;have b2:(aS s.bd).view=aS s.bd:=aO;have l1:aD (aS s.el)=true:=bn;have l2:(aS s.el).view=aS s.el:=aO;have k1:aD (aI e.aC)=true:=aQ;have k2:(aI e.aC).view=aI e.aC:=aN;have hn:jE []=.U:=rfl;rw[E.az]at hx e3;rw[Sm.az];refine ay (sf:=Vp) rfl rfl rfl ?_;generalize iw (b.plus (x.2.eJ (dO (Ar s.cG x.1)))) pre=kO at *;generalize iw b pre=st at *;generalize iw (b.plus x.2) pre=kL at *;generalize aI e.aC=KV at *;generalize aI s.es=EV at *;generalize aS s.bd=DV at *;generalize aS s.el=LV at *;simp only[pB]at hx ha;by_cases c:s.cG<0;have hw:IntKind.i64.wrap (-1-s.cG) = -1-s.cG:=by rw[dZ]<;>omega
 simp only[Ar,if_pos c,In.row,hn]at ha;simp[Vp,e1,e2,e3,e4,b1,l1,k2,eC.bg,AV.view,pB,hx,cut,c,hw,ha,ag];simp only[Ar,if_neg c,In.row,hn]at ha;simp[Vp,e1,e2,e3,e4,b1,l1,k2,eC.bg,AV.view,pB,hx,cut,c,ha,ag]
theorem Dj(b:Bl)(pre:aj)(s:Sm)(h1:s.es.length=2)(hL:LL s.es)(hk:(k9 s.es).k=5\/(k9 s.es).k=6)(hb:Fb b (E.cQ s.es+1)) :
  (bh S).call 0 0 103 [pB,.agg s.row] (iw b pre)=some (.fm [],iw (b.plus (J5 b.vars.length b.aB.length (k9 s.es) (pC b.vars.length b.aB.length (k9 s.es).aC) (λnv ns=>cE nv ns (Pz s.es)))) pre):=by
 obtain⟨e,f,he⟩:∃e f,s.es=[e,f]:=⟨_,_,LX h1⟩;have h0:k9 s.es=e:=by rw[he];rfl
 have h01:Pz s.es=f:=by rw[he];rfl
 have dF:E.cQ s.es=E.sz e+E.sz f:=by rw[he];simp[E.cQ]
 have Ta:=E.mz e;rw[h0]at hk ⊢;rw[h01];rw[l5]at hL;have O3:=hL e (by rw[he];exact List.mem_cons_self);rw[J6]at O3;obtain⟨_,q1,q2,_,_,Wq⟩:=O3;have hx:=J8 e.aC (λx _=>eP x) b pre Wq (hb.le (by omega));have vr:=EF e.aC b.vars.length b.aB.length;have f1:=(hb.le (by omega:E.cQ e.aC+(E.sz f+1)<=_)).plus vr;have BZ:=Aw b.vars.length b.aB.length e.aC;unfold J5;obtain⟨pv,pi,ps⟩:=cU b (pC b.vars.length b.aB.length e.aC).2;generalize pC b.vars.length b.aB.length e.aC=x at *;have hy:=eP f (b.plus x.2) pre (hL f (by rw[he];simp)) (f1.le (by omega));have Tq:=l7 f (b.plus x.2).vars.length (b.plus x.2).aB.length;have f2:=f1.plus Tq;rw[pv,ps]at hy Tq f2;simp only;generalize cE (b.vars.length+x.2.vs.length) (b.aB.length+x.2.ss.length) f=y at *;have ha:=ig ((b.plus x.2).plus y.2) pre (Fv e.k e.cG y.1 x.1) (by have:=f2.2.1;omega);simp only[jq,iQ,CP]at ha hy;rw[CP];have e1:aD (aI s.es)=true:=aQ;have e2:(aI s.es).view=aI s.es:=aN;have e3:aM (aI s.es)=[e.row,f.row]:=by show aM (aA _ _)=_;rw[aE,he];rfl
 have e4:bX 11 (aI s.es)=true:=zE;have b1:aD (aS s.bd)=true:=bn;have b2:(aS s.bd).view=aS s.bd:=aO;have l1:aD (aS s.el)=true:=bn;have l2:(aS s.el).view=aS s.el:=aO;have k1:aD (aI e.aC)=true:=aQ;have k2:(aI e.aC).view=aI e.aC:=aN;have k3:aD (aI f.aC)=true:=aQ;have k4:(aI f.aC).view=aI f.aC:=aN;have hn:jE []=.U:=rfl;have m1:aD (bD 1 (bQ x.1))=true:=bY;have m2:(bD 1 (bQ x.1)).view=aA 1 (bQ x.1):=rfl;have m3:aD (aA 1 (bQ x.1))=true:=aL;have m5:aM (aA 1 (bQ x.1))=bQ x.1:=aE;have m6:bX 1 (aA 1 (bQ x.1))=true:=zI;have m7:aM (bD 1 (bQ x.1))=bQ x.1:=pN;have m8:bX 1 (bD 1 (bQ x.1))=true:=by rw[xu];simp[bN,bQ]
 rw[E.az f]at hy;rw[E.az e,E.az f]at e3;rw[Sm.az];refine ay (sf:=Vq) rfl rfl rfl ?_;generalize iw (b.plus (x.2.eJ (y.2.eJ (dO (Fv e.k e.cG y.1 x.1))))) pre=st3 at *;generalize iw (b.plus (x.2.eJ y.2)) pre=kO at *;generalize iw b pre=st at *;generalize iw (b.plus x.2) pre=kL at *;generalize aI e.aC=KV at *;generalize aI f.aC=FV at *;generalize aI s.es=EV at *;generalize aS s.bd=DV at *;generalize aS s.el=LV at *;generalize bD 1 (bQ x.1)=MV at *;generalize aA 1 (bQ x.1)=NV at *;simp only[pB]at hx hy ha;by_cases c:e.k=5;rw[LY (by rw[BZ];exact q1 (.inl c))]at m5 m7;simp only[Fv,if_pos c,In.row,hn]at ha;simp[Vq,e1,e2,e3,e4,b1,l1,k2,k4,m7,m8,eC.bg,AV.view,pB,hx,hy,cut,c,ha,ag,au,an];have c6:e.k=6:=by omega
 rw[LZ (by rw[BZ];exact q2 (.inl c6))]at m5 m7;simp only[Fv,if_neg c,In.row,hn]at ha;simp[Vq,e1,e2,e3,e4,b1,l1,k2,k4,m2,m5,m6,eC.bg,AV.view,pB,hx,hy,cut,c6,ha,ag,au,an]
theorem GC(b:Bl)(pre:aj)(e:E)(hL:LE e)(hb:Fb b (E.sz e+1)) :
  (bh S).call 0 0 126 [pB,.agg e.row] (iw b pre)=some (.int .i64 ((b.is.length+(cE b.vars.length b.aB.length e).2.is.length:Nat):Int),iw (b.plus ((cE b.vars.length b.aB.length e).2.eJ (dO ⟨17,(cE b.vars.length b.aB.length e).1,0,0,((b.is.length+(cE b.vars.length b.aB.length e).2.is.length+1:Nat):Int),[]⟩))) pre):=by
 have hx:=eP e b pre hL (hb.le (by omega));have f1:=hb.plus (l7 e b.vars.length b.aB.length);obtain⟨pv,pi,ps⟩:=cU b (cE b.vars.length b.aB.length e).2;generalize cE b.vars.length b.aB.length e=x at *;have aW:(b.plus x.2).is.length<1000000000:=by have:=f1.2.1;omega
 have VC:=λli=>Av li (b.plus x.2) pre aW;have ha:=ig (b.plus x.2) pre ⟨17,x.1,0,0,((b.is.length+x.2.is.length+1:Nat):Int),[]⟩ aW;rw[jk]at ha;rw[pi]at VC ha aW;have hw:IntKind.i64.wrap (((b.is.length+x.2.is.length:Nat):Int)+1)=((b.is.length+x.2.is.length+1:Nat):Int):=by rw[dZ]<;>omega
 have hn:jE []=.U:=rfl;have k1:aD (aI e.aC)=true:=aQ;have k2:(aI e.aC).view=aI e.aC:=aN;rw[E.az]at hx ⊢;refine ay (sf:=Zz) rfl rfl rfl ?_;simp only[In.row,hn,pB]at hx ha VC;generalize iw (b.plus (x.2.eJ (dO ⟨17,x.1,0,0,((b.is.length+x.2.is.length+1:Nat):Int),[]⟩))) pre=kO at *;generalize ((b.is.length+x.2.is.length+1:Nat):Int)=n1 at *;generalize ((b.is.length+x.2.is.length:Nat):Int)=n0 at *;generalize iw b pre=st at *;generalize iw (b.plus x.2) pre=kL at *;generalize aI e.aC=KV at *;simp[Zz,k1,k2,eC.bg,AV.view,pB,hx,VC,hw,ha,ag]
end pU
namespace pU
open Ax Go bu V7 jG j9 tc
def PS(s:Sm):Prop:=∀(b:Bl)(pre:aj),LS s->Fb b (2*Sm.sz s)->(bh S).call 0 0 86 [pB,.agg s.row] (iw b pre)=some (.fm [],iw (b.plus (cS b.vars.length b.is.length b.aB.length s)) pre)
theorem fh(l:List Sm)(ih:∀s∈l,PS s)(b:Bl)(pre:aj)(hL:LB l)(hb:Fb b (2*Sm.cQ l)) :
  (bh S).call 0 0 45 [pB,aS l] (iw b pre)=some (.fm [],iw (b.plus (cB b.vars.length b.is.length b.aB.length l)) pre):=by
 have hz:bX 9 (aS l)=true:=zL (by simp[bN,fY,Sm.az]);have cA:aD (aS l)=true:=bn;have dW:(aS l).view=aS l:=aO;have cN:aM (aS l)=Sm.rows l:=aE;have hlen:=Sm.dD l;have hlb:l.length<1000000000:=by have:=hb.1;omega
 rw[EG]at hL;have ni:(Sm.rows l).length=l.length:=by simp[fY]
 refine ay (sf:=s45) rfl rfl rfl ?_;generalize aS l=lv at *;simp[s45,cA,dW,cN,ni,pB];refine bf Rt.eq_1 (λx:Nat×Bl×List AV=>⟨[(0,.val (.ptr 0 0 0 0)),(6,.val lv),(7,.val (.int .i64 l.length)),(8,.val (.int .i64 x.1))],[x.2.2],iw x.2.1 pre⟩)
  (λx=>x.1<=l.length/\Fb x.2.1 (2*Sm.cQ (l.drop x.1))/\x.2.1.plus (cB x.2.1.vars.length x.2.1.is.length x.2.1.aB.length (l.drop x.1))=b.plus (cB b.vars.length b.is.length b.aB.length l)) (λx=>l.length-x.1) (0,b,[]) (by simp) ⟨by simp,by simpa using hb,by simp⟩ ?_
 rintro⟨k,b1,bx⟩ ⟨hk,f1,hp⟩ k7;simp only at hk f1 hp k7;by_cases aW:k<l.length;have nK:=wk k (by omega);have hm:=List.getElem_mem aW;rw[List.drop_eq_getElem_cons aW]at f1 hp;simp only[Sm.cQ]at f1;have ct:=ih _ hm b1 pre (hL _ hm) (f1.le (by omega));have vr:=Tf l[k] (hL _ hm) b1.vars.length b1.is.length b1.aB.length;have f2:=Fb.plus (f1.le (by omega:2*Sm.sz l[k]+2*Sm.cQ (l.drop (k+1))<=_)) vr;rw[CO]at hp;unfold J4 at hp;obtain⟨pv,pi,ps⟩:=cU b1 (cS b1.vars.length b1.is.length b1.aB.length l[k]);obtain⟨e1,d1,l1⟩:aD (aI l[k].es)=true/\aD (aS l[k].bd)=true/\aD (aS l[k].el)=true:=⟨aQ,bn,bn⟩;have e2:(aI l[k].es).view=aI l[k].es:=aN;have d2:(aS l[k].bd).view=aS l[k].bd:=aO;have l2:(aS l[k].el).view=aS l[k].el:=aO;have gE:=wL aW;have gY:k<(Sm.rows l).length:=by omega
 have mZ:=qG aW gY;have dx:=λbx=>k7 (k+1,b1.plus (cS b1.vars.length b1.is.length b1.aB.length l[k]),bx) ⟨by simp only;omega,f2,by
  simp only[pv,pi,ps];rw[<-hp,iQ]⟩ (by simp only;omega)
 simp only at dx;rw[Sm.az]at ct gE mZ;generalize cS b1.vars.length b1.is.length b1.aB.length l[k]=y at *;generalize l[k]=x at *;generalize aI x.es=xe at *;generalize aS x.bd=xb at *;generalize aS x.el=xl at *;simp only[pB]at ct;simp[aW,nK,hz,dW,cN,mZ,ct,e1,e2,d1,d2,l1,l2,ag,AV.view];exact dx _;have eK:k=l.length:=by omega
 rw[eK,List.drop_length,H9,kI]at hp;rw[<-hp];simp[aW]
theorem L4(b:Bl)(pre:aj)(h:b.is≠[]):iw b pre=.rows 0 12 [[b.aR,bE 3 (b.EK.map T3.cells),bE 7 (b.dX.map Cd.row),bE 4 (b.aB.map Sd.row),.int .i64 b.main,
  .int .i64 b.params,bE 3 (b.vars.map T3.cells),.bool b.bO,.int .i64 b.bz.b,.int .i64 b.bz.r,.int .i64 b.bz.d,.mu (pre.length+1) (b.is.length-1)]]::(pre++[.rows (b.is.length-1) 6 (b.is.map In.row)]):=by
 simp[iw,Bl.cells,rY,oo,h]
end pU
namespace pU
open Ax Go bu V7 jG j9 tc
def Bl.pV(b:Bl)(i:Nat)(a:In):Bl:={ b with is:=b.is.set i a }
structure Pt (b:Bl)(pre:aj)(st:aj)(H:List AV)(V:Nat)(R:List (List AV)):Prop where
 st:st=iw b pre
 eq:iw b pre=.rows 0 12 [H++[.mu (pre.length+1) V]]::(pre++[.rows V 6 R])
 len:R.length=b.is.length
 set:∀(i:Nat) (a:In),(.rows 0 12 [H++[.mu (pre.length+1) V]]::(pre++[.rows V 6 (R.set i (In.row a))]):aj)=iw (b.pV i a) pre
 get:∀(i:Nat) (a:In),b.is[i]?=some a->R[i]?=some a.row
theorem Ay(b:Bl)(pre:aj)(h:b.is≠[]):∃r0 r1 r2 r3 r4 r5 r6 r7 r8 r9 r10 V R,Pt b pre (iw b pre) [r0,r1,r2,r3,r4,r5,r6,r7,r8,r9,r10] V R:=by
 refine⟨_,_,_,_,_,_,_,_,_,_,_,b.is.length-1,b.is.map In.row,rfl,L4 b pre h,by simp,λi a=>?_,λi a h=>by simp[h]⟩;rw[L4 (b.pV i a) pre (by intro c;apply h;have:=congrArg List.length c;simp[Bl.pV]at this;exact this)];simp[Bl.pV,List.map_set]
theorem EN(b:Bl)(x:Int×l9)(y z:l9)(f g:Nat->Nat->Nat->l9)
  (hy:y=f (b.vars.length+x.2.vs.length) (b.is.length+x.2.is.length+1) (b.aB.length+x.2.ss.length))
  (hz:z=g (b.vars.length+x.2.vs.length+y.vs.length) (b.is.length+x.2.is.length+1+y.is.length+1) (b.aB.length+x.2.ss.length+y.ss.length)) :
  ((((((b.plus (x.2.eJ (dO ⟨17,x.1,0,0,((b.is.length+x.2.is.length+1:Nat):Int),[]⟩))).plus y).plus (dO ⟨16,0,0,0,0,[]⟩)).pV (b.is.length+x.2.is.length)
   ⟨17,x.1,0,((b.is.length+x.2.is.length+1+y.is.length+1:Nat):Int),((b.is.length+x.2.is.length+1:Nat):Int),[]⟩).plus z).pV (b.is.length+x.2.is.length+1+y.is.length)
   ⟨16,0,0,0,((b.is.length+x.2.is.length+1+y.is.length+1+z.is.length:Nat):Int),[]⟩)=b.plus (XW b.vars.length b.is.length b.aB.length x f g):=by
 unfold XW;dsimp only;rw[<-hy,<-hz];have e1:1+y.is.length=y.is.length+1:=by omega
 simp[Bl.plus,Bl.pV,l9.eJ,dO,Nat.add_assoc,e1]
theorem EO(b:Bl)(x:Int×l9)(y:l9)(f:Nat->Nat->Nat->l9)
  (hy:y=f (b.vars.length+x.2.vs.length) (b.is.length+x.2.is.length+1) (b.aB.length+x.2.ss.length)) :
  ((((b.plus (x.2.eJ (dO ⟨17,x.1,0,0,((b.is.length+x.2.is.length+1:Nat):Int),[]⟩))).plus y).plus (dO ⟨16,0,0,0,(b.is.length:Int),[]⟩)).pV (b.is.length+x.2.is.length)
   ⟨17,x.1,0,((b.is.length+x.2.is.length+1+y.is.length+1:Nat):Int),((b.is.length+x.2.is.length+1:Nat):Int),[]⟩)=b.plus (XX b.vars.length b.is.length b.aB.length x f):=by
 unfold XX;dsimp only;rw[<-hy];simp[Bl.plus,Bl.pV,l9.eJ,dO,Nat.add_assoc]
theorem O4(s:Sm)(sW:∀x∈s.bd,PS x)(k7:∀x∈s.el,PS x)(b:Bl)(pre:aj)(h1:s.es.length=1)(hL:LL s.es)(hB:LB s.bd)(hE:LB s.el)(hb:Fb b (2*Sm.sz s)) :
  (bh S).call 0 0 104 [pB,.agg s.row] (iw b pre)=some (.fm [],iw (b.plus (XW b.vars.length b.is.length b.aB.length (cE b.vars.length b.aB.length (k9 s.es)) (λnv at_ ns=>cB nv at_ ns s.bd) (λnv at_ ns=>cB nv at_ ns s.el))) pre):=by
 obtain⟨e,he⟩:∃e,s.es=[e]:=⟨_,uM h1⟩;have h0:k9 s.es=e:=by rw[he];rfl
 have dF:E.cQ s.es=E.sz e:=by rw[he];simp[E.cQ]
 have oz:=Sm.jM s;rw[h0];have Ws:=GC b pre e ((l5 _).1 hL e (by rw[he];exact List.mem_cons_self)) (hb.le (by omega));have vr:=l7 e b.vars.length b.aB.length;obtain⟨y,hy⟩:∃y,y=cB (b.vars.length+(cE b.vars.length b.aB.length e).2.vs.length) (b.is.length+(cE b.vars.length b.aB.length e).2.is.length+1) (b.aB.length+(cE b.vars.length b.aB.length e).2.ss.length) s.bd:=⟨_,rfl⟩;obtain⟨z,hz⟩:∃z,z=cB (b.vars.length+(cE b.vars.length b.aB.length e).2.vs.length+y.vs.length) (b.is.length+(cE b.vars.length b.aB.length e).2.is.length+1+y.is.length+1) (b.aB.length+(cE b.vars.length b.aB.length e).2.ss.length+y.ss.length) s.el:=⟨_,rfl⟩;rw[<-EN b (cE b.vars.length b.aB.length e) y z _ _ hy hz];generalize cE b.vars.length b.aB.length e=x at *;obtain⟨b1,Cf⟩:∃b1,b1=b.plus (x.2.eJ (dO ⟨17,x.1,0,0,((b.is.length+x.2.is.length+1:Nat):Int),[]⟩)):=⟨_,rfl⟩;have l1:b1.vars.length=b.vars.length+x.2.vs.length/\b1.is.length=b.is.length+x.2.is.length+1/\b1.aB.length=b.aB.length+x.2.ss.length:=by
  rw[Cf];obtain⟨p,q,r⟩:=cU b (x.2.eJ (dO ⟨17,x.1,0,0,((b.is.length+x.2.is.length+1:Nat):Int),[]⟩));rw[p,q,r];simp[l9.eJ,dO,Nat.add_assoc]
 have g1:b1.is[b.is.length+x.2.is.length]?=some ⟨17,x.1,0,0,((b.is.length+x.2.is.length+1:Nat):Int),[]⟩:=by
  rw[Cf];simp[Bl.plus,l9.eJ,dO]
 rw[<-Cf]at Ws ⊢;have f1:Fb b1 (2*Sm.cQ s.bd+(2*Sm.cQ s.el+1)):=by
  obtain⟨p1,p2,p3⟩:=hb;obtain⟨q1,q2,q3⟩:=vr;obtain⟨r1,r2,r3⟩:=l1;exact⟨by omega,by omega,by omega⟩
 have y7:=fh s.bd sW b1 pre hB (f1.le (by omega));have FM:=As hB (b.vars.length+x.2.vs.length) (b.is.length+x.2.is.length+1) (b.aB.length+x.2.ss.length);rw[l1.1,l1.2.1,l1.2.2,<-hy]at y7;rw[<-hy]at FM;have f2:=f1.plus FM;obtain⟨m1,m2,m3⟩:=cU b1 y;have g2:(b1.plus y).is[b.is.length+x.2.is.length]?=some ⟨17,x.1,0,0,((b.is.length+x.2.is.length+1:Nat):Int),[]⟩:=by
  show (b1.is++y.is)[_]?=_;rw[List.getElem?_append_left (by omega)];exact g1
 have ha:=ig (b1.plus y) pre ⟨16,0,0,0,0,[]⟩ (by have:=f2.2.1;omega);rw[jq,m2,l1.2.1]at ha;obtain⟨b3,yy⟩:∃b3,b3=(b1.plus y).plus (dO ⟨16,0,0,0,0,[]⟩):=⟨_,rfl⟩;rw[<-yy]at ha ⊢;have l3:b3.vars.length=b.vars.length+x.2.vs.length+y.vs.length/\b3.is.length=b.is.length+x.2.is.length+1+y.is.length+1/\b3.aB.length=b.aB.length+x.2.ss.length+y.ss.length:=by
  rw[yy];obtain⟨p,q,r⟩:=cU (b1.plus y) (dO ⟨16,0,0,0,0,[]⟩);rw[p,q,r,m1,m2,m3,l1.1,l1.2.1,l1.2.2];simp[dO]
 have g3:b3.is[b.is.length+x.2.is.length]?=some ⟨17,x.1,0,0,((b.is.length+x.2.is.length+1:Nat):Int),[]⟩:=by
  rw[yy];show ((b1.plus y).is++_)[_]?=_;rw[List.getElem?_append_left (by omega)];exact g2
 have g3j:b3.is[b.is.length+x.2.is.length+1+y.is.length]?=some ⟨16,0,0,0,0,[]⟩:=by
  rw[yy];show ((b1.plus y).is++[_])[_]?=_;rw[List.getElem?_append_right (by omega),m2,l1.2.1];simp
 have Tr:b3.is.length<1000000000:=by have:=f2.2.1;omega
 have nx3:=λli=>Av li b3 pre Tr;rw[l3.2.1]at nx3;obtain⟨r0,r1,r2,r3,r4,r5,r6,r7,r8,r9,r10,V,R,P3⟩:=Ay b3 pre (by intro c;rw[c]at l3;simp at l3);obtain⟨b4,hb4⟩:∃b4,b4=b3.pV (b.is.length+x.2.is.length) ⟨17,x.1,0,((b.is.length+x.2.is.length+1+y.is.length+1:Nat):Int),((b.is.length+x.2.is.length+1:Nat):Int),[]⟩:=⟨_,rfl⟩;have s3:=P3.set (b.is.length+x.2.is.length) ⟨17,x.1,0,((b.is.length+x.2.is.length+1+y.is.length+1:Nat):Int),((b.is.length+x.2.is.length+1:Nat):Int),[]⟩;rw[<-hb4]at s3 ⊢;have l4:b4.vars.length=b3.vars.length/\b4.is.length=b3.is.length/\b4.aB.length=b3.aB.length:=by rw[hb4];simp[Bl.pV]
 have g4j:b4.is[b.is.length+x.2.is.length+1+y.is.length]?=some ⟨16,0,0,0,0,[]⟩:=by
  rw[hb4];show (b3.is.set _ _)[_]?=_;rw[List.getElem?_set_ne (by omega)];exact g3j
 have f4:Fb b4 (2*Sm.cQ s.el):=by
  obtain⟨p1,p2,p3⟩:=f2;obtain⟨r1,r2,r3⟩:=l3;obtain⟨q1,q2,q3⟩:=l4;exact⟨by omega,by omega,by omega⟩
 have E4:=fh s.el k7 b4 pre hE f4;have Mu:=As hE (b.vars.length+x.2.vs.length+y.vs.length) (b.is.length+x.2.is.length+1+y.is.length+1) (b.aB.length+x.2.ss.length+y.ss.length);rw[l4.1,l4.2.1,l4.2.2,l3.1,l3.2.1,l3.2.2,<-hz]at E4;rw[<-hz]at Mu;obtain⟨n1,n2,n3⟩:=cU b4 z;have ae5:(b4.plus z).is.length<1000000000:=by have:=f4.2.1;have:=Mu.2.1;omega
 have nx5:=λli=>Av li (b4.plus z) pre ae5;rw[n2,l4.2.1,l3.2.1]at nx5;have g5:(b4.plus z).is[b.is.length+x.2.is.length+1+y.is.length]?=some ⟨16,0,0,0,0,[]⟩:=by
  show (b4.is++z.is)[_]?=_;rw[List.getElem?_append_left (by omega)];exact g4j
 obtain⟨t0,t1,t2,t3,t4,t5,t6,t7,t8,t9,t10,W,Q,P5⟩:=Ay (b4.plus z) pre (by intro c;have:=n2;rw[c,List.length_nil]at this;omega);have s5:=P5.set (b.is.length+x.2.is.length+1+y.is.length) ⟨16,0,0,0,((b.is.length+x.2.is.length+1+y.is.length+1+z.is.length:Nat):Int),[]⟩;have q3:=P3.get _ _ g3;have q5:=P5.get _ _ g5;have w3:b.is.length+x.2.is.length<R.length:=by rw[P3.len];omega
 have w5:b.is.length+x.2.is.length+1+y.is.length<Q.length:=by rw[P5.len];omega
 have hn:jE []=.U:=rfl;have e1:aD (aI s.es)=true:=aQ;have e2:(aI s.es).view=aI s.es:=aN;have e3:aM (aI s.es)=[e.row]:=by show aM (aA _ _)=_;rw[aE,he];rfl
 have e4:bX 11 (aI s.es)=true:=zE;have d1:aD (aS s.bd)=true:=bn;have d2:(aS s.bd).view=aS s.bd:=aO;have u1:aD (aS s.el)=true:=bn;have u2:(aS s.el).view=aS s.el:=aO;have k1:aD (aI e.aC)=true:=aQ;have k2:(aI e.aC).view=aI e.aC:=aN;simp only[In.row,hn]at ha s3 s5 q3 q5;simp only[pB,P3.eq,P5.eq,List.cons_append,List.nil_append]at Ws y7 ha nx3 nx5 s3 E4 s5;rw[E.az]at Ws e3;rw[Sm.az];refine ay (sf:=Zr) rfl rfl rfl ?_;generalize iw ((b4.plus z).pV (b.is.length+x.2.is.length+1+y.is.length) ⟨16,0,0,0,((b.is.length+x.2.is.length+1+y.is.length+1+z.is.length:Nat):Int),[]⟩) pre=st6 at *;generalize b.is.length+x.2.is.length+1+y.is.length+1+z.is.length=N5 at *;generalize b.is.length+x.2.is.length+1+y.is.length+1=N4 at *;generalize b.is.length+x.2.is.length+1+y.is.length=N3 at *;generalize b.is.length+x.2.is.length+1=N2 at *;generalize b.is.length+x.2.is.length=N1 at *;generalize iw b pre=st at *;generalize iw b1 pre=kL at *;generalize iw (b1.plus y) pre=kO at *;generalize iw b4 pre=st4 at *;generalize aI e.aC=KV at *;generalize aI s.es=EV at *;generalize aS s.bd=DV at *;generalize aS s.el=LV at *;have v3:=λh:N1<R.length=>(List.getElem?_eq_some_iff.1 q3).2;have v5:=λh:N3<Q.length=>(List.getElem?_eq_some_iff.1 q5).2;simp[Zr,e1,e2,e3,e4,d1,d2,u1,k2,eC.bg,AV.view,pB,Ws,y7,ha,cut,ag];rw[mV];simp[dS,gO,cW,bG,eC.bg,nx3,w3,v3,aY,AV.ai,AV.ax,cut,ag,AV.view];refine⟨_,_,⟨rfl,rfl⟩,?_⟩;simp[fq.fG,AV.fG,s3,E4,cut,AV.view,u2];rw[mV];simp[dS,gO,cW,bG,eC.bg,nx5,w5,v5,aY,AV.ai,AV.ax,cut,ag,AV.view];refine⟨_,_,⟨rfl,rfl⟩,?_⟩;simp[fq.fG,AV.fG,s5,cut,AV.view]
end pU
namespace pU
open Ax Go bu V7 jG j9 tc
theorem O5(s:Sm)(sW:∀x∈s.bd,PS x)(b:Bl)(pre:aj)(h1:s.es.length=1)(hL:LL s.es)(hB:LB s.bd)(hb:Fb b (2*Sm.sz s)) :
  (bh S).call 0 0 105 [pB,.agg s.row] (iw b pre)=some (.fm [],iw (b.plus (XX b.vars.length b.is.length b.aB.length (cE b.vars.length b.aB.length (k9 s.es)) (λnv at_ ns=>cB nv at_ ns s.bd))) pre):=by
 obtain⟨e,he⟩:∃e,s.es=[e]:=⟨_,uM h1⟩;have h0:k9 s.es=e:=by rw[he];rfl
 have dF:E.cQ s.es=E.sz e:=by rw[he];simp[E.cQ]
 have oz:=Sm.jM s;rw[h0];have nx0:=λli=>Av li b pre (by have:=hb.2.1;omega);have Ws:=GC b pre e ((l5 _).1 hL e (by rw[he];exact List.mem_cons_self)) (hb.le (by omega));have vr:=l7 e b.vars.length b.aB.length;obtain⟨y,hy⟩:∃y,y=cB (b.vars.length+(cE b.vars.length b.aB.length e).2.vs.length) (b.is.length+(cE b.vars.length b.aB.length e).2.is.length+1) (b.aB.length+(cE b.vars.length b.aB.length e).2.ss.length) s.bd:=⟨_,rfl⟩;rw[<-EO b (cE b.vars.length b.aB.length e) y _ hy];generalize cE b.vars.length b.aB.length e=x at *;obtain⟨b1,Cf⟩:∃b1,b1=b.plus (x.2.eJ (dO ⟨17,x.1,0,0,((b.is.length+x.2.is.length+1:Nat):Int),[]⟩)):=⟨_,rfl⟩;have l1:b1.vars.length=b.vars.length+x.2.vs.length/\b1.is.length=b.is.length+x.2.is.length+1/\b1.aB.length=b.aB.length+x.2.ss.length:=by
  rw[Cf];obtain⟨p,q,r⟩:=cU b (x.2.eJ (dO ⟨17,x.1,0,0,((b.is.length+x.2.is.length+1:Nat):Int),[]⟩));rw[p,q,r];simp[l9.eJ,dO,Nat.add_assoc]
 have g1:b1.is[b.is.length+x.2.is.length]?=some ⟨17,x.1,0,0,((b.is.length+x.2.is.length+1:Nat):Int),[]⟩:=by
  rw[Cf];simp[Bl.plus,l9.eJ,dO]
 rw[<-Cf]at Ws ⊢;have f1:Fb b1 (2*Sm.cQ s.bd+1):=by
  obtain⟨p1,p2,p3⟩:=hb;obtain⟨q1,q2,q3⟩:=vr;obtain⟨r1,r2,r3⟩:=l1;exact⟨by omega,by omega,by omega⟩
 have y7:=fh s.bd sW b1 pre hB (f1.le (by omega));have FM:=As hB (b.vars.length+x.2.vs.length) (b.is.length+x.2.is.length+1) (b.aB.length+x.2.ss.length);rw[l1.1,l1.2.1,l1.2.2,<-hy]at y7;rw[<-hy]at FM;have f2:=f1.plus FM;obtain⟨m1,m2,m3⟩:=cU b1 y;have g2:(b1.plus y).is[b.is.length+x.2.is.length]?=some ⟨17,x.1,0,0,((b.is.length+x.2.is.length+1:Nat):Int),[]⟩:=by
  show (b1.is++y.is)[_]?=_;rw[List.getElem?_append_left (by omega)];exact g1
 have ha:=ig (b1.plus y) pre ⟨16,0,0,0,(b.is.length:Int),[]⟩ (by have:=f2.2.1;omega);rw[jq,m2,l1.2.1]at ha;obtain⟨b3,yy⟩:∃b3,b3=(b1.plus y).plus (dO ⟨16,0,0,0,(b.is.length:Int),[]⟩):=⟨_,rfl⟩;rw[<-yy]at ha ⊢;have l3:b3.is.length=b.is.length+x.2.is.length+1+y.is.length+1:=by
  rw[yy];obtain⟨p,q,r⟩:=cU (b1.plus y) (dO ⟨16,0,0,0,(b.is.length:Int),[]⟩);rw[q,m2,l1.2.1];simp[dO]
 have g3:b3.is[b.is.length+x.2.is.length]?=some ⟨17,x.1,0,0,((b.is.length+x.2.is.length+1:Nat):Int),[]⟩:=by
  rw[yy];show ((b1.plus y).is++_)[_]?=_;rw[List.getElem?_append_left (by omega)];exact g2
 have Tr:b3.is.length<1000000000:=by have:=f2.2.1;omega
 have nx3:=λli=>Av li b3 pre Tr;rw[l3]at nx3;obtain⟨r0,r1,r2,r3,r4,r5,r6,r7,r8,r9,r10,V,R,P3⟩:=Ay b3 pre (by intro c;rw[c]at l3;simp at l3);have s3:=P3.set (b.is.length+x.2.is.length) ⟨17,x.1,0,((b.is.length+x.2.is.length+1+y.is.length+1:Nat):Int),((b.is.length+x.2.is.length+1:Nat):Int),[]⟩;have q3:=P3.get _ _ g3;have w3:b.is.length+x.2.is.length<R.length:=by rw[P3.len];omega
 have hn:jE []=.U:=rfl;have e1:aD (aI s.es)=true:=aQ;have e2:(aI s.es).view=aI s.es:=aN;have e3:aM (aI s.es)=[e.row]:=by show aM (aA _ _)=_;rw[aE,he];rfl
 have e4:bX 11 (aI s.es)=true:=zE;have d1:aD (aS s.bd)=true:=bn;have d2:(aS s.bd).view=aS s.bd:=aO;have u1:aD (aS s.el)=true:=bn;have u2:(aS s.el).view=aS s.el:=aO;have k1:aD (aI e.aC)=true:=aQ;have k2:(aI e.aC).view=aI e.aC:=aN;simp only[In.row,hn]at ha s3 q3;simp only[pB,P3.eq,List.cons_append,List.nil_append]at nx0 Ws y7 ha nx3 s3;rw[E.az]at Ws e3;rw[Sm.az];refine ay (sf:=Zs) rfl rfl rfl ?_;generalize iw (b3.pV (b.is.length+x.2.is.length) ⟨17,x.1,0,((b.is.length+x.2.is.length+1+y.is.length+1:Nat):Int),((b.is.length+x.2.is.length+1:Nat):Int),[]⟩) pre=st6 at *;generalize b.is.length+x.2.is.length+1+y.is.length+1=N4 at *;generalize b.is.length+x.2.is.length+1+y.is.length=N3 at *;generalize b.is.length+x.2.is.length+1=N2 at *;generalize b.is.length+x.2.is.length=N1 at *;generalize b.is.length=N0 at *;generalize iw b pre=st at *;generalize iw b1 pre=kL at *;generalize iw (b1.plus y) pre=kO at *;generalize aI e.aC=KV at *;generalize aI s.es=EV at *;generalize aS s.bd=DV at *;generalize aS s.el=LV at *;have v3:=λh:N1<R.length=>(List.getElem?_eq_some_iff.1 q3).2;simp[Zs,e1,e2,e3,e4,d1,d2,u1,k2,eC.bg,AV.view,pB,nx0,Ws,y7,ha,cut,ag];rw[mV];simp[dS,gO,cW,bG,eC.bg,nx3,w3,v3,aY,AV.ai,AV.ax,cut,ag,AV.view];refine⟨_,_,⟨rfl,rfl⟩,?_⟩;simp[fq.fG,AV.fG,s3,cut,AV.view]
theorem oc(s:Sm):PS s:=by
 induction s using Sm.yu with
 |_ s sW k7=>
  intro b pre hL hb;rw[GA]at hL;obtain⟨h1,h2,h3,h4,h5,h6⟩:=hL;have oz:=Sm.jM s;have hn:jE []=.U:=rfl;have e1:aD (aI s.es)=true:=aQ;have e2:(aI s.es).view=aI s.es:=aN;have e4:bX 11 (aI s.es)=true:=zE;have d1:aD (aS s.bd)=true:=bn;have d2:(aS s.bd).view=aS s.bd:=aO;have u1:aD (aS s.el)=true:=bn;have u2:(aS s.el).view=aS s.el:=aO;rw[Nt];by_cases c:s.k=2\/s.k=3;rw[if_pos c];have hx:=L3 b pre s (h2 (by omega)) h1 (h4 c) (hb.le (by omega));generalize iw (b.plus ((cE b.vars.length b.aB.length (k9 s.es)).2.eJ (dO (Ar s.cG (cE b.vars.length b.aB.length (k9 s.es)).1)))) pre=kL at *;rw[Sm.az]at hx ⊢;refine ay (sf:=HA) rfl rfl rfl ?_;generalize iw b pre=st at *;generalize aI s.es=EV at *;generalize aS s.bd=DV at *;generalize aS s.el=LV at *;simp only[pB]at hx;rcases c with c|c<;>
  ·rw[c]at hx;simp[HA,e1,e2,d1,d2,u1,u2,eC.bg,AV.view,pB,c,hx,cut]
  rw[if_neg c];by_cases c4:s.k=4;rw[if_pos c4];have hx:=Dj b pre s (h3 c4).1 h1 (h3 c4).2 (hb.le (by omega));generalize iw (b.plus (J5 b.vars.length b.aB.length (k9 s.es) (pC b.vars.length b.aB.length (k9 s.es).aC) (λnv ns=>cE nv ns (Pz s.es)))) pre=kL at *;rw[Sm.az]at hx ⊢;refine ay (sf:=HA) rfl rfl rfl ?_;generalize iw b pre=st at *;generalize aI s.es=EV at *;generalize aS s.bd=DV at *;generalize aS s.el=LV at *;simp only[pB]at hx;rw[c4]at hx;simp[HA,e1,e2,d1,d2,u1,u2,eC.bg,AV.view,pB,c4,hx,cut];rw[if_neg c4];by_cases c5:s.k=5;rw[if_pos c5];have hx:=O4 s sW k7 b pre (h2 (by omega)) h1 h5 h6 hb;generalize iw (b.plus (XW b.vars.length b.is.length b.aB.length (cE b.vars.length b.aB.length (k9 s.es)) (λnv at_ ns=>cB nv at_ ns s.bd) (λnv at_ ns=>cB nv at_ ns s.el))) pre=kL at *;rw[Sm.az]at hx ⊢;refine ay (sf:=HA) rfl rfl rfl ?_;generalize iw b pre=st at *;generalize aI s.es=EV at *;generalize aS s.bd=DV at *;generalize aS s.el=LV at *;simp only[pB]at hx;rw[c5]at hx;simp[HA,e1,e2,d1,d2,u1,u2,eC.bg,AV.view,pB,c5,hx,cut];rw[if_neg c5];by_cases c6:s.k=6;rw[if_pos c6];have hx:=O5 s sW b pre (h2 (by omega)) h1 h5 hb;generalize iw (b.plus (XX b.vars.length b.is.length b.aB.length (cE b.vars.length b.aB.length (k9 s.es)) (λnv at_ ns=>cB nv at_ ns s.bd))) pre=kL at *;rw[Sm.az]at hx ⊢;refine ay (sf:=HA) rfl rfl rfl ?_;generalize iw b pre=st at *;generalize aI s.es=EV at *;generalize aS s.bd=DV at *;generalize aS s.el=LV at *;simp only[pB]at hx;rw[c6]at hx;simp[HA,e1,e2,d1,d2,u1,u2,eC.bg,AV.view,pB,c6,hx,cut];rw[if_neg c6];by_cases c7:s.k=7;rw[if_pos c7];cases jR:s.es with
  |nil=>
   have ha:=ig b pre ⟨18,-1,0,0,0,[]⟩ (by have:=hb.2.1;omega);rw[jq]at ha;simp only[In.row,hn]at ha;have e3:aM (aI s.es)=[]:=(by show aM (aA _ _)=_;rw[aE,jR];rfl);dsimp only;generalize iw (b.plus (dO ⟨18,-1,0,0,0,[]⟩)) pre=kL at *;rw[Sm.az];refine ay (sf:=HA) rfl rfl rfl ?_;generalize iw b pre=st at *;generalize aI s.es=EV at *;generalize aS s.bd=DV at *;generalize aS s.el=LV at *;simp only[pB]at ha;simp[HA,e1,e2,e3,d1,u1,eC.bg,AV.view,pB,c7,ha,cut,ag]
  |cons e l=>
   have dF:E.cQ s.es=E.sz e+E.cQ l:=(by rw[jR];rfl);have hx:=eP e b pre ((l5 _).1 h1 e (by rw[jR];exact List.mem_cons_self)) (hb.le (by omega));have f1:=Fb.plus (hb.le (by omega:E.sz e+1<=_)) (l7 e b.vars.length b.aB.length);dsimp only;generalize cE b.vars.length b.aB.length e=x at *;have ha:=ig (b.plus x.2) pre ⟨18,x.1,0,0,0,[]⟩ (by have:=f1.2.1;omega);rw[jk]at ha;simp only[In.row,hn]at ha;have e3:aM (aI s.es)=e.row::E.rows l:=(by show aM (aA _ _)=_;rw[aE,jR];rfl);have k1:aD (aI e.aC)=true:=aQ;have k2:(aI e.aC).view=aI e.aC:=aN;generalize iw (b.plus (x.2.eJ (dO ⟨18,x.1,0,0,0,[]⟩))) pre=kO at *;rw[E.az]at hx e3;rw[Sm.az];refine ay (sf:=HA) rfl rfl rfl ?_;generalize iw b pre=st at *;generalize iw (b.plus x.2) pre=kL at *;generalize aI e.aC=KV at *;generalize aI s.es=EV at *;generalize aS s.bd=DV at *;generalize aS s.el=LV at *;simp only[pB]at ha hx;simp[HA,e1,e2,e3,e4,d1,u1,k2,eC.bg,AV.view,pB,c7,hx,ha,cut,ag]
  rw[if_neg c7];have one:(s.k=8\/s.k=9)->∃e,s.es=[e]/\k9 s.es=e/\E.cQ s.es=E.sz e/\aM (aI s.es)=[e.row]/\LE e:=λh=>by
   obtain⟨e,he⟩:∃e,s.es=[e]:=⟨_,uM (h2 (by omega))⟩;exact⟨e,he,by rw[he];rfl,by rw[he];simp[E.cQ],by show aM (aA _ _)=_;rw[aE,he];rfl,(l5 _).1 h1 e (by rw[he];exact List.mem_cons_self)⟩
  by_cases c8:s.k=8;rw[if_pos c8];obtain⟨e,jR,h0,dF,e3,O3⟩:=one (.inl c8);rw[h0];have hx:=eP e b pre O3 (hb.le (by omega));have f1:=Fb.plus (hb.le (by omega:E.sz e+1<=_)) (l7 e b.vars.length b.aB.length);generalize cE b.vars.length b.aB.length e=x at *;have ha:=ig (b.plus x.2) pre ⟨15,x.1,0,0,0,[]⟩ (by have:=f1.2.1;omega);rw[jk]at ha;simp only[In.row,hn]at ha;have k1:aD (aI e.aC)=true:=aQ;have k2:(aI e.aC).view=aI e.aC:=aN;generalize iw (b.plus (x.2.eJ (dO ⟨15,x.1,0,0,0,[]⟩))) pre=kO at *;rw[E.az]at hx e3;rw[Sm.az];refine ay (sf:=HA) rfl rfl rfl ?_;generalize iw b pre=st at *;generalize iw (b.plus x.2) pre=kL at *;generalize aI e.aC=KV at *;generalize aI s.es=EV at *;generalize aS s.bd=DV at *;generalize aS s.el=LV at *;simp only[pB]at ha hx;simp[HA,e1,e2,e3,e4,d1,u1,k2,eC.bg,AV.view,pB,c8,hx,ha,cut,ag];rw[if_neg c8];by_cases c9:s.k=9;rw[if_pos c9];obtain⟨e,jR,h0,dF,e3,O3⟩:=one (.inr c9);rw[h0];have hx:=eP e b pre O3 (hb.le (by omega));generalize cE b.vars.length b.aB.length e=x at *;have k1:aD (aI e.aC)=true:=aQ;have k2:(aI e.aC).view=aI e.aC:=aN;rw[E.az]at hx e3;rw[Sm.az];refine ay (sf:=HA) rfl rfl rfl ?_;generalize iw b pre=st at *;generalize iw (b.plus x.2) pre=kL at *;generalize aI e.aC=KV at *;generalize aI s.es=EV at *;generalize aS s.bd=DV at *;generalize aS s.el=LV at *;simp only[pB]at hx;simp[HA,e1,e2,e3,e4,d1,u1,k2,eC.bg,AV.view,pB,c9,hx,cut];rw[if_neg c9,kI,Sm.az];refine ay (sf:=HA) rfl rfl rfl ?_;generalize iw b pre=st at *;generalize aI s.es=EV at *;generalize aS s.bd=DV at *;generalize aS s.el=LV at *;have c2:¬s.k=2:=λh=>c (.inl h);have c3:¬s.k=3:=λh=>c (.inr h);simp[HA,e1,d1,u1,eC.bg,AV.view,pB,c2,c3,c4,c5,c6,c7,c8,c9,cut]
end pU
