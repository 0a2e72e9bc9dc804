/-
  A builder in memory: its object, what those that are done have left, its list of instructions.
-/
import Derived.Test.YtachcambnjecnaaGreatCode2
import Derived.Test.YtachcambnjecnaaGreatA6
import Derived.Test.YtachcambnjecnaaGreatF

set_option maxRecDepth 100000
set_option maxHeartbeats 4000000
namespace yb
open Ax Go aT V7 lP mV vC
def bV (sz:Nat)(l:List (List AV)):AV:=if l=[] then .U else .own sz l
structure Bl where
 aQ:AV
 Lu:List T3
 aR:List Cd
 sites:List Sd
 main:Int
 params:Int
 vars:List T3
 has:Bool
 res:T3
 is:List In
def J4 (l:List In)(k:Nat):AV:=if l=[] then .U else .mu k (l.length-1)
def Bl.cells (b:Bl)(k:Nat):List AV:=[b.aQ,bV 3 (b.Lu.map T3.cells),bV 7 (b.aR.map Cd.row),bV 4 (b.sites.map Sd.row),.int .i64 b.main,
 .int .i64 b.params,bV 3 (b.vars.map T3.cells),.bool b.has,.int .i64 b.res.b,.int .i64 b.res.r,.int .i64 b.res.d,J4 b.is k]
def xX (l:List In):an:=if l=[] then [] else [.rows (l.length-1) 6 (l.map In.row)]
def fV (b:Bl)(pre:an):an:=.rows 0 12 [b.cells (pre.length+1)]::(pre++xX b.is)
abbrev pB:AV:=.ptr 0 0 0 0
theorem Cu (l:List Int):(kR l).au=true:=by cases l<;>simp[kR,aD,cp,ints,AV.au]
theorem Cv (l:List Int):(kR l).cw=true:=by cases l<;>simp[kR,aD,cp,ints,AV.cw]
theorem Cw (l:List Int):(kR l).view=kR l:=by cases l<;>simp[kR,aD,cp,ints,AV.view]
variable (wl aa:Nat)
theorem RA (b:Bl)(pre:an)(i:In)(v:AV)(_hp:v.au=true)(hc:v.cw=true)(hv:v.view=kR i.args)(hb:b.is.length<1000000000) :
  (aU S).call 0 0 48 [pB,.agg [.int .i64 i.op,.int .i64 i.a,.int .i64 i.b,.int .i64 i.c,.int .i64 i.n,v]] (fV b pre)=some (.int .i64 b.is.length,fV { b with is:=b.is++[i] } pre):=by
 refine ay (sf:=s48) rfl rfl rfl ?_
 have hp2:=Cu i.args
 have U9:=Cv i.args
 have hv2:=Cw i.args
 have hr:(b.is.length+1)*64<=room:=by unfold room;omega
 have Od:64<=room:=by decide
 have hw:IntKind.i64.wrap ((b.is.length:Nat):Int)=b.is.length:=by rw[wrap64]<;>omega
 have h00:IntKind.i64.wrap 0=0:=by decide
 by_cases e:b.is=[]
 ·simp[s48,fV,pB,Bl.cells,J4,xX,e,In.row,bp,AV.ai,AV.au,af,aA,az,cut,hc,hv,hp2,U9,hv2,fits,Od,h00]
 ·simp[s48,fV,pB,Bl.cells,J4,xX,e,In.row,bp,AV.ai,AV.au,af,aA,az,cut,hc,hv,hp2,U9,hv2,fits,hr,hw]
  have:=List.length_pos_iff.2 e
  omega
theorem n7 (b:Bl)(pre:an)(i:In)(hb:b.is.length<1000000000) :
  (aU S).call 0 0 48 [pB,.agg i.row] (fV b pre)=some (.int .i64 b.is.length,fV { b with is:=b.is++[i] } pre):=
 RA b pre i (kR i.args) (Cu _) (Cv _) (Cw _) hb
theorem FJ (b:Bl)(pre:an)(t:T3)(hb:b.vars.length<1000000000) :
  (aU S).call 0 aa 47 [pB,.agg t.cells] (fV b pre)=some (.int .i64 b.vars.length,fV { b with vars:=b.vars++[t] } pre):=by
 refine ay (sf:=s47) rfl rfl rfl ?_
 have hr:(b.vars.length+1)*24<=room:=by unfold room;omega
 have Od:24<=room:=by decide
 have hw:IntKind.i64.wrap ((b.vars.length:Nat):Int)=b.vars.length:=by rw[wrap64]<;>omega
 have h00:IntKind.i64.wrap 0=0:=by decide
 have C5:List.take (pre.length+(xX b.is).length) (pre++xX b.is)=pre++xX b.is:=List.take_of_length_le (by simp)
 by_cases e:b.vars=[]
 ·have h0:bV 3 (b.vars.map T3.cells)=.U:=by simp[bV,e]
  have h1:bV 3 ((b.vars++[t]).map T3.cells)=.own 3 [t.cells]:=by simp[bV,e]
  simp only[fV,pB,Bl.cells,h0,h1]
  simp[s47,e,T3.cells,bp,AV.ai,AV.au,AV.ir,aL,fN,dL,bZ,af,aA,az,cut,C5,fits,Od,h00]
 ·have h0:bV 3 (b.vars.map T3.cells)=.own 3 (b.vars.map T3.cells):=by simp[bV,e]
  have h1:bV 3 ((b.vars++[t]).map T3.cells)=.own 3 (b.vars.map T3.cells++[t.cells]):=by simp[bV]
  simp only[fV,pB,Bl.cells,h0,h1]
  simp[s47,T3.cells,bp,AV.ai,AV.au,AV.ir,aL,fN,dL,bZ,af,aA,az,cut,C5,fits,hr,hw]
theorem xY (b:Bl)(pre:an)(_hb:b.is.length<1000000000) :
  (aU S).call 0 aa 127 [pB] (fV b pre)=some (.int .i64 b.is.length,fV b pre):=by
 refine ay (sf:=Uo) rfl rfl rfl ?_
 have C5:∀y:fB,List.take (pre.length+1) (pre++[y])=pre++[y]:=λy=>List.take_of_length_le (by simp)
 by_cases e:b.is=[]
 ·simp[Uo,fV,pB,Bl.cells,J4,xX,e,cut]
 ·simp[Uo,fV,pB,Bl.cells,J4,xX,e,cut,C5]
end yb
namespace yb
open Ax Go aT V7 lP mV vC
mutual
theorem yL:∀a:AV,a.same a=true
 |.undef|.gone|.eC|.U|.fh|.gV|.jt|.emp=>rfl
 |.bool b=>by simp[AV.same]
 |.int k n=>by simp[AV.same]
 |.str l=>by simp[AV.same]
 |.agg l=>by simp only[AV.same];exact m9 l
 |.fz l=>by simp only[AV.same];exact m9 l
 |.cU s r=>by simp only[AV.same,beq_self_eq_true,Bool.true_and];exact jw r
 |.own s r=>by simp only[AV.same,beq_self_eq_true,Bool.true_and];exact jw r
 |.raw s r=>by simp only[AV.same,beq_self_eq_true,Bool.true_and];exact jw r
 |.mu i v=>by simp[AV.same]
 |.ptr a b c d=>by simp[AV.same]
 |.n8 s a i k=>by simp only[AV.same,beq_self_eq_true,Bool.true_and,Bool.and_true];exact jw a
 |.map i=>by simp[AV.same]
 |.fn f a b=>by simp only[AV.same,beq_self_eq_true,Bool.true_and,Bool.and_eq_true];exact⟨m9 a,m9 b⟩
theorem m9:∀l:List AV,AV.pX l l=true
 |[]=>rfl
 |a::l=>by simp only[AV.pX,yL a,m9 l,Bool.and_self]
theorem jw:∀l:List (List AV),AV.qt l l=true
 |[]=>rfl
 |a::l=>by simp only[AV.qt,m9 a,jw l,Bool.and_self]
end
variable (wl aa:Nat)
theorem Vm (b:Bl)(pre:an)(t:T3)(hb:b.sites.length<1000000000) :
  (aU S).call 0 aa 143 [pB,.agg t.cells] (fV b pre)=some (.int .i64 b.sites.length,fV { b with sites:=b.sites++[⟨b.aR.length,t⟩] } pre):=by
 refine ay (sf:=Yf) rfl rfl rfl ?_
 have hr:(b.sites.length+1)*32<=room:=by unfold room;omega
 have Od:32<=room:=by decide
 have hw:IntKind.i64.wrap ((b.sites.length:Nat):Int)=b.sites.length:=by rw[wrap64]<;>omega
 have h00:IntKind.i64.wrap 0=0:=by decide
 have C5:List.take (pre.length+(xX b.is).length) (pre++xX b.is)=pre++xX b.is:=List.take_of_length_le (by simp)
 have hc:b.aR=[]/\bV 7 (b.aR.map Cd.row)=.U\/b.aR≠[]/\bV 7 (b.aR.map Cd.row)=.own 7 (b.aR.map Cd.row):=by
  by_cases e:b.aR=[]
  ·exact .inl ⟨e,by simp[bV,e]⟩
  ·exact .inr ⟨e,by simp[bV,e]⟩
 have hs:b.sites=[]/\bV 4 (b.sites.map Sd.row)=.U\/b.sites≠[]/\bV 4 (b.sites.map Sd.row)=.own 4 (b.sites.map Sd.row):=by
  by_cases e:b.sites=[]
  ·exact .inl ⟨e,by simp[bV,e]⟩
  ·exact .inr ⟨e,by simp[bV,e]⟩
 rcases hs with⟨e,h0⟩|⟨e,h0⟩<;>rcases hc with⟨e2,hc⟩|⟨e2,hc⟩<;>
 (simp only[fV,pB,Bl.cells,h0,hc]
  simp[Yf,e,e2,T3.cells,Sd.row,aL]
  rw[rV]
  simp[dD,gW,cV,aI,cL.aF,bp,AV.ai,AV.au,AV.ir,aL,fN,dL,bZ,af,cut,fits,hr,Od]
  refine⟨_,_,⟨rfl,rfl⟩,?_⟩
  simp[bV,jw,bZ,AV.cz,AV.view,dX.same,AV.same,cut,AV.au,aL,fN,C5,hw,h00])
end yb
namespace yb
open Ax Go aT V7 lP mV vC
def Bl.plus (b:Bl)(o:Out):Bl:={ b with vars:=b.vars++o.vs,is:=b.is++o.is,sites:=b.sites++o.ss.map (λt=>⟨b.aR.length,t⟩) }
theorem Ay (b:Bl):b.plus O0=b:=by simp[Bl.plus,O0]
theorem uy (b:Bl)(x y:Out):(b.plus x).plus y=b.plus (x.app y):=by simp[Bl.plus,Out.app]
theorem u7 (b:Bl)(i:In):{ b with is:=b.is++[i] }=b.plus (eO i):=by simp[Bl.plus,eO]
def Fb (b:Bl)(n:Nat):Prop:=b.vars.length+n<1000000000/\b.is.length+n<1000000000/\b.sites.length+n<1000000000
theorem jm (b:Bl)(o:Out):(b.plus o).vars.length=b.vars.length+o.vs.length/\(b.plus o).is.length=b.is.length+o.is.length/\(b.plus o).sites.length=b.sites.length+o.ss.length:=by simp[Bl.plus]
theorem Fb.plus {b:Bl}{o:Out}{n m:Nat}(h:Fb b (m+n))(g:Lo o m):Fb (b.plus o) n:=by
 obtain⟨a1,a2,a3⟩:=jm b o
 obtain⟨h1,h2,h3⟩:=h
 obtain⟨g1,g2,g3⟩:=g
 exact⟨by omega,by omega,by omega⟩
theorem Fb.le {b:Bl}{n m:Nat}(h:Fb b m)(g:n<=m):Fb b n:=⟨by have:=h.1;omega,by have:=h.2.1;omega,by have:=h.2.2;omega⟩
theorem Lv (b b':Bl)(pre:an)(h:b'.is=b.is):List.take (fV b pre).length (fV b' pre)=fV b' pre:=by
 apply List.take_of_length_le
 simp[fV,xX,h]
variable (wl aa:Nat)
def pW (b:Bl)(k:Int)(t:T3):Bl:=if k=8\/k=9 then { b with sites:=b.sites++[⟨b.aR.length,t⟩] } else b
theorem Vn (b:Bl)(k:Int)(t:T3):(pW b k t).is=b.is:=by unfold pW;split<;>rfl
theorem Zu (b:Bl)(pre:an)(e:E)(l:List Int)(hb:b.sites.length<1000000000)(h7:e.k≠7)(h1:e.k=5\/e.k=9\/e.k=10\/e.k=12\/e.k=13->l.length=1)(h2:e.k=6\/14<=e.k->l.length=2)
  (hk:0<e.k/\e.k<25) (hr:e.k=4→-1000000000<e.ref/\e.ref<0) :
  (aU S).call 0 aa 129 [pB,.agg e.row,cp 1 (ints l)] (fV b pre)=some (.agg (eK e.k e.n e.ref 0 b.sites.length l).row,fV (pW b e.k e.ty) pre):=by
 have hs:=λli=>Vm li b pre e.ty hb
 have RB:∀{l:List Int},l.length=1->l=[x9 l]:=fun {l} h=>by
  match l,h with
  |[a],_=>rfl
 have adR:∀{l:List Int},l.length=2->l=[x9 l,Wy l]:=fun {l} h=>by
  match l,h with
  |[a,b],_=>rfl
 have e1:aG (aY e.kids)=true:=bw
 have e2:(aY e.kids).view=aY e.kids:=bF
 have m1:aG (cp 1 (ints l))=true:=dm
 have m2:(cp 1 (ints l)).view=aD 1 (ints l):=rfl
 have m3:aG (aD 1 (ints l))=true:=bq
 have m4:(aD 1 (ints l)).view=aD 1 (ints l):=br
 have m5:aP (aD 1 (ints l))=ints l:=aO
 have m6:cD 1 (aD 1 (ints l))=true:=zI
 have m7:aP (cp 1 (ints l))=ints l:=tU
 have m8:cD 1 (cp 1 (ints l))=true:=by rw[Ag];simp[fits,ints]
 have yh:List.take (fV b pre).length (fV b pre)=fV b pre:=Lv b b pre rfl
 have M8:List.take (fV b pre).length (fV { b with sites:=b.sites++[⟨b.aR.length,e.ty⟩] } pre)=fV { b with sites:=b.sites++[⟨b.aR.length,e.ty⟩] } pre:=Lv b _ pre rfl
 have hn:kR []=.U:=rfl
 rw[E.aH]
 simp only[T3.cells]at hs
 refine ay (sf:=Yb) rfl rfl rfl ?_
 generalize aY e.kids=KV at *
 generalize cp 1 (ints l)=MV at *
 generalize aD 1 (ints l)=LV at *
 obtain⟨st,fm⟩:∃s,s=fV b pre:=⟨_,rfl⟩
 rw[<-fm]at hs yh M8 ⊢
 simp[Yb,e1,cL.aF,AV.view,pB]
 by_cases c1:e.k=1
 ·simp[c1,eK,pW,In.row,hn,af,yh,<-fm]
 by_cases c2:e.k=2
 ·simp[c2,eK,pW,In.row,hn,af,yh,<-fm]
 by_cases c3:e.k=3
 ·simp[c3,eK,pW,In.row,hn,af,yh,<-fm]
 by_cases c4:e.k=4
 ·have hw:IntKind.i64.wrap (-1-e.ref) = -1-e.ref:=by obtain⟨a,b⟩:=hr c4;rw[wrap64]<;>omega
  simp[c4,eK,pW,In.row,hn,af,yh,<-fm,hw]
 by_cases c5:e.k=5
 ·obtain⟨a,rfl⟩:∃a,l=[a]:=⟨_,RB (h1 (.inl c5))⟩
  simp[c5,eK,pW,In.row,hn,af,yh,<-fm,aA,az,m7,m8,ints,x9]
 by_cases c6:e.k=6
 ·obtain⟨a,b,rfl⟩:∃a b,l=[a,b]:=⟨_,_,adR (h2 (.inl c6))⟩
  simp[c6,eK,pW,In.row,hn,af,yh,<-fm,aA,az,m2,m5,m6,ints,x9,Wy]
 by_cases c8:e.k=8
 ·simp[c8,eK,pW,In.row,hn,af,AV.view,hs,M8]
 by_cases c9:e.k=9
 ·obtain⟨a,rfl⟩:∃a,l=[a]:=⟨_,RB (h1 (.inr (.inl c9)))⟩
  have zH:=λli=>hs li
  simp only[pB]at zH
  simp[c9,eK,pW,In.row,hn,AV.view,x9]
  rw[rV]
  simp[dD,gW,cV,aI,cL.aF,zH,m7,m8,ints,af,AV.view]
  refine⟨_,_,⟨rfl,rfl⟩,?_⟩
  simp[dX.same,AV.same,AV.pX,AV.qt,AV.view,AV.cz,M8,m7,m8,ints,cut]
 by_cases zx:e.k=10
 ·obtain⟨a,rfl⟩:∃a,l=[a]:=⟨_,RB (h1 (by omega))⟩
  simp[zx,eK,pW,In.row,hn,af,yh,<-fm,m7,m8,ints,x9]
 by_cases Ll:e.k=11
 ·simp[Ll,eK,pW,In.row,hn,af,yh,<-fm]
 by_cases zU:e.k=12
 ·obtain⟨a,rfl⟩:∃a,l=[a]:=⟨_,RB (h1 (by omega))⟩
  simp[zU,eK,pW,In.row,hn,af,yh,<-fm,aA,az,m7,m8,ints,x9]
 by_cases CN:e.k=13
 ·obtain⟨a,rfl⟩:∃a,l=[a]:=⟨_,RB (h1 (by omega))⟩
  simp[CN,eK,pW,In.row,hn,af,yh,<-fm,aA,az,m7,m8,ints,x9]
 ·obtain⟨a,b,rfl⟩:∃a b,l=[a,b]:=⟨_,_,adR (h2 (by omega))⟩
  simp[c1,c2,c3,c4,c5,c6,h7,c8,c9,zx,Ll,zU,CN,eK,pW,In.row,hn,af,yh,<-fm,aA,az,m2,m5,m6,ints,x9,Wy]
theorem xy (b:Bl)(pre:an)(e:E)(l:List Int)(hb:Fb b 1) :
  (aU S).call 0 0 128 [pB,.agg e.row,cp 1 (ints l)] (fV b pre)=some (.int .i64 (if e.ty=T0 then -1 else b.vars.length),fV (b.plus (if e.ty=T0 then eO ⟨13,-1,0,e.ref,0,l⟩ else ⟨[e.ty],[⟨13,b.vars.length,0,e.ref,0,l⟩],[]⟩)) pre):=by
 obtain⟨hv,hi,hs⟩:=hb
 have e1:aG (aY e.kids)=true:=bw
 have e2:(aY e.kids).view=aY e.kids:=bF
 have m1:aG (cp 1 (ints l))=true:=dm
 have m2:(cp 1 (ints l)).view=aD 1 (ints l):=rfl
 have m3:aG (aD 1 (ints l))=true:=bq
 have m4:(aD 1 (ints l)).view=aD 1 (ints l):=br
 have ha:kR l=aD 1 (ints l):=rfl
 rw[E.aH]
 by_cases ht:e.ty=T0
 ·have tt:=RA b pre ⟨13,-1,0,e.ref,0,l⟩ _ (bC m1) (bD m1) rfl (by omega)
  have eb:e.ty.b=0/\e.ty.r=0/\e.ty.d=0:=by rw[ht];exact⟨rfl,rfl,rfl⟩
  rw[if_pos ht,if_pos ht,<-u7]
  refine ay (sf:=Qe) rfl rfl rfl ?_
  generalize aY e.kids=KV at *
  generalize cp 1 (ints l)=MV at *
  generalize aD 1 (ints l)=LV at *
  simp[Qe,e1,m1,cL.aF,AV.view,pB,eb,af,tt]
 ·have t1:=λli=>FJ li b pre e.ty (by omega)
  have tt:=RA { b with vars:=b.vars++[e.ty] } pre ⟨13,b.vars.length,0,e.ref,0,l⟩ _ (bC m1) (bD m1) rfl (by show b.is.length<_;omega)
  simp only[T3.cells]at t1
  have eb:(!decide (e.ty.b=0)||(!decide (e.ty.r=0) || !decide (e.ty.d=0)))=true:=by
   rcases h:e.ty with⟨x,y,z⟩
   rw[h]at ht
   by_cases a:x=0<;>by_cases b:y=0<;>by_cases c:z=0<;>simp_all
  rw[if_neg ht,if_neg ht]
  have ep:b.plus ⟨[e.ty],[⟨13,b.vars.length,0,e.ref,0,l⟩],[]⟩={ b with vars:=b.vars++[e.ty],is:=b.is++[⟨13,b.vars.length,0,e.ref,0,l⟩] }:=by simp[Bl.plus]
  rw[ep]
  refine ay (sf:=Qe) rfl rfl rfl ?_
  generalize aY e.kids=KV at *
  generalize cp 1 (ints l)=MV at *
  generalize aD 1 (ints l)=LV at *
  simp[Qe,e1,m1,cL.aF,AV.view,pB,eb,af,t1,tt]
end yb
namespace yb
open Ax Go aT V7 lP mV vC
def PE (e:E):Prop:=∀(b:Bl)(pre:an),LE e->Fb b (E.sz e)->(aU S).call 0 0 106 [pB,.agg e.row] (fV b pre)=some (.int .i64 (cE b.vars.length b.sites.length e).1,fV (b.plus (cE b.vars.length b.sites.length e).2) pre)
theorem Ip (l:List E)(ih:∀e∈l,PE e)(b:Bl)(pre:an)(hL:LL l)(hb:Fb b (E.dV l)) :
  (aU S).call 0 0 125 [pB,aY l] (fV b pre)=some (cp 1 (ints (mE b.vars.length b.sites.length l).1),fV (b.plus (mE b.vars.length b.sites.length l).2) pre):=by
 have hz:cD 11 (aY l)=true:=zE
 have dM:aG (aY l)=true:=bw
 have iq:(aY l).view=aY l:=bF
 have fo:aP (aY l)=E.rows l:=aO
 have hlen:=E.ff l
 have hlb:l.length<1000000000:=by have:=hb.1;omega
 rw[qH]at hL
 have rJ:(E.rows l).length=l.length:=by simp[gQ]
 refine ay (sf:=X9) rfl rfl rfl ?_
 generalize aY l=lv at *
 simp[X9,dM,iq,fo,rJ,pB]
 refine bu KR.eq_1 (λx:Nat×List Int×Bl×List AV=>⟨[(0,.val (.ptr 0 0 0 0)),(5,.val (cp 1 (ints x.2.1))),(8,.val lv),(9,.val (.int .i64 l.length)),(10,.val (.int .i64 x.1))],[x.2.2.2],fV x.2.2.1 pre⟩)
  (λx=>x.1<=l.length/\x.2.1.length=x.1/\Fb x.2.2.1 (E.dV (l.drop x.1))/\(x.2.1++(mE x.2.2.1.vars.length x.2.2.1.sites.length (l.drop x.1)).1,x.2.2.1.plus (mE x.2.2.1.vars.length x.2.2.1.sites.length (l.drop x.1)).2)=((mE b.vars.length b.sites.length l).1,b.plus (mE b.vars.length b.sites.length l).2)) (λx=>l.length-x.1) (0,[],b,[]) (by simp[cp,ints]) ⟨by simp,rfl,by simpa using hb,by simp⟩ ?_
 rintro⟨k,acc,b1,bx⟩ ⟨hk,adS,f1,hp⟩ uh
 simp only at hk adS f1 hp uh
 by_cases aV:k<l.length
 ·have vA:IntKind.i64.wrap ((k:Int)+1)=((k+1:Nat):Int):=by rw[wrap64]<;>omega
  have hm:=List.getElem_mem aV
  rw[List.drop_eq_getElem_cons aV]at f1 hp
  simp only[E.dV]at f1
  have dw:=ih _ hm b1 pre (hL _ hm) (f1.le (by omega))
  have F5:=og l[k] b1.vars.length b1.sites.length
  have f2:=f1.plus F5
  rw[uv]at hp
  obtain⟨pv,_,ps⟩:=jm b1 (cE b1.vars.length b1.sites.length l[k]).2
  have e1:aG (aY l[k].kids)=true:=bw
  have e2:(aY l[k].kids).view=aY l[k].kids:=bF
  have gE:=Ch aV
  have nX:k<(E.rows l).length:=by simpa [gQ] using aV
  have tn:=wJ aV nX
  have oz:vv 1 8 (cp 1 (ints acc)) [[.int .i64 (cE b1.vars.length b1.sites.length l[k]).1]]=some (cp 1 (ints (acc++[(cE b1.vars.length b1.sites.length l[k]).1]))):=by
   rw[fL (by rfl) (by simp[room];omega)];simp
  have fD:=λbx=>uh (k+1,acc++[(cE b1.vars.length b1.sites.length l[k]).1],b1.plus (cE b1.vars.length b1.sites.length l[k]).2,bx) ⟨by simp only;omega,by simp[adS],f2,by
   simp only[pv,ps]
   rw[<-hp,uy]
   simp⟩ (by simp only;omega)
  simp only at fD
  rw[E.aH]at dw gE tn
  generalize cE b1.vars.length b1.sites.length l[k]=y at *
  generalize l[k]=x at *
  generalize aY x.kids=xe at *
  have g0:aG (cp 1 (ints acc))=true:=dm
  have g1:aG (cp 1 (ints (acc++[y.1])))=true:=dm
  generalize cp 1 (ints (acc++[y.1]))=m1 at *
  generalize cp 1 (ints acc)=m0 at *
  simp only[pB]at dw
  simp[aV,vA,hz,iq,fo,tn,dw,e1,e2,oz,af,AV.view]
  exact fD _
 ·have de:k=l.length:=by omega
  rw[de,List.drop_length]at hp
  have h1:(mE b.vars.length b.sites.length l).1=acc:=by
   have:=congrArg Prod.fst hp
   simpa [mE] using this.symm
  have h2:b.plus (mE b.vars.length b.sites.length l).2=b1:=by
   have:=congrArg Prod.snd hp
   simp only[mE]at this
   rw[Ay]at this
   exact this.symm
  rw[h1,h2]
  have g0:aG (cp 1 (ints acc))=true:=dm
  generalize cp 1 (ints acc)=m0 at *
  simp[aV]
theorem RC (nv ns:Nat):∀l:List E,(mE nv ns l).1.length=l.length
 |[]=>rfl
 |e::l=>by rw[uv];simp[RC]
theorem Vo (k n ref t s:Int)(l:List Int)(h7:k≠7):(eK k n ref t s l).row=[.int .i64 (eK k n ref 0 s l).op,.int .i64 t,.int .i64 (eK k n ref 0 s l).b,.int .i64 (eK k n ref 0 s l).c,.int .i64 (eK k n ref 0 s l).n,kR (eK k n ref 0 s l).args]/\(eK k n ref 0 s l).a=0:=by
 by_cases c1:k=1\/k=2
 ·simp[eK,c1,In.row]
 by_cases c3:k=3
 ·simp[eK,c3,In.row]
 by_cases c4:k=4
 ·simp[eK,c4,In.row]
 by_cases c5:k=5
 ·simp[eK,c5,In.row]
 by_cases c6:k=6
 ·simp[eK,c6,In.row]
 by_cases c8:k=8
 ·simp[eK,c8,In.row]
 by_cases c9:k=9
 ·simp[eK,c9,In.row]
 by_cases zx:k=10
 ·simp[eK,zx,In.row]
 by_cases Ll:k=11
 ·simp[eK,Ll,In.row]
 by_cases zU:k=12\/k=13
 ·rcases zU with rfl|rfl<;>simp[eK,In.row]
 ·simp[eK,c1,c3,c4,c5,c6,h7,c8,c9,zx,Ll,zU,In.row]
theorem gG (e:E):PE e:=by
 induction e using E.ind with
 |_ e ih=>
  intro b pre hL hb
  rw[Rm]at hL
  obtain⟨hT,h1,h2,hk,hr,adT⟩:=hL
  have hsk:=E.sF e
  have e1:aG (aY e.kids)=true:=bw
  have e2:(aY e.kids).view=aY e.kids:=bF
  by_cases q:e.k=4/\0<=e.ref
  ·rw[zz,if_pos q,Ay,E.aH]
   obtain⟨st,fm⟩:∃s,s=fV b pre:=⟨_,rfl⟩
   rw[<-fm]
   refine ay (sf:=Ho) rfl rfl rfl ?_
   generalize aY e.kids=KV at *
   simp[Ho,e1,cL.aF,AV.view,q,pB]
  ·have s8:=Ip e.kids ih b pre adT (hb.le (by omega))
   have F5:=JW e.kids b.vars.length b.sites.length
   have f1:Fb (b.plus (mE b.vars.length b.sites.length e.kids).2) 1:=Fb.plus (hb.le (by omega)) F5
   have MU:=RC b.vars.length b.sites.length e.kids
   obtain⟨pv,pi,ps⟩:=jm b (mE b.vars.length b.sites.length e.kids).2
   rw[zz,if_neg q]
   unfold cK
   generalize mE b.vars.length b.sites.length e.kids=x at *
   have q1:e.k=4->¬0<=e.ref:=λa b=>q ⟨a,b⟩
   have m1:aG (cp 1 (ints x.1))=true:=dm
   by_cases c7:e.k=7
   ·have hc:=xy (b.plus x.2) pre e x.1 f1
    have ea:∀{α:Type} (p q:α),(if e.ty=T0 then p else q)=if e.ty=T0 then p else q:=λ_ _=>rfl
    rw[uy]at hc
    have er:(if e.ty=T0 then ((-1:Int),x.2.app (eO ⟨13,-1,0,e.ref,0,x.1⟩)) else (((b.vars.length+x.2.vs.length:Nat):Int),x.2.app ⟨[e.ty],[eK e.k e.n e.ref ((b.vars.length+x.2.vs.length:Nat):Int) ((b.sites.length+x.2.ss.length:Nat):Int) x.1],if e.k=8\/e.k=9 then [e.ty] else []⟩))
      = ((if e.ty=T0 then (-1:Int) else ((b.plus x.2).vars.length:Int)),x.2.app (if e.ty=T0 then eO ⟨13,-1,0,e.ref,0,x.1⟩ else ⟨[e.ty],[⟨13,((b.plus x.2).vars.length:Int),0,e.ref,0,x.1⟩],[]⟩)):=by
     split
     ·rfl
     ·rw[pv];simp[c7,eK]
    rw[er]
    generalize (if e.ty=T0 then (-1:Int) else ((b.plus x.2).vars.length:Int))=rv at *
    generalize b.plus (x.2.app (if e.ty=T0 then eO ⟨13,-1,0,e.ref,0,x.1⟩ else ⟨[e.ty],[⟨13,((b.plus x.2).vars.length:Int),0,e.ref,0,x.1⟩],[]⟩))=rb at *
    rw[E.aH]at hc ⊢
    refine ay (sf:=Ho) rfl rfl rfl ?_
    generalize fV b pre=st at *
    generalize fV (b.plus x.2) pre=lz at *
    generalize cp 1 (ints x.1)=MV at *
    generalize aY e.kids=KV at *
    simp only[pB]at s8 hc
    rw[c7]at hc
    simp[Ho,e1,e2,cL.aF,AV.view,c7,pB,s8,hc]
   ·have hT':¬e.ty=T0:=λc=>c7 (hT c)
    rw[if_neg hT']
    have ht:=λli=>FJ li (b.plus x.2) pre e.ty (by have:=f1.1;omega)
    have hi:=λli=>Zu li { b.plus x.2 with vars:=(b.plus x.2).vars++[e.ty] } pre e x.1 (by have:=f1.2.2;show (b.plus x.2).sites.length<_;omega) c7 (λh=>by rw[MU];exact h1 h) (λh=>by rw[MU];exact h2 h) hk (λh=>⟨hr h,by have:=q1 h;omega⟩)
    have ha:=n7 (pW { b.plus x.2 with vars:=(b.plus x.2).vars++[e.ty] } e.k e.ty) pre (eK e.k e.n e.ref ((b.vars.length+x.2.vs.length:Nat):Int) ((b.sites.length+x.2.ss.length:Nat):Int) x.1) (by rw[Vn];have:=f1.2.1;show (b.plus x.2).is.length<_;omega)
    have dM:{ b.plus x.2 with vars:=(b.plus x.2).vars++[e.ty] }.sites.length=b.sites.length+x.2.ss.length:=ps
    rw[dM]at hi
    obtain⟨r1,r2⟩:=Vo e.k e.n e.ref ((b.vars.length+x.2.vs.length:Nat):Int) ((b.sites.length+x.2.ss.length:Nat):Int) x.1 c7
    rw[r1]at ha
    simp only[In.row,r2]at hi
    have xU:{ pW { b.plus x.2 with vars:=(b.plus x.2).vars++[e.ty] } e.k e.ty with is:=(pW { b.plus x.2 with vars:=(b.plus x.2).vars++[e.ty] } e.k e.ty).is++[eK e.k e.n e.ref ((b.vars.length+x.2.vs.length:Nat):Int) ((b.sites.length+x.2.ss.length:Nat):Int) x.1] } =
      b.plus (x.2.app ⟨[e.ty],[eK e.k e.n e.ref ((b.vars.length+x.2.vs.length:Nat):Int) ((b.sites.length+x.2.ss.length:Nat):Int) x.1],if e.k=8\/e.k=9 then [e.ty] else []⟩):=by
     by_cases c:e.k=8\/e.k=9
     ·simp[pW,c,Bl.plus,Out.app]
     ·simp[pW,c,Bl.plus,Out.app]
    rw[xU]at ha
    rw[pv]at ht
    simp only
    generalize eK e.k e.n e.ref 0 ((b.sites.length+x.2.ss.length:Nat):Int) x.1=J at *
    have ja:aG (kR J.args)=true:=bq
    have jb:(kR J.args).view=kR J.args:=br
    generalize (eK e.k e.n e.ref ((b.vars.length+x.2.vs.length:Nat):Int) ((b.sites.length+x.2.ss.length:Nat):Int) x.1)=J2 at *
    generalize b.plus (x.2.app ⟨[e.ty],[J2],if e.k=8\/e.k=9 then [e.ty] else []⟩)=rb at *
    rw[E.aH]at hi ⊢
    refine ay (sf:=Ho) rfl rfl rfl ?_
    generalize fV (pW { b.plus x.2 with vars:=(b.plus x.2).vars++[e.ty] } e.k e.ty) pre=st3 at *
    generalize fV { b.plus x.2 with vars:=(b.plus x.2).vars++[e.ty] } pre=lN at *
    generalize fV b pre=st at *
    generalize fV (b.plus x.2) pre=lz at *
    generalize fV rb pre=st4 at *
    generalize ((b.vars.length+x.2.vs.length:Nat):Int)=tv at *
    generalize cp 1 (ints x.1)=MV at *
    generalize aY e.kids=KV at *
    generalize kR J.args=AV1 at *
    simp only[pB,T3.cells]at s8 hi ht ha
    by_cases c4:e.k=4
    ·have q4:=q1 c4
     simp only[c4]at hi
     simp[Ho,e1,e2,cL.aF,AV.view,c4,q4,pB,s8,ht,hi,ha,ja,jb,af]
    ·simp[Ho,e1,e2,cL.aF,AV.view,c7,c4,pB,s8,ht,hi,ha,ja,jb,af]
end yb
namespace yb
open Ax Go aT V7 lP mV vC
theorem xZ (b:Bl)(x:Out)(i:In):{ b.plus x with is:=(b.plus x).is++[i] }=b.plus (x.app (eO i)):=by rw[u7,uy]
theorem Zv (b:Bl)(pre:an)(s:Sm)(h1:s.es.length=1)(hL:LL s.es)(hr : -1000000000<s.ref)(hb:Fb b (E.dV s.es+1)) :
  (aU S).call 0 0 102 [pB,.agg s.row] (fV b pre)=some (.fz [],fV (b.plus ((cE b.vars.length b.sites.length (kq s.es)).2.app (eO (Co s.ref (cE b.vars.length b.sites.length (kq s.es)).1)))) pre):=by
 obtain⟨e,he⟩:∃e,s.es=[e]:=⟨_,Ci h1⟩
 have h0:kq s.es=e:=by rw[he];rfl
 have dZ:E.dV s.es=E.sz e:=by rw[he];simp[E.dV]
 rw[h0]
 have hx:=gG e b pre ((qH _).1 hL e (by rw[he];exact List.mem_cons_self)) (hb.le (by omega))
 have F5:=og e b.vars.length b.sites.length
 have f1:=(hb.le (by omega:E.sz e+1<=_)).plus F5
 generalize cE b.vars.length b.sites.length e=x at *
 have ha:=n7 (b.plus x.2) pre (Co s.ref x.1) (by have:=f1.2.1;omega)
 rw[xZ]at ha
 have e1:aG (aY s.es)=true:=bw
 have e2:(aY s.es).view=aY s.es:=bF
 have e3:aP (aY s.es)=[e.row]:=by show aP (aD _ _)=_;rw[aO,he];rfl
 have e4:cD 11 (aY s.es)=true:=zE
 have b1:aG (bz s.bd)=true:=bJ
 have b2:(bz s.bd).view=bz s.bd:=bM
 have l1:aG (bz s.el)=true:=bJ
 have l2:(bz s.el).view=bz s.el:=bM
 have k1:aG (aY e.kids)=true:=bw
 have k2:(aY e.kids).view=aY e.kids:=bF
 have hn:kR []=.U:=rfl
 rw[E.aH]at hx e3
 rw[Sm.aH]
 refine ay (sf:=Ul) rfl rfl rfl ?_
 generalize fV (b.plus (x.2.app (eO (Co s.ref x.1)))) pre=lN at *
 generalize fV b pre=st at *
 generalize fV (b.plus x.2) pre=lz at *
 generalize aY e.kids=KV at *
 generalize aY s.es=EV at *
 generalize bz s.bd=DV at *
 generalize bz s.el=LV at *
 simp only[pB]at hx ha
 by_cases c:s.ref<0
 ·have hw:IntKind.i64.wrap (-1-s.ref) = -1-s.ref:=by rw[wrap64]<;>omega
  simp only[Co,if_pos c,In.row,hn]at ha
  simp[Ul,e1,e2,e3,e4,b1,l1,k2,cL.aF,AV.view,pB,hx,cut,c,hw,ha,af]
 ·simp only[Co,if_neg c,In.row,hn]at ha
  simp[Ul,e1,e2,e3,e4,b1,l1,k2,cL.aF,AV.view,pB,hx,cut,c,ha,af]
theorem Jb (b:Bl)(pre:an)(s:Sm)(h1:s.es.length=2)(hL:LL s.es)(hk:(kq s.es).k=5\/(kq s.es).k=6)(hb:Fb b (E.dV s.es+1)) :
  (aU S).call 0 0 103 [pB,.agg s.row] (fV b pre)=some (.fz [],fV (b.plus (Fw b.vars.length b.sites.length (kq s.es) (mE b.vars.length b.sites.length (kq s.es).kids) (λnv ns=>cE nv ns (Ri s.es)))) pre):=by
 obtain⟨e,f,he⟩:∃e f,s.es=[e,f]:=⟨_,_,Ro h1⟩
 have h0:kq s.es=e:=by rw[he];rfl
 have h01:Ri s.es=f:=by rw[he];rfl
 have dZ:E.dV s.es=E.sz e+E.sz f:=by rw[he];simp[E.dV]
 have hsk:=E.sF e
 rw[h0]at hk ⊢
 rw[h01]
 rw[qH]at hL
 have hLe:=hL e (by rw[he];exact List.mem_cons_self)
 rw[Rm]at hLe
 obtain⟨_,q1,q2,_,_,hLk⟩:=hLe
 have hx:=Ip e.kids (λx _=>gG x) b pre hLk (hb.le (by omega))
 have F5:=JW e.kids b.vars.length b.sites.length
 have f1:=(hb.le (by omega:E.dV e.kids+(E.sz f+1)<=_)).plus F5
 have MU:=RC b.vars.length b.sites.length e.kids
 unfold Fw
 obtain⟨pv,pi,ps⟩:=jm b (mE b.vars.length b.sites.length e.kids).2
 generalize mE b.vars.length b.sites.length e.kids=x at *
 have hy:=gG f (b.plus x.2) pre (hL f (by rw[he];simp)) (f1.le (by omega))
 have adU:=og f (b.plus x.2).vars.length (b.plus x.2).sites.length
 have f2:=f1.plus adU
 rw[pv,ps]at hy adU f2
 simp only
 generalize cE (b.vars.length+x.2.vs.length) (b.sites.length+x.2.ss.length) f=y at *
 have ha:=n7 ((b.plus x.2).plus y.2) pre (Ii e.k e.ref y.1 x.1) (by have:=f2.2.1;omega)
 simp only[u7,uy,Lj]at ha hy
 rw[Lj]
 have e1:aG (aY s.es)=true:=bw
 have e2:(aY s.es).view=aY s.es:=bF
 have e3:aP (aY s.es)=[e.row,f.row]:=by show aP (aD _ _)=_;rw[aO,he];rfl
 have e4:cD 11 (aY s.es)=true:=zE
 have b1:aG (bz s.bd)=true:=bJ
 have b2:(bz s.bd).view=bz s.bd:=bM
 have l1:aG (bz s.el)=true:=bJ
 have l2:(bz s.el).view=bz s.el:=bM
 have k1:aG (aY e.kids)=true:=bw
 have k2:(aY e.kids).view=aY e.kids:=bF
 have k3:aG (aY f.kids)=true:=bw
 have k4:(aY f.kids).view=aY f.kids:=bF
 have hn:kR []=.U:=rfl
 have m1:aG (cp 1 (ints x.1))=true:=dm
 have m2:(cp 1 (ints x.1)).view=aD 1 (ints x.1):=rfl
 have m3:aG (aD 1 (ints x.1))=true:=bq
 have m5:aP (aD 1 (ints x.1))=ints x.1:=aO
 have m6:cD 1 (aD 1 (ints x.1))=true:=zI
 have m7:aP (cp 1 (ints x.1))=ints x.1:=tU
 have m8:cD 1 (cp 1 (ints x.1))=true:=by rw[Ag];simp[fits,ints]
 rw[E.aH f]at hy
 rw[E.aH e,E.aH f]at e3
 rw[Sm.aH]
 refine ay (sf:=Um) rfl rfl rfl ?_
 generalize fV (b.plus (x.2.app (y.2.app (eO (Ii e.k e.ref y.1 x.1))))) pre=st3 at *
 generalize fV (b.plus (x.2.app y.2)) pre=lN at *
 generalize fV b pre=st at *
 generalize fV (b.plus x.2) pre=lz at *
 generalize aY e.kids=KV at *
 generalize aY f.kids=FV at *
 generalize aY s.es=EV at *
 generalize bz s.bd=DV at *
 generalize bz s.el=LV at *
 generalize cp 1 (ints x.1)=MV at *
 generalize aD 1 (ints x.1)=NV at *
 simp only[pB]at hx hy ha
 by_cases c:e.k=5
 ·rw[Zd (by rw[MU];exact q1 (.inl c))]at m5 m7
  simp only[Ii,if_pos c,In.row,hn]at ha
  simp[Um,e1,e2,e3,e4,b1,l1,k2,k4,m7,m8,cL.aF,AV.view,pB,hx,hy,cut,c,ha,af,aA,az]
 ·have c6:e.k=6:=by omega
  rw[Ze (by rw[MU];exact q2 (.inl c6))]at m5 m7
  simp only[Ii,if_neg c,In.row,hn]at ha
  simp[Um,e1,e2,e3,e4,b1,l1,k2,k4,m2,m5,m6,cL.aF,AV.view,pB,hx,hy,cut,c6,ha,af,aA,az]
theorem D8 (b:Bl)(pre:an)(e:E)(hL:LE e)(hb:Fb b (E.sz e+1)) :
  (aU S).call 0 0 126 [pB,.agg e.row] (fV b pre)=some (.int .i64 ((b.is.length+(cE b.vars.length b.sites.length e).2.is.length:Nat):Int),fV (b.plus ((cE b.vars.length b.sites.length e).2.app (eO ⟨17,(cE b.vars.length b.sites.length e).1,0,0,((b.is.length+(cE b.vars.length b.sites.length e).2.is.length+1:Nat):Int),[]⟩))) pre):=by
 have hx:=gG e b pre hL (hb.le (by omega))
 have f1:=hb.plus (og e b.vars.length b.sites.length)
 obtain⟨pv,pi,ps⟩:=jm b (cE b.vars.length b.sites.length e).2
 generalize cE b.vars.length b.sites.length e=x at *
 have aV:(b.plus x.2).is.length<1000000000:=by have:=f1.2.1;omega
 have hnx:=λli=>xY li (b.plus x.2) pre aV
 have ha:=n7 (b.plus x.2) pre ⟨17,x.1,0,0,((b.is.length+x.2.is.length+1:Nat):Int),[]⟩ aV
 rw[xZ]at ha
 rw[pi]at hnx ha aV
 have hw:IntKind.i64.wrap (((b.is.length+x.2.is.length:Nat):Int)+1)=((b.is.length+x.2.is.length+1:Nat):Int):=by rw[wrap64]<;>omega
 have hn:kR []=.U:=rfl
 have k1:aG (aY e.kids)=true:=bw
 have k2:(aY e.kids).view=aY e.kids:=bF
 rw[E.aH]at hx ⊢
 refine ay (sf:=Ya) rfl rfl rfl ?_
 simp only[In.row,hn,pB]at hx ha hnx
 generalize fV (b.plus (x.2.app (eO ⟨17,x.1,0,0,((b.is.length+x.2.is.length+1:Nat):Int),[]⟩))) pre=lN at *
 generalize ((b.is.length+x.2.is.length+1:Nat):Int)=n1 at *
 generalize ((b.is.length+x.2.is.length:Nat):Int)=n0 at *
 generalize fV b pre=st at *
 generalize fV (b.plus x.2) pre=lz at *
 generalize aY e.kids=KV at *
 simp[Ya,k1,k2,cL.aF,AV.view,pB,hx,hnx,hw,ha,af]
end yb
namespace yb
open Ax Go aT V7 lP mV vC
def PS (s:Sm):Prop:=∀(b:Bl)(pre:an),LS s->Fb b (2*Sm.sz s)->(aU S).call 0 0 86 [pB,.agg s.row] (fV b pre)=some (.fz [],fV (b.plus (cS b.vars.length b.is.length b.sites.length s)) pre)
theorem iO (l:List Sm)(ih:∀s∈l,PS s)(b:Bl)(pre:an)(hL:LB l)(hb:Fb b (2*Sm.dV l)) :
  (aU S).call 0 0 45 [pB,bz l] (fV b pre)=some (.fz [],fV (b.plus (cB b.vars.length b.is.length b.sites.length l)) pre):=by
 have hz:cD 9 (bz l)=true:=zL (by simp[fits,gr,Sm.aH])
 have dM:aG (bz l)=true:=bJ
 have iq:(bz l).view=bz l:=bM
 have fo:aP (bz l)=Sm.rows l:=aO
 have hlen:=Sm.ff l
 have hlb:l.length<1000000000:=by have:=hb.1;omega
 rw[Fy]at hL
 have rJ:(Sm.rows l).length=l.length:=by simp[gr]
 refine ay (sf:=s45) rfl rfl rfl ?_
 generalize bz l=lv at *
 simp[s45,dM,iq,fo,rJ,pB]
 refine bu PO.eq_1 (λx:Nat×Bl×List AV=>⟨[(0,.val (.ptr 0 0 0 0)),(6,.val lv),(7,.val (.int .i64 l.length)),(8,.val (.int .i64 x.1))],[x.2.2],fV x.2.1 pre⟩)
  (λx=>x.1<=l.length/\Fb x.2.1 (2*Sm.dV (l.drop x.1))/\x.2.1.plus (cB x.2.1.vars.length x.2.1.is.length x.2.1.sites.length (l.drop x.1))=b.plus (cB b.vars.length b.is.length b.sites.length l)) (λx=>l.length-x.1) (0,b,[]) (by simp) ⟨by simp,by simpa using hb,by simp⟩ ?_
 rintro⟨k,b1,bx⟩ ⟨hk,f1,hp⟩ uh
 simp only at hk f1 hp uh
 by_cases aV:k<l.length
 ·have vA:IntKind.i64.wrap ((k:Int)+1)=((k+1:Nat):Int):=by rw[wrap64]<;>omega
  have hm:=List.getElem_mem aV
  rw[List.drop_eq_getElem_cons aV]at f1 hp
  simp only[Sm.dV]at f1
  have dw:=ih _ hm b1 pre (hL _ hm) (f1.le (by omega))
  have F5:=Wz l[k] (hL _ hm) b1.vars.length b1.is.length b1.sites.length
  have f2:=Fb.plus (f1.le (by omega:2*Sm.sz l[k]+2*Sm.dV (l.drop (k+1))<=_)) F5
  rw[Av]at hp
  unfold D6 at hp
  obtain⟨pv,pi,ps⟩:=jm b1 (cS b1.vars.length b1.is.length b1.sites.length l[k])
  obtain⟨e1,d1,l1⟩:aG (aY l[k].es)=true/\aG (bz l[k].bd)=true/\aG (bz l[k].el)=true:=⟨bw,bJ,bJ⟩
  have e2:(aY l[k].es).view=aY l[k].es:=bF
  have d2:(bz l[k].bd).view=bz l[k].bd:=bM
  have l2:(bz l[k].el).view=bz l[k].el:=bM
  have gE:=Cj aV
  have nX:k<(Sm.rows l).length:=by omega
  have tn:=xT aV nX
  have fD:=λbx=>uh (k+1,b1.plus (cS b1.vars.length b1.is.length b1.sites.length l[k]),bx) ⟨by simp only;omega,f2,by
   simp only[pv,pi,ps]
   rw[<-hp,uy]⟩ (by simp only;omega)
  simp only at fD
  rw[Sm.aH]at dw gE tn
  generalize cS b1.vars.length b1.is.length b1.sites.length l[k]=y at *
  generalize l[k]=x at *
  generalize aY x.es=xe at *
  generalize bz x.bd=xb at *
  generalize bz x.el=xl at *
  simp only[pB]at dw
  simp[aV,vA,hz,iq,fo,tn,dw,e1,e2,d1,d2,l1,l2,af,AV.view]
  exact fD _
 ·have de:k=l.length:=by omega
  rw[de,List.drop_length,Fx,Ay]at hp
  rw[<-hp]
  simp[aV]
theorem J5 (b:Bl)(pre:an)(h:b.is≠[]):fV b pre=.rows 0 12 [[b.aQ,bV 3 (b.Lu.map T3.cells),bV 7 (b.aR.map Cd.row),bV 4 (b.sites.map Sd.row),.int .i64 b.main,
  .int .i64 b.params,bV 3 (b.vars.map T3.cells),.bool b.has,.int .i64 b.res.b,.int .i64 b.res.r,.int .i64 b.res.d,.mu (pre.length+1) (b.is.length-1)]]::(pre++[.rows (b.is.length-1) 6 (b.is.map In.row)]):=by
 simp[fV,Bl.cells,J4,xX,h]
end yb
namespace yb
open Ax Go aT V7 lP mV vC
def Bl.yM (b:Bl)(i:Nat)(a:In):Bl:={ b with is:=b.is.set i a }
structure Pt (b:Bl)(pre:an)(st:an)(H:List AV)(V:Nat)(R:List (List AV)):Prop where
 st:st=fV b pre
 eq:fV b pre=.rows 0 12 [H++[.mu (pre.length+1) V]]::(pre++[.rows V 6 R])
 len:R.length=b.is.length
 set:∀(i:Nat) (a:In),(.rows 0 12 [H++[.mu (pre.length+1) V]]::(pre++[.rows V 6 (R.set i (In.row a))]):an)=fV (b.yM i a) pre
 get:∀(i:Nat) (a:In),b.is[i]?=some a->R[i]?=some a.row
theorem RE (b:Bl)(pre:an)(h:b.is≠[]):∃r0 r1 r2 r3 r4 r5 r6 r7 r8 r9 r10 V R,Pt b pre (fV b pre) [r0,r1,r2,r3,r4,r5,r6,r7,r8,r9,r10] V R:=by
 refine⟨_,_,_,_,_,_,_,_,_,_,_,b.is.length-1,b.is.map In.row,rfl,J5 b pre h,by simp,λi a=>?_,λi a h=>by simp[h]⟩
 rw[J5 (b.yM i a) pre (by intro c;apply h;have:=congrArg List.length c;simp[Bl.yM]at this;exact this)]
 simp[Bl.yM,List.map_set]
theorem Zw (b:Bl)(x:Int×Out)(y z:Out)(f g:Nat->Nat->Nat->Out)
  (hy:y=f (b.vars.length+x.2.vs.length) (b.is.length+x.2.is.length+1) (b.sites.length+x.2.ss.length))
  (hz:z=g (b.vars.length+x.2.vs.length+y.vs.length) (b.is.length+x.2.is.length+1+y.is.length+1) (b.sites.length+x.2.ss.length+y.ss.length)) :
  ((((((b.plus (x.2.app (eO ⟨17,x.1,0,0,((b.is.length+x.2.is.length+1:Nat):Int),[]⟩))).plus y).plus (eO ⟨16,0,0,0,0,[]⟩)).yM (b.is.length+x.2.is.length)
   ⟨17,x.1,0,((b.is.length+x.2.is.length+1+y.is.length+1:Nat):Int),((b.is.length+x.2.is.length+1:Nat):Int),[]⟩).plus z).yM (b.is.length+x.2.is.length+1+y.is.length)
   ⟨16,0,0,0,((b.is.length+x.2.is.length+1+y.is.length+1+z.is.length:Nat):Int),[]⟩)=b.plus (Rj b.vars.length b.is.length b.sites.length x f g):=by
 unfold Rj
 dsimp only
 rw[<-hy,<-hz]
 have e1:1+y.is.length=y.is.length+1:=by omega
 simp[Bl.plus,Bl.yM,Out.app,eO,Nat.add_assoc,e1]
theorem Zx (b:Bl)(x:Int×Out)(y:Out)(f:Nat->Nat->Nat->Out)
  (hy:y=f (b.vars.length+x.2.vs.length) (b.is.length+x.2.is.length+1) (b.sites.length+x.2.ss.length)) :
  ((((b.plus (x.2.app (eO ⟨17,x.1,0,0,((b.is.length+x.2.is.length+1:Nat):Int),[]⟩))).plus y).plus (eO ⟨16,0,0,0,(b.is.length:Int),[]⟩)).yM (b.is.length+x.2.is.length)
   ⟨17,x.1,0,((b.is.length+x.2.is.length+1+y.is.length+1:Nat):Int),((b.is.length+x.2.is.length+1:Nat):Int),[]⟩)=b.plus (Rk b.vars.length b.is.length b.sites.length x f):=by
 unfold Rk
 dsimp only
 rw[<-hy]
 simp[Bl.plus,Bl.yM,Out.app,eO,Nat.add_assoc]
theorem Nf (s:Sm)(sW:∀x∈s.bd,PS x)(uh:∀x∈s.el,PS x)(b:Bl)(pre:an)(h1:s.es.length=1)(hL:LL s.es)(hB:LB s.bd)(hE:LB s.el)(hb:Fb b (2*Sm.sz s)) :
  (aU S).call 0 0 104 [pB,.agg s.row] (fV b pre)=some (.fz [],fV (b.plus (Rj b.vars.length b.is.length b.sites.length (cE b.vars.length b.sites.length (kq s.es)) (λnv at_ ns=>cB nv at_ ns s.bd) (λnv at_ ns=>cB nv at_ ns s.el))) pre):=by
 obtain⟨e,he⟩:∃e,s.es=[e]:=⟨_,Ci h1⟩
 have h0:kq s.es=e:=by rw[he];rfl
 have dZ:E.dV s.es=E.sz e:=by rw[he];simp[E.dV]
 have xS:=Sm.nK s
 rw[h0]
 have Vp:=D8 b pre e ((qH _).1 hL e (by rw[he];exact List.mem_cons_self)) (hb.le (by omega))
 have F5:=og e b.vars.length b.sites.length
 obtain⟨y,hy⟩:∃y,y=cB (b.vars.length+(cE b.vars.length b.sites.length e).2.vs.length) (b.is.length+(cE b.vars.length b.sites.length e).2.is.length+1) (b.sites.length+(cE b.vars.length b.sites.length e).2.ss.length) s.bd:=⟨_,rfl⟩
 obtain⟨z,hz⟩:∃z,z=cB (b.vars.length+(cE b.vars.length b.sites.length e).2.vs.length+y.vs.length) (b.is.length+(cE b.vars.length b.sites.length e).2.is.length+1+y.is.length+1) (b.sites.length+(cE b.vars.length b.sites.length e).2.ss.length+y.ss.length) s.el:=⟨_,rfl⟩
 rw[<-Zw b (cE b.vars.length b.sites.length e) y z _ _ hy hz]
 generalize cE b.vars.length b.sites.length e=x at *
 obtain⟨b1,F4⟩:∃b1,b1=b.plus (x.2.app (eO ⟨17,x.1,0,0,((b.is.length+x.2.is.length+1:Nat):Int),[]⟩)):=⟨_,rfl⟩
 have l1:b1.vars.length=b.vars.length+x.2.vs.length/\b1.is.length=b.is.length+x.2.is.length+1/\b1.sites.length=b.sites.length+x.2.ss.length:=by
  rw[F4];obtain⟨p,q,r⟩:=jm b (x.2.app (eO ⟨17,x.1,0,0,((b.is.length+x.2.is.length+1:Nat):Int),[]⟩));rw[p,q,r]
  simp[Out.app,eO,Nat.add_assoc]
 have g1:b1.is[b.is.length+x.2.is.length]?=some ⟨17,x.1,0,0,((b.is.length+x.2.is.length+1:Nat):Int),[]⟩:=by
  rw[F4];simp[Bl.plus,Out.app,eO]
 rw[<-F4]at Vp ⊢
 have f1:Fb b1 (2*Sm.dV s.bd+(2*Sm.dV s.el+1)):=by
  obtain⟨p1,p2,p3⟩:=hb
  obtain⟨q1,q2,q3⟩:=F5
  obtain⟨r1,r2,r3⟩:=l1
  exact⟨by omega,by omega,by omega⟩
 have Lg:=iO s.bd sW b1 pre hB (f1.le (by omega))
 have Sn:=Ik hB (b.vars.length+x.2.vs.length) (b.is.length+x.2.is.length+1) (b.sites.length+x.2.ss.length)
 rw[l1.1,l1.2.1,l1.2.2,<-hy]at Lg
 rw[<-hy]at Sn
 have f2:=f1.plus Sn
 obtain⟨m1,m2,m3⟩:=jm b1 y
 have g2:(b1.plus y).is[b.is.length+x.2.is.length]?=some ⟨17,x.1,0,0,((b.is.length+x.2.is.length+1:Nat):Int),[]⟩:=by
  show (b1.is++y.is)[_]?=_
  rw[List.getElem?_append_left (by omega)];exact g1
 have ha:=n7 (b1.plus y) pre ⟨16,0,0,0,0,[]⟩ (by have:=f2.2.1;omega)
 rw[u7,m2,l1.2.1]at ha
 obtain⟨b3,yJ⟩:∃b3,b3=(b1.plus y).plus (eO ⟨16,0,0,0,0,[]⟩):=⟨_,rfl⟩
 rw[<-yJ]at ha ⊢
 have l3:b3.vars.length=b.vars.length+x.2.vs.length+y.vs.length/\b3.is.length=b.is.length+x.2.is.length+1+y.is.length+1/\b3.sites.length=b.sites.length+x.2.ss.length+y.ss.length:=by
  rw[yJ];obtain⟨p,q,r⟩:=jm (b1.plus y) (eO ⟨16,0,0,0,0,[]⟩);rw[p,q,r,m1,m2,m3,l1.1,l1.2.1,l1.2.2]
  simp[eO]
 have g3:b3.is[b.is.length+x.2.is.length]?=some ⟨17,x.1,0,0,((b.is.length+x.2.is.length+1:Nat):Int),[]⟩:=by
  rw[yJ];show ((b1.plus y).is++_)[_]?=_
  rw[List.getElem?_append_left (by omega)];exact g2
 have g3j:b3.is[b.is.length+x.2.is.length+1+y.is.length]?=some ⟨16,0,0,0,0,[]⟩:=by
  rw[yJ];show ((b1.plus y).is++[_])[_]?=_
  rw[List.getElem?_append_right (by omega),m2,l1.2.1];simp
 have Zy:b3.is.length<1000000000:=by have:=f2.2.1;omega
 have Zz:=λli=>xY li b3 pre Zy
 rw[l3.2.1]at Zz
 obtain⟨r0,r1,r2,r3,r4,r5,r6,r7,r8,r9,r10,V,R,P3⟩:=RE b3 pre (by intro c;rw[c]at l3;simp at l3)
 obtain⟨b4,hb4⟩:∃b4,b4=b3.yM (b.is.length+x.2.is.length) ⟨17,x.1,0,((b.is.length+x.2.is.length+1+y.is.length+1:Nat):Int),((b.is.length+x.2.is.length+1:Nat):Int),[]⟩:=⟨_,rfl⟩
 have s3:=P3.set (b.is.length+x.2.is.length) ⟨17,x.1,0,((b.is.length+x.2.is.length+1+y.is.length+1:Nat):Int),((b.is.length+x.2.is.length+1:Nat):Int),[]⟩
 rw[<-hb4]at s3 ⊢
 have l4:b4.vars.length=b3.vars.length/\b4.is.length=b3.is.length/\b4.sites.length=b3.sites.length:=by rw[hb4];simp[Bl.yM]
 have g4j:b4.is[b.is.length+x.2.is.length+1+y.is.length]?=some ⟨16,0,0,0,0,[]⟩:=by
  rw[hb4];show (b3.is.set _ _)[_]?=_
  rw[List.getElem?_set_ne (by omega)];exact g3j
 have f4:Fb b4 (2*Sm.dV s.el):=by
  obtain⟨p1,p2,p3⟩:=f2
  obtain⟨r1,r2,r3⟩:=l3
  obtain⟨q1,q2,q3⟩:=l4
  exact⟨by omega,by omega,by omega⟩
 have KL:=iO s.el uh b4 pre hE f4
 have Kt:=Ik hE (b.vars.length+x.2.vs.length+y.vs.length) (b.is.length+x.2.is.length+1+y.is.length+1) (b.sites.length+x.2.ss.length+y.ss.length)
 rw[l4.1,l4.2.1,l4.2.2,l3.1,l3.2.1,l3.2.2,<-hz]at KL
 rw[<-hz]at Kt
 obtain⟨n1,n2,n3⟩:=jm b4 z
 have aiA:(b4.plus z).is.length<1000000000:=by have:=f4.2.1;have:=Kt.2.1;omega
 have nx5:=λli=>xY li (b4.plus z) pre aiA
 rw[n2,l4.2.1,l3.2.1]at nx5
 have g5:(b4.plus z).is[b.is.length+x.2.is.length+1+y.is.length]?=some ⟨16,0,0,0,0,[]⟩:=by
  show (b4.is++z.is)[_]?=_
  rw[List.getElem?_append_left (by omega)];exact g4j
 obtain⟨t0,t1,t2,t3,t4,t5,t6,t7,t8,t9,t10,W,Q,P5⟩:=RE (b4.plus z) pre (by intro c;have:=n2;rw[c,List.length_nil]at this;omega)
 have s5:=P5.set (b.is.length+x.2.is.length+1+y.is.length) ⟨16,0,0,0,((b.is.length+x.2.is.length+1+y.is.length+1+z.is.length:Nat):Int),[]⟩
 have q3:=P3.get _ _ g3
 have q5:=P5.get _ _ g5
 have w3:b.is.length+x.2.is.length<R.length:=by rw[P3.len];omega
 have w5:b.is.length+x.2.is.length+1+y.is.length<Q.length:=by rw[P5.len];omega
 have hn:kR []=.U:=rfl
 have e1:aG (aY s.es)=true:=bw
 have e2:(aY s.es).view=aY s.es:=bF
 have e3:aP (aY s.es)=[e.row]:=by show aP (aD _ _)=_;rw[aO,he];rfl
 have e4:cD 11 (aY s.es)=true:=zE
 have d1:aG (bz s.bd)=true:=bJ
 have d2:(bz s.bd).view=bz s.bd:=bM
 have u1:aG (bz s.el)=true:=bJ
 have u2:(bz s.el).view=bz s.el:=bM
 have k1:aG (aY e.kids)=true:=bw
 have k2:(aY e.kids).view=aY e.kids:=bF
 simp only[In.row,hn]at ha s3 s5 q3 q5
 simp only[pB,P3.eq,P5.eq,List.cons_append,List.nil_append]at Vp Lg ha Zz nx5 s3 KL s5
 rw[E.aH]at Vp e3
 rw[Sm.aH]
 refine ay (sf:=X6) rfl rfl rfl ?_
 generalize fV ((b4.plus z).yM (b.is.length+x.2.is.length+1+y.is.length) ⟨16,0,0,0,((b.is.length+x.2.is.length+1+y.is.length+1+z.is.length:Nat):Int),[]⟩) pre=st6 at *
 generalize b.is.length+x.2.is.length+1+y.is.length+1+z.is.length=N5 at *
 generalize b.is.length+x.2.is.length+1+y.is.length+1=N4 at *
 generalize b.is.length+x.2.is.length+1+y.is.length=N3 at *
 generalize b.is.length+x.2.is.length+1=N2 at *
 generalize b.is.length+x.2.is.length=N1 at *
 generalize fV b pre=st at *
 generalize fV b1 pre=lz at *
 generalize fV (b1.plus y) pre=lN at *
 generalize fV b4 pre=st4 at *
 generalize aY e.kids=KV at *
 generalize aY s.es=EV at *
 generalize bz s.bd=DV at *
 generalize bz s.el=LV at *
 have v3:=λh:N1<R.length=>(List.getElem?_eq_some_iff.1 q3).2
 have v5:=λh:N3<Q.length=>(List.getElem?_eq_some_iff.1 q5).2
 simp[X6,e1,e2,e3,e4,d1,d2,u1,k2,cL.aF,AV.view,pB,Vp,Lg,ha,cut,af]
 rw[rV]
 simp[dD,gW,cV,aI,cL.aF,Zz,w3,v3,bp,AV.ai,AV.au,cut,af,AV.view]
 refine⟨_,_,⟨rfl,rfl⟩,?_⟩
 simp[dX.same,AV.same,s3,KL,cut,AV.view,u2]
 rw[rV]
 simp[dD,gW,cV,aI,cL.aF,nx5,w5,v5,bp,AV.ai,AV.au,cut,af,AV.view]
 refine⟨_,_,⟨rfl,rfl⟩,?_⟩
 simp[dX.same,AV.same,s5,cut,AV.view]
end yb
namespace yb
open Ax Go aT V7 lP mV vC
theorem Ng (s:Sm)(sW:∀x∈s.bd,PS x)(b:Bl)(pre:an)(h1:s.es.length=1)(hL:LL s.es)(hB:LB s.bd)(hb:Fb b (2*Sm.sz s)) :
  (aU S).call 0 0 105 [pB,.agg s.row] (fV b pre)=some (.fz [],fV (b.plus (Rk b.vars.length b.is.length b.sites.length (cE b.vars.length b.sites.length (kq s.es)) (λnv at_ ns=>cB nv at_ ns s.bd))) pre):=by
 obtain⟨e,he⟩:∃e,s.es=[e]:=⟨_,Ci h1⟩
 have h0:kq s.es=e:=by rw[he];rfl
 have dZ:E.dV s.es=E.sz e:=by rw[he];simp[E.dV]
 have xS:=Sm.nK s
 rw[h0]
 have nx0:=λli=>xY li b pre (by have:=hb.2.1;omega)
 have Vp:=D8 b pre e ((qH _).1 hL e (by rw[he];exact List.mem_cons_self)) (hb.le (by omega))
 have F5:=og e b.vars.length b.sites.length
 obtain⟨y,hy⟩:∃y,y=cB (b.vars.length+(cE b.vars.length b.sites.length e).2.vs.length) (b.is.length+(cE b.vars.length b.sites.length e).2.is.length+1) (b.sites.length+(cE b.vars.length b.sites.length e).2.ss.length) s.bd:=⟨_,rfl⟩
 rw[<-Zx b (cE b.vars.length b.sites.length e) y _ hy]
 generalize cE b.vars.length b.sites.length e=x at *
 obtain⟨b1,F4⟩:∃b1,b1=b.plus (x.2.app (eO ⟨17,x.1,0,0,((b.is.length+x.2.is.length+1:Nat):Int),[]⟩)):=⟨_,rfl⟩
 have l1:b1.vars.length=b.vars.length+x.2.vs.length/\b1.is.length=b.is.length+x.2.is.length+1/\b1.sites.length=b.sites.length+x.2.ss.length:=by
  rw[F4];obtain⟨p,q,r⟩:=jm b (x.2.app (eO ⟨17,x.1,0,0,((b.is.length+x.2.is.length+1:Nat):Int),[]⟩));rw[p,q,r]
  simp[Out.app,eO,Nat.add_assoc]
 have g1:b1.is[b.is.length+x.2.is.length]?=some ⟨17,x.1,0,0,((b.is.length+x.2.is.length+1:Nat):Int),[]⟩:=by
  rw[F4];simp[Bl.plus,Out.app,eO]
 rw[<-F4]at Vp ⊢
 have f1:Fb b1 (2*Sm.dV s.bd+1):=by
  obtain⟨p1,p2,p3⟩:=hb
  obtain⟨q1,q2,q3⟩:=F5
  obtain⟨r1,r2,r3⟩:=l1
  exact⟨by omega,by omega,by omega⟩
 have Lg:=iO s.bd sW b1 pre hB (f1.le (by omega))
 have Sn:=Ik hB (b.vars.length+x.2.vs.length) (b.is.length+x.2.is.length+1) (b.sites.length+x.2.ss.length)
 rw[l1.1,l1.2.1,l1.2.2,<-hy]at Lg
 rw[<-hy]at Sn
 have f2:=f1.plus Sn
 obtain⟨m1,m2,m3⟩:=jm b1 y
 have g2:(b1.plus y).is[b.is.length+x.2.is.length]?=some ⟨17,x.1,0,0,((b.is.length+x.2.is.length+1:Nat):Int),[]⟩:=by
  show (b1.is++y.is)[_]?=_
  rw[List.getElem?_append_left (by omega)];exact g1
 have ha:=n7 (b1.plus y) pre ⟨16,0,0,0,(b.is.length:Int),[]⟩ (by have:=f2.2.1;omega)
 rw[u7,m2,l1.2.1]at ha
 obtain⟨b3,yJ⟩:∃b3,b3=(b1.plus y).plus (eO ⟨16,0,0,0,(b.is.length:Int),[]⟩):=⟨_,rfl⟩
 rw[<-yJ]at ha ⊢
 have l3:b3.is.length=b.is.length+x.2.is.length+1+y.is.length+1:=by
  rw[yJ];obtain⟨p,q,r⟩:=jm (b1.plus y) (eO ⟨16,0,0,0,(b.is.length:Int),[]⟩);rw[q,m2,l1.2.1]
  simp[eO]
 have g3:b3.is[b.is.length+x.2.is.length]?=some ⟨17,x.1,0,0,((b.is.length+x.2.is.length+1:Nat):Int),[]⟩:=by
  rw[yJ];show ((b1.plus y).is++_)[_]?=_
  rw[List.getElem?_append_left (by omega)];exact g2
 have Zy:b3.is.length<1000000000:=by have:=f2.2.1;omega
 have Zz:=λli=>xY li b3 pre Zy
 rw[l3]at Zz
 obtain⟨r0,r1,r2,r3,r4,r5,r6,r7,r8,r9,r10,V,R,P3⟩:=RE b3 pre (by intro c;rw[c]at l3;simp at l3)
 have s3:=P3.set (b.is.length+x.2.is.length) ⟨17,x.1,0,((b.is.length+x.2.is.length+1+y.is.length+1:Nat):Int),((b.is.length+x.2.is.length+1:Nat):Int),[]⟩
 have q3:=P3.get _ _ g3
 have w3:b.is.length+x.2.is.length<R.length:=by rw[P3.len];omega
 have hn:kR []=.U:=rfl
 have e1:aG (aY s.es)=true:=bw
 have e2:(aY s.es).view=aY s.es:=bF
 have e3:aP (aY s.es)=[e.row]:=by show aP (aD _ _)=_;rw[aO,he];rfl
 have e4:cD 11 (aY s.es)=true:=zE
 have d1:aG (bz s.bd)=true:=bJ
 have d2:(bz s.bd).view=bz s.bd:=bM
 have u1:aG (bz s.el)=true:=bJ
 have u2:(bz s.el).view=bz s.el:=bM
 have k1:aG (aY e.kids)=true:=bw
 have k2:(aY e.kids).view=aY e.kids:=bF
 simp only[In.row,hn]at ha s3 q3
 simp only[pB,P3.eq,List.cons_append,List.nil_append]at nx0 Vp Lg ha Zz s3
 rw[E.aH]at Vp e3
 rw[Sm.aH]
 refine ay (sf:=X7) rfl rfl rfl ?_
 generalize fV (b3.yM (b.is.length+x.2.is.length) ⟨17,x.1,0,((b.is.length+x.2.is.length+1+y.is.length+1:Nat):Int),((b.is.length+x.2.is.length+1:Nat):Int),[]⟩) pre=st6 at *
 generalize b.is.length+x.2.is.length+1+y.is.length+1=N4 at *
 generalize b.is.length+x.2.is.length+1+y.is.length=N3 at *
 generalize b.is.length+x.2.is.length+1=N2 at *
 generalize b.is.length+x.2.is.length=N1 at *
 generalize b.is.length=N0 at *
 generalize fV b pre=st at *
 generalize fV b1 pre=lz at *
 generalize fV (b1.plus y) pre=lN at *
 generalize aY e.kids=KV at *
 generalize aY s.es=EV at *
 generalize bz s.bd=DV at *
 generalize bz s.el=LV at *
 have v3:=λh:N1<R.length=>(List.getElem?_eq_some_iff.1 q3).2
 simp[X7,e1,e2,e3,e4,d1,d2,u1,k2,cL.aF,AV.view,pB,nx0,Vp,Lg,ha,cut,af]
 rw[rV]
 simp[dD,gW,cV,aI,cL.aF,Zz,w3,v3,bp,AV.ai,AV.au,cut,af,AV.view]
 refine⟨_,_,⟨rfl,rfl⟩,?_⟩
 simp[dX.same,AV.same,s3,cut,AV.view]
theorem sJ (s:Sm):PS s:=by
 induction s using Sm.ind with
 |_ s sW uh=>
  intro b pre hL hb
  rw[Ij]at hL
  obtain⟨h1,h2,h3,h4,h5,h6⟩:=hL
  have xS:=Sm.nK s
  have hn:kR []=.U:=rfl
  have e1:aG (aY s.es)=true:=bw
  have e2:(aY s.es).view=aY s.es:=bF
  have e4:cD 11 (aY s.es)=true:=zE
  have d1:aG (bz s.bd)=true:=bJ
  have d2:(bz s.bd).view=bz s.bd:=bM
  have u1:aG (bz s.el)=true:=bJ
  have u2:(bz s.el).view=bz s.el:=bM
  rw[Rl]
  by_cases c:s.k=2\/s.k=3
  ·rw[if_pos c]
   have hx:=Zv b pre s (h2 (by omega)) h1 (h4 c) (hb.le (by omega))
   generalize fV (b.plus ((cE b.vars.length b.sites.length (kq s.es)).2.app (eO (Co s.ref (cE b.vars.length b.sites.length (kq s.es)).1)))) pre=lz at *
   rw[Sm.aH]at hx ⊢
   refine ay (sf:=ER) rfl rfl rfl ?_
   generalize fV b pre=st at *
   generalize aY s.es=EV at *
   generalize bz s.bd=DV at *
   generalize bz s.el=LV at *
   simp only[pB]at hx
   rcases c with c|c<;>
   ·rw[c]at hx
    simp[ER,e1,e2,d1,d2,u1,u2,cL.aF,AV.view,pB,c,hx,cut]
  rw[if_neg c]
  by_cases c4:s.k=4
  ·rw[if_pos c4]
   have hx:=Jb b pre s (h3 c4).1 h1 (h3 c4).2 (hb.le (by omega))
   generalize fV (b.plus (Fw b.vars.length b.sites.length (kq s.es) (mE b.vars.length b.sites.length (kq s.es).kids) (λnv ns=>cE nv ns (Ri s.es)))) pre=lz at *
   rw[Sm.aH]at hx ⊢
   refine ay (sf:=ER) rfl rfl rfl ?_
   generalize fV b pre=st at *
   generalize aY s.es=EV at *
   generalize bz s.bd=DV at *
   generalize bz s.el=LV at *
   simp only[pB]at hx
   rw[c4]at hx
   simp[ER,e1,e2,d1,d2,u1,u2,cL.aF,AV.view,pB,c4,hx,cut]
  rw[if_neg c4]
  by_cases c5:s.k=5
  ·rw[if_pos c5]
   have hx:=Nf s sW uh b pre (h2 (by omega)) h1 h5 h6 hb
   generalize fV (b.plus (Rj b.vars.length b.is.length b.sites.length (cE b.vars.length b.sites.length (kq s.es)) (λnv at_ ns=>cB nv at_ ns s.bd) (λnv at_ ns=>cB nv at_ ns s.el))) pre=lz at *
   rw[Sm.aH]at hx ⊢
   refine ay (sf:=ER) rfl rfl rfl ?_
   generalize fV b pre=st at *
   generalize aY s.es=EV at *
   generalize bz s.bd=DV at *
   generalize bz s.el=LV at *
   simp only[pB]at hx
   rw[c5]at hx
   simp[ER,e1,e2,d1,d2,u1,u2,cL.aF,AV.view,pB,c5,hx,cut]
  rw[if_neg c5]
  by_cases c6:s.k=6
  ·rw[if_pos c6]
   have hx:=Ng s sW b pre (h2 (by omega)) h1 h5 hb
   generalize fV (b.plus (Rk b.vars.length b.is.length b.sites.length (cE b.vars.length b.sites.length (kq s.es)) (λnv at_ ns=>cB nv at_ ns s.bd))) pre=lz at *
   rw[Sm.aH]at hx ⊢
   refine ay (sf:=ER) rfl rfl rfl ?_
   generalize fV b pre=st at *
   generalize aY s.es=EV at *
   generalize bz s.bd=DV at *
   generalize bz s.el=LV at *
   simp only[pB]at hx
   rw[c6]at hx
   simp[ER,e1,e2,d1,d2,u1,u2,cL.aF,AV.view,pB,c6,hx,cut]
  rw[if_neg c6]
  by_cases c7:s.k=7
  ·rw[if_pos c7]
   cases qK:s.es with
   |nil=>
    have ha:=n7 b pre ⟨18,-1,0,0,0,[]⟩ (by have:=hb.2.1;omega)
    rw[u7]at ha
    simp only[In.row,hn]at ha
    have e3:aP (aY s.es)=[]:=by show aP (aD _ _)=_;rw[aO,qK];rfl
    dsimp only
    generalize fV (b.plus (eO ⟨18,-1,0,0,0,[]⟩)) pre=lz at *
    rw[Sm.aH]
    refine ay (sf:=ER) rfl rfl rfl ?_
    generalize fV b pre=st at *
    generalize aY s.es=EV at *
    generalize bz s.bd=DV at *
    generalize bz s.el=LV at *
    simp only[pB]at ha
    simp[ER,e1,e2,e3,d1,u1,cL.aF,AV.view,pB,c7,ha,cut,af]
   |cons e l=>
    have dZ:E.dV s.es=E.sz e+E.dV l:=by rw[qK];rfl
    have hx:=gG e b pre ((qH _).1 h1 e (by rw[qK];exact List.mem_cons_self)) (hb.le (by omega))
    have f1:=Fb.plus (hb.le (by omega:E.sz e+1<=_)) (og e b.vars.length b.sites.length)
    dsimp only
    generalize cE b.vars.length b.sites.length e=x at *
    have ha:=n7 (b.plus x.2) pre ⟨18,x.1,0,0,0,[]⟩ (by have:=f1.2.1;omega)
    rw[xZ]at ha
    simp only[In.row,hn]at ha
    have e3:aP (aY s.es)=e.row::E.rows l:=by show aP (aD _ _)=_;rw[aO,qK];rfl
    have k1:aG (aY e.kids)=true:=bw
    have k2:(aY e.kids).view=aY e.kids:=bF
    generalize fV (b.plus (x.2.app (eO ⟨18,x.1,0,0,0,[]⟩))) pre=lN at *
    rw[E.aH]at hx e3
    rw[Sm.aH]
    refine ay (sf:=ER) rfl rfl rfl ?_
    generalize fV b pre=st at *
    generalize fV (b.plus x.2) pre=lz at *
    generalize aY e.kids=KV at *
    generalize aY s.es=EV at *
    generalize bz s.bd=DV at *
    generalize bz s.el=LV at *
    simp only[pB]at ha hx
    simp[ER,e1,e2,e3,e4,d1,u1,k2,cL.aF,AV.view,pB,c7,hx,ha,cut,af]
  rw[if_neg c7]
  have one:(s.k=8\/s.k=9)->∃e,s.es=[e]/\kq s.es=e/\E.dV s.es=E.sz e/\aP (aY s.es)=[e.row]/\LE e:=λh=>by
   obtain⟨e,he⟩:∃e,s.es=[e]:=⟨_,Ci (h2 (by omega))⟩
   exact⟨e,he,by rw[he];rfl,by rw[he];simp[E.dV],by show aP (aD _ _)=_;rw[aO,he];rfl,(qH _).1 h1 e (by rw[he];exact List.mem_cons_self)⟩
  by_cases c8:s.k=8
  ·rw[if_pos c8]
   obtain⟨e,qK,h0,dZ,e3,hLe⟩:=one (.inl c8)
   rw[h0]
   have hx:=gG e b pre hLe (hb.le (by omega))
   have f1:=Fb.plus (hb.le (by omega:E.sz e+1<=_)) (og e b.vars.length b.sites.length)
   generalize cE b.vars.length b.sites.length e=x at *
   have ha:=n7 (b.plus x.2) pre ⟨15,x.1,0,0,0,[]⟩ (by have:=f1.2.1;omega)
   rw[xZ]at ha
   simp only[In.row,hn]at ha
   have k1:aG (aY e.kids)=true:=bw
   have k2:(aY e.kids).view=aY e.kids:=bF
   generalize fV (b.plus (x.2.app (eO ⟨15,x.1,0,0,0,[]⟩))) pre=lN at *
   rw[E.aH]at hx e3
   rw[Sm.aH]
   refine ay (sf:=ER) rfl rfl rfl ?_
   generalize fV b pre=st at *
   generalize fV (b.plus x.2) pre=lz at *
   generalize aY e.kids=KV at *
   generalize aY s.es=EV at *
   generalize bz s.bd=DV at *
   generalize bz s.el=LV at *
   simp only[pB]at ha hx
   simp[ER,e1,e2,e3,e4,d1,u1,k2,cL.aF,AV.view,pB,c8,hx,ha,cut,af]
  rw[if_neg c8]
  by_cases c9:s.k=9
  ·rw[if_pos c9]
   obtain⟨e,qK,h0,dZ,e3,hLe⟩:=one (.inr c9)
   rw[h0]
   have hx:=gG e b pre hLe (hb.le (by omega))
   generalize cE b.vars.length b.sites.length e=x at *
   have k1:aG (aY e.kids)=true:=bw
   have k2:(aY e.kids).view=aY e.kids:=bF
   rw[E.aH]at hx e3
   rw[Sm.aH]
   refine ay (sf:=ER) rfl rfl rfl ?_
   generalize fV b pre=st at *
   generalize fV (b.plus x.2) pre=lz at *
   generalize aY e.kids=KV at *
   generalize aY s.es=EV at *
   generalize bz s.bd=DV at *
   generalize bz s.el=LV at *
   simp only[pB]at hx
   simp[ER,e1,e2,e3,e4,d1,u1,k2,cL.aF,AV.view,pB,c9,hx,cut]
  rw[if_neg c9,Ay,Sm.aH]
  refine ay (sf:=ER) rfl rfl rfl ?_
  generalize fV b pre=st at *
  generalize aY s.es=EV at *
  generalize bz s.bd=DV at *
  generalize bz s.el=LV at *
  have c2:¬s.k=2:=λh=>c (.inl h)
  have c3:¬s.k=3:=λh=>c (.inr h)
  simp[ER,e1,d1,u1,cL.aF,AV.view,pB,c2,c3,c4,c5,c6,c7,c8,c9,cut]
end yb
