/-
  A builder in memory: its object, what those that are done have left, its list of instructions.
-/
import Derived.Test.YtachcambnjecnaaCode2
import Derived.Test.YtachcambnjecnaaA6
import Derived.Test.YtachcambnjecnaaF
import Derived.Test.YtachcambnjecnaaC

set_option maxRecDepth 100000
set_option maxHeartbeats 4000000
namespace yB
open Ax Go cz V7 kL lV wo
def bY(sz:Nat)(l:List (List AV)):AV:=if l=[] then .U else .je sz l
structure Bl where
 bG:AV
 Mp:List T3
 gy:List Cd
 aI:List Sd
 main:Int
 params:Int
 vars:List T3
 bO:Bool
 br:T3
 is:List In
def KI(l:List In)(k:Nat):AV:=if l=[] then .U else .mu k (l.length-1)
def Bl.cells(b:Bl)(k:Nat):List AV:=[b.bG,bY 3 (b.Mp.map T3.cells),bY 7 (b.gy.map Cd.row),bY 4 (b.aI.map Sd.row),.int .i64 b.main,
 .int .i64 b.params,bY 3 (b.vars.map T3.cells),.bool b.bO,.int .i64 b.br.b,.int .i64 b.br.r,.int .i64 b.br.d,KI b.is k]
def ye(l:List In):aj:=if l=[] then [] else [.rows (l.length-1) 6 (l.map In.row)]
def gm(b:Bl)(pre:aj):aj:=.rows 0 12 [b.cells (pre.length+1)]::(pre++ye b.is)
abbrev pB:AV:=.ptr 0 0 0 0
theorem C4(l:List Int):(ou l).an=true:=by cases l<;>simp[ou,aB,cD,cM,AV.an]
theorem C5(l:List Int):(ou l).cH=true:=by cases l<;>simp[ou,aB,cD,cM,AV.cH]
theorem C6(l:List Int):(ou l).view=ou l:=by cases l<;>simp[ou,aB,cD,cM,AV.view]
variable (wl aa:Nat)
theorem Sf(b:Bl)(pre:aj)(i:In)(v:AV)(_hp:v.an=true)(hc:v.cH=true)(hv:v.view=ou i.args)(hb:b.is.length<1000000000) :
  (bg S).call 0 0 30 [pB,.agg [.int .i64 i.op,.int .i64 i.a,.int .i64 i.b,.int .i64 i.c,.int .i64 i.n,v]] (gm b pre)=some (.int .i64 b.is.length,gm { b with is:=b.is++[i] } pre):=by
 refine ax (sf:=s30) rfl rfl rfl ?_
 have hp2:=C4 i.args
 have RX:=C5 i.args
 have hv2:=C6 i.args
 have hr:(b.is.length+1)*64<=dQ:=by unfold dQ;omega
 have O5:64<=dQ:=by decide
 have hw:IntKind.i64.wrap ((b.is.length:Nat):Int)=b.is.length:=by rw[aY]<;>omega
 have h00:IntKind.i64.wrap 0=0:=by decide
 by_cases e:b.is=[]
 ·simp[s30,gm,pB,Bl.cells,KI,ye,e,In.row,bh,AV.ah,AV.an,af,aC,aA,cut,hc,hv,hp2,RX,hv2,bU,O5,h00]
 ·simp[s30,gm,pB,Bl.cells,KI,ye,e,In.row,bh,AV.ah,AV.an,af,aC,aA,cut,hc,hv,hp2,RX,hv2,bU,hr,hw]
  have:=List.length_pos_iff.2 e
  omega
theorem ov(b:Bl)(pre:aj)(i:In)(hb:b.is.length<1000000000) :
  (bg S).call 0 0 30 [pB,.agg i.row] (gm b pre)=some (.int .i64 b.is.length,gm { b with is:=b.is++[i] } pre):=
 Sf b pre i (ou i.args) (C4 _) (C5 _) (C6 _) hb
theorem Gj(b:Bl)(pre:aj)(t:T3)(hb:b.vars.length<1000000000) :
  (bg S).call 0 aa 29 [pB,.agg t.cells] (gm b pre)=some (.int .i64 b.vars.length,gm { b with vars:=b.vars++[t] } pre):=by
 refine ax (sf:=s29) rfl rfl rfl ?_
 have hr:(b.vars.length+1)*24<=dQ:=by unfold dQ;omega
 have O5:24<=dQ:=by decide
 have hw:IntKind.i64.wrap ((b.vars.length:Nat):Int)=b.vars.length:=by rw[aY]<;>omega
 have h00:IntKind.i64.wrap 0=0:=by decide
 have Av:List.take (pre.length+(ye b.is).length) (pre++ye b.is)=pre++ye b.is:=List.take_of_length_le (by simp)
 by_cases e:b.vars=[]
 ·have h0:bY 3 (b.vars.map T3.cells)=.U:=by simp[bY,e]
  have h1:bY 3 ((b.vars++[t]).map T3.cells)=.je 3 [t.cells]:=by simp[bY,e]
  simp only[gm,pB,Bl.cells,h0,h1]
  simp[s29,e,T3.cells,bh,AV.ah,AV.an,AV.iM,aL,fY,dR,b9,af,aC,aA,cut,Av,bU,O5,h00]
 ·have h0:bY 3 (b.vars.map T3.cells)=.je 3 (b.vars.map T3.cells):=by simp[bY,e]
  have h1:bY 3 ((b.vars++[t]).map T3.cells)=.je 3 (b.vars.map T3.cells++[t.cells]):=by simp[bY]
  simp only[gm,pB,Bl.cells,h0,h1]
  simp[s29,T3.cells,bh,AV.ah,AV.an,AV.iM,aL,fY,dR,b9,af,aC,aA,cut,Av,bU,hr,hw]
theorem yf(b:Bl)(pre:aj)(_hb:b.is.length<1000000000) :
  (bg S).call 0 aa 79 [pB] (gm b pre)=some (.int .i64 b.is.length,gm b pre):=by
 refine ax (sf:=s79) rfl rfl rfl ?_
 have Av:∀y:fL,List.take (pre.length+1) (pre++[y])=pre++[y]:=λy=>List.take_of_length_le (by simp)
 by_cases e:b.is=[]
 ·simp[s79,gm,pB,Bl.cells,KI,ye,e,cut]
 ·simp[s79,gm,pB,Bl.cells,KI,ye,e,cut,Av]
end yB
namespace yB
open Ax Go cz V7 kL lV wo
mutual
theorem zg:∀a:AV,a.fU a=true
 |.undef|.gone|.eO|.U|.fG|.iw|.jF|.kV=>rfl
 |.bool b=>by simp[AV.fU]
 |.int k n=>by simp[AV.fU]
 |.str l=>by simp[AV.fU]
 |.agg l=>by simp only[AV.fU];exact nw l
 |.fK l=>by simp only[AV.fU];exact nw l
 |.dj s r=>by simp only[AV.fU,beq_self_eq_true,Bool.true_and];exact jI r
 |.je s r=>by simp only[AV.fU,beq_self_eq_true,Bool.true_and];exact jI r
 |.raw s r=>by simp only[AV.fU,beq_self_eq_true,Bool.true_and];exact jI r
 |.mu i v=>by simp[AV.fU]
 |.ptr a b c d=>by simp[AV.fU]
 |.ox s a i k=>by simp only[AV.fU,beq_self_eq_true,Bool.true_and,Bool.and_true];exact jI a
 |.map i=>by simp[AV.fU]
 |.fn f a b=>by simp only[AV.fU,beq_self_eq_true,Bool.true_and,Bool.and_eq_true];exact⟨nw a,nw b⟩
theorem nw:∀l:List AV,AV.qh l l=true
 |[]=>rfl
 |a::l=>by simp only[AV.qh,zg a,nw l,Bool.and_self]
theorem jI:∀l:List (List AV),AV.qL l l=true
 |[]=>rfl
 |a::l=>by simp only[AV.qL,nw a,jI l,Bool.and_self]
end
variable (wl aa:Nat)
theorem VP(b:Bl)(pre:aj)(t:T3)(hb:b.aI.length<1000000000) :
  (bg S).call 0 aa 92 [pB,.agg t.cells] (gm b pre)=some (.int .i64 b.aI.length,gm { b with aI:=b.aI++[⟨b.gy.length,t⟩] } pre):=by
 refine ax (sf:=s92) rfl rfl rfl ?_
 have hr:(b.aI.length+1)*32<=dQ:=by unfold dQ;omega
 have O5:32<=dQ:=by decide
 have hw:IntKind.i64.wrap ((b.aI.length:Nat):Int)=b.aI.length:=by rw[aY]<;>omega
 have h00:IntKind.i64.wrap 0=0:=by decide
 have Av:List.take (pre.length+(ye b.is).length) (pre++ye b.is)=pre++ye b.is:=List.take_of_length_le (by simp)
 have hc:b.gy=[]/\bY 7 (b.gy.map Cd.row)=.U\/b.gy≠[]/\bY 7 (b.gy.map Cd.row)=.je 7 (b.gy.map Cd.row):=by
  by_cases e:b.gy=[]
  ·exact .inl ⟨e,by simp[bY,e]⟩
  ·exact .inr ⟨e,by simp[bY,e]⟩
 have hs:b.aI=[]/\bY 4 (b.aI.map Sd.row)=.U\/b.aI≠[]/\bY 4 (b.aI.map Sd.row)=.je 4 (b.aI.map Sd.row):=by
  by_cases e:b.aI=[]
  ·exact .inl ⟨e,by simp[bY,e]⟩
  ·exact .inr ⟨e,by simp[bY,e]⟩
 rcases hs with⟨e,h0⟩|⟨e,h0⟩<;>rcases hc with⟨e2,hc⟩|⟨e2,hc⟩<;>
 (simp only[gm,pB,Bl.cells,h0,hc]
  simp[s92,e,e2,T3.cells,Sd.row,aL]
  rw[sy]
  simp[dJ,iy,dm,bw,fQ.bz,bh,AV.ah,AV.an,AV.iM,aL,fY,dR,b9,af,cut,bU,hr,O5]
  refine⟨_,_,⟨rfl,rfl⟩,?_⟩
  simp[bY,jI,b9,AV.cL,AV.view,eG.fU,AV.fU,cut,AV.an,aL,fY,Av,hw,h00])
end yB
namespace yB
open Ax Go cz V7 kL lV wo
def Bl.plus(b:Bl)(o:l7):Bl:={ b with vars:=b.vars++o.vs,is:=b.is++o.is,aI:=b.aI++o.ss.map (λt=>⟨b.gy.length,t⟩) }
theorem A6(b:Bl):b.plus O0=b:=by simp[Bl.plus,O0]
theorem uE(b:Bl)(x y:l7):(b.plus x).plus y=b.plus (x.gb y):=by simp[Bl.plus,l7.gb]
theorem vE(b:Bl)(i:In):{ b with is:=b.is++[i] }=b.plus (gK i):=by simp[Bl.plus,gK]
def Fb(b:Bl)(n:Nat):Prop:=b.vars.length+n<1000000000/\b.is.length+n<1000000000/\b.aI.length+n<1000000000
theorem jA(b:Bl)(o:l7):(b.plus o).vars.length=b.vars.length+o.vs.length/\(b.plus o).is.length=b.is.length+o.is.length/\(b.plus o).aI.length=b.aI.length+o.ss.length:=by simp[Bl.plus]
theorem Fb.plus{b:Bl}{o:l7}{n m:Nat}(h:Fb b (m+n))(g:Lo o m):Fb (b.plus o) n:=by
 obtain⟨a1,a2,a3⟩:=jA b o
 obtain⟨h1,h2,h3⟩:=h
 obtain⟨g1,g2,g3⟩:=g
 exact⟨by omega,by omega,by omega⟩
theorem Fb.le{b:Bl}{n m:Nat}(h:Fb b m)(g:n<=m):Fb b n:=⟨by have:=h.1;omega,by have:=h.2.1;omega,by have:=h.2.2;omega⟩
theorem Mq(b b':Bl)(pre:aj)(h:b'.is=b.is):List.take (gm b pre).length (gm b' pre)=gm b' pre:=by
 apply List.take_of_length_le
 simp[gm,ye,h]
variable (wl aa:Nat)
def qg(b:Bl)(k:Int)(t:T3):Bl:=if k=8\/k=9 then { b with aI:=b.aI++[⟨b.gy.length,t⟩] } else b
theorem VQ(b:Bl)(k:Int)(t:T3):(qg b k t).is=b.is:=by unfold qg;split<;>rfl
theorem Z6(b:Bl)(pre:aj)(e:E)(l:List Int)(hb:b.aI.length<1000000000)(h7:e.k≠7)(h1:e.k=5\/e.k=9\/e.k=10\/e.k=12\/e.k=13->l.length=1)(h2:e.k=6\/14<=e.k->l.length=2)
  (hk:0<e.k/\e.k<25)(hr:e.k=4→-1000000000<e.cN/\e.cN<0) :
  (bg S).call 0 aa 81 [pB,.agg e.row,cD 1 (cM l)] (gm b pre)=some (.agg (fJ e.k e.n e.cN 0 b.aI.length l).row,gm (qg b e.k e.ty) pre):=by
 have hs:=λli=>VP li b pre e.ty hb
 have Sh:∀{l:List Int},l.length=1->l=[yU l]:=fun {l} h=>by
  match l,h with
  |[a],_=>rfl
 have aeF:∀{l:List Int},l.length=2->l=[yU l,IU l]:=fun {l} h=>by
  match l,h with
  |[a,b],_=>rfl
 have e1:aJ (aW e.az)=true:=bu
 have e2:(aW e.az).view=aW e.az:=bF
 have m1:aJ (cD 1 (cM l))=true:=dz
 have m2:(cD 1 (cM l)).view=aB 1 (cM l):=rfl
 have m3:aJ (aB 1 (cM l))=true:=bp
 have m4:(aB 1 (cM l)).view=aB 1 (cM l):=bq
 have m5:aZ (aB 1 (cM l))=cM l:=aT
 have m6:dc 1 (aB 1 (cM l))=true:=zI
 have m7:aZ (cD 1 (cM l))=cM l:=uf
 have m8:dc 1 (cD 1 (cM l))=true:=by rw[AP];simp[bU,cM]
 have yH:List.take (gm b pre).length (gm b pre)=gm b pre:=Mq b b pre rfl
 have NY:List.take (gm b pre).length (gm { b with aI:=b.aI++[⟨b.gy.length,e.ty⟩] } pre)=gm { b with aI:=b.aI++[⟨b.gy.length,e.ty⟩] } pre:=Mq b _ pre rfl
 have hn:ou []=.U:=rfl
 rw[E.aG]
 simp only[T3.cells]at hs
 refine ax (sf:=s81) rfl rfl rfl ?_
 generalize aW e.az=KV at *
 generalize cD 1 (cM l)=MV at *
 generalize aB 1 (cM l)=LV at *
 obtain⟨st,fh⟩:∃s,s=gm b pre:=⟨_,rfl⟩
 rw[<-fh]at hs yH NY ⊢
 simp[s81,e1,fQ.bz,AV.view,pB]
 by_cases c1:e.k=1
 ·simp[c1,fJ,qg,In.row,hn,af,yH,<-fh]
 by_cases c2:e.k=2
 ·simp[c2,fJ,qg,In.row,hn,af,yH,<-fh]
 by_cases c3:e.k=3
 ·simp[c3,fJ,qg,In.row,hn,af,yH,<-fh]
 by_cases c4:e.k=4
 ·have hw:IntKind.i64.wrap (-1-e.cN) = -1-e.cN:=by obtain⟨a,b⟩:=hr c4;rw[aY]<;>omega
  simp[c4,fJ,qg,In.row,hn,af,yH,<-fh,hw]
 by_cases c5:e.k=5
 ·obtain⟨a,rfl⟩:∃a,l=[a]:=⟨_,Sh (h1 (.inl c5))⟩
  simp[c5,fJ,qg,In.row,hn,af,yH,<-fh,aC,aA,m7,m8,cM,yU]
 by_cases c6:e.k=6
 ·obtain⟨a,b,rfl⟩:∃a b,l=[a,b]:=⟨_,_,aeF (h2 (.inl c6))⟩
  simp[c6,fJ,qg,In.row,hn,af,yH,<-fh,aC,aA,m2,m5,m6,cM,yU,IU]
 by_cases c8:e.k=8
 ·simp[c8,fJ,qg,In.row,hn,af,AV.view,hs,NY]
 by_cases c9:e.k=9
 ·obtain⟨a,rfl⟩:∃a,l=[a]:=⟨_,Sh (h1 (.inr (.inl c9)))⟩
  have Am:=λli=>hs li
  simp only[pB]at Am
  simp[c9,fJ,qg,In.row,hn,AV.view,yU]
  rw[sy]
  simp[dJ,iy,dm,bw,fQ.bz,Am,m7,m8,cM,af,AV.view]
  refine⟨_,_,⟨rfl,rfl⟩,?_⟩
  simp[eG.fU,AV.fU,AV.qh,AV.qL,AV.view,AV.cL,NY,m7,m8,cM,cut]
 by_cases Ab:e.k=10
 ·obtain⟨a,rfl⟩:∃a,l=[a]:=⟨_,Sh (h1 (by omega))⟩
  simp[Ab,fJ,qg,In.row,hn,af,yH,<-fh,m7,m8,cM,yU]
 by_cases Js:e.k=11
 ·simp[Js,fJ,qg,In.row,hn,af,yH,<-fh]
 by_cases Il:e.k=12
 ·obtain⟨a,rfl⟩:∃a,l=[a]:=⟨_,Sh (h1 (by omega))⟩
  simp[Il,fJ,qg,In.row,hn,af,yH,<-fh,aC,aA,m7,m8,cM,yU]
 by_cases L7:e.k=13
 ·obtain⟨a,rfl⟩:∃a,l=[a]:=⟨_,Sh (h1 (by omega))⟩
  simp[L7,fJ,qg,In.row,hn,af,yH,<-fh,aC,aA,m7,m8,cM,yU]
 ·obtain⟨a,b,rfl⟩:∃a b,l=[a,b]:=⟨_,_,aeF (h2 (by omega))⟩
  simp[c1,c2,c3,c4,c5,c6,h7,c8,c9,Ab,Js,Il,L7,fJ,qg,In.row,hn,af,yH,<-fh,aC,aA,m2,m5,m6,cM,yU,IU]
theorem xH(b:Bl)(pre:aj)(e:E)(l:List Int)(hb:Fb b 1) :
  (bg S).call 0 0 80 [pB,.agg e.row,cD 1 (cM l)] (gm b pre)=some (.int .i64 (if e.ty=T0 then -1 else b.vars.length),gm (b.plus (if e.ty=T0 then gK ⟨13,-1,0,e.cN,0,l⟩ else ⟨[e.ty],[⟨13,b.vars.length,0,e.cN,0,l⟩],[]⟩)) pre):=by
 obtain⟨hv,hi,hs⟩:=hb
 have e1:aJ (aW e.az)=true:=bu
 have e2:(aW e.az).view=aW e.az:=bF
 have m1:aJ (cD 1 (cM l))=true:=dz
 have m2:(cD 1 (cM l)).view=aB 1 (cM l):=rfl
 have m3:aJ (aB 1 (cM l))=true:=bp
 have m4:(aB 1 (cM l)).view=aB 1 (cM l):=bq
 have ha:ou l=aB 1 (cM l):=rfl
 rw[E.aG]
 by_cases ht:e.ty=T0
 ·have tt:=Sf b pre ⟨13,-1,0,e.cN,0,l⟩ _ (cC m1) (bE m1) rfl (by omega)
  have eb:e.ty.b=0/\e.ty.r=0/\e.ty.d=0:=by rw[ht];exact⟨rfl,rfl,rfl⟩
  rw[if_pos ht,if_pos ht,<-vE]
  refine ax (sf:=s80) rfl rfl rfl ?_
  generalize aW e.az=KV at *
  generalize cD 1 (cM l)=MV at *
  generalize aB 1 (cM l)=LV at *
  simp[s80,e1,m1,fQ.bz,AV.view,pB,eb,af,tt]
 ·have t1:=λli=>Gj li b pre e.ty (by omega)
  have tt:=Sf { b with vars:=b.vars++[e.ty] } pre ⟨13,b.vars.length,0,e.cN,0,l⟩ _ (cC m1) (bE m1) rfl (by show b.is.length<_;omega)
  simp only[T3.cells]at t1
  have eb:(!decide (e.ty.b=0)||(!decide (e.ty.r=0) || !decide (e.ty.d=0)))=true:=by
   rcases h:e.ty with⟨x,y,z⟩
   rw[h]at ht
   by_cases a:x=0<;>by_cases b:y=0<;>by_cases c:z=0<;>simp_all
  rw[if_neg ht,if_neg ht]
  have ep:b.plus ⟨[e.ty],[⟨13,b.vars.length,0,e.cN,0,l⟩],[]⟩={ b with vars:=b.vars++[e.ty],is:=b.is++[⟨13,b.vars.length,0,e.cN,0,l⟩] }:=by simp[Bl.plus]
  rw[ep]
  refine ax (sf:=s80) rfl rfl rfl ?_
  generalize aW e.az=KV at *
  generalize cD 1 (cM l)=MV at *
  generalize aB 1 (cM l)=LV at *
  simp[s80,e1,m1,fQ.bz,AV.view,pB,eb,af,t1,tt]
end yB
namespace yB
open Ax Go cz V7 kL lV wo
def PE(e:E):Prop:=∀(b:Bl)(pre:aj),LE e->Fb b (E.sz e)->(bg S).call 0 0 65 [pB,.agg e.row] (gm b pre)=some (.int .i64 (cE b.vars.length b.aI.length e).1,gm (b.plus (cE b.vars.length b.aI.length e).2) pre)
theorem I0(l:List E)(ih:∀e∈l,PE e)(b:Bl)(pre:aj)(hL:LL l)(hb:Fb b (E.eA l)) :
  (bg S).call 0 0 77 [pB,aW l] (gm b pre)=some (cD 1 (cM (tG b.vars.length b.aI.length l).1),gm (b.plus (tG b.vars.length b.aI.length l).2) pre):=by
 have hz:dc 11 (aW l)=true:=zE
 have dV:aJ (aW l)=true:=bu
 have iL:(aW l).view=aW l:=bF
 have fH:aZ (aW l)=E.rows l:=aT
 have hlen:=E.fF l
 have hlb:l.length<1000000000:=by have:=hb.1;omega
 rw[qZ]at hL
 have rU:(E.rows l).length=l.length:=by simp[iu]
 refine ax (sf:=s77) rfl rfl rfl ?_
 generalize aW l=lv at *
 simp[s77,dV,iL,fH,rU,pB]
 refine bM QU.eq_1 (λx:Nat×List Int×Bl×List AV=>⟨[(0,.val (.ptr 0 0 0 0)),(5,.val (cD 1 (cM x.2.1))),(8,.val lv),(9,.val (.int .i64 l.length)),(10,.val (.int .i64 x.1))],[x.2.2.2],gm x.2.2.1 pre⟩)
  (λx=>x.1<=l.length/\x.2.1.length=x.1/\Fb x.2.2.1 (E.eA (l.drop x.1))/\(x.2.1++(tG x.2.2.1.vars.length x.2.2.1.aI.length (l.drop x.1)).1,x.2.2.1.plus (tG x.2.2.1.vars.length x.2.2.1.aI.length (l.drop x.1)).2)=((tG b.vars.length b.aI.length l).1,b.plus (tG b.vars.length b.aI.length l).2)) (λx=>l.length-x.1) (0,[],b,[]) (by simp[cD,cM]) ⟨by simp,rfl,by simpa using hb,by simp⟩ ?_
 rintro⟨k,acc,b1,bx⟩ ⟨hk,aeG,f1,hp⟩ tu
 simp only at hk aeG f1 hp tu
 by_cases bn:k<l.length
 ·have tE:IntKind.i64.wrap ((k:Int)+1)=((k+1:Nat):Int):=by rw[aY]<;>omega
  have hm:=List.getElem_mem bn
  rw[List.drop_eq_getElem_cons bn]at f1 hp
  simp only[E.eA]at f1
  have dF:=ih _ hm b1 pre (hL _ hm) (f1.le (by omega))
  have GJ:=oC l[k] b1.vars.length b1.aI.length
  have f2:=f1.plus GJ
  rw[uC]at hp
  obtain⟨pv,_,ps⟩:=jA b1 (cE b1.vars.length b1.aI.length l[k]).2
  have e1:aJ (aW l[k].az)=true:=bu
  have e2:(aW l[k].az).view=aW l[k].az:=bF
  have gE:=CU bn
  have oo:k<(E.rows l).length:=by simpa [iu] using bn
  have tF:=wU bn oo
  have oM:vN 1 8 (cD 1 (cM acc)) [[.int .i64 (cE b1.vars.length b1.aI.length l[k]).1]]=some (cD 1 (cM (acc++[(cE b1.vars.length b1.aI.length l[k]).1]))):=by
   rw[fW (by rfl) (by simp[dQ];omega)];simp
  have eU:=λbx=>tu (k+1,acc++[(cE b1.vars.length b1.aI.length l[k]).1],b1.plus (cE b1.vars.length b1.aI.length l[k]).2,bx) ⟨by simp only;omega,by simp[aeG],f2,by
   simp only[pv,ps]
   rw[<-hp,uE]
   simp⟩ (by simp only;omega)
  simp only at eU
  rw[E.aG]at dF gE tF
  generalize cE b1.vars.length b1.aI.length l[k]=y at *
  generalize l[k]=x at *
  generalize aW x.az=xe at *
  have g0:aJ (cD 1 (cM acc))=true:=dz
  have g1:aJ (cD 1 (cM (acc++[y.1])))=true:=dz
  generalize cD 1 (cM (acc++[y.1]))=m1 at *
  generalize cD 1 (cM acc)=m0 at *
  simp only[pB]at dF
  simp[bn,tE,hz,iL,fH,tF,dF,e1,e2,oM,af,AV.view]
  exact eU _
 ·have jq:k=l.length:=by omega
  rw[jq,List.drop_length]at hp
  have h1:(tG b.vars.length b.aI.length l).1=acc:=by
   have:=congrArg Prod.fst hp
   simpa [tG] using this.symm
  have h2:b.plus (tG b.vars.length b.aI.length l).2=b1:=by
   have:=congrArg Prod.snd hp
   simp only[tG]at this
   rw[A6]at this
   exact this.symm
  rw[h1,h2]
  have g0:aJ (cD 1 (cM acc))=true:=dz
  generalize cD 1 (cM acc)=m0 at *
  simp[bn]
theorem Si(nv ns:Nat):∀l:List E,(tG nv ns l).1.length=l.length
 |[]=>rfl
 |e::l=>by rw[uC];simp[Si]
theorem VR(k n cN t s:Int)(l:List Int)(h7:k≠7):(fJ k n cN t s l).row=[.int .i64 (fJ k n cN 0 s l).op,.int .i64 t,.int .i64 (fJ k n cN 0 s l).b,.int .i64 (fJ k n cN 0 s l).c,.int .i64 (fJ k n cN 0 s l).n,ou (fJ k n cN 0 s l).args]/\(fJ k n cN 0 s l).a=0:=by
 by_cases c1:k=1\/k=2
 ·simp[fJ,c1,In.row]
 by_cases c3:k=3
 ·simp[fJ,c3,In.row]
 by_cases c4:k=4
 ·simp[fJ,c4,In.row]
 by_cases c5:k=5
 ·simp[fJ,c5,In.row]
 by_cases c6:k=6
 ·simp[fJ,c6,In.row]
 by_cases c8:k=8
 ·simp[fJ,c8,In.row]
 by_cases c9:k=9
 ·simp[fJ,c9,In.row]
 by_cases Ab:k=10
 ·simp[fJ,Ab,In.row]
 by_cases Js:k=11
 ·simp[fJ,Js,In.row]
 by_cases Il:k=12\/k=13
 ·rcases Il with rfl|rfl<;>simp[fJ,In.row]
 ·simp[fJ,c1,c3,c4,c5,c6,h7,c8,c9,Ab,Js,Il,In.row]
theorem ig(e:E):PE e:=by
 induction e using E.vp with
 |_ e ih=>
  intro b pre hL hb
  rw[R4]at hL
  obtain⟨hT,h1,h2,hk,hr,aeH⟩:=hL
  have hsk:=E.sK e
  have e1:aJ (aW e.az)=true:=bu
  have e2:(aW e.az).view=aW e.az:=bF
  by_cases q:e.k=4/\0<=e.cN
  ·rw[IX,if_pos q,A6,E.aG]
   obtain⟨st,fh⟩:∃s,s=gm b pre:=⟨_,rfl⟩
   rw[<-fh]
   refine ax (sf:=W3) rfl rfl rfl ?_
   generalize aW e.az=KV at *
   simp[W3,e1,fQ.bz,AV.view,q,pB]
  ·have oy:=I0 e.az ih b pre aeH (hb.le (by omega))
   have GJ:=KG e.az b.vars.length b.aI.length
   have f1:Fb (b.plus (tG b.vars.length b.aI.length e.az).2) 1:=Fb.plus (hb.le (by omega)) GJ
   have NL:=Si b.vars.length b.aI.length e.az
   obtain⟨pv,pi,ps⟩:=jA b (tG b.vars.length b.aI.length e.az).2
   rw[IX,if_neg q]
   unfold cK
   generalize tG b.vars.length b.aI.length e.az=x at *
   have q1:e.k=4->¬0<=e.cN:=λa b=>q ⟨a,b⟩
   have m1:aJ (cD 1 (cM x.1))=true:=dz
   by_cases c7:e.k=7
   ·have hc:=xH (b.plus x.2) pre e x.1 f1
    have ea:∀{α:Type} (p q:α),(if e.ty=T0 then p else q)=if e.ty=T0 then p else q:=λ_ _=>rfl
    rw[uE]at hc
    have er:(if e.ty=T0 then ((-1:Int),x.2.gb (gK ⟨13,-1,0,e.cN,0,x.1⟩)) else (((b.vars.length+x.2.vs.length:Nat):Int),x.2.gb ⟨[e.ty],[fJ e.k e.n e.cN ((b.vars.length+x.2.vs.length:Nat):Int) ((b.aI.length+x.2.ss.length:Nat):Int) x.1],if e.k=8\/e.k=9 then [e.ty] else []⟩))
      = ((if e.ty=T0 then (-1:Int) else ((b.plus x.2).vars.length:Int)),x.2.gb (if e.ty=T0 then gK ⟨13,-1,0,e.cN,0,x.1⟩ else ⟨[e.ty],[⟨13,((b.plus x.2).vars.length:Int),0,e.cN,0,x.1⟩],[]⟩)):=by
     split
     ·rfl
     ·rw[pv];simp[c7,fJ]
    rw[er]
    generalize (if e.ty=T0 then (-1:Int) else ((b.plus x.2).vars.length:Int))=rv at *
    generalize b.plus (x.2.gb (if e.ty=T0 then gK ⟨13,-1,0,e.cN,0,x.1⟩ else ⟨[e.ty],[⟨13,((b.plus x.2).vars.length:Int),0,e.cN,0,x.1⟩],[]⟩))=rb at *
    rw[E.aG]at hc ⊢
    refine ax (sf:=W3) rfl rfl rfl ?_
    generalize gm b pre=st at *
    generalize gm (b.plus x.2) pre=lM at *
    generalize cD 1 (cM x.1)=MV at *
    generalize aW e.az=KV at *
    simp only[pB]at oy hc
    rw[c7]at hc
    simp[W3,e1,e2,fQ.bz,AV.view,c7,pB,oy,hc]
   ·have hT':¬e.ty=T0:=λc=>c7 (hT c)
    rw[if_neg hT']
    have ht:=λli=>Gj li (b.plus x.2) pre e.ty (by have:=f1.1;omega)
    have hi:=λli=>Z6 li { b.plus x.2 with vars:=(b.plus x.2).vars++[e.ty] } pre e x.1 (by have:=f1.2.2;show (b.plus x.2).aI.length<_;omega) c7 (λh=>by rw[NL];exact h1 h) (λh=>by rw[NL];exact h2 h) hk (λh=>⟨hr h,by have:=q1 h;omega⟩)
    have ha:=ov (qg { b.plus x.2 with vars:=(b.plus x.2).vars++[e.ty] } e.k e.ty) pre (fJ e.k e.n e.cN ((b.vars.length+x.2.vs.length:Nat):Int) ((b.aI.length+x.2.ss.length:Nat):Int) x.1) (by rw[VQ];have:=f1.2.1;show (b.plus x.2).is.length<_;omega)
    have dV:{ b.plus x.2 with vars:=(b.plus x.2).vars++[e.ty] }.aI.length=b.aI.length+x.2.ss.length:=ps
    rw[dV]at hi
    obtain⟨r1,r2⟩:=VR e.k e.n e.cN ((b.vars.length+x.2.vs.length:Nat):Int) ((b.aI.length+x.2.ss.length:Nat):Int) x.1 c7
    rw[r1]at ha
    simp only[In.row,r2]at hi
    have yb:{ qg { b.plus x.2 with vars:=(b.plus x.2).vars++[e.ty] } e.k e.ty with is:=(qg { b.plus x.2 with vars:=(b.plus x.2).vars++[e.ty] } e.k e.ty).is++[fJ e.k e.n e.cN ((b.vars.length+x.2.vs.length:Nat):Int) ((b.aI.length+x.2.ss.length:Nat):Int) x.1] } =
      b.plus (x.2.gb ⟨[e.ty],[fJ e.k e.n e.cN ((b.vars.length+x.2.vs.length:Nat):Int) ((b.aI.length+x.2.ss.length:Nat):Int) x.1],if e.k=8\/e.k=9 then [e.ty] else []⟩):=by
     by_cases c:e.k=8\/e.k=9
     ·simp[qg,c,Bl.plus,l7.gb]
     ·simp[qg,c,Bl.plus,l7.gb]
    rw[yb]at ha
    rw[pv]at ht
    simp only
    generalize fJ e.k e.n e.cN 0 ((b.aI.length+x.2.ss.length:Nat):Int) x.1=J at *
    have ja:aJ (ou J.args)=true:=bp
    have jb:(ou J.args).view=ou J.args:=bq
    generalize (fJ e.k e.n e.cN ((b.vars.length+x.2.vs.length:Nat):Int) ((b.aI.length+x.2.ss.length:Nat):Int) x.1)=J2 at *
    generalize b.plus (x.2.gb ⟨[e.ty],[J2],if e.k=8\/e.k=9 then [e.ty] else []⟩)=rb at *
    rw[E.aG]at hi ⊢
    refine ax (sf:=W3) rfl rfl rfl ?_
    generalize gm (qg { b.plus x.2 with vars:=(b.plus x.2).vars++[e.ty] } e.k e.ty) pre=st3 at *
    generalize gm { b.plus x.2 with vars:=(b.plus x.2).vars++[e.ty] } pre=lZ at *
    generalize gm b pre=st at *
    generalize gm (b.plus x.2) pre=lM at *
    generalize gm rb pre=st4 at *
    generalize ((b.vars.length+x.2.vs.length:Nat):Int)=tv at *
    generalize cD 1 (cM x.1)=MV at *
    generalize aW e.az=KV at *
    generalize ou J.args=AV1 at *
    simp only[pB,T3.cells]at oy hi ht ha
    by_cases c4:e.k=4
    ·have q4:=q1 c4
     simp only[c4]at hi
     simp[W3,e1,e2,fQ.bz,AV.view,c4,q4,pB,oy,ht,hi,ha,ja,jb,af]
    ·simp[W3,e1,e2,fQ.bz,AV.view,c7,c4,pB,oy,ht,hi,ha,ja,jb,af]
end yB
namespace yB
open Ax Go cz V7 kL lV wo
theorem yg(b:Bl)(x:l7)(i:In):{ b.plus x with is:=(b.plus x).is++[i] }=b.plus (x.gb (gK i)):=by rw[vE,uE]
theorem Z7(b:Bl)(pre:aj)(s:Sm)(h1:s.es.length=1)(hL:LL s.es)(hr : -1000000000<s.cN)(hb:Fb b (E.eA s.es+1)) :
  (bg S).call 0 0 61 [pB,.agg s.row] (gm b pre)=some (.fK [],gm (b.plus ((cE b.vars.length b.aI.length (k7 s.es)).2.gb (gK (IW s.cN (cE b.vars.length b.aI.length (k7 s.es)).1)))) pre):=by
 obtain⟨e,he⟩:∃e,s.es=[e]:=⟨_,CV h1⟩
 have h0:k7 s.es=e:=by rw[he];rfl
 have eH:E.eA s.es=E.sz e:=by rw[he];simp[E.eA]
 rw[h0]
 have hx:=ig e b pre ((qZ _).1 hL e (by rw[he];exact List.mem_cons_self)) (hb.le (by omega))
 have GJ:=oC e b.vars.length b.aI.length
 have f1:=(hb.le (by omega:E.sz e+1<=_)).plus GJ
 generalize cE b.vars.length b.aI.length e=x at *
 have ha:=ov (b.plus x.2) pre (IW s.cN x.1) (by have:=f1.2.1;omega)
 rw[yg]at ha
 have e1:aJ (aW s.es)=true:=bu
 have e2:(aW s.es).view=aW s.es:=bF
 have e3:aZ (aW s.es)=[e.row]:=by show aZ (aB _ _)=_;rw[aT,he];rfl
 have e4:dc 11 (aW s.es)=true:=zE
 have b1:aJ (bD s.bd)=true:=bL
 have b2:(bD s.bd).view=bD s.bd:=bR
 have l1:aJ (bD s.el)=true:=bL
 have l2:(bD s.el).view=bD s.el:=bR
 have k1:aJ (aW e.az)=true:=bu
 have k2:(aW e.az).view=aW e.az:=bF
 have hn:ou []=.U:=rfl
 rw[E.aG]at hx e3
 rw[Sm.aG]
 refine ax (sf:=s61) rfl rfl rfl ?_
 generalize gm (b.plus (x.2.gb (gK (IW s.cN x.1)))) pre=lZ at *
 generalize gm b pre=st at *
 generalize gm (b.plus x.2) pre=lM at *
 generalize aW e.az=KV at *
 generalize aW s.es=EV at *
 generalize bD s.bd=DV at *
 generalize bD s.el=LV at *
 simp only[pB]at hx ha
 by_cases c:s.cN<0
 ·have hw:IntKind.i64.wrap (-1-s.cN) = -1-s.cN:=by rw[aY]<;>omega
  simp only[IW,if_pos c,In.row,hn]at ha
  simp[s61,e1,e2,e3,e4,b1,l1,k2,fQ.bz,AV.view,pB,hx,cut,c,hw,ha,af]
 ·simp only[IW,if_neg c,In.row,hn]at ha
  simp[s61,e1,e2,e3,e4,b1,l1,k2,fQ.bz,AV.view,pB,hx,cut,c,ha,af]
theorem JQ(b:Bl)(pre:aj)(s:Sm)(h1:s.es.length=2)(hL:LL s.es)(hk:(k7 s.es).k=5\/(k7 s.es).k=6)(hb:Fb b (E.eA s.es+1)) :
  (bg S).call 0 0 62 [pB,.agg s.row] (gm b pre)=some (.fK [],gm (b.plus (Ge b.vars.length b.aI.length (k7 s.es) (tG b.vars.length b.aI.length (k7 s.es).az) (λnv ns=>cE nv ns (N8 s.es)))) pre):=by
 obtain⟨e,f,he⟩:∃e f,s.es=[e,f]:=⟨_,_,R6 h1⟩
 have h0:k7 s.es=e:=by rw[he];rfl
 have h01:N8 s.es=f:=by rw[he];rfl
 have eH:E.eA s.es=E.sz e+E.sz f:=by rw[he];simp[E.eA]
 have hsk:=E.sK e
 rw[h0]at hk ⊢
 rw[h01]
 rw[qZ]at hL
 have hLe:=hL e (by rw[he];exact List.mem_cons_self)
 rw[R4]at hLe
 obtain⟨_,q1,q2,_,_,hLk⟩:=hLe
 have hx:=I0 e.az (λx _=>ig x) b pre hLk (hb.le (by omega))
 have GJ:=KG e.az b.vars.length b.aI.length
 have f1:=(hb.le (by omega:E.eA e.az+(E.sz f+1)<=_)).plus GJ
 have NL:=Si b.vars.length b.aI.length e.az
 unfold Ge
 obtain⟨pv,pi,ps⟩:=jA b (tG b.vars.length b.aI.length e.az).2
 generalize tG b.vars.length b.aI.length e.az=x at *
 have hy:=ig f (b.plus x.2) pre (hL f (by rw[he];simp)) (f1.le (by omega))
 have aeI:=oC f (b.plus x.2).vars.length (b.plus x.2).aI.length
 have f2:=f1.plus aeI
 rw[pv,ps]at hy aeI f2
 simp only
 generalize cE (b.vars.length+x.2.vs.length) (b.aI.length+x.2.ss.length) f=y at *
 have ha:=ov ((b.plus x.2).plus y.2) pre (R3 e.k e.cN y.1 x.1) (by have:=f2.2.1;omega)
 simp only[vE,uE,Mj]at ha hy
 rw[Mj]
 have e1:aJ (aW s.es)=true:=bu
 have e2:(aW s.es).view=aW s.es:=bF
 have e3:aZ (aW s.es)=[e.row,f.row]:=by show aZ (aB _ _)=_;rw[aT,he];rfl
 have e4:dc 11 (aW s.es)=true:=zE
 have b1:aJ (bD s.bd)=true:=bL
 have b2:(bD s.bd).view=bD s.bd:=bR
 have l1:aJ (bD s.el)=true:=bL
 have l2:(bD s.el).view=bD s.el:=bR
 have k1:aJ (aW e.az)=true:=bu
 have k2:(aW e.az).view=aW e.az:=bF
 have k3:aJ (aW f.az)=true:=bu
 have k4:(aW f.az).view=aW f.az:=bF
 have hn:ou []=.U:=rfl
 have m1:aJ (cD 1 (cM x.1))=true:=dz
 have m2:(cD 1 (cM x.1)).view=aB 1 (cM x.1):=rfl
 have m3:aJ (aB 1 (cM x.1))=true:=bp
 have m5:aZ (aB 1 (cM x.1))=cM x.1:=aT
 have m6:dc 1 (aB 1 (cM x.1))=true:=zI
 have m7:aZ (cD 1 (cM x.1))=cM x.1:=uf
 have m8:dc 1 (cD 1 (cM x.1))=true:=by rw[AP];simp[bU,cM]
 rw[E.aG f]at hy
 rw[E.aG e,E.aG f]at e3
 rw[Sm.aG]
 refine ax (sf:=s62) rfl rfl rfl ?_
 generalize gm (b.plus (x.2.gb (y.2.gb (gK (R3 e.k e.cN y.1 x.1))))) pre=st3 at *
 generalize gm (b.plus (x.2.gb y.2)) pre=lZ at *
 generalize gm b pre=st at *
 generalize gm (b.plus x.2) pre=lM at *
 generalize aW e.az=KV at *
 generalize aW f.az=FV at *
 generalize aW s.es=EV at *
 generalize bD s.bd=DV at *
 generalize bD s.el=LV at *
 generalize cD 1 (cM x.1)=MV at *
 generalize aB 1 (cM x.1)=NV at *
 simp only[pB]at hx hy ha
 by_cases c:e.k=5
 ·rw[ZW (by rw[NL];exact q1 (.inl c))]at m5 m7
  simp only[R3,if_pos c,In.row,hn]at ha
  simp[s62,e1,e2,e3,e4,b1,l1,k2,k4,m7,m8,fQ.bz,AV.view,pB,hx,hy,cut,c,ha,af,aC,aA]
 ·have c6:e.k=6:=by omega
  rw[ZY (by rw[NL];exact q2 (.inl c6))]at m5 m7
  simp only[R3,if_neg c,In.row,hn]at ha
  simp[s62,e1,e2,e3,e4,b1,l1,k2,k4,m2,m5,m6,fQ.bz,AV.view,pB,hx,hy,cut,c6,ha,af,aC,aA]
theorem EK(b:Bl)(pre:aj)(e:E)(hL:LE e)(hb:Fb b (E.sz e+1)) :
  (bg S).call 0 0 78 [pB,.agg e.row] (gm b pre)=some (.int .i64 ((b.is.length+(cE b.vars.length b.aI.length e).2.is.length:Nat):Int),gm (b.plus ((cE b.vars.length b.aI.length e).2.gb (gK ⟨17,(cE b.vars.length b.aI.length e).1,0,0,((b.is.length+(cE b.vars.length b.aI.length e).2.is.length+1:Nat):Int),[]⟩))) pre):=by
 have hx:=ig e b pre hL (hb.le (by omega))
 have f1:=hb.plus (oC e b.vars.length b.aI.length)
 obtain⟨pv,pi,ps⟩:=jA b (cE b.vars.length b.aI.length e).2
 generalize cE b.vars.length b.aI.length e=x at *
 have bn:(b.plus x.2).is.length<1000000000:=by have:=f1.2.1;omega
 have hnx:=λli=>yf li (b.plus x.2) pre bn
 have ha:=ov (b.plus x.2) pre ⟨17,x.1,0,0,((b.is.length+x.2.is.length+1:Nat):Int),[]⟩ bn
 rw[yg]at ha
 rw[pi]at hnx ha bn
 have hw:IntKind.i64.wrap (((b.is.length+x.2.is.length:Nat):Int)+1)=((b.is.length+x.2.is.length+1:Nat):Int):=by rw[aY]<;>omega
 have hn:ou []=.U:=rfl
 have k1:aJ (aW e.az)=true:=bu
 have k2:(aW e.az).view=aW e.az:=bF
 rw[E.aG]at hx ⊢
 refine ax (sf:=s78) rfl rfl rfl ?_
 simp only[In.row,hn,pB]at hx ha hnx
 generalize gm (b.plus (x.2.gb (gK ⟨17,x.1,0,0,((b.is.length+x.2.is.length+1:Nat):Int),[]⟩))) pre=lZ at *
 generalize ((b.is.length+x.2.is.length+1:Nat):Int)=n1 at *
 generalize ((b.is.length+x.2.is.length:Nat):Int)=n0 at *
 generalize gm b pre=st at *
 generalize gm (b.plus x.2) pre=lM at *
 generalize aW e.az=KV at *
 simp[s78,k1,k2,fQ.bz,AV.view,pB,hx,hnx,hw,ha,af]
end yB
namespace yB
open Ax Go cz V7 kL lV wo
def PS(s:Sm):Prop:=∀(b:Bl)(pre:aj),LS s->Fb b (2*Sm.sz s)->(bg S).call 0 0 46 [pB,.agg s.row] (gm b pre)=some (.fK [],gm (b.plus (cS b.vars.length b.is.length b.aI.length s)) pre)
theorem fB(l:List Sm)(ih:∀s∈l,PS s)(b:Bl)(pre:aj)(hL:LB l)(hb:Fb b (2*Sm.eA l)) :
  (bg S).call 0 0 27 [pB,bD l] (gm b pre)=some (.fK [],gm (b.plus (cB b.vars.length b.is.length b.aI.length l)) pre):=by
 have hz:dc 9 (bD l)=true:=zL (by simp[bU,gH,Sm.aG])
 have dV:aJ (bD l)=true:=bL
 have iL:(bD l).view=bD l:=bR
 have fH:aZ (bD l)=Sm.rows l:=aT
 have hlen:=Sm.fF l
 have hlb:l.length<1000000000:=by have:=hb.1;omega
 rw[Gh]at hL
 have rU:(Sm.rows l).length=l.length:=by simp[gH]
 refine ax (sf:=s27) rfl rfl rfl ?_
 generalize bD l=lv at *
 simp[s27,dV,iL,fH,rU,pB]
 refine bM Qx.eq_1 (λx:Nat×Bl×List AV=>⟨[(0,.val (.ptr 0 0 0 0)),(6,.val lv),(7,.val (.int .i64 l.length)),(8,.val (.int .i64 x.1))],[x.2.2],gm x.2.1 pre⟩)
  (λx=>x.1<=l.length/\Fb x.2.1 (2*Sm.eA (l.drop x.1))/\x.2.1.plus (cB x.2.1.vars.length x.2.1.is.length x.2.1.aI.length (l.drop x.1))=b.plus (cB b.vars.length b.is.length b.aI.length l)) (λx=>l.length-x.1) (0,b,[]) (by simp) ⟨by simp,by simpa using hb,by simp⟩ ?_
 rintro⟨k,b1,bx⟩ ⟨hk,f1,hp⟩ tu
 simp only at hk f1 hp tu
 by_cases bn:k<l.length
 ·have tE:IntKind.i64.wrap ((k:Int)+1)=((k+1:Nat):Int):=by rw[aY]<;>omega
  have hm:=List.getElem_mem bn
  rw[List.drop_eq_getElem_cons bn]at f1 hp
  simp only[Sm.eA]at f1
  have dF:=ih _ hm b1 pre (hL _ hm) (f1.le (by omega))
  have GJ:=Xk l[k] (hL _ hm) b1.vars.length b1.is.length b1.aI.length
  have f2:=Fb.plus (f1.le (by omega:2*Sm.sz l[k]+2*Sm.eA (l.drop (k+1))<=_)) GJ
  rw[yc]at hp
  unfold EI at hp
  obtain⟨pv,pi,ps⟩:=jA b1 (cS b1.vars.length b1.is.length b1.aI.length l[k])
  obtain⟨e1,d1,l1⟩:aJ (aW l[k].es)=true/\aJ (bD l[k].bd)=true/\aJ (bD l[k].el)=true:=⟨bu,bL,bL⟩
  have e2:(aW l[k].es).view=aW l[k].es:=bF
  have d2:(bD l[k].bd).view=bD l[k].bd:=bR
  have l2:(bD l[k].el).view=bD l[k].el:=bR
  have gE:=CX bn
  have oo:k<(Sm.rows l).length:=by omega
  have tF:=ya bn oo
  have eU:=λbx=>tu (k+1,b1.plus (cS b1.vars.length b1.is.length b1.aI.length l[k]),bx) ⟨by simp only;omega,f2,by
   simp only[pv,pi,ps]
   rw[<-hp,uE]⟩ (by simp only;omega)
  simp only at eU
  rw[Sm.aG]at dF gE tF
  generalize cS b1.vars.length b1.is.length b1.aI.length l[k]=y at *
  generalize l[k]=x at *
  generalize aW x.es=xe at *
  generalize bD x.bd=xb at *
  generalize bD x.el=xl at *
  simp only[pB]at dF
  simp[bn,tE,hz,iL,fH,tF,dF,e1,e2,d1,d2,l1,l2,af,AV.view]
  exact eU _
 ·have jq:k=l.length:=by omega
  rw[jq,List.drop_length,Gg,A6]at hp
  rw[<-hp]
  simp[bn]
theorem KJ(b:Bl)(pre:aj)(h:b.is≠[]):gm b pre=.rows 0 12 [[b.bG,bY 3 (b.Mp.map T3.cells),bY 7 (b.gy.map Cd.row),bY 4 (b.aI.map Sd.row),.int .i64 b.main,
  .int .i64 b.params,bY 3 (b.vars.map T3.cells),.bool b.bO,.int .i64 b.br.b,.int .i64 b.br.r,.int .i64 b.br.d,.mu (pre.length+1) (b.is.length-1)]]::(pre++[.rows (b.is.length-1) 6 (b.is.map In.row)]):=by
 simp[gm,Bl.cells,KI,ye,h]
end yB
namespace yB
open Ax Go cz V7 kL lV wo
def Bl.zh(b:Bl)(i:Nat)(a:In):Bl:={ b with is:=b.is.set i a }
structure Pt (b:Bl)(pre:aj)(st:aj)(H:List AV)(V:Nat)(R:List (List AV)):Prop where
 st:st=gm b pre
 eq:gm b pre=.rows 0 12 [H++[.mu (pre.length+1) V]]::(pre++[.rows V 6 R])
 len:R.length=b.is.length
 set:∀(i:Nat) (a:In),(.rows 0 12 [H++[.mu (pre.length+1) V]]::(pre++[.rows V 6 (R.set i (In.row a))]):aj)=gm (b.zh i a) pre
 get:∀(i:Nat) (a:In),b.is[i]?=some a->R[i]?=some a.row
theorem Sj(b:Bl)(pre:aj)(h:b.is≠[]):∃r0 r1 r2 r3 r4 r5 r6 r7 r8 r9 r10 V R,Pt b pre (gm b pre) [r0,r1,r2,r3,r4,r5,r6,r7,r8,r9,r10] V R:=by
 refine⟨_,_,_,_,_,_,_,_,_,_,_,b.is.length-1,b.is.map In.row,rfl,KJ b pre h,by simp,λi a=>?_,λi a h=>by simp[h]⟩
 rw[KJ (b.zh i a) pre (by intro c;apply h;have:=congrArg List.length c;simp[Bl.zh]at this;exact this)]
 simp[Bl.zh,List.map_set]
theorem Z8(b:Bl)(x:Int×l7)(y z:l7)(f g:Nat->Nat->Nat->l7)
  (hy:y=f (b.vars.length+x.2.vs.length) (b.is.length+x.2.is.length+1) (b.aI.length+x.2.ss.length))
  (hz:z=g (b.vars.length+x.2.vs.length+y.vs.length) (b.is.length+x.2.is.length+1+y.is.length+1) (b.aI.length+x.2.ss.length+y.ss.length)) :
  ((((((b.plus (x.2.gb (gK ⟨17,x.1,0,0,((b.is.length+x.2.is.length+1:Nat):Int),[]⟩))).plus y).plus (gK ⟨16,0,0,0,0,[]⟩)).zh (b.is.length+x.2.is.length)
   ⟨17,x.1,0,((b.is.length+x.2.is.length+1+y.is.length+1:Nat):Int),((b.is.length+x.2.is.length+1:Nat):Int),[]⟩).plus z).zh (b.is.length+x.2.is.length+1+y.is.length)
   ⟨16,0,0,0,((b.is.length+x.2.is.length+1+y.is.length+1+z.is.length:Nat):Int),[]⟩)=b.plus (ZU b.vars.length b.is.length b.aI.length x f g):=by
 unfold ZU
 dsimp only
 rw[<-hy,<-hz]
 have e1:1+y.is.length=y.is.length+1:=by omega
 simp[Bl.plus,Bl.zh,l7.gb,gK,Nat.add_assoc,e1]
theorem aab(b:Bl)(x:Int×l7)(y:l7)(f:Nat->Nat->Nat->l7)
  (hy:y=f (b.vars.length+x.2.vs.length) (b.is.length+x.2.is.length+1) (b.aI.length+x.2.ss.length)) :
  ((((b.plus (x.2.gb (gK ⟨17,x.1,0,0,((b.is.length+x.2.is.length+1:Nat):Int),[]⟩))).plus y).plus (gK ⟨16,0,0,0,(b.is.length:Int),[]⟩)).zh (b.is.length+x.2.is.length)
   ⟨17,x.1,0,((b.is.length+x.2.is.length+1+y.is.length+1:Nat):Int),((b.is.length+x.2.is.length+1:Nat):Int),[]⟩)=b.plus (ZV b.vars.length b.is.length b.aI.length x f):=by
 unfold ZV
 dsimp only
 rw[<-hy]
 simp[Bl.plus,Bl.zh,l7.gb,gK,Nat.add_assoc]
theorem Oa(s:Sm)(sZ:∀x∈s.bd,PS x)(tu:∀x∈s.el,PS x)(b:Bl)(pre:aj)(h1:s.es.length=1)(hL:LL s.es)(hB:LB s.bd)(hE:LB s.el)(hb:Fb b (2*Sm.sz s)) :
  (bg S).call 0 0 63 [pB,.agg s.row] (gm b pre)=some (.fK [],gm (b.plus (ZU b.vars.length b.is.length b.aI.length (cE b.vars.length b.aI.length (k7 s.es)) (λnv at_ ns=>cB nv at_ ns s.bd) (λnv at_ ns=>cB nv at_ ns s.el))) pre):=by
 obtain⟨e,he⟩:∃e,s.es=[e]:=⟨_,CV h1⟩
 have h0:k7 s.es=e:=by rw[he];rfl
 have eH:E.eA s.es=E.sz e:=by rw[he];simp[E.eA]
 have x9:=Sm.nV s
 rw[h0]
 have VS:=EK b pre e ((qZ _).1 hL e (by rw[he];exact List.mem_cons_self)) (hb.le (by omega))
 have GJ:=oC e b.vars.length b.aI.length
 obtain⟨y,hy⟩:∃y,y=cB (b.vars.length+(cE b.vars.length b.aI.length e).2.vs.length) (b.is.length+(cE b.vars.length b.aI.length e).2.is.length+1) (b.aI.length+(cE b.vars.length b.aI.length e).2.ss.length) s.bd:=⟨_,rfl⟩
 obtain⟨z,hz⟩:∃z,z=cB (b.vars.length+(cE b.vars.length b.aI.length e).2.vs.length+y.vs.length) (b.is.length+(cE b.vars.length b.aI.length e).2.is.length+1+y.is.length+1) (b.aI.length+(cE b.vars.length b.aI.length e).2.ss.length+y.ss.length) s.el:=⟨_,rfl⟩
 rw[<-Z8 b (cE b.vars.length b.aI.length e) y z _ _ hy hz]
 generalize cE b.vars.length b.aI.length e=x at *
 obtain⟨b1,Ot⟩:∃b1,b1=b.plus (x.2.gb (gK ⟨17,x.1,0,0,((b.is.length+x.2.is.length+1:Nat):Int),[]⟩)):=⟨_,rfl⟩
 have l1:b1.vars.length=b.vars.length+x.2.vs.length/\b1.is.length=b.is.length+x.2.is.length+1/\b1.aI.length=b.aI.length+x.2.ss.length:=by
  rw[Ot];obtain⟨p,q,r⟩:=jA b (x.2.gb (gK ⟨17,x.1,0,0,((b.is.length+x.2.is.length+1:Nat):Int),[]⟩));rw[p,q,r]
  simp[l7.gb,gK,Nat.add_assoc]
 have g1:b1.is[b.is.length+x.2.is.length]?=some ⟨17,x.1,0,0,((b.is.length+x.2.is.length+1:Nat):Int),[]⟩:=by
  rw[Ot];simp[Bl.plus,l7.gb,gK]
 rw[<-Ot]at VS ⊢
 have f1:Fb b1 (2*Sm.eA s.bd+(2*Sm.eA s.el+1)):=by
  obtain⟨p1,p2,p3⟩:=hb
  obtain⟨q1,q2,q3⟩:=GJ
  obtain⟨r1,r2,r3⟩:=l1
  exact⟨by omega,by omega,by omega⟩
 have CW:=fB s.bd sZ b1 pre hB (f1.le (by omega))
 have S8:=IZ hB (b.vars.length+x.2.vs.length) (b.is.length+x.2.is.length+1) (b.aI.length+x.2.ss.length)
 rw[l1.1,l1.2.1,l1.2.2,<-hy]at CW
 rw[<-hy]at S8
 have f2:=f1.plus S8
 obtain⟨m1,m2,m3⟩:=jA b1 y
 have g2:(b1.plus y).is[b.is.length+x.2.is.length]?=some ⟨17,x.1,0,0,((b.is.length+x.2.is.length+1:Nat):Int),[]⟩:=by
  show (b1.is++y.is)[_]?=_
  rw[List.getElem?_append_left (by omega)];exact g1
 have ha:=ov (b1.plus y) pre ⟨16,0,0,0,0,[]⟩ (by have:=f2.2.1;omega)
 rw[vE,m2,l1.2.1]at ha
 obtain⟨b3,I1⟩:∃b3,b3=(b1.plus y).plus (gK ⟨16,0,0,0,0,[]⟩):=⟨_,rfl⟩
 rw[<-I1]at ha ⊢
 have l3:b3.vars.length=b.vars.length+x.2.vs.length+y.vs.length/\b3.is.length=b.is.length+x.2.is.length+1+y.is.length+1/\b3.aI.length=b.aI.length+x.2.ss.length+y.ss.length:=by
  rw[I1];obtain⟨p,q,r⟩:=jA (b1.plus y) (gK ⟨16,0,0,0,0,[]⟩);rw[p,q,r,m1,m2,m3,l1.1,l1.2.1,l1.2.2]
  simp[gK]
 have g3:b3.is[b.is.length+x.2.is.length]?=some ⟨17,x.1,0,0,((b.is.length+x.2.is.length+1:Nat):Int),[]⟩:=by
  rw[I1];show ((b1.plus y).is++_)[_]?=_
  rw[List.getElem?_append_left (by omega)];exact g2
 have g3j:b3.is[b.is.length+x.2.is.length+1+y.is.length]?=some ⟨16,0,0,0,0,[]⟩:=by
  rw[I1];show ((b1.plus y).is++[_])[_]?=_
  rw[List.getElem?_append_right (by omega),m2,l1.2.1];simp
 have aac:b3.is.length<1000000000:=by have:=f2.2.1;omega
 have nx3:=λli=>yf li b3 pre aac
 rw[l3.2.1]at nx3
 obtain⟨r0,r1,r2,r3,r4,r5,r6,r7,r8,r9,r10,V,R,P3⟩:=Sj b3 pre (by intro c;rw[c]at l3;simp at l3)
 obtain⟨b4,hb4⟩:∃b4,b4=b3.zh (b.is.length+x.2.is.length) ⟨17,x.1,0,((b.is.length+x.2.is.length+1+y.is.length+1:Nat):Int),((b.is.length+x.2.is.length+1:Nat):Int),[]⟩:=⟨_,rfl⟩
 have s3:=P3.set (b.is.length+x.2.is.length) ⟨17,x.1,0,((b.is.length+x.2.is.length+1+y.is.length+1:Nat):Int),((b.is.length+x.2.is.length+1:Nat):Int),[]⟩
 rw[<-hb4]at s3 ⊢
 have l4:b4.vars.length=b3.vars.length/\b4.is.length=b3.is.length/\b4.aI.length=b3.aI.length:=by rw[hb4];simp[Bl.zh]
 have g4j:b4.is[b.is.length+x.2.is.length+1+y.is.length]?=some ⟨16,0,0,0,0,[]⟩:=by
  rw[hb4];show (b3.is.set _ _)[_]?=_
  rw[List.getElem?_set_ne (by omega)];exact g3j
 have f4:Fb b4 (2*Sm.eA s.el):=by
  obtain⟨p1,p2,p3⟩:=f2
  obtain⟨r1,r2,r3⟩:=l3
  obtain⟨q1,q2,q3⟩:=l4
  exact⟨by omega,by omega,by omega⟩
 have rN:=fB s.el tu b4 pre hE f4
 have Ll:=IZ hE (b.vars.length+x.2.vs.length+y.vs.length) (b.is.length+x.2.is.length+1+y.is.length+1) (b.aI.length+x.2.ss.length+y.ss.length)
 rw[l4.1,l4.2.1,l4.2.2,l3.1,l3.2.1,l3.2.2,<-hz]at rN
 rw[<-hz]at Ll
 obtain⟨n1,n2,n3⟩:=jA b4 z
 have ajS:(b4.plus z).is.length<1000000000:=by have:=f4.2.1;have:=Ll.2.1;omega
 have nx5:=λli=>yf li (b4.plus z) pre ajS
 rw[n2,l4.2.1,l3.2.1]at nx5
 have g5:(b4.plus z).is[b.is.length+x.2.is.length+1+y.is.length]?=some ⟨16,0,0,0,0,[]⟩:=by
  show (b4.is++z.is)[_]?=_
  rw[List.getElem?_append_left (by omega)];exact g4j
 obtain⟨t0,t1,t2,t3,t4,t5,t6,t7,t8,t9,t10,W,Q,P5⟩:=Sj (b4.plus z) pre (by intro c;have:=n2;rw[c,List.length_nil]at this;omega)
 have s5:=P5.set (b.is.length+x.2.is.length+1+y.is.length) ⟨16,0,0,0,((b.is.length+x.2.is.length+1+y.is.length+1+z.is.length:Nat):Int),[]⟩
 have q3:=P3.get _ _ g3
 have q5:=P5.get _ _ g5
 have w3:b.is.length+x.2.is.length<R.length:=by rw[P3.len];omega
 have w5:b.is.length+x.2.is.length+1+y.is.length<Q.length:=by rw[P5.len];omega
 have hn:ou []=.U:=rfl
 have e1:aJ (aW s.es)=true:=bu
 have e2:(aW s.es).view=aW s.es:=bF
 have e3:aZ (aW s.es)=[e.row]:=by show aZ (aB _ _)=_;rw[aT,he];rfl
 have e4:dc 11 (aW s.es)=true:=zE
 have d1:aJ (bD s.bd)=true:=bL
 have d2:(bD s.bd).view=bD s.bd:=bR
 have u1:aJ (bD s.el)=true:=bL
 have u2:(bD s.el).view=bD s.el:=bR
 have k1:aJ (aW e.az)=true:=bu
 have k2:(aW e.az).view=aW e.az:=bF
 simp only[In.row,hn]at ha s3 s5 q3 q5
 simp only[pB,P3.eq,P5.eq,List.cons_append,List.nil_append]at VS CW ha nx3 nx5 s3 rN s5
 rw[E.aG]at VS e3
 rw[Sm.aG]
 refine ax (sf:=s63) rfl rfl rfl ?_
 generalize gm ((b4.plus z).zh (b.is.length+x.2.is.length+1+y.is.length) ⟨16,0,0,0,((b.is.length+x.2.is.length+1+y.is.length+1+z.is.length:Nat):Int),[]⟩) pre=st6 at *
 generalize b.is.length+x.2.is.length+1+y.is.length+1+z.is.length=N5 at *
 generalize b.is.length+x.2.is.length+1+y.is.length+1=N4 at *
 generalize b.is.length+x.2.is.length+1+y.is.length=N3 at *
 generalize b.is.length+x.2.is.length+1=N2 at *
 generalize b.is.length+x.2.is.length=N1 at *
 generalize gm b pre=st at *
 generalize gm b1 pre=lM at *
 generalize gm (b1.plus y) pre=lZ at *
 generalize gm b4 pre=st4 at *
 generalize aW e.az=KV at *
 generalize aW s.es=EV at *
 generalize bD s.bd=DV at *
 generalize bD s.el=LV at *
 have v3:=λh:N1<R.length=>(List.getElem?_eq_some_iff.1 q3).2
 have v5:=λh:N3<Q.length=>(List.getElem?_eq_some_iff.1 q5).2
 simp[s63,e1,e2,e3,e4,d1,d2,u1,k2,fQ.bz,AV.view,pB,VS,CW,ha,cut,af]
 rw[sy]
 simp[dJ,iy,dm,bw,fQ.bz,nx3,w3,v3,bh,AV.ah,AV.an,cut,af,AV.view]
 refine⟨_,_,⟨rfl,rfl⟩,?_⟩
 simp[eG.fU,AV.fU,s3,rN,cut,AV.view,u2]
 rw[sy]
 simp[dJ,iy,dm,bw,fQ.bz,nx5,w5,v5,bh,AV.ah,AV.an,cut,af,AV.view]
 refine⟨_,_,⟨rfl,rfl⟩,?_⟩
 simp[eG.fU,AV.fU,s5,cut,AV.view]
end yB
namespace yB
open Ax Go cz V7 kL lV wo
theorem Ob(s:Sm)(sZ:∀x∈s.bd,PS x)(b:Bl)(pre:aj)(h1:s.es.length=1)(hL:LL s.es)(hB:LB s.bd)(hb:Fb b (2*Sm.sz s)) :
  (bg S).call 0 0 64 [pB,.agg s.row] (gm b pre)=some (.fK [],gm (b.plus (ZV b.vars.length b.is.length b.aI.length (cE b.vars.length b.aI.length (k7 s.es)) (λnv at_ ns=>cB nv at_ ns s.bd))) pre):=by
 obtain⟨e,he⟩:∃e,s.es=[e]:=⟨_,CV h1⟩
 have h0:k7 s.es=e:=by rw[he];rfl
 have eH:E.eA s.es=E.sz e:=by rw[he];simp[E.eA]
 have x9:=Sm.nV s
 rw[h0]
 have nx0:=λli=>yf li b pre (by have:=hb.2.1;omega)
 have VS:=EK b pre e ((qZ _).1 hL e (by rw[he];exact List.mem_cons_self)) (hb.le (by omega))
 have GJ:=oC e b.vars.length b.aI.length
 obtain⟨y,hy⟩:∃y,y=cB (b.vars.length+(cE b.vars.length b.aI.length e).2.vs.length) (b.is.length+(cE b.vars.length b.aI.length e).2.is.length+1) (b.aI.length+(cE b.vars.length b.aI.length e).2.ss.length) s.bd:=⟨_,rfl⟩
 rw[<-aab b (cE b.vars.length b.aI.length e) y _ hy]
 generalize cE b.vars.length b.aI.length e=x at *
 obtain⟨b1,Ot⟩:∃b1,b1=b.plus (x.2.gb (gK ⟨17,x.1,0,0,((b.is.length+x.2.is.length+1:Nat):Int),[]⟩)):=⟨_,rfl⟩
 have l1:b1.vars.length=b.vars.length+x.2.vs.length/\b1.is.length=b.is.length+x.2.is.length+1/\b1.aI.length=b.aI.length+x.2.ss.length:=by
  rw[Ot];obtain⟨p,q,r⟩:=jA b (x.2.gb (gK ⟨17,x.1,0,0,((b.is.length+x.2.is.length+1:Nat):Int),[]⟩));rw[p,q,r]
  simp[l7.gb,gK,Nat.add_assoc]
 have g1:b1.is[b.is.length+x.2.is.length]?=some ⟨17,x.1,0,0,((b.is.length+x.2.is.length+1:Nat):Int),[]⟩:=by
  rw[Ot];simp[Bl.plus,l7.gb,gK]
 rw[<-Ot]at VS ⊢
 have f1:Fb b1 (2*Sm.eA s.bd+1):=by
  obtain⟨p1,p2,p3⟩:=hb
  obtain⟨q1,q2,q3⟩:=GJ
  obtain⟨r1,r2,r3⟩:=l1
  exact⟨by omega,by omega,by omega⟩
 have CW:=fB s.bd sZ b1 pre hB (f1.le (by omega))
 have S8:=IZ hB (b.vars.length+x.2.vs.length) (b.is.length+x.2.is.length+1) (b.aI.length+x.2.ss.length)
 rw[l1.1,l1.2.1,l1.2.2,<-hy]at CW
 rw[<-hy]at S8
 have f2:=f1.plus S8
 obtain⟨m1,m2,m3⟩:=jA b1 y
 have g2:(b1.plus y).is[b.is.length+x.2.is.length]?=some ⟨17,x.1,0,0,((b.is.length+x.2.is.length+1:Nat):Int),[]⟩:=by
  show (b1.is++y.is)[_]?=_
  rw[List.getElem?_append_left (by omega)];exact g1
 have ha:=ov (b1.plus y) pre ⟨16,0,0,0,(b.is.length:Int),[]⟩ (by have:=f2.2.1;omega)
 rw[vE,m2,l1.2.1]at ha
 obtain⟨b3,I1⟩:∃b3,b3=(b1.plus y).plus (gK ⟨16,0,0,0,(b.is.length:Int),[]⟩):=⟨_,rfl⟩
 rw[<-I1]at ha ⊢
 have l3:b3.is.length=b.is.length+x.2.is.length+1+y.is.length+1:=by
  rw[I1];obtain⟨p,q,r⟩:=jA (b1.plus y) (gK ⟨16,0,0,0,(b.is.length:Int),[]⟩);rw[q,m2,l1.2.1]
  simp[gK]
 have g3:b3.is[b.is.length+x.2.is.length]?=some ⟨17,x.1,0,0,((b.is.length+x.2.is.length+1:Nat):Int),[]⟩:=by
  rw[I1];show ((b1.plus y).is++_)[_]?=_
  rw[List.getElem?_append_left (by omega)];exact g2
 have aac:b3.is.length<1000000000:=by have:=f2.2.1;omega
 have nx3:=λli=>yf li b3 pre aac
 rw[l3]at nx3
 obtain⟨r0,r1,r2,r3,r4,r5,r6,r7,r8,r9,r10,V,R,P3⟩:=Sj b3 pre (by intro c;rw[c]at l3;simp at l3)
 have s3:=P3.set (b.is.length+x.2.is.length) ⟨17,x.1,0,((b.is.length+x.2.is.length+1+y.is.length+1:Nat):Int),((b.is.length+x.2.is.length+1:Nat):Int),[]⟩
 have q3:=P3.get _ _ g3
 have w3:b.is.length+x.2.is.length<R.length:=by rw[P3.len];omega
 have hn:ou []=.U:=rfl
 have e1:aJ (aW s.es)=true:=bu
 have e2:(aW s.es).view=aW s.es:=bF
 have e3:aZ (aW s.es)=[e.row]:=by show aZ (aB _ _)=_;rw[aT,he];rfl
 have e4:dc 11 (aW s.es)=true:=zE
 have d1:aJ (bD s.bd)=true:=bL
 have d2:(bD s.bd).view=bD s.bd:=bR
 have u1:aJ (bD s.el)=true:=bL
 have u2:(bD s.el).view=bD s.el:=bR
 have k1:aJ (aW e.az)=true:=bu
 have k2:(aW e.az).view=aW e.az:=bF
 simp only[In.row,hn]at ha s3 q3
 simp only[pB,P3.eq,List.cons_append,List.nil_append]at nx0 VS CW ha nx3 s3
 rw[E.aG]at VS e3
 rw[Sm.aG]
 refine ax (sf:=s64) rfl rfl rfl ?_
 generalize gm (b3.zh (b.is.length+x.2.is.length) ⟨17,x.1,0,((b.is.length+x.2.is.length+1+y.is.length+1:Nat):Int),((b.is.length+x.2.is.length+1:Nat):Int),[]⟩) pre=st6 at *
 generalize b.is.length+x.2.is.length+1+y.is.length+1=N4 at *
 generalize b.is.length+x.2.is.length+1+y.is.length=N3 at *
 generalize b.is.length+x.2.is.length+1=N2 at *
 generalize b.is.length+x.2.is.length=N1 at *
 generalize b.is.length=N0 at *
 generalize gm b pre=st at *
 generalize gm b1 pre=lM at *
 generalize gm (b1.plus y) pre=lZ at *
 generalize aW e.az=KV at *
 generalize aW s.es=EV at *
 generalize bD s.bd=DV at *
 generalize bD s.el=LV at *
 have v3:=λh:N1<R.length=>(List.getElem?_eq_some_iff.1 q3).2
 simp[s64,e1,e2,e3,e4,d1,d2,u1,k2,fQ.bz,AV.view,pB,nx0,VS,CW,ha,cut,af]
 rw[sy]
 simp[dJ,iy,dm,bw,fQ.bz,nx3,w3,v3,bh,AV.ah,AV.an,cut,af,AV.view]
 refine⟨_,_,⟨rfl,rfl⟩,?_⟩
 simp[eG.fU,AV.fU,s3,cut,AV.view]
theorem sP(s:Sm):PS s:=by
 induction s using Sm.vp with
 |_ s sZ tu=>
  intro b pre hL hb
  rw[IY]at hL
  obtain⟨h1,h2,h3,h4,h5,h6⟩:=hL
  have x9:=Sm.nV s
  have hn:ou []=.U:=rfl
  have e1:aJ (aW s.es)=true:=bu
  have e2:(aW s.es).view=aW s.es:=bF
  have e4:dc 11 (aW s.es)=true:=zE
  have d1:aJ (bD s.bd)=true:=bL
  have d2:(bD s.bd).view=bD s.bd:=bR
  have u1:aJ (bD s.el)=true:=bL
  have u2:(bD s.el).view=bD s.el:=bR
  rw[Mi]
  by_cases c:s.k=2\/s.k=3
  ·rw[if_pos c]
   have hx:=Z7 b pre s (h2 (by omega)) h1 (h4 c) (hb.le (by omega))
   generalize gm (b.plus ((cE b.vars.length b.aI.length (k7 s.es)).2.gb (gK (IW s.cN (cE b.vars.length b.aI.length (k7 s.es)).1)))) pre=lM at *
   rw[Sm.aG]at hx ⊢
   refine ax (sf:=FB) rfl rfl rfl ?_
   generalize gm b pre=st at *
   generalize aW s.es=EV at *
   generalize bD s.bd=DV at *
   generalize bD s.el=LV at *
   simp only[pB]at hx
   rcases c with c|c<;>
   ·rw[c]at hx
    simp[FB,e1,e2,d1,d2,u1,u2,fQ.bz,AV.view,pB,c,hx,cut]
  rw[if_neg c]
  by_cases c4:s.k=4
  ·rw[if_pos c4]
   have hx:=JQ b pre s (h3 c4).1 h1 (h3 c4).2 (hb.le (by omega))
   generalize gm (b.plus (Ge b.vars.length b.aI.length (k7 s.es) (tG b.vars.length b.aI.length (k7 s.es).az) (λnv ns=>cE nv ns (N8 s.es)))) pre=lM at *
   rw[Sm.aG]at hx ⊢
   refine ax (sf:=FB) rfl rfl rfl ?_
   generalize gm b pre=st at *
   generalize aW s.es=EV at *
   generalize bD s.bd=DV at *
   generalize bD s.el=LV at *
   simp only[pB]at hx
   rw[c4]at hx
   simp[FB,e1,e2,d1,d2,u1,u2,fQ.bz,AV.view,pB,c4,hx,cut]
  rw[if_neg c4]
  by_cases c5:s.k=5
  ·rw[if_pos c5]
   have hx:=Oa s sZ tu b pre (h2 (by omega)) h1 h5 h6 hb
   generalize gm (b.plus (ZU b.vars.length b.is.length b.aI.length (cE b.vars.length b.aI.length (k7 s.es)) (λnv at_ ns=>cB nv at_ ns s.bd) (λnv at_ ns=>cB nv at_ ns s.el))) pre=lM at *
   rw[Sm.aG]at hx ⊢
   refine ax (sf:=FB) rfl rfl rfl ?_
   generalize gm b pre=st at *
   generalize aW s.es=EV at *
   generalize bD s.bd=DV at *
   generalize bD s.el=LV at *
   simp only[pB]at hx
   rw[c5]at hx
   simp[FB,e1,e2,d1,d2,u1,u2,fQ.bz,AV.view,pB,c5,hx,cut]
  rw[if_neg c5]
  by_cases c6:s.k=6
  ·rw[if_pos c6]
   have hx:=Ob s sZ b pre (h2 (by omega)) h1 h5 hb
   generalize gm (b.plus (ZV b.vars.length b.is.length b.aI.length (cE b.vars.length b.aI.length (k7 s.es)) (λnv at_ ns=>cB nv at_ ns s.bd))) pre=lM at *
   rw[Sm.aG]at hx ⊢
   refine ax (sf:=FB) rfl rfl rfl ?_
   generalize gm b pre=st at *
   generalize aW s.es=EV at *
   generalize bD s.bd=DV at *
   generalize bD s.el=LV at *
   simp only[pB]at hx
   rw[c6]at hx
   simp[FB,e1,e2,d1,d2,u1,u2,fQ.bz,AV.view,pB,c6,hx,cut]
  rw[if_neg c6]
  by_cases c7:s.k=7
  ·rw[if_pos c7]
   cases qe:s.es with
   |nil=>
    have ha:=ov b pre ⟨18,-1,0,0,0,[]⟩ (by have:=hb.2.1;omega)
    rw[vE]at ha
    simp only[In.row,hn]at ha
    have e3:aZ (aW s.es)=[]:=by show aZ (aB _ _)=_;rw[aT,qe];rfl
    dsimp only
    generalize gm (b.plus (gK ⟨18,-1,0,0,0,[]⟩)) pre=lM at *
    rw[Sm.aG]
    refine ax (sf:=FB) rfl rfl rfl ?_
    generalize gm b pre=st at *
    generalize aW s.es=EV at *
    generalize bD s.bd=DV at *
    generalize bD s.el=LV at *
    simp only[pB]at ha
    simp[FB,e1,e2,e3,d1,u1,fQ.bz,AV.view,pB,c7,ha,cut,af]
   |cons e l=>
    have eH:E.eA s.es=E.sz e+E.eA l:=by rw[qe];rfl
    have hx:=ig e b pre ((qZ _).1 h1 e (by rw[qe];exact List.mem_cons_self)) (hb.le (by omega))
    have f1:=Fb.plus (hb.le (by omega:E.sz e+1<=_)) (oC e b.vars.length b.aI.length)
    dsimp only
    generalize cE b.vars.length b.aI.length e=x at *
    have ha:=ov (b.plus x.2) pre ⟨18,x.1,0,0,0,[]⟩ (by have:=f1.2.1;omega)
    rw[yg]at ha
    simp only[In.row,hn]at ha
    have e3:aZ (aW s.es)=e.row::E.rows l:=by show aZ (aB _ _)=_;rw[aT,qe];rfl
    have k1:aJ (aW e.az)=true:=bu
    have k2:(aW e.az).view=aW e.az:=bF
    generalize gm (b.plus (x.2.gb (gK ⟨18,x.1,0,0,0,[]⟩))) pre=lZ at *
    rw[E.aG]at hx e3
    rw[Sm.aG]
    refine ax (sf:=FB) rfl rfl rfl ?_
    generalize gm b pre=st at *
    generalize gm (b.plus x.2) pre=lM at *
    generalize aW e.az=KV at *
    generalize aW s.es=EV at *
    generalize bD s.bd=DV at *
    generalize bD s.el=LV at *
    simp only[pB]at ha hx
    simp[FB,e1,e2,e3,e4,d1,u1,k2,fQ.bz,AV.view,pB,c7,hx,ha,cut,af]
  rw[if_neg c7]
  have one:(s.k=8\/s.k=9)->∃e,s.es=[e]/\k7 s.es=e/\E.eA s.es=E.sz e/\aZ (aW s.es)=[e.row]/\LE e:=λh=>by
   obtain⟨e,he⟩:∃e,s.es=[e]:=⟨_,CV (h2 (by omega))⟩
   exact⟨e,he,by rw[he];rfl,by rw[he];simp[E.eA],by show aZ (aB _ _)=_;rw[aT,he];rfl,(qZ _).1 h1 e (by rw[he];exact List.mem_cons_self)⟩
  by_cases c8:s.k=8
  ·rw[if_pos c8]
   obtain⟨e,qe,h0,eH,e3,hLe⟩:=one (.inl c8)
   rw[h0]
   have hx:=ig e b pre hLe (hb.le (by omega))
   have f1:=Fb.plus (hb.le (by omega:E.sz e+1<=_)) (oC e b.vars.length b.aI.length)
   generalize cE b.vars.length b.aI.length e=x at *
   have ha:=ov (b.plus x.2) pre ⟨15,x.1,0,0,0,[]⟩ (by have:=f1.2.1;omega)
   rw[yg]at ha
   simp only[In.row,hn]at ha
   have k1:aJ (aW e.az)=true:=bu
   have k2:(aW e.az).view=aW e.az:=bF
   generalize gm (b.plus (x.2.gb (gK ⟨15,x.1,0,0,0,[]⟩))) pre=lZ at *
   rw[E.aG]at hx e3
   rw[Sm.aG]
   refine ax (sf:=FB) rfl rfl rfl ?_
   generalize gm b pre=st at *
   generalize gm (b.plus x.2) pre=lM at *
   generalize aW e.az=KV at *
   generalize aW s.es=EV at *
   generalize bD s.bd=DV at *
   generalize bD s.el=LV at *
   simp only[pB]at ha hx
   simp[FB,e1,e2,e3,e4,d1,u1,k2,fQ.bz,AV.view,pB,c8,hx,ha,cut,af]
  rw[if_neg c8]
  by_cases c9:s.k=9
  ·rw[if_pos c9]
   obtain⟨e,qe,h0,eH,e3,hLe⟩:=one (.inr c9)
   rw[h0]
   have hx:=ig e b pre hLe (hb.le (by omega))
   generalize cE b.vars.length b.aI.length e=x at *
   have k1:aJ (aW e.az)=true:=bu
   have k2:(aW e.az).view=aW e.az:=bF
   rw[E.aG]at hx e3
   rw[Sm.aG]
   refine ax (sf:=FB) rfl rfl rfl ?_
   generalize gm b pre=st at *
   generalize gm (b.plus x.2) pre=lM at *
   generalize aW e.az=KV at *
   generalize aW s.es=EV at *
   generalize bD s.bd=DV at *
   generalize bD s.el=LV at *
   simp only[pB]at hx
   simp[FB,e1,e2,e3,e4,d1,u1,k2,fQ.bz,AV.view,pB,c9,hx,cut]
  rw[if_neg c9,A6,Sm.aG]
  refine ax (sf:=FB) rfl rfl rfl ?_
  generalize gm b pre=st at *
  generalize aW s.es=EV at *
  generalize bD s.bd=DV at *
  generalize bD s.el=LV at *
  have c2:¬s.k=2:=λh=>c (.inl h)
  have c3:¬s.k=3:=λh=>c (.inr h)
  simp[FB,e1,d1,u1,fQ.bz,AV.view,pB,c2,c3,c4,c5,c6,c7,c8,c9,cut]
end yB
