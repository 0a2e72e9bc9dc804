/-
  A builder in memory: its object, what those that are done have left, its list of instructions.
-/
import Derived.Test.YtachcambnjecnaaCode2
import Derived.Test.YtachcambnjecnaaA6
import Derived.Test.YtachcambnjecnaaF

set_option maxRecDepth 100000
set_option maxHeartbeats 4000000
namespace xD
open Ax Go cp V7 j4 k8 uF
def bQ (sz:Nat)(l:List (List AV)):AV:=if l=[] then .U else .own sz l
structure Bl where
 bw:AV
 K4:List T3
 fZ:List Cd
 sites:List Sd
 main:Int
 params:Int
 vars:List T3
 has:Bool
 res:T3
 is:List In
def JK (l:List In)(k:Nat):AV:=if l=[] then .U else .mu k (l.length-1)
def Bl.cells (b:Bl)(k:Nat):List AV:=[b.bw,bQ 3 (b.K4.map T3.cells),bQ 7 (b.fZ.map Cd.row),bQ 4 (b.sites.map Sd.row),.int .i64 b.main,
 .int .i64 b.params,bQ 3 (b.vars.map T3.cells),.bool b.has,.int .i64 b.res.b,.int .i64 b.res.r,.int .i64 b.res.d,JK b.is k]
def w7 (l:List In):aj:=if l=[] then [] else [.rows (l.length-1) 6 (l.map In.row)]
def fO (b:Bl)(pre:aj):aj:=.rows 0 12 [b.cells (pre.length+1)]::(pre++w7 b.is)
abbrev pB:AV:=.ptr 0 0 0 0
theorem Ca (l:List Int):(nH l).an=true:=by cases l<;>simp[nH,aA,b8,ints,AV.an]
theorem Cb (l:List Int):(nH l).cv=true:=by cases l<;>simp[nH,aA,b8,ints,AV.cv]
theorem Cc (l:List Int):(nH l).view=nH l:=by cases l<;>simp[nH,aA,b8,ints,AV.view]
variable (wl aa:Nat)
theorem QS (b:Bl)(pre:aj)(i:In)(v:AV)(_hp:v.an=true)(hc:v.cv=true)(hv:v.view=nH i.args)(hb:b.is.length<1000000000) :
  (aW S).call 0 0 30 [pB,.agg [.int .i64 i.op,.int .i64 i.a,.int .i64 i.b,.int .i64 i.c,.int .i64 i.n,v]] (fO b pre)=some (.int .i64 b.is.length,fO { b with is:=b.is++[i] } pre):=by
 refine ax (sf:=s30) rfl rfl rfl ?_
 have Zj:=Ca i.args
 have QA:=Cb i.args
 have hv2:=Cc i.args
 have hr:(b.is.length+1)*64<=room:=by unfold room;omega
 have NF:64<=room:=by decide
 have hw:IntKind.i64.wrap ((b.is.length:Nat):Int)=b.is.length:=by rw[wrap64]<;>omega
 have h00:IntKind.i64.wrap 0=0:=by decide
 by_cases e:b.is=[]
 ·simp[s30,fO,pB,Bl.cells,JK,w7,e,In.row,bf,AV.ah,AV.an,af,aB,az,cut,hc,hv,Zj,QA,hv2,fits,NF,h00]
 ·simp[s30,fO,pB,Bl.cells,JK,w7,e,In.row,bf,AV.ah,AV.an,af,aB,az,cut,hc,hv,Zj,QA,hv2,fits,hr,hw]
  have:=List.length_pos_iff.2 e
  omega
theorem nI (b:Bl)(pre:aj)(i:In)(hb:b.is.length<1000000000) :
  (aW S).call 0 0 30 [pB,.agg i.row] (fO b pre)=some (.int .i64 b.is.length,fO { b with is:=b.is++[i] } pre):=
 QS b pre i (nH i.args) (Ca _) (Cb _) (Cc _) hb
theorem Fe (b:Bl)(pre:aj)(t:T3)(hb:b.vars.length<1000000000) :
  (aW S).call 0 aa 29 [pB,.agg t.cells] (fO b pre)=some (.int .i64 b.vars.length,fO { b with vars:=b.vars++[t] } pre):=by
 refine ax (sf:=s29) rfl rfl rfl ?_
 have hr:(b.vars.length+1)*24<=room:=by unfold room;omega
 have NF:24<=room:=by decide
 have hw:IntKind.i64.wrap ((b.vars.length:Nat):Int)=b.vars.length:=by rw[wrap64]<;>omega
 have h00:IntKind.i64.wrap 0=0:=by decide
 have CL:List.take (pre.length+(w7 b.is).length) (pre++w7 b.is)=pre++w7 b.is:=List.take_of_length_le (by simp)
 by_cases e:b.vars=[]
 ·have h0:bQ 3 (b.vars.map T3.cells)=.U:=by simp[bQ,e]
  have h1:bQ 3 ((b.vars++[t]).map T3.cells)=.own 3 [t.cells]:=by simp[bQ,e]
  simp only[fO,pB,Bl.cells,h0,h1]
  simp[s29,e,T3.cells,bf,AV.ah,AV.an,AV.hJ,aI,fF,dz,bU,af,aB,az,cut,CL,fits,NF,h00]
 ·have h0:bQ 3 (b.vars.map T3.cells)=.own 3 (b.vars.map T3.cells):=by simp[bQ,e]
  have h1:bQ 3 ((b.vars++[t]).map T3.cells)=.own 3 (b.vars.map T3.cells++[t.cells]):=by simp[bQ]
  simp only[fO,pB,Bl.cells,h0,h1]
  simp[s29,T3.cells,bf,AV.ah,AV.an,AV.hJ,aI,fF,dz,bU,af,aB,az,cut,CL,fits,hr,hw]
theorem w8 (b:Bl)(pre:aj)(_hb:b.is.length<1000000000) :
  (aW S).call 0 aa 79 [pB] (fO b pre)=some (.int .i64 b.is.length,fO b pre):=by
 refine ax (sf:=s79) rfl rfl rfl ?_
 have CL:∀y:fh,List.take (pre.length+1) (pre++[y])=pre++[y]:=λy=>List.take_of_length_le (by simp)
 by_cases e:b.is=[]
 ·simp[s79,fO,pB,Bl.cells,JK,w7,e,cut]
 ·simp[s79,fO,pB,Bl.cells,JK,w7,e,cut,CL]
end xD
namespace xD
open Ax Go cp V7 j4 k8 uF
mutual
theorem yh:∀a:AV,a.same a=true
 |.undef|.gone|.dY|.U|.eX|.gD|.jj|.emp=>rfl
 |.bool b=>by simp[AV.same]
 |.int k n=>by simp[AV.same]
 |.str l=>by simp[AV.same]
 |.agg l=>by simp only[AV.same];exact mI l
 |.fm l=>by simp only[AV.same];exact mI l
 |.cN s r=>by simp only[AV.same,beq_self_eq_true,Bool.true_and];exact jm r
 |.own s r=>by simp only[AV.same,beq_self_eq_true,Bool.true_and];exact jm r
 |.raw s r=>by simp only[AV.same,beq_self_eq_true,Bool.true_and];exact jm r
 |.mu i v=>by simp[AV.same]
 |.ptr a b c d=>by simp[AV.same]
 |.nJ s a i k=>by simp only[AV.same,beq_self_eq_true,Bool.true_and,Bool.and_true];exact jm a
 |.map i=>by simp[AV.same]
 |.fn f a b=>by simp only[AV.same,beq_self_eq_true,Bool.true_and,Bool.and_eq_true];exact⟨mI a,mI b⟩
theorem mI:∀l:List AV,AV.pq l l=true
 |[]=>rfl
 |a::l=>by simp only[AV.pq,yh a,mI l,Bool.and_self]
theorem jm:∀l:List (List AV),AV.pZ l l=true
 |[]=>rfl
 |a::l=>by simp only[AV.pZ,mI a,jm l,Bool.and_self]
end
variable (wl aa:Nat)
theorem Ur (b:Bl)(pre:aj)(t:T3)(hb:b.sites.length<1000000000) :
  (aW S).call 0 aa 92 [pB,.agg t.cells] (fO b pre)=some (.int .i64 b.sites.length,fO { b with sites:=b.sites++[⟨b.fZ.length,t⟩] } pre):=by
 refine ax (sf:=s92) rfl rfl rfl ?_
 have hr:(b.sites.length+1)*32<=room:=by unfold room;omega
 have NF:32<=room:=by decide
 have hw:IntKind.i64.wrap ((b.sites.length:Nat):Int)=b.sites.length:=by rw[wrap64]<;>omega
 have h00:IntKind.i64.wrap 0=0:=by decide
 have CL:List.take (pre.length+(w7 b.is).length) (pre++w7 b.is)=pre++w7 b.is:=List.take_of_length_le (by simp)
 have hc:b.fZ=[]/\bQ 7 (b.fZ.map Cd.row)=.U\/b.fZ≠[]/\bQ 7 (b.fZ.map Cd.row)=.own 7 (b.fZ.map Cd.row):=by
  by_cases e:b.fZ=[]
  ·exact .inl ⟨e,by simp[bQ,e]⟩
  ·exact .inr ⟨e,by simp[bQ,e]⟩
 have hs:b.sites=[]/\bQ 4 (b.sites.map Sd.row)=.U\/b.sites≠[]/\bQ 4 (b.sites.map Sd.row)=.own 4 (b.sites.map Sd.row):=by
  by_cases e:b.sites=[]
  ·exact .inl ⟨e,by simp[bQ,e]⟩
  ·exact .inr ⟨e,by simp[bQ,e]⟩
 rcases hs with⟨e,h0⟩|⟨e,h0⟩<;>rcases hc with⟨e2,hc⟩|⟨e2,hc⟩<;>
 (simp only[fO,pB,Bl.cells,h0,hc]
  simp[s92,e,e2,T3.cells,Sd.row,aI]
  rw[q8]
  simp[dm,gG,cT,bp,fA.bq,bf,AV.ah,AV.an,AV.hJ,aI,fF,dz,bU,af,cut,fits,hr,NF]
  refine⟨_,_,⟨rfl,rfl⟩,?_⟩
  simp[bQ,jm,bU,AV.cy,AV.view,dK.same,AV.same,cut,AV.an,aI,fF,CL,hw,h00])
end xD
namespace xD
open Ax Go cp V7 j4 k8 uF
def Bl.plus (b:Bl)(o:Out):Bl:={ b with vars:=b.vars++o.vs,is:=b.is++o.is,sites:=b.sites++o.ss.map (λt=>⟨b.fZ.length,t⟩) }
theorem Ac (b:Bl):b.plus O0=b:=by simp[Bl.plus,O0]
theorem tu (b:Bl)(x y:Out):(b.plus x).plus y=b.plus (x.app y):=by simp[Bl.plus,Out.app]
theorem ur (b:Bl)(i:In):{ b with is:=b.is++[i] }=b.plus (fY i):=by simp[Bl.plus,fY]
def Fb (b:Bl)(n:Nat):Prop:=b.vars.length+n<1000000000/\b.is.length+n<1000000000/\b.sites.length+n<1000000000
theorem jd (b:Bl)(o:Out):(b.plus o).vars.length=b.vars.length+o.vs.length/\(b.plus o).is.length=b.is.length+o.is.length/\(b.plus o).sites.length=b.sites.length+o.ss.length:=by simp[Bl.plus]
theorem Fb.plus {b:Bl}{o:Out}{n m:Nat}(h:Fb b (m+n))(g:Lo o m):Fb (b.plus o) n:=by
 obtain⟨a1,a2,a3⟩:=jd b o
 obtain⟨h1,h2,h3⟩:=h
 obtain⟨g1,g2,g3⟩:=g
 exact⟨by omega,by omega,by omega⟩
theorem Fb.le {b:Bl}{n m:Nat}(h:Fb b m)(g:n<=m):Fb b n:=⟨by have:=h.1;omega,by have:=h.2.1;omega,by have:=h.2.2;omega⟩
theorem K5 (b b':Bl)(pre:aj)(h:b'.is=b.is):List.take (fO b pre).length (fO b' pre)=fO b' pre:=by
 apply List.take_of_length_le
 simp[fO,w7,h]
variable (wl aa:Nat)
def o9 (b:Bl)(k:Int)(t:T3):Bl:=if k=8\/k=9 then { b with sites:=b.sites++[⟨b.fZ.length,t⟩] } else b
theorem Us (b:Bl)(k:Int)(t:T3):(o9 b k t).is=b.is:=by unfold o9;split<;>rfl
theorem Yx (b:Bl)(pre:aj)(e:E)(l:List Int)(hb:b.sites.length<1000000000)(h7:e.k≠7)(h1:e.k=5\/e.k=9\/e.k=10\/e.k=12\/e.k=13->l.length=1)(h2:e.k=6\/14<=e.k->l.length=2)
  (hk:0<e.k/\e.k<25) (hr:e.k=4→-1000000000<e.ref/\e.ref<0) :
  (aW S).call 0 aa 81 [pB,.agg e.row,b8 1 (ints l)] (fO b pre)=some (.agg (ff e.k e.n e.ref 0 b.sites.length l).row,fO (o9 b e.k e.ty) pre):=by
 have hs:=λli=>Ur li b pre e.ty hb
 have QT:∀{l:List Int},l.length=1->l=[xW l]:=fun {l} h=>by
  match l,h with
  |[a],_=>rfl
 have ac6:∀{l:List Int},l.length=2->l=[xW l,Ym l]:=fun {l} h=>by
  match l,h with
  |[a,b],_=>rfl
 have e1:aG (aT e.kids)=true:=bg
 have e2:(aT e.kids).view=aT e.kids:=bz
 have m1:aG (b8 1 (ints l))=true:=cV
 have m2:(b8 1 (ints l)).view=aA 1 (ints l):=rfl
 have m3:aG (aA 1 (ints l))=true:=aX
 have m4:(aA 1 (ints l)).view=aA 1 (ints l):=aY
 have m5:aP (aA 1 (ints l))=ints l:=aR
 have m6:cI 1 (aA 1 (ints l))=true:=zI
 have m7:aP (b8 1 (ints l))=ints l:=qz
 have m8:cI 1 (b8 1 (ints l))=true:=by rw[wC];simp[fits,ints]
 have xJ:List.take (fO b pre).length (fO b pre)=fO b pre:=K5 b b pre rfl
 have MG:List.take (fO b pre).length (fO { b with sites:=b.sites++[⟨b.fZ.length,e.ty⟩] } pre)=fO { b with sites:=b.sites++[⟨b.fZ.length,e.ty⟩] } pre:=K5 b _ pre rfl
 have hn:nH []=.U:=rfl
 rw[E.aE]
 simp only[T3.cells]at hs
 refine ax (sf:=s81) rfl rfl rfl ?_
 generalize aT e.kids=KV at *
 generalize b8 1 (ints l)=MV at *
 generalize aA 1 (ints l)=LV at *
 obtain⟨st,eG⟩:∃s,s=fO b pre:=⟨_,rfl⟩
 rw[<-eG]at hs xJ MG ⊢
 simp[s81,e1,fA.bq,AV.view,pB]
 by_cases c1:e.k=1
 ·simp[c1,ff,o9,In.row,hn,af,xJ,<-eG]
 by_cases c2:e.k=2
 ·simp[c2,ff,o9,In.row,hn,af,xJ,<-eG]
 by_cases c3:e.k=3
 ·simp[c3,ff,o9,In.row,hn,af,xJ,<-eG]
 by_cases c4:e.k=4
 ·have hw:IntKind.i64.wrap (-1-e.ref) = -1-e.ref:=by obtain⟨a,b⟩:=hr c4;rw[wrap64]<;>omega
  simp[c4,ff,o9,In.row,hn,af,xJ,<-eG,hw]
 by_cases c5:e.k=5
 ·obtain⟨a,rfl⟩:∃a,l=[a]:=⟨_,QT (h1 (.inl c5))⟩
  simp[c5,ff,o9,In.row,hn,af,xJ,<-eG,aB,az,m7,m8,ints,xW]
 by_cases c6:e.k=6
 ·obtain⟨a,b,rfl⟩:∃a b,l=[a,b]:=⟨_,_,ac6 (h2 (.inl c6))⟩
  simp[c6,ff,o9,In.row,hn,af,xJ,<-eG,aB,az,m2,m5,m6,ints,xW,Ym]
 by_cases c8:e.k=8
 ·simp[c8,ff,o9,In.row,hn,af,AV.view,hs,MG]
 by_cases c9:e.k=9
 ·obtain⟨a,rfl⟩:∃a,l=[a]:=⟨_,QT (h1 (.inr (.inl c9)))⟩
  have zo:=λli=>hs li
  simp only[pB]at zo
  simp[c9,ff,o9,In.row,hn,AV.view,xW]
  rw[q8]
  simp[dm,gG,cT,bp,fA.bq,zo,m7,m8,ints,af,AV.view]
  refine⟨_,_,⟨rfl,rfl⟩,?_⟩
  simp[dK.same,AV.same,AV.pq,AV.pZ,AV.view,AV.cy,MG,m7,m8,ints,cut]
 by_cases zb:e.k=10
 ·obtain⟨a,rfl⟩:∃a,l=[a]:=⟨_,QT (h1 (by omega))⟩
  simp[zb,ff,o9,In.row,hn,af,xJ,<-eG,m7,m8,ints,xW]
 by_cases Is:e.k=11
 ·simp[Is,ff,o9,In.row,hn,af,xJ,<-eG]
 by_cases G4:e.k=12
 ·obtain⟨a,rfl⟩:∃a,l=[a]:=⟨_,QT (h1 (by omega))⟩
  simp[G4,ff,o9,In.row,hn,af,xJ,<-eG,aB,az,m7,m8,ints,xW]
 by_cases KL:e.k=13
 ·obtain⟨a,rfl⟩:∃a,l=[a]:=⟨_,QT (h1 (by omega))⟩
  simp[KL,ff,o9,In.row,hn,af,xJ,<-eG,aB,az,m7,m8,ints,xW]
 ·obtain⟨a,b,rfl⟩:∃a b,l=[a,b]:=⟨_,_,ac6 (h2 (by omega))⟩
  simp[c1,c2,c3,c4,c5,c6,h7,c8,c9,zb,Is,G4,KL,ff,o9,In.row,hn,af,xJ,<-eG,aB,az,m2,m5,m6,ints,xW,Ym]
theorem wB (b:Bl)(pre:aj)(e:E)(l:List Int)(hb:Fb b 1) :
  (aW S).call 0 0 80 [pB,.agg e.row,b8 1 (ints l)] (fO b pre)=some (.int .i64 (if e.ty=T0 then -1 else b.vars.length),fO (b.plus (if e.ty=T0 then fY ⟨13,-1,0,e.ref,0,l⟩ else ⟨[e.ty],[⟨13,b.vars.length,0,e.ref,0,l⟩],[]⟩)) pre):=by
 obtain⟨hv,hi,hs⟩:=hb
 have e1:aG (aT e.kids)=true:=bg
 have e2:(aT e.kids).view=aT e.kids:=bz
 have m1:aG (b8 1 (ints l))=true:=cV
 have m2:(b8 1 (ints l)).view=aA 1 (ints l):=rfl
 have m3:aG (aA 1 (ints l))=true:=aX
 have m4:(aA 1 (ints l)).view=aA 1 (ints l):=aY
 have ha:nH l=aA 1 (ints l):=rfl
 rw[E.aE]
 by_cases ht:e.ty=T0
 ·have tt:=QS b pre ⟨13,-1,0,e.ref,0,l⟩ _ (cm m1) (bu m1) rfl (by omega)
  have eb:e.ty.b=0/\e.ty.r=0/\e.ty.d=0:=by rw[ht];exact⟨rfl,rfl,rfl⟩
  rw[if_pos ht,if_pos ht,<-ur]
  refine ax (sf:=s80) rfl rfl rfl ?_
  generalize aT e.kids=KV at *
  generalize b8 1 (ints l)=MV at *
  generalize aA 1 (ints l)=LV at *
  simp[s80,e1,m1,fA.bq,AV.view,pB,eb,af,tt]
 ·have t1:=λli=>Fe li b pre e.ty (by omega)
  have tt:=QS { b with vars:=b.vars++[e.ty] } pre ⟨13,b.vars.length,0,e.ref,0,l⟩ _ (cm m1) (bu m1) rfl (by show b.is.length<_;omega)
  simp only[T3.cells]at t1
  have eb:(!decide (e.ty.b=0)||(!decide (e.ty.r=0) || !decide (e.ty.d=0)))=true:=by
   rcases h:e.ty with⟨x,y,z⟩
   rw[h]at ht
   by_cases a:x=0<;>by_cases b:y=0<;>by_cases c:z=0<;>simp_all
  rw[if_neg ht,if_neg ht]
  have ep:b.plus ⟨[e.ty],[⟨13,b.vars.length,0,e.ref,0,l⟩],[]⟩={ b with vars:=b.vars++[e.ty],is:=b.is++[⟨13,b.vars.length,0,e.ref,0,l⟩] }:=by simp[Bl.plus]
  rw[ep]
  refine ax (sf:=s80) rfl rfl rfl ?_
  generalize aT e.kids=KV at *
  generalize b8 1 (ints l)=MV at *
  generalize aA 1 (ints l)=LV at *
  simp[s80,e1,m1,fA.bq,AV.view,pB,eb,af,t1,tt]
end xD
namespace xD
open Ax Go cp V7 j4 k8 uF
def PE (e:E):Prop:=∀(b:Bl)(pre:aj),LE e->Fb b (E.sz e)->(aW S).call 0 0 65 [pB,.agg e.row] (fO b pre)=some (.int .i64 (cE b.vars.length b.sites.length e).1,fO (b.plus (cE b.vars.length b.sites.length e).2) pre)
theorem HP (l:List E)(ih:∀e∈l,PE e)(b:Bl)(pre:aj)(hL:LL l)(hb:Fb b (E.dG l)) :
  (aW S).call 0 0 77 [pB,aT l] (fO b pre)=some (b8 1 (ints (rO b.vars.length b.sites.length l).1),fO (b.plus (rO b.vars.length b.sites.length l).2) pre):=by
 have hz:cI 11 (aT l)=true:=zE
 have dA:aG (aT l)=true:=bg
 have g9:(aT l).view=aT l:=bz
 have eY:aP (aT l)=E.rows l:=aR
 have hlen:=E.eW l
 have hlb:l.length<1000000000:=by have:=hb.1;omega
 rw[qh]at hL
 have qO:(E.rows l).length=l.length:=by simp[gC]
 refine ax (sf:=s77) rfl rfl rfl ?_
 generalize aT l=lv at *
 simp[s77,dA,g9,eY,qO,pB]
 refine bC Pq.eq_1 (λx:Nat×List Int×Bl×List AV=>⟨[(0,.val (.ptr 0 0 0 0)),(5,.val (b8 1 (ints x.2.1))),(8,.val lv),(9,.val (.int .i64 l.length)),(10,.val (.int .i64 x.1))],[x.2.2.2],fO x.2.2.1 pre⟩)
  (λx=>x.1<=l.length/\x.2.1.length=x.1/\Fb x.2.2.1 (E.dG (l.drop x.1))/\(x.2.1++(rO x.2.2.1.vars.length x.2.2.1.sites.length (l.drop x.1)).1,x.2.2.1.plus (rO x.2.2.1.vars.length x.2.2.1.sites.length (l.drop x.1)).2)=((rO b.vars.length b.sites.length l).1,b.plus (rO b.vars.length b.sites.length l).2)) (λx=>l.length-x.1) (0,[],b,[]) (by simp[b8,ints]) ⟨by simp,rfl,by simpa using hb,by simp⟩ ?_
 rintro⟨k,acc,b1,bx⟩ ⟨hk,ac7,f1,hp⟩ rA
 simp only at hk ac7 f1 hp rA
 by_cases aZ:k<l.length
 ·have rE:IntKind.i64.wrap ((k:Int)+1)=((k+1:Nat):Int):=by rw[wrap64]<;>omega
  have hm:=List.getElem_mem aZ
  rw[List.drop_eq_getElem_cons aZ]at f1 hp
  simp only[E.dG]at f1
  have dh:=ih _ hm b1 pre (hL _ hm) (f1.le (by omega))
  have FB:=nN l[k] b1.vars.length b1.sites.length
  have f2:=f1.plus FB
  rw[tq]at hp
  obtain⟨pv,_,ps⟩:=jd b1 (cE b1.vars.length b1.sites.length l[k]).2
  have e1:aG (aT l[k].kids)=true:=bg
  have e2:(aT l[k].kids).view=aT l[k].kids:=bz
  have gE:=B0 aZ
  have mw:k<(E.rows l).length:=by simpa [gC] using aZ
  have rY:=vF aZ mw
  have nc:uC 1 8 (b8 1 (ints acc)) [[.int .i64 (cE b1.vars.length b1.sites.length l[k]).1]]=some (b8 1 (ints (acc++[(cE b1.vars.length b1.sites.length l[k]).1]))):=by
   rw[eU (by rfl) (by simp[room];omega)];simp
  have ey:=λbx=>rA (k+1,acc++[(cE b1.vars.length b1.sites.length l[k]).1],b1.plus (cE b1.vars.length b1.sites.length l[k]).2,bx) ⟨by simp only;omega,by simp[ac7],f2,by
   simp only[pv,ps]
   rw[<-hp,tu]
   simp⟩ (by simp only;omega)
  simp only at ey
  rw[E.aE]at dh gE rY
  generalize cE b1.vars.length b1.sites.length l[k]=y at *
  generalize l[k]=x at *
  generalize aT x.kids=xe at *
  have g0:aG (b8 1 (ints acc))=true:=cV
  have g1:aG (b8 1 (ints (acc++[y.1])))=true:=cV
  generalize b8 1 (ints (acc++[y.1]))=m1 at *
  generalize b8 1 (ints acc)=m0 at *
  simp only[pB]at dh
  simp[aZ,mw,rE,hz,g9,eY,rY,dh,e1,e2,nc,af,AV.view]
  exact ey _
 ·have iK:k=l.length:=by omega
  rw[iK,List.drop_length]at hp
  have h1:(rO b.vars.length b.sites.length l).1=acc:=by
   have:=congrArg Prod.fst hp
   simpa [rO] using this.symm
  have h2:b.plus (rO b.vars.length b.sites.length l).2=b1:=by
   have:=congrArg Prod.snd hp
   simp only[rO]at this
   rw[Ac]at this
   exact this.symm
  rw[h1,h2]
  have g0:aG (b8 1 (ints acc))=true:=cV
  generalize b8 1 (ints acc)=m0 at *
  simp[aZ]
theorem QU (nv ns:Nat):∀l:List E,(rO nv ns l).1.length=l.length
 |[]=>rfl
 |e::l=>by rw[tq];simp[QU]
theorem Ut (k n ref t s:Int)(l:List Int)(h7:k≠7):(ff k n ref t s l).row=[.int .i64 (ff k n ref 0 s l).op,.int .i64 t,.int .i64 (ff k n ref 0 s l).b,.int .i64 (ff k n ref 0 s l).c,.int .i64 (ff k n ref 0 s l).n,nH (ff k n ref 0 s l).args]/\(ff k n ref 0 s l).a=0:=by
 by_cases c1:k=1\/k=2
 ·simp[ff,c1,In.row]
 by_cases c3:k=3
 ·simp[ff,c3,In.row]
 by_cases c4:k=4
 ·simp[ff,c4,In.row]
 by_cases c5:k=5
 ·simp[ff,c5,In.row]
 by_cases c6:k=6
 ·simp[ff,c6,In.row]
 by_cases c8:k=8
 ·simp[ff,c8,In.row]
 by_cases c9:k=9
 ·simp[ff,c9,In.row]
 by_cases zb:k=10
 ·simp[ff,zb,In.row]
 by_cases Is:k=11
 ·simp[ff,Is,In.row]
 by_cases G4:k=12\/k=13
 ·rcases G4 with rfl|rfl<;>simp[ff,In.row]
 ·simp[ff,c1,c3,c4,c5,c6,h7,c8,c9,zb,Is,G4,In.row]
theorem gx (e:E):PE e:=by
 induction e using E.ind with
 |_ e ih=>
  intro b pre hL hb
  rw[QF]at hL
  obtain⟨hT,h1,h2,hk,hr,ac8⟩:=hL
  have hsk:=E.rz e
  have e1:aG (aT e.kids)=true:=bg
  have e2:(aT e.kids).view=aT e.kids:=bz
  by_cases q:e.k=4/\0<=e.ref
  ·rw[HM,if_pos q,Ac,E.aE]
   obtain⟨st,eG⟩:∃s,s=fO b pre:=⟨_,rfl⟩
   rw[<-eG]
   refine ax (sf:=Vt) rfl rfl rfl ?_
   generalize aT e.kids=KV at *
   simp[Vt,e1,fA.bq,AV.view,q,pB]
  ·have mq:=HP e.kids ih b pre ac8 (hb.le (by omega))
   have FB:=JI e.kids b.vars.length b.sites.length
   have f1:Fb (b.plus (rO b.vars.length b.sites.length e.kids).2) 1:=Fb.plus (hb.le (by omega)) FB
   have KS:=QU b.vars.length b.sites.length e.kids
   obtain⟨pv,pi,ps⟩:=jd b (rO b.vars.length b.sites.length e.kids).2
   rw[HM,if_neg q]
   unfold cK
   generalize rO b.vars.length b.sites.length e.kids=x at *
   have q1:e.k=4->¬0<=e.ref:=λa b=>q ⟨a,b⟩
   have m1:aG (b8 1 (ints x.1))=true:=cV
   by_cases c7:e.k=7
   ·have hc:=wB (b.plus x.2) pre e x.1 f1
    have ea:∀{α:Type} (p q:α),(if e.ty=T0 then p else q)=if e.ty=T0 then p else q:=λ_ _=>rfl
    rw[tu]at hc
    have er:(if e.ty=T0 then ((-1:Int),x.2.app (fY ⟨13,-1,0,e.ref,0,x.1⟩)) else (((b.vars.length+x.2.vs.length:Nat):Int),x.2.app ⟨[e.ty],[ff e.k e.n e.ref ((b.vars.length+x.2.vs.length:Nat):Int) ((b.sites.length+x.2.ss.length:Nat):Int) x.1],if e.k=8\/e.k=9 then [e.ty] else []⟩))
      = ((if e.ty=T0 then (-1:Int) else ((b.plus x.2).vars.length:Int)),x.2.app (if e.ty=T0 then fY ⟨13,-1,0,e.ref,0,x.1⟩ else ⟨[e.ty],[⟨13,((b.plus x.2).vars.length:Int),0,e.ref,0,x.1⟩],[]⟩)):=by
     split
     ·rfl
     ·rw[pv];simp[c7,ff]
    rw[er]
    generalize (if e.ty=T0 then (-1:Int) else ((b.plus x.2).vars.length:Int))=rv at *
    generalize b.plus (x.2.app (if e.ty=T0 then fY ⟨13,-1,0,e.ref,0,x.1⟩ else ⟨[e.ty],[⟨13,((b.plus x.2).vars.length:Int),0,e.ref,0,x.1⟩],[]⟩))=rb at *
    rw[E.aE]at hc ⊢
    refine ax (sf:=Vt) rfl rfl rfl ?_
    generalize fO b pre=st at *
    generalize fO (b.plus x.2) pre=kV at *
    generalize b8 1 (ints x.1)=MV at *
    generalize aT e.kids=KV at *
    simp only[pB]at mq hc
    rw[c7]at hc
    simp[Vt,e1,e2,fA.bq,AV.view,c7,pB,mq,hc]
   ·have hT':¬e.ty=T0:=λc=>c7 (hT c)
    rw[if_neg hT']
    have ht:=λli=>Fe li (b.plus x.2) pre e.ty (by have:=f1.1;omega)
    have hi:=λli=>Yx li { b.plus x.2 with vars:=(b.plus x.2).vars++[e.ty] } pre e x.1 (by have:=f1.2.2;show (b.plus x.2).sites.length<_;omega) c7 (λh=>by rw[KS];exact h1 h) (λh=>by rw[KS];exact h2 h) hk (λh=>⟨hr h,by have:=q1 h;omega⟩)
    have ha:=nI (o9 { b.plus x.2 with vars:=(b.plus x.2).vars++[e.ty] } e.k e.ty) pre (ff e.k e.n e.ref ((b.vars.length+x.2.vs.length:Nat):Int) ((b.sites.length+x.2.ss.length:Nat):Int) x.1) (by rw[Us];have:=f1.2.1;show (b.plus x.2).is.length<_;omega)
    have dA:{ b.plus x.2 with vars:=(b.plus x.2).vars++[e.ty] }.sites.length=b.sites.length+x.2.ss.length:=ps
    rw[dA]at hi
    obtain⟨r1,r2⟩:=Ut e.k e.n e.ref ((b.vars.length+x.2.vs.length:Nat):Int) ((b.sites.length+x.2.ss.length:Nat):Int) x.1 c7
    rw[r1]at ha
    simp only[In.row,r2]at hi
    have wY:{ o9 { b.plus x.2 with vars:=(b.plus x.2).vars++[e.ty] } e.k e.ty with is:=(o9 { b.plus x.2 with vars:=(b.plus x.2).vars++[e.ty] } e.k e.ty).is++[ff e.k e.n e.ref ((b.vars.length+x.2.vs.length:Nat):Int) ((b.sites.length+x.2.ss.length:Nat):Int) x.1] } =
      b.plus (x.2.app ⟨[e.ty],[ff e.k e.n e.ref ((b.vars.length+x.2.vs.length:Nat):Int) ((b.sites.length+x.2.ss.length:Nat):Int) x.1],if e.k=8\/e.k=9 then [e.ty] else []⟩):=by
     by_cases c:e.k=8\/e.k=9
     ·simp[o9,c,Bl.plus,Out.app]
     ·simp[o9,c,Bl.plus,Out.app]
    rw[wY]at ha
    rw[pv]at ht
    simp only
    generalize ff e.k e.n e.ref 0 ((b.sites.length+x.2.ss.length:Nat):Int) x.1=J at *
    have ja:aG (nH J.args)=true:=aX
    have jb:(nH J.args).view=nH J.args:=aY
    generalize (ff e.k e.n e.ref ((b.vars.length+x.2.vs.length:Nat):Int) ((b.sites.length+x.2.ss.length:Nat):Int) x.1)=J2 at *
    generalize b.plus (x.2.app ⟨[e.ty],[J2],if e.k=8\/e.k=9 then [e.ty] else []⟩)=rb at *
    rw[E.aE]at hi ⊢
    refine ax (sf:=Vt) rfl rfl rfl ?_
    generalize fO (o9 { b.plus x.2 with vars:=(b.plus x.2).vars++[e.ty] } e.k e.ty) pre=st3 at *
    generalize fO { b.plus x.2 with vars:=(b.plus x.2).vars++[e.ty] } pre=lf at *
    generalize fO b pre=st at *
    generalize fO (b.plus x.2) pre=kV at *
    generalize fO rb pre=st4 at *
    generalize ((b.vars.length+x.2.vs.length:Nat):Int)=tv at *
    generalize b8 1 (ints x.1)=MV at *
    generalize aT e.kids=KV at *
    generalize nH J.args=AV1 at *
    simp only[pB,T3.cells]at mq hi ht ha
    by_cases c4:e.k=4
    ·have q4:=q1 c4
     simp only[c4]at hi
     simp[Vt,e1,e2,fA.bq,AV.view,c4,q4,pB,mq,ht,hi,ha,ja,jb,af]
    ·simp[Vt,e1,e2,fA.bq,AV.view,c7,c4,pB,mq,ht,hi,ha,ja,jb,af]
end xD
namespace xD
open Ax Go cp V7 j4 k8 uF
theorem w9 (b:Bl)(x:Out)(i:In):{ b.plus x with is:=(b.plus x).is++[i] }=b.plus (x.app (fY i)):=by rw[ur,tu]
theorem Yy (b:Bl)(pre:aj)(s:Sm)(h1:s.es.length=1)(hL:LL s.es)(hr : -1000000000<s.ref)(hb:Fb b (E.dG s.es+1)) :
  (aW S).call 0 0 61 [pB,.agg s.row] (fO b pre)=some (.fm [],fO (b.plus ((cE b.vars.length b.sites.length (ko s.es)).2.app (fY (HK s.ref (cE b.vars.length b.sites.length (ko s.es)).1)))) pre):=by
 obtain⟨e,he⟩:∃e,s.es=[e]:=⟨_,B1 h1⟩
 have h0:ko s.es=e:=by rw[he];rfl
 have dL:E.dG s.es=E.sz e:=by rw[he];simp[E.dG]
 rw[h0]
 have hx:=gx e b pre ((qh _).1 hL e (by rw[he];exact List.mem_cons_self)) (hb.le (by omega))
 have FB:=nN e b.vars.length b.sites.length
 have f1:=(hb.le (by omega:E.sz e+1<=_)).plus FB
 generalize cE b.vars.length b.sites.length e=x at *
 have ha:=nI (b.plus x.2) pre (HK s.ref x.1) (by have:=f1.2.1;omega)
 rw[w9]at ha
 have e1:aG (aT s.es)=true:=bg
 have e2:(aT s.es).view=aT s.es:=bz
 have e3:aP (aT s.es)=[e.row]:=by show aP (aA _ _)=_;rw[aR,he];rfl
 have e4:cI 11 (aT s.es)=true:=zE
 have b1:aG (br s.bd)=true:=bE
 have b2:(br s.bd).view=br s.bd:=bJ
 have l1:aG (br s.el)=true:=bE
 have l2:(br s.el).view=br s.el:=bJ
 have k1:aG (aT e.kids)=true:=bg
 have k2:(aT e.kids).view=aT e.kids:=bz
 have hn:nH []=.U:=rfl
 rw[E.aE]at hx e3
 rw[Sm.aE]
 refine ax (sf:=s61) rfl rfl rfl ?_
 generalize fO (b.plus (x.2.app (fY (HK s.ref x.1)))) pre=lf at *
 generalize fO b pre=st at *
 generalize fO (b.plus x.2) pre=kV at *
 generalize aT e.kids=KV at *
 generalize aT s.es=EV at *
 generalize br s.bd=DV at *
 generalize br s.el=LV at *
 simp only[pB]at hx ha
 by_cases c:s.ref<0
 ·have hw:IntKind.i64.wrap (-1-s.ref) = -1-s.ref:=by rw[wrap64]<;>omega
  simp only[HK,if_pos c,In.row,hn]at ha
  simp[s61,e1,e2,e3,e4,b1,l1,k2,fA.bq,AV.view,pB,hx,cut,c,hw,ha,af]
 ·simp only[HK,if_neg c,In.row,hn]at ha
  simp[s61,e1,e2,e3,e4,b1,l1,k2,fA.bq,AV.view,pB,hx,cut,c,ha,af]
theorem IS (b:Bl)(pre:aj)(s:Sm)(h1:s.es.length=2)(hL:LL s.es)(hk:(ko s.es).k=5\/(ko s.es).k=6)(hb:Fb b (E.dG s.es+1)) :
  (aW S).call 0 0 62 [pB,.agg s.row] (fO b pre)=some (.fm [],fO (b.plus (E8 b.vars.length b.sites.length (ko s.es) (rO b.vars.length b.sites.length (ko s.es).kids) (λnv ns=>cE nv ns (MJ s.es)))) pre):=by
 obtain⟨e,f,he⟩:∃e f,s.es=[e,f]:=⟨_,_,QH h1⟩
 have h0:ko s.es=e:=by rw[he];rfl
 have h01:MJ s.es=f:=by rw[he];rfl
 have dL:E.dG s.es=E.sz e+E.sz f:=by rw[he];simp[E.dG]
 have hsk:=E.rz e
 rw[h0]at hk ⊢
 rw[h01]
 rw[qh]at hL
 have hLe:=hL e (by rw[he];exact List.mem_cons_self)
 rw[QF]at hLe
 obtain⟨_,q1,q2,_,_,hLk⟩:=hLe
 have hx:=HP e.kids (λx _=>gx x) b pre hLk (hb.le (by omega))
 have FB:=JI e.kids b.vars.length b.sites.length
 have f1:=(hb.le (by omega:E.dG e.kids+(E.sz f+1)<=_)).plus FB
 have KS:=QU b.vars.length b.sites.length e.kids
 unfold E8
 obtain⟨pv,pi,ps⟩:=jd b (rO b.vars.length b.sites.length e.kids).2
 generalize rO b.vars.length b.sites.length e.kids=x at *
 have hy:=gx f (b.plus x.2) pre (hL f (by rw[he];simp)) (f1.le (by omega))
 have ac9:=nN f (b.plus x.2).vars.length (b.plus x.2).sites.length
 have f2:=f1.plus ac9
 rw[pv,ps]at hy ac9 f2
 simp only
 generalize cE (b.vars.length+x.2.vs.length) (b.sites.length+x.2.ss.length) f=y at *
 have ha:=nI ((b.plus x.2).plus y.2) pre (QE e.k e.ref y.1 x.1) (by have:=f2.2.1;omega)
 simp only[ur,tu,KY]at ha hy
 rw[KY]
 have e1:aG (aT s.es)=true:=bg
 have e2:(aT s.es).view=aT s.es:=bz
 have e3:aP (aT s.es)=[e.row,f.row]:=by show aP (aA _ _)=_;rw[aR,he];rfl
 have e4:cI 11 (aT s.es)=true:=zE
 have b1:aG (br s.bd)=true:=bE
 have b2:(br s.bd).view=br s.bd:=bJ
 have l1:aG (br s.el)=true:=bE
 have l2:(br s.el).view=br s.el:=bJ
 have k1:aG (aT e.kids)=true:=bg
 have k2:(aT e.kids).view=aT e.kids:=bz
 have k3:aG (aT f.kids)=true:=bg
 have k4:(aT f.kids).view=aT f.kids:=bz
 have hn:nH []=.U:=rfl
 have m1:aG (b8 1 (ints x.1))=true:=cV
 have m2:(b8 1 (ints x.1)).view=aA 1 (ints x.1):=rfl
 have m3:aG (aA 1 (ints x.1))=true:=aX
 have m5:aP (aA 1 (ints x.1))=ints x.1:=aR
 have m6:cI 1 (aA 1 (ints x.1))=true:=zI
 have m7:aP (b8 1 (ints x.1))=ints x.1:=qz
 have m8:cI 1 (b8 1 (ints x.1))=true:=by rw[wC];simp[fits,ints]
 rw[E.aE f]at hy
 rw[E.aE e,E.aE f]at e3
 rw[Sm.aE]
 refine ax (sf:=s62) rfl rfl rfl ?_
 generalize fO (b.plus (x.2.app (y.2.app (fY (QE e.k e.ref y.1 x.1))))) pre=st3 at *
 generalize fO (b.plus (x.2.app y.2)) pre=lf at *
 generalize fO b pre=st at *
 generalize fO (b.plus x.2) pre=kV at *
 generalize aT e.kids=KV at *
 generalize aT f.kids=FV at *
 generalize aT s.es=EV at *
 generalize br s.bd=DV at *
 generalize br s.el=LV at *
 generalize b8 1 (ints x.1)=MV at *
 generalize aA 1 (ints x.1)=NV at *
 simp only[pB]at hx hy ha
 by_cases c:e.k=5
 ·rw[Yp (by rw[KS];exact q1 (.inl c))]at m5 m7
  simp only[QE,if_pos c,In.row,hn]at ha
  simp[s62,e1,e2,e3,e4,b1,l1,k2,k4,m7,m8,fA.bq,AV.view,pB,hx,hy,cut,c,ha,af,aB,az]
 ·have c6:e.k=6:=by omega
  rw[Yq (by rw[KS];exact q2 (.inl c6))]at m5 m7
  simp only[QE,if_neg c,In.row,hn]at ha
  simp[s62,e1,e2,e3,e4,b1,l1,k2,k4,m2,m5,m6,fA.bq,AV.view,pB,hx,hy,cut,c6,ha,af,aB,az]
theorem DJ (b:Bl)(pre:aj)(e:E)(hL:LE e)(hb:Fb b (E.sz e+1)) :
  (aW S).call 0 0 78 [pB,.agg e.row] (fO b pre)=some (.int .i64 ((b.is.length+(cE b.vars.length b.sites.length e).2.is.length:Nat):Int),fO (b.plus ((cE b.vars.length b.sites.length e).2.app (fY ⟨17,(cE b.vars.length b.sites.length e).1,0,0,((b.is.length+(cE b.vars.length b.sites.length e).2.is.length+1:Nat):Int),[]⟩))) pre):=by
 have hx:=gx e b pre hL (hb.le (by omega))
 have f1:=hb.plus (nN e b.vars.length b.sites.length)
 obtain⟨pv,pi,ps⟩:=jd b (cE b.vars.length b.sites.length e).2
 generalize cE b.vars.length b.sites.length e=x at *
 have aZ:(b.plus x.2).is.length<1000000000:=by have:=f1.2.1;omega
 have ZZ:=λli=>w8 li (b.plus x.2) pre aZ
 have ha:=nI (b.plus x.2) pre ⟨17,x.1,0,0,((b.is.length+x.2.is.length+1:Nat):Int),[]⟩ aZ
 rw[w9]at ha
 rw[pi]at ZZ ha aZ
 have hw:IntKind.i64.wrap (((b.is.length+x.2.is.length:Nat):Int)+1)=((b.is.length+x.2.is.length+1:Nat):Int):=by rw[wrap64]<;>omega
 have hn:nH []=.U:=rfl
 have k1:aG (aT e.kids)=true:=bg
 have k2:(aT e.kids).view=aT e.kids:=bz
 rw[E.aE]at hx ⊢
 refine ax (sf:=s78) rfl rfl rfl ?_
 simp only[In.row,hn,pB]at hx ha ZZ
 generalize fO (b.plus (x.2.app (fY ⟨17,x.1,0,0,((b.is.length+x.2.is.length+1:Nat):Int),[]⟩))) pre=lf at *
 generalize ((b.is.length+x.2.is.length+1:Nat):Int)=n1 at *
 generalize ((b.is.length+x.2.is.length:Nat):Int)=n0 at *
 generalize fO b pre=st at *
 generalize fO (b.plus x.2) pre=kV at *
 generalize aT e.kids=KV at *
 simp[s78,k1,k2,fA.bq,AV.view,pB,hx,ZZ,hw,ha,af]
end xD
namespace xD
open Ax Go cp V7 j4 k8 uF
def PS (s:Sm):Prop:=∀(b:Bl)(pre:aj),LS s->Fb b (2*Sm.sz s)->(aW S).call 0 0 46 [pB,.agg s.row] (fO b pre)=some (.fm [],fO (b.plus (cS b.vars.length b.is.length b.sites.length s)) pre)
theorem eP (l:List Sm)(ih:∀s∈l,PS s)(b:Bl)(pre:aj)(hL:LB l)(hb:Fb b (2*Sm.dG l)) :
  (aW S).call 0 0 27 [pB,br l] (fO b pre)=some (.fm [],fO (b.plus (cB b.vars.length b.is.length b.sites.length l)) pre):=by
 have hz:cI 9 (br l)=true:=zL (by simp[fits,gi,Sm.aE])
 have dA:aG (br l)=true:=bE
 have g9:(br l).view=br l:=bJ
 have eY:aP (br l)=Sm.rows l:=aR
 have hlen:=Sm.eW l
 have hlb:l.length<1000000000:=by have:=hb.1;omega
 rw[E9]at hL
 have qO:(Sm.rows l).length=l.length:=by simp[gi]
 refine ax (sf:=s27) rfl rfl rfl ?_
 generalize br l=lv at *
 simp[s27,dA,g9,eY,qO,pB]
 refine bC O3.eq_1 (λx:Nat×Bl×List AV=>⟨[(0,.val (.ptr 0 0 0 0)),(6,.val lv),(7,.val (.int .i64 l.length)),(8,.val (.int .i64 x.1))],[x.2.2],fO x.2.1 pre⟩)
  (λx=>x.1<=l.length/\Fb x.2.1 (2*Sm.dG (l.drop x.1))/\x.2.1.plus (cB x.2.1.vars.length x.2.1.is.length x.2.1.sites.length (l.drop x.1))=b.plus (cB b.vars.length b.is.length b.sites.length l)) (λx=>l.length-x.1) (0,b,[]) (by simp) ⟨by simp,by simpa using hb,by simp⟩ ?_
 rintro⟨k,b1,bx⟩ ⟨hk,f1,hp⟩ rA
 simp only at hk f1 hp rA
 by_cases aZ:k<l.length
 ·have rE:IntKind.i64.wrap ((k:Int)+1)=((k+1:Nat):Int):=by rw[wrap64]<;>omega
  have hm:=List.getElem_mem aZ
  rw[List.drop_eq_getElem_cons aZ]at f1 hp
  simp only[Sm.dG]at f1
  have dh:=ih _ hm b1 pre (hL _ hm) (f1.le (by omega))
  have FB:=VJ l[k] (hL _ hm) b1.vars.length b1.is.length b1.sites.length
  have f2:=Fb.plus (f1.le (by omega:2*Sm.sz l[k]+2*Sm.dG (l.drop (k+1))<=_)) FB
  rw[wZ]at hp
  unfold DH at hp
  obtain⟨pv,pi,ps⟩:=jd b1 (cS b1.vars.length b1.is.length b1.sites.length l[k])
  obtain⟨e1,d1,l1⟩:aG (aT l[k].es)=true/\aG (br l[k].bd)=true/\aG (br l[k].el)=true:=⟨bg,bE,bE⟩
  have e2:(aT l[k].es).view=aT l[k].es:=bz
  have d2:(br l[k].bd).view=br l[k].bd:=bJ
  have l2:(br l[k].el).view=br l[k].el:=bJ
  have gE:=B3 aZ
  have mw:k<(Sm.rows l).length:=by omega
  have rY:=wX aZ mw
  have ey:=λbx=>rA (k+1,b1.plus (cS b1.vars.length b1.is.length b1.sites.length l[k]),bx) ⟨by simp only;omega,f2,by
   simp only[pv,pi,ps]
   rw[<-hp,tu]⟩ (by simp only;omega)
  simp only at ey
  rw[Sm.aE]at dh gE rY
  generalize cS b1.vars.length b1.is.length b1.sites.length l[k]=y at *
  generalize l[k]=x at *
  generalize aT x.es=xe at *
  generalize br x.bd=xb at *
  generalize br x.el=xl at *
  simp only[pB]at dh
  simp[aZ,mw,rE,hz,g9,eY,rY,dh,e1,e2,d1,d2,l1,l2,af,AV.view]
  exact ey _
 ·have iK:k=l.length:=by omega
  rw[iK,List.drop_length,JH,Ac]at hp
  rw[<-hp]
  simp[aZ]
theorem JL (b:Bl)(pre:aj)(h:b.is≠[]):fO b pre=.rows 0 12 [[b.bw,bQ 3 (b.K4.map T3.cells),bQ 7 (b.fZ.map Cd.row),bQ 4 (b.sites.map Sd.row),.int .i64 b.main,
  .int .i64 b.params,bQ 3 (b.vars.map T3.cells),.bool b.has,.int .i64 b.res.b,.int .i64 b.res.r,.int .i64 b.res.d,.mu (pre.length+1) (b.is.length-1)]]::(pre++[.rows (b.is.length-1) 6 (b.is.map In.row)]):=by
 simp[fO,Bl.cells,JK,w7,h]
end xD
namespace xD
open Ax Go cp V7 j4 k8 uF
def Bl.yl (b:Bl)(i:Nat)(a:In):Bl:={ b with is:=b.is.set i a }
structure Pt (b:Bl)(pre:aj)(st:aj)(H:List AV)(V:Nat)(R:List (List AV)):Prop where
 st:st=fO b pre
 eq:fO b pre=.rows 0 12 [H++[.mu (pre.length+1) V]]::(pre++[.rows V 6 R])
 len:R.length=b.is.length
 set:∀(i:Nat) (a:In),(.rows 0 12 [H++[.mu (pre.length+1) V]]::(pre++[.rows V 6 (R.set i (In.row a))]):aj)=fO (b.yl i a) pre
 get:∀(i:Nat) (a:In),b.is[i]?=some a->R[i]?=some a.row
theorem QV (b:Bl)(pre:aj)(h:b.is≠[]):∃r0 r1 r2 r3 r4 r5 r6 r7 r8 r9 r10 V R,Pt b pre (fO b pre) [r0,r1,r2,r3,r4,r5,r6,r7,r8,r9,r10] V R:=by
 refine⟨_,_,_,_,_,_,_,_,_,_,_,b.is.length-1,b.is.map In.row,rfl,JL b pre h,by simp,λi a=>?_,λi a h=>by simp[h]⟩
 rw[JL (b.yl i a) pre (by intro c;apply h;have:=congrArg List.length c;simp[Bl.yl]at this;exact this)]
 simp[Bl.yl,List.map_set]
theorem Yz (b:Bl)(x:Int×Out)(y z:Out)(f g:Nat->Nat->Nat->Out)
  (hy:y=f (b.vars.length+x.2.vs.length) (b.is.length+x.2.is.length+1) (b.sites.length+x.2.ss.length))
  (hz:z=g (b.vars.length+x.2.vs.length+y.vs.length) (b.is.length+x.2.is.length+1+y.is.length+1) (b.sites.length+x.2.ss.length+y.ss.length)) :
  ((((((b.plus (x.2.app (fY ⟨17,x.1,0,0,((b.is.length+x.2.is.length+1:Nat):Int),[]⟩))).plus y).plus (fY ⟨16,0,0,0,0,[]⟩)).yl (b.is.length+x.2.is.length)
   ⟨17,x.1,0,((b.is.length+x.2.is.length+1+y.is.length+1:Nat):Int),((b.is.length+x.2.is.length+1:Nat):Int),[]⟩).plus z).yl (b.is.length+x.2.is.length+1+y.is.length)
   ⟨16,0,0,0,((b.is.length+x.2.is.length+1+y.is.length+1+z.is.length:Nat):Int),[]⟩)=b.plus (Yn b.vars.length b.is.length b.sites.length x f g):=by
 unfold Yn
 dsimp only
 rw[<-hy,<-hz]
 have e1:1+y.is.length=y.is.length+1:=by omega
 simp[Bl.plus,Bl.yl,Out.app,fY,Nat.add_assoc,e1]
theorem YA (b:Bl)(x:Int×Out)(y:Out)(f:Nat->Nat->Nat->Out)
  (hy:y=f (b.vars.length+x.2.vs.length) (b.is.length+x.2.is.length+1) (b.sites.length+x.2.ss.length)) :
  ((((b.plus (x.2.app (fY ⟨17,x.1,0,0,((b.is.length+x.2.is.length+1:Nat):Int),[]⟩))).plus y).plus (fY ⟨16,0,0,0,(b.is.length:Int),[]⟩)).yl (b.is.length+x.2.is.length)
   ⟨17,x.1,0,((b.is.length+x.2.is.length+1+y.is.length+1:Nat):Int),((b.is.length+x.2.is.length+1:Nat):Int),[]⟩)=b.plus (Yo b.vars.length b.is.length b.sites.length x f):=by
 unfold Yo
 dsimp only
 rw[<-hy]
 simp[Bl.plus,Bl.yl,Out.app,fY,Nat.add_assoc]
theorem MK (s:Sm)(rL:∀x∈s.bd,PS x)(rA:∀x∈s.el,PS x)(b:Bl)(pre:aj)(h1:s.es.length=1)(hL:LL s.es)(hB:LB s.bd)(hE:LB s.el)(hb:Fb b (2*Sm.sz s)) :
  (aW S).call 0 0 63 [pB,.agg s.row] (fO b pre)=some (.fm [],fO (b.plus (Yn b.vars.length b.is.length b.sites.length (cE b.vars.length b.sites.length (ko s.es)) (λnv at_ ns=>cB nv at_ ns s.bd) (λnv at_ ns=>cB nv at_ ns s.el))) pre):=by
 obtain⟨e,he⟩:∃e,s.es=[e]:=⟨_,B1 h1⟩
 have h0:ko s.es=e:=by rw[he];rfl
 have dL:E.dG s.es=E.sz e:=by rw[he];simp[E.dG]
 have wW:=Sm.ni s
 rw[h0]
 have Uu:=DJ b pre e ((qh _).1 hL e (by rw[he];exact List.mem_cons_self)) (hb.le (by omega))
 have FB:=nN e b.vars.length b.sites.length
 obtain⟨y,hy⟩:∃y,y=cB (b.vars.length+(cE b.vars.length b.sites.length e).2.vs.length) (b.is.length+(cE b.vars.length b.sites.length e).2.is.length+1) (b.sites.length+(cE b.vars.length b.sites.length e).2.ss.length) s.bd:=⟨_,rfl⟩
 obtain⟨z,hz⟩:∃z,z=cB (b.vars.length+(cE b.vars.length b.sites.length e).2.vs.length+y.vs.length) (b.is.length+(cE b.vars.length b.sites.length e).2.is.length+1+y.is.length+1) (b.sites.length+(cE b.vars.length b.sites.length e).2.ss.length+y.ss.length) s.el:=⟨_,rfl⟩
 rw[<-Yz b (cE b.vars.length b.sites.length e) y z _ _ hy hz]
 generalize cE b.vars.length b.sites.length e=x at *
 obtain⟨b1,M4⟩:∃b1,b1=b.plus (x.2.app (fY ⟨17,x.1,0,0,((b.is.length+x.2.is.length+1:Nat):Int),[]⟩)):=⟨_,rfl⟩
 have l1:b1.vars.length=b.vars.length+x.2.vs.length/\b1.is.length=b.is.length+x.2.is.length+1/\b1.sites.length=b.sites.length+x.2.ss.length:=by
  rw[M4];obtain⟨p,q,r⟩:=jd b (x.2.app (fY ⟨17,x.1,0,0,((b.is.length+x.2.is.length+1:Nat):Int),[]⟩));rw[p,q,r]
  simp[Out.app,fY,Nat.add_assoc]
 have g1:b1.is[b.is.length+x.2.is.length]?=some ⟨17,x.1,0,0,((b.is.length+x.2.is.length+1:Nat):Int),[]⟩:=by
  rw[M4];simp[Bl.plus,Out.app,fY]
 rw[<-M4]at Uu ⊢
 have f1:Fb b1 (2*Sm.dG s.bd+(2*Sm.dG s.el+1)):=by
  obtain⟨p1,p2,p3⟩:=hb
  obtain⟨q1,q2,q3⟩:=FB
  obtain⟨r1,r2,r3⟩:=l1
  exact⟨by omega,by omega,by omega⟩
 have B2:=eP s.bd rL b1 pre hB (f1.le (by omega))
 have Rz:=HO hB (b.vars.length+x.2.vs.length) (b.is.length+x.2.is.length+1) (b.sites.length+x.2.ss.length)
 rw[l1.1,l1.2.1,l1.2.2,<-hy]at B2
 rw[<-hy]at Rz
 have f2:=f1.plus Rz
 obtain⟨m1,m2,m3⟩:=jd b1 y
 have g2:(b1.plus y).is[b.is.length+x.2.is.length]?=some ⟨17,x.1,0,0,((b.is.length+x.2.is.length+1:Nat):Int),[]⟩:=by
  show (b1.is++y.is)[_]?=_
  rw[List.getElem?_append_left (by omega)];exact g1
 have ha:=nI (b1.plus y) pre ⟨16,0,0,0,0,[]⟩ (by have:=f2.2.1;omega)
 rw[ur,m2,l1.2.1]at ha
 obtain⟨b3,HQ⟩:∃b3,b3=(b1.plus y).plus (fY ⟨16,0,0,0,0,[]⟩):=⟨_,rfl⟩
 rw[<-HQ]at ha ⊢
 have l3:b3.vars.length=b.vars.length+x.2.vs.length+y.vs.length/\b3.is.length=b.is.length+x.2.is.length+1+y.is.length+1/\b3.sites.length=b.sites.length+x.2.ss.length+y.ss.length:=by
  rw[HQ];obtain⟨p,q,r⟩:=jd (b1.plus y) (fY ⟨16,0,0,0,0,[]⟩);rw[p,q,r,m1,m2,m3,l1.1,l1.2.1,l1.2.2]
  simp[fY]
 have g3:b3.is[b.is.length+x.2.is.length]?=some ⟨17,x.1,0,0,((b.is.length+x.2.is.length+1:Nat):Int),[]⟩:=by
  rw[HQ];show ((b1.plus y).is++_)[_]?=_
  rw[List.getElem?_append_left (by omega)];exact g2
 have g3j:b3.is[b.is.length+x.2.is.length+1+y.is.length]?=some ⟨16,0,0,0,0,[]⟩:=by
  rw[HQ];show ((b1.plus y).is++[_])[_]?=_
  rw[List.getElem?_append_right (by omega),m2,l1.2.1];simp
 have YB:b3.is.length<1000000000:=by have:=f2.2.1;omega
 have YC:=λli=>w8 li b3 pre YB
 rw[l3.2.1]at YC
 obtain⟨r0,r1,r2,r3,r4,r5,r6,r7,r8,r9,r10,V,R,P3⟩:=QV b3 pre (by intro c;rw[c]at l3;simp at l3)
 obtain⟨b4,hb4⟩:∃b4,b4=b3.yl (b.is.length+x.2.is.length) ⟨17,x.1,0,((b.is.length+x.2.is.length+1+y.is.length+1:Nat):Int),((b.is.length+x.2.is.length+1:Nat):Int),[]⟩:=⟨_,rfl⟩
 have s3:=P3.set (b.is.length+x.2.is.length) ⟨17,x.1,0,((b.is.length+x.2.is.length+1+y.is.length+1:Nat):Int),((b.is.length+x.2.is.length+1:Nat):Int),[]⟩
 rw[<-hb4]at s3 ⊢
 have l4:b4.vars.length=b3.vars.length/\b4.is.length=b3.is.length/\b4.sites.length=b3.sites.length:=by rw[hb4];simp[Bl.yl]
 have g4j:b4.is[b.is.length+x.2.is.length+1+y.is.length]?=some ⟨16,0,0,0,0,[]⟩:=by
  rw[hb4];show (b3.is.set _ _)[_]?=_
  rw[List.getElem?_set_ne (by omega)];exact g3j
 have f4:Fb b4 (2*Sm.dG s.el):=by
  obtain⟨p1,p2,p3⟩:=f2
  obtain⟨r1,r2,r3⟩:=l3
  obtain⟨q1,q2,q3⟩:=l4
  exact⟨by omega,by omega,by omega⟩
 have qH:=eP s.el rA b4 pre hE f4
 have J7:=HO hE (b.vars.length+x.2.vs.length+y.vs.length) (b.is.length+x.2.is.length+1+y.is.length+1) (b.sites.length+x.2.ss.length+y.ss.length)
 rw[l4.1,l4.2.1,l4.2.2,l3.1,l3.2.1,l3.2.2,<-hz]at qH
 rw[<-hz]at J7
 obtain⟨n1,n2,n3⟩:=jd b4 z
 have ahX:(b4.plus z).is.length<1000000000:=by have:=f4.2.1;have:=J7.2.1;omega
 have nx5:=λli=>w8 li (b4.plus z) pre ahX
 rw[n2,l4.2.1,l3.2.1]at nx5
 have g5:(b4.plus z).is[b.is.length+x.2.is.length+1+y.is.length]?=some ⟨16,0,0,0,0,[]⟩:=by
  show (b4.is++z.is)[_]?=_
  rw[List.getElem?_append_left (by omega)];exact g4j
 obtain⟨t0,t1,t2,t3,t4,t5,t6,t7,t8,t9,t10,W,Q,P5⟩:=QV (b4.plus z) pre (by intro c;have:=n2;rw[c,List.length_nil]at this;omega)
 have s5:=P5.set (b.is.length+x.2.is.length+1+y.is.length) ⟨16,0,0,0,((b.is.length+x.2.is.length+1+y.is.length+1+z.is.length:Nat):Int),[]⟩
 have q3:=P3.get _ _ g3
 have q5:=P5.get _ _ g5
 have w3:b.is.length+x.2.is.length<R.length:=by rw[P3.len];omega
 have w5:b.is.length+x.2.is.length+1+y.is.length<Q.length:=by rw[P5.len];omega
 have hn:nH []=.U:=rfl
 have e1:aG (aT s.es)=true:=bg
 have e2:(aT s.es).view=aT s.es:=bz
 have e3:aP (aT s.es)=[e.row]:=by show aP (aA _ _)=_;rw[aR,he];rfl
 have e4:cI 11 (aT s.es)=true:=zE
 have d1:aG (br s.bd)=true:=bE
 have d2:(br s.bd).view=br s.bd:=bJ
 have u1:aG (br s.el)=true:=bE
 have u2:(br s.el).view=br s.el:=bJ
 have k1:aG (aT e.kids)=true:=bg
 have k2:(aT e.kids).view=aT e.kids:=bz
 simp only[In.row,hn]at ha s3 s5 q3 q5
 simp only[pB,P3.eq,P5.eq,List.cons_append,List.nil_append]at Uu B2 ha YC nx5 s3 qH s5
 rw[E.aE]at Uu e3
 rw[Sm.aE]
 refine ax (sf:=s63) rfl rfl rfl ?_
 generalize fO ((b4.plus z).yl (b.is.length+x.2.is.length+1+y.is.length) ⟨16,0,0,0,((b.is.length+x.2.is.length+1+y.is.length+1+z.is.length:Nat):Int),[]⟩) pre=st6 at *
 generalize b.is.length+x.2.is.length+1+y.is.length+1+z.is.length=N5 at *
 generalize b.is.length+x.2.is.length+1+y.is.length+1=N4 at *
 generalize b.is.length+x.2.is.length+1+y.is.length=N3 at *
 generalize b.is.length+x.2.is.length+1=N2 at *
 generalize b.is.length+x.2.is.length=N1 at *
 generalize fO b pre=st at *
 generalize fO b1 pre=kV at *
 generalize fO (b1.plus y) pre=lf at *
 generalize fO b4 pre=st4 at *
 generalize aT e.kids=KV at *
 generalize aT s.es=EV at *
 generalize br s.bd=DV at *
 generalize br s.el=LV at *
 have v3:=λh:N1<R.length=>(List.getElem?_eq_some_iff.1 q3).2
 have v5:=λh:N3<Q.length=>(List.getElem?_eq_some_iff.1 q5).2
 simp[s63,e1,e2,e3,e4,d1,d2,u1,k2,fA.bq,AV.view,pB,Uu,B2,ha,cut,af]
 rw[q8]
 simp[dm,gG,cT,bp,fA.bq,YC,w3,v3,bf,AV.ah,AV.an,cut,af,AV.view]
 refine⟨_,_,⟨rfl,rfl⟩,?_⟩
 simp[dK.same,AV.same,s3,qH,cut,AV.view,u2]
 rw[q8]
 simp[dm,gG,cT,bp,fA.bq,nx5,w5,v5,bf,AV.ah,AV.an,cut,af,AV.view]
 refine⟨_,_,⟨rfl,rfl⟩,?_⟩
 simp[dK.same,AV.same,s5,cut,AV.view]
end xD
namespace xD
open Ax Go cp V7 j4 k8 uF
theorem ML (s:Sm)(rL:∀x∈s.bd,PS x)(b:Bl)(pre:aj)(h1:s.es.length=1)(hL:LL s.es)(hB:LB s.bd)(hb:Fb b (2*Sm.sz s)) :
  (aW S).call 0 0 64 [pB,.agg s.row] (fO b pre)=some (.fm [],fO (b.plus (Yo b.vars.length b.is.length b.sites.length (cE b.vars.length b.sites.length (ko s.es)) (λnv at_ ns=>cB nv at_ ns s.bd))) pre):=by
 obtain⟨e,he⟩:∃e,s.es=[e]:=⟨_,B1 h1⟩
 have h0:ko s.es=e:=by rw[he];rfl
 have dL:E.dG s.es=E.sz e:=by rw[he];simp[E.dG]
 have wW:=Sm.ni s
 rw[h0]
 have nx0:=λli=>w8 li b pre (by have:=hb.2.1;omega)
 have Uu:=DJ b pre e ((qh _).1 hL e (by rw[he];exact List.mem_cons_self)) (hb.le (by omega))
 have FB:=nN e b.vars.length b.sites.length
 obtain⟨y,hy⟩:∃y,y=cB (b.vars.length+(cE b.vars.length b.sites.length e).2.vs.length) (b.is.length+(cE b.vars.length b.sites.length e).2.is.length+1) (b.sites.length+(cE b.vars.length b.sites.length e).2.ss.length) s.bd:=⟨_,rfl⟩
 rw[<-YA b (cE b.vars.length b.sites.length e) y _ hy]
 generalize cE b.vars.length b.sites.length e=x at *
 obtain⟨b1,M4⟩:∃b1,b1=b.plus (x.2.app (fY ⟨17,x.1,0,0,((b.is.length+x.2.is.length+1:Nat):Int),[]⟩)):=⟨_,rfl⟩
 have l1:b1.vars.length=b.vars.length+x.2.vs.length/\b1.is.length=b.is.length+x.2.is.length+1/\b1.sites.length=b.sites.length+x.2.ss.length:=by
  rw[M4];obtain⟨p,q,r⟩:=jd b (x.2.app (fY ⟨17,x.1,0,0,((b.is.length+x.2.is.length+1:Nat):Int),[]⟩));rw[p,q,r]
  simp[Out.app,fY,Nat.add_assoc]
 have g1:b1.is[b.is.length+x.2.is.length]?=some ⟨17,x.1,0,0,((b.is.length+x.2.is.length+1:Nat):Int),[]⟩:=by
  rw[M4];simp[Bl.plus,Out.app,fY]
 rw[<-M4]at Uu ⊢
 have f1:Fb b1 (2*Sm.dG s.bd+1):=by
  obtain⟨p1,p2,p3⟩:=hb
  obtain⟨q1,q2,q3⟩:=FB
  obtain⟨r1,r2,r3⟩:=l1
  exact⟨by omega,by omega,by omega⟩
 have B2:=eP s.bd rL b1 pre hB (f1.le (by omega))
 have Rz:=HO hB (b.vars.length+x.2.vs.length) (b.is.length+x.2.is.length+1) (b.sites.length+x.2.ss.length)
 rw[l1.1,l1.2.1,l1.2.2,<-hy]at B2
 rw[<-hy]at Rz
 have f2:=f1.plus Rz
 obtain⟨m1,m2,m3⟩:=jd b1 y
 have g2:(b1.plus y).is[b.is.length+x.2.is.length]?=some ⟨17,x.1,0,0,((b.is.length+x.2.is.length+1:Nat):Int),[]⟩:=by
  show (b1.is++y.is)[_]?=_
  rw[List.getElem?_append_left (by omega)];exact g1
 have ha:=nI (b1.plus y) pre ⟨16,0,0,0,(b.is.length:Int),[]⟩ (by have:=f2.2.1;omega)
 rw[ur,m2,l1.2.1]at ha
 obtain⟨b3,HQ⟩:∃b3,b3=(b1.plus y).plus (fY ⟨16,0,0,0,(b.is.length:Int),[]⟩):=⟨_,rfl⟩
 rw[<-HQ]at ha ⊢
 have l3:b3.is.length=b.is.length+x.2.is.length+1+y.is.length+1:=by
  rw[HQ];obtain⟨p,q,r⟩:=jd (b1.plus y) (fY ⟨16,0,0,0,(b.is.length:Int),[]⟩);rw[q,m2,l1.2.1]
  simp[fY]
 have g3:b3.is[b.is.length+x.2.is.length]?=some ⟨17,x.1,0,0,((b.is.length+x.2.is.length+1:Nat):Int),[]⟩:=by
  rw[HQ];show ((b1.plus y).is++_)[_]?=_
  rw[List.getElem?_append_left (by omega)];exact g2
 have YB:b3.is.length<1000000000:=by have:=f2.2.1;omega
 have YC:=λli=>w8 li b3 pre YB
 rw[l3]at YC
 obtain⟨r0,r1,r2,r3,r4,r5,r6,r7,r8,r9,r10,V,R,P3⟩:=QV b3 pre (by intro c;rw[c]at l3;simp at l3)
 have s3:=P3.set (b.is.length+x.2.is.length) ⟨17,x.1,0,((b.is.length+x.2.is.length+1+y.is.length+1:Nat):Int),((b.is.length+x.2.is.length+1:Nat):Int),[]⟩
 have q3:=P3.get _ _ g3
 have w3:b.is.length+x.2.is.length<R.length:=by rw[P3.len];omega
 have hn:nH []=.U:=rfl
 have e1:aG (aT s.es)=true:=bg
 have e2:(aT s.es).view=aT s.es:=bz
 have e3:aP (aT s.es)=[e.row]:=by show aP (aA _ _)=_;rw[aR,he];rfl
 have e4:cI 11 (aT s.es)=true:=zE
 have d1:aG (br s.bd)=true:=bE
 have d2:(br s.bd).view=br s.bd:=bJ
 have u1:aG (br s.el)=true:=bE
 have u2:(br s.el).view=br s.el:=bJ
 have k1:aG (aT e.kids)=true:=bg
 have k2:(aT e.kids).view=aT e.kids:=bz
 simp only[In.row,hn]at ha s3 q3
 simp only[pB,P3.eq,List.cons_append,List.nil_append]at nx0 Uu B2 ha YC s3
 rw[E.aE]at Uu e3
 rw[Sm.aE]
 refine ax (sf:=s64) rfl rfl rfl ?_
 generalize fO (b3.yl (b.is.length+x.2.is.length) ⟨17,x.1,0,((b.is.length+x.2.is.length+1+y.is.length+1:Nat):Int),((b.is.length+x.2.is.length+1:Nat):Int),[]⟩) pre=st6 at *
 generalize b.is.length+x.2.is.length+1+y.is.length+1=N4 at *
 generalize b.is.length+x.2.is.length+1+y.is.length=N3 at *
 generalize b.is.length+x.2.is.length+1=N2 at *
 generalize b.is.length+x.2.is.length=N1 at *
 generalize b.is.length=N0 at *
 generalize fO b pre=st at *
 generalize fO b1 pre=kV at *
 generalize fO (b1.plus y) pre=lf at *
 generalize aT e.kids=KV at *
 generalize aT s.es=EV at *
 generalize br s.bd=DV at *
 generalize br s.el=LV at *
 have v3:=λh:N1<R.length=>(List.getElem?_eq_some_iff.1 q3).2
 simp[s64,e1,e2,e3,e4,d1,d2,u1,k2,fA.bq,AV.view,pB,nx0,Uu,B2,ha,cut,af]
 rw[q8]
 simp[dm,gG,cT,bp,fA.bq,YC,w3,v3,bf,AV.ah,AV.an,cut,af,AV.view]
 refine⟨_,_,⟨rfl,rfl⟩,?_⟩
 simp[dK.same,AV.same,s3,cut,AV.view]
theorem rF (s:Sm):PS s:=by
 induction s using Sm.ind with
 |_ s rL rA=>
  intro b pre hL hb
  rw[HN]at hL
  obtain⟨h1,h2,h3,h4,h5,h6⟩:=hL
  have wW:=Sm.ni s
  have hn:nH []=.U:=rfl
  have e1:aG (aT s.es)=true:=bg
  have e2:(aT s.es).view=aT s.es:=bz
  have e4:cI 11 (aT s.es)=true:=zE
  have d1:aG (br s.bd)=true:=bE
  have d2:(br s.bd).view=br s.bd:=bJ
  have u1:aG (br s.el)=true:=bE
  have u2:(br s.el).view=br s.el:=bJ
  rw[KX]
  by_cases c:s.k=2\/s.k=3
  ·rw[if_pos c]
   have hx:=Yy b pre s (h2 (by omega)) h1 (h4 c) (hb.le (by omega))
   generalize fO (b.plus ((cE b.vars.length b.sites.length (ko s.es)).2.app (fY (HK s.ref (cE b.vars.length b.sites.length (ko s.es)).1)))) pre=kV at *
   rw[Sm.aE]at hx ⊢
   refine ax (sf:=Ew) rfl rfl rfl ?_
   generalize fO b pre=st at *
   generalize aT s.es=EV at *
   generalize br s.bd=DV at *
   generalize br s.el=LV at *
   simp only[pB]at hx
   rcases c with c|c<;>
   ·rw[c]at hx
    simp[Ew,e1,e2,d1,d2,u1,u2,fA.bq,AV.view,pB,c,hx,cut]
  rw[if_neg c]
  by_cases c4:s.k=4
  ·rw[if_pos c4]
   have hx:=IS b pre s (h3 c4).1 h1 (h3 c4).2 (hb.le (by omega))
   generalize fO (b.plus (E8 b.vars.length b.sites.length (ko s.es) (rO b.vars.length b.sites.length (ko s.es).kids) (λnv ns=>cE nv ns (MJ s.es)))) pre=kV at *
   rw[Sm.aE]at hx ⊢
   refine ax (sf:=Ew) rfl rfl rfl ?_
   generalize fO b pre=st at *
   generalize aT s.es=EV at *
   generalize br s.bd=DV at *
   generalize br s.el=LV at *
   simp only[pB]at hx
   rw[c4]at hx
   simp[Ew,e1,e2,d1,d2,u1,u2,fA.bq,AV.view,pB,c4,hx,cut]
  rw[if_neg c4]
  by_cases c5:s.k=5
  ·rw[if_pos c5]
   have hx:=MK s rL rA b pre (h2 (by omega)) h1 h5 h6 hb
   generalize fO (b.plus (Yn b.vars.length b.is.length b.sites.length (cE b.vars.length b.sites.length (ko s.es)) (λnv at_ ns=>cB nv at_ ns s.bd) (λnv at_ ns=>cB nv at_ ns s.el))) pre=kV at *
   rw[Sm.aE]at hx ⊢
   refine ax (sf:=Ew) rfl rfl rfl ?_
   generalize fO b pre=st at *
   generalize aT s.es=EV at *
   generalize br s.bd=DV at *
   generalize br s.el=LV at *
   simp only[pB]at hx
   rw[c5]at hx
   simp[Ew,e1,e2,d1,d2,u1,u2,fA.bq,AV.view,pB,c5,hx,cut]
  rw[if_neg c5]
  by_cases c6:s.k=6
  ·rw[if_pos c6]
   have hx:=ML s rL b pre (h2 (by omega)) h1 h5 hb
   generalize fO (b.plus (Yo b.vars.length b.is.length b.sites.length (cE b.vars.length b.sites.length (ko s.es)) (λnv at_ ns=>cB nv at_ ns s.bd))) pre=kV at *
   rw[Sm.aE]at hx ⊢
   refine ax (sf:=Ew) rfl rfl rfl ?_
   generalize fO b pre=st at *
   generalize aT s.es=EV at *
   generalize br s.bd=DV at *
   generalize br s.el=LV at *
   simp only[pB]at hx
   rw[c6]at hx
   simp[Ew,e1,e2,d1,d2,u1,u2,fA.bq,AV.view,pB,c6,hx,cut]
  rw[if_neg c6]
  by_cases c7:s.k=7
  ·rw[if_pos c7]
   cases o6:s.es with
   |nil=>
    have ha:=nI b pre ⟨18,-1,0,0,0,[]⟩ (by have:=hb.2.1;omega)
    rw[ur]at ha
    simp only[In.row,hn]at ha
    have e3:aP (aT s.es)=[]:=by show aP (aA _ _)=_;rw[aR,o6];rfl
    dsimp only
    generalize fO (b.plus (fY ⟨18,-1,0,0,0,[]⟩)) pre=kV at *
    rw[Sm.aE]
    refine ax (sf:=Ew) rfl rfl rfl ?_
    generalize fO b pre=st at *
    generalize aT s.es=EV at *
    generalize br s.bd=DV at *
    generalize br s.el=LV at *
    simp only[pB]at ha
    simp[Ew,e1,e2,e3,d1,u1,fA.bq,AV.view,pB,c7,ha,cut,af]
   |cons e l=>
    have dL:E.dG s.es=E.sz e+E.dG l:=by rw[o6];rfl
    have hx:=gx e b pre ((qh _).1 h1 e (by rw[o6];exact List.mem_cons_self)) (hb.le (by omega))
    have f1:=Fb.plus (hb.le (by omega:E.sz e+1<=_)) (nN e b.vars.length b.sites.length)
    dsimp only
    generalize cE b.vars.length b.sites.length e=x at *
    have ha:=nI (b.plus x.2) pre ⟨18,x.1,0,0,0,[]⟩ (by have:=f1.2.1;omega)
    rw[w9]at ha
    simp only[In.row,hn]at ha
    have e3:aP (aT s.es)=e.row::E.rows l:=by show aP (aA _ _)=_;rw[aR,o6];rfl
    have k1:aG (aT e.kids)=true:=bg
    have k2:(aT e.kids).view=aT e.kids:=bz
    generalize fO (b.plus (x.2.app (fY ⟨18,x.1,0,0,0,[]⟩))) pre=lf at *
    rw[E.aE]at hx e3
    rw[Sm.aE]
    refine ax (sf:=Ew) rfl rfl rfl ?_
    generalize fO b pre=st at *
    generalize fO (b.plus x.2) pre=kV at *
    generalize aT e.kids=KV at *
    generalize aT s.es=EV at *
    generalize br s.bd=DV at *
    generalize br s.el=LV at *
    simp only[pB]at ha hx
    simp[Ew,e1,e2,e3,e4,d1,u1,k2,fA.bq,AV.view,pB,c7,hx,ha,cut,af]
  rw[if_neg c7]
  have one:(s.k=8\/s.k=9)->∃e,s.es=[e]/\ko s.es=e/\E.dG s.es=E.sz e/\aP (aT s.es)=[e.row]/\LE e:=λh=>by
   obtain⟨e,he⟩:∃e,s.es=[e]:=⟨_,B1 (h2 (by omega))⟩
   exact⟨e,he,by rw[he];rfl,by rw[he];simp[E.dG],by show aP (aA _ _)=_;rw[aR,he];rfl,(qh _).1 h1 e (by rw[he];exact List.mem_cons_self)⟩
  by_cases c8:s.k=8
  ·rw[if_pos c8]
   obtain⟨e,o6,h0,dL,e3,hLe⟩:=one (.inl c8)
   rw[h0]
   have hx:=gx e b pre hLe (hb.le (by omega))
   have f1:=Fb.plus (hb.le (by omega:E.sz e+1<=_)) (nN e b.vars.length b.sites.length)
   generalize cE b.vars.length b.sites.length e=x at *
   have ha:=nI (b.plus x.2) pre ⟨15,x.1,0,0,0,[]⟩ (by have:=f1.2.1;omega)
   rw[w9]at ha
   simp only[In.row,hn]at ha
   have k1:aG (aT e.kids)=true:=bg
   have k2:(aT e.kids).view=aT e.kids:=bz
   generalize fO (b.plus (x.2.app (fY ⟨15,x.1,0,0,0,[]⟩))) pre=lf at *
   rw[E.aE]at hx e3
   rw[Sm.aE]
   refine ax (sf:=Ew) rfl rfl rfl ?_
   generalize fO b pre=st at *
   generalize fO (b.plus x.2) pre=kV at *
   generalize aT e.kids=KV at *
   generalize aT s.es=EV at *
   generalize br s.bd=DV at *
   generalize br s.el=LV at *
   simp only[pB]at ha hx
   simp[Ew,e1,e2,e3,e4,d1,u1,k2,fA.bq,AV.view,pB,c8,hx,ha,cut,af]
  rw[if_neg c8]
  by_cases c9:s.k=9
  ·rw[if_pos c9]
   obtain⟨e,o6,h0,dL,e3,hLe⟩:=one (.inr c9)
   rw[h0]
   have hx:=gx e b pre hLe (hb.le (by omega))
   generalize cE b.vars.length b.sites.length e=x at *
   have k1:aG (aT e.kids)=true:=bg
   have k2:(aT e.kids).view=aT e.kids:=bz
   rw[E.aE]at hx e3
   rw[Sm.aE]
   refine ax (sf:=Ew) rfl rfl rfl ?_
   generalize fO b pre=st at *
   generalize fO (b.plus x.2) pre=kV at *
   generalize aT e.kids=KV at *
   generalize aT s.es=EV at *
   generalize br s.bd=DV at *
   generalize br s.el=LV at *
   simp only[pB]at hx
   simp[Ew,e1,e2,e3,e4,d1,u1,k2,fA.bq,AV.view,pB,c9,hx,cut]
  rw[if_neg c9,Ac,Sm.aE]
  refine ax (sf:=Ew) rfl rfl rfl ?_
  generalize fO b pre=st at *
  generalize aT s.es=EV at *
  generalize br s.bd=DV at *
  generalize br s.el=LV at *
  have c2:¬s.k=2:=λh=>c (.inl h)
  have c3:¬s.k=3:=λh=>c (.inr h)
  simp[Ew,e1,d1,u1,fA.bq,AV.view,pB,c2,c3,c4,c5,c6,c7,c8,c9,cut]
end xD
