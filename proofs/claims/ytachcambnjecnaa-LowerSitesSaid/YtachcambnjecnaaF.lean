/-
  A program as codes, in plain terms.
-/
import Derived.Test.YtachcambnjecnaaP
import Derived.Test.YtachcambnjecnaaA6
import Derived.Test.YtachcambnjecnaaD

set_option maxRecDepth 100000
set_option maxHeartbeats 4000000
namespace wo
open Ax Go V7 kL lV
structure In where
 op:Int
 a:Int
 b:Int
 c:Int
 n:Int
 args:List Int
def ou(l:List Int):AV:=aB 1 (cM l)
def In.row(i:In):List AV:=[.int .i64 i.op,.int .i64 i.a,.int .i64 i.b,.int .i64 i.c,.int .i64 i.n,ou i.args]
structure l7 where
 vs:List T3
 is:List In
 ss:List T3
def O0:l7:=⟨[],[],[]⟩
def l7.gb(x y:l7):l7:=⟨x.vs++y.vs,x.is++y.is,x.ss++y.ss⟩
def gK(i:In):l7:=⟨[],[i],[]⟩
def yU(l:List Int):Int:=match l with|a::_=>a | []=>0
def IU(l:List Int):Int:=match l with|_::a::_=>a|_=>0
def fJ(k n cN t ZT:Int)(l:List Int):In:=
 if k=1\/k=2 then ⟨1,t,0,0,n,[]⟩
 else if k=3 then ⟨2,t,0,0,0,[]⟩
 else if k=4 then ⟨19,t,0,0,-1-cN,[]⟩
 else if k=5 then ⟨6,t,yU l,cN,0,[]⟩
 else if k=6 then ⟨8,t,yU l,IU l,0,[]⟩
 else if k=7 then ⟨13,t,0,cN,0,l⟩
 else if k=8 then ⟨11,t,0,0,ZT,[]⟩
 else if k=9 then ⟨12,t,yU l,0,ZT,[]⟩
 else if k=10 then ⟨10,t,yU l,0,0,[]⟩
 else if k=11 then ⟨14,t,0,0,0,[]⟩
 else if k=12\/k=13 then ⟨5,t,yU l,0,k,[]⟩
 else ⟨4,t,yU l,IU l,k,[]⟩
def cK(nv ns:Nat)(k n cN:Int)(ty:T3)(x:List Int×l7):Int×l7:=
 if ty=T0 then (-1,x.2.gb (gK ⟨13,-1,0,cN,0,x.1⟩))
 else (((nv+x.2.vs.length:Nat):Int),x.2.gb ⟨[ty],[fJ k n cN ((nv+x.2.vs.length:Nat):Int) ((ns+x.2.ss.length:Nat):Int) x.1],if k=8\/k=9 then [ty] else []⟩)
mutual
def cE(nv ns:Nat):E->Int×l7
 |.mk k n _ _ _ az _ ty cN=>if k=4/\0<=cN then (cN,O0) else cK nv ns k n cN ty (tG nv ns az)
def tG(nv ns:Nat):List E->List Int×l7
 |[]=>([],O0)
 |e::l=>((cE nv ns e).1::(tG (nv+(cE nv ns e).2.vs.length) (ns+(cE nv ns e).2.ss.length) l).1,(cE nv ns e).2.gb (tG (nv+(cE nv ns e).2.vs.length) (ns+(cE nv ns e).2.ss.length) l).2)
end
def E0:E:=.mk 0 0 [] [] 0 [] 0 T0 0
def k7(es:List E):E:=match es with|e::_=>e | []=>E0
def N8(es:List E):E:=match es with|_::e::_=>e|_=>E0
def EI(nv at_ ns:Nat)(x:l7)(f:Nat->Nat->Nat->l7):l7:=x.gb (f (nv+x.vs.length) (at_+x.is.length) (ns+x.ss.length))
def IW(cN v:Int):In:=if cN<0 then ⟨20,v,0,0,-1-cN,[]⟩ else ⟨3,cN,v,0,0,[]⟩
def R3(k cN v:Int)(l:List Int):In:=if k=5 then ⟨7,yU l,v,cN,0,[]⟩ else ⟨9,yU l,IU l,v,0,[]⟩
def ZU(nv at_ ns:Nat)(x:Int×l7)(f g:Nat->Nat->Nat->l7):l7:=
 let i:=at_+x.2.is.length
 let b:=f (nv+x.2.vs.length) (i+1) (ns+x.2.ss.length)
 let j:=i+1+b.is.length
 let c:=g (nv+x.2.vs.length+b.vs.length) (j+1) (ns+x.2.ss.length+b.ss.length)
 ⟨x.2.vs++b.vs++c.vs,x.2.is++⟨17,x.1,0,((j+1:Nat):Int),((i+1:Nat):Int),[]⟩::(b.is++⟨16,0,0,0,((j+1+c.is.length:Nat):Int),[]⟩::c.is),x.2.ss++b.ss++c.ss⟩
def ZV(nv at_ ns:Nat)(x:Int×l7)(f:Nat->Nat->Nat->l7):l7:=
 let i:=at_+x.2.is.length
 let b:=f (nv+x.2.vs.length) (i+1) (ns+x.2.ss.length)
 let j:=i+1+b.is.length
 ⟨x.2.vs++b.vs,x.2.is++⟨17,x.1,0,((j+1:Nat):Int),((i+1:Nat):Int),[]⟩::(b.is++[⟨16,0,0,0,(at_:Int),[]⟩]),x.2.ss++b.ss⟩
def Ge(nv ns:Nat)(e:E)(x:List Int×l7)(f:Nat->Nat->Int×l7):l7:=
 let v:=f (nv+x.2.vs.length) (ns+x.2.ss.length)
 (x.2.gb v.2).gb (gK (R3 e.k e.cN v.1 x.1))
mutual
def cS(nv at_ ns:Nat):Sm->l7
 |.mk k _ _ _ es bd el _ cN=>
  if k=2\/k=3 then (cE nv ns (k7 es)).2.gb (gK (IW cN (cE nv ns (k7 es)).1))
  else if k=4 then Ge nv ns (k7 es) (tG nv ns (k7 es).az) (λnv ns=>cE nv ns (N8 es))
  else if k=5 then ZU nv at_ ns (cE nv ns (k7 es)) (λnv at_ ns=>cB nv at_ ns bd) (λnv at_ ns=>cB nv at_ ns el)
  else if k=6 then ZV nv at_ ns (cE nv ns (k7 es)) (λnv at_ ns=>cB nv at_ ns bd)
  else if k=7 then (match es with
   |[]=>gK ⟨18,-1,0,0,0,[]⟩
   |e::_=>(cE nv ns e).2.gb (gK ⟨18,(cE nv ns e).1,0,0,0,[]⟩))
  else if k=8 then (cE nv ns (k7 es)).2.gb (gK ⟨15,(cE nv ns (k7 es)).1,0,0,0,[]⟩)
  else if k=9 then (cE nv ns (k7 es)).2
  else O0
def cB(nv at_ ns:Nat):List Sm->l7
 |[]=>O0
 |s::l=>EI nv at_ ns (cS nv at_ ns s) (λnv at_ ns=>cB nv at_ ns l)
end
structure Cd where
 params:Nat
 vars:List T3
 bO:Bool
 br:T3
 is:List In
def Cd.row(c:Cd):List AV:=[.int .i64 c.params,aB 3 (c.vars.map T3.cells),.bool c.bO,.int .i64 c.br.b,.int .i64 c.br.r,.int .i64 c.br.d,aB 6 (c.is.map In.row)]
structure Sd where
 fn:Nat
 ty:T3
def Sd.row(s:Sd):List AV:=[.int .i64 s.fn,.int .i64 s.ty.b,.int .i64 s.ty.r,.int .i64 s.ty.d]
def Gf(s:Sg)(t:Nat):List In:=if s.bO then [⟨if xM s.br then 2 else 1,(t:Int),0,0,0,[]⟩,⟨18,(t:Int),0,0,0,[]⟩] else [⟨18,-1,0,0,0,[]⟩]
def iq(ns:Nat)(b:Bd):l7:=cB b.vars.length 0 ns b.code
def ct(ns:Nat)(s:Sg)(b:Bd):Cd:=
 ⟨s.ps.length,b.vars.map (·.ty)++(iq ns b).vs++(if s.bO then [s.br] else []),s.bO,s.br,(iq ns b).is++Gf s (b.vars.length+(iq ns b).vs.length)⟩
def C2(cs:List Cd)(ss:List Sd)(all:Nat):List Sg->List Bd->Except Int (List Cd×List Sd)
 |s::sg,b::bs=>
  if 4000<(ct ss.length s b).vars.length\/2500<all+(ct ss.length s b).is.length\/60<ss.length+(iq ss.length b).ss.length then .error b.a
  else C2 (cs++[ct ss.length s b]) (ss++(iq ss.length b).ss.map (λt=>⟨cs.length,t⟩)) (all+(ct ss.length s b).is.length) sg bs
 |_,_=>.ok (cs,ss)
theorem IX(nv ns:Nat)(e:E):cE nv ns e=if e.k=4/\0<=e.cN then (e.cN,O0) else cK nv ns e.k e.n e.cN e.ty (tG nv ns e.az):=by
 obtain⟨k,n,nm,on,od,az,a,ty,cN⟩:=e
 (conv=>lhs;unfold cE)<;>rfl
theorem uC(nv ns:Nat)(e:E)(l:List E):tG nv ns (e::l)=((cE nv ns e).1::(tG (nv+(cE nv ns e).2.vs.length) (ns+(cE nv ns e).2.ss.length) l).1,(cE nv ns e).2.gb (tG (nv+(cE nv ns e).2.vs.length) (ns+(cE nv ns e).2.ss.length) l).2):=by
 (conv=>lhs;unfold tG)<;>rfl
theorem Mi(nv at_ ns:Nat)(s:Sm):cS nv at_ ns s =
  if s.k=2\/s.k=3 then (cE nv ns (k7 s.es)).2.gb (gK (IW s.cN (cE nv ns (k7 s.es)).1))
  else if s.k=4 then Ge nv ns (k7 s.es) (tG nv ns (k7 s.es).az) (λnv ns=>cE nv ns (N8 s.es))
  else if s.k=5 then ZU nv at_ ns (cE nv ns (k7 s.es)) (λnv at_ ns=>cB nv at_ ns s.bd) (λnv at_ ns=>cB nv at_ ns s.el)
  else if s.k=6 then ZV nv at_ ns (cE nv ns (k7 s.es)) (λnv at_ ns=>cB nv at_ ns s.bd)
  else if s.k=7 then (match s.es with
   |[]=>gK ⟨18,-1,0,0,0,[]⟩
   |e::_=>(cE nv ns e).2.gb (gK ⟨18,(cE nv ns e).1,0,0,0,[]⟩))
  else if s.k=8 then (cE nv ns (k7 s.es)).2.gb (gK ⟨15,(cE nv ns (k7 s.es)).1,0,0,0,[]⟩)
  else if s.k=9 then (cE nv ns (k7 s.es)).2
  else O0:=by
 obtain⟨k,nm,on,od,es,bd,el,a,cN⟩:=s
 (conv=>lhs;unfold cS)<;>rfl
theorem Gg(nv at_ ns:Nat):cB nv at_ ns []=O0:=by unfold cB;rfl
theorem yc(nv at_ ns:Nat)(s:Sm)(l:List Sm):cB nv at_ ns (s::l)=EI nv at_ ns (cS nv at_ ns s) (λnv at_ ns=>cB nv at_ ns l):=by
 (conv=>lhs;unfold cB)<;>rfl
theorem Mj(x y z:l7):(x.gb y).gb z=x.gb (y.gb z):=by simp[l7.gb]
end wo
namespace wo
open Ax Go V7 kL lV
mutual
def LE:E->Prop
 |.mk k _ _ _ _ az _ ty cN=>(ty=T0->k=7)/\(k=5\/k=9\/k=10\/k=12\/k=13->az.length=1)/\(k=6\/14<=k->az.length=2)/\(0<k/\k<25)/\(k=4→-1000000000<cN)/\LL az
def LL:List E->Prop
 |[]=>True
 |e::l=>LE e/\LL l
end
theorem R4(e:E):LE e↔(e.ty=T0->e.k=7)/\(e.k=5\/e.k=9\/e.k=10\/e.k=12\/e.k=13->e.az.length=1)/\(e.k=6\/14<=e.k->e.az.length=2)/\(0<e.k/\e.k<25)/\(e.k=4→-1000000000<e.cN)/\LL e.az:=by
 cases e;unfold LE;exact Iff.rfl
theorem qZ:∀l:List E,LL l↔∀e∈l,LE e
 |[]=>by simp[LL]
 |e::l=>by simp[LL,qZ l]
theorem VK(x y:l7):(x.gb y).vs.length=x.vs.length+y.vs.length/\(x.gb y).is.length=x.is.length+y.is.length/\(x.gb y).ss.length=x.ss.length+y.ss.length:=by simp[l7.gb]
def Lo(o:l7)(n:Nat):Prop:=o.vs.length<=n/\o.is.length<=n/\o.ss.length<=n
theorem Lo.gb{x y:l7}{n m:Nat}(h:Lo x n)(g:Lo y m):Lo (x.gb y) (n+m):=by
 obtain⟨a,b,c⟩:=VK x y
 obtain⟨h1,h2,h3⟩:=h
 obtain⟨g1,g2,g3⟩:=g
 exact⟨by omega,by omega,by omega⟩
theorem Lo.le{x:l7}{n m:Nat}(h:Lo x n)(g:n<=m):Lo x m:=⟨by have:=h.1;omega,by have:=h.2.1;omega,by have:=h.2.2;omega⟩
theorem R5{l:List E}(ih:∀e∈l,∀nv ns,Lo (cE nv ns e).2 (E.sz e)):∀nv ns,Lo (tG nv ns l).2 (E.eA l):=by
 induction l with
 |nil=>intro nv ns;simp[tG,O0,Lo,E.eA]
 |cons e l NN=>
  intro nv ns
  rw[uC]
  simp only[E.eA]
  exact(ih e List.mem_cons_self nv ns).gb (NN (λx hx=>ih x (List.mem_cons_of_mem _ hx)) _ _)
theorem oC(e:E):∀nv ns,Lo (cE nv ns e).2 (E.sz e):=by
 induction e using E.vp with
 |_ e ih=>
  intro nv ns
  have hk:=E.sK e
  rw[IX]
  split
  ·simp[Lo,O0]
  ·have h:=R5 ih nv ns
   unfold cK
   split
   ·exact(h.gb (y:=gK _) (m:=1) (by simp[Lo,gK])).le (by omega)
   ·refine(h.gb (m:=1) ?_).le (by omega)
    refine⟨by simp,by simp,?_⟩
    simp only
    split<;>simp
theorem KG(l:List E)(nv ns:Nat):Lo (tG nv ns l).2 (E.eA l):=R5 (λe _=>oC e) nv ns
theorem CU{l:List E}{k:Nat}(h:k<l.length):(E.rows l)[k]?=some l[k].row:=by simp[iu,h]
theorem wU{l:List E}{k:Nat}(h:k<l.length)(h2:k<(E.rows l).length):(E.rows l)[k]=l[k].row:=by simp[iu]
theorem zL{sz:Nat}{r:List (List AV)}(h:bU sz r=true):dc sz (aB sz r)=true:=by
 cases r with
 |nil=>rfl
 |cons a r=>simpa [dc] using h
theorem zE{l:List E}:dc 11 (aW l)=true:=zL (by simp[bU,iu,E.aG])
theorem zI{l:List Int}:dc 1 (aB 1 (cM l))=true:=zL (by simp[bU,cM])
mutual
def LS:Sm->Prop
 |.mk k _ _ _ es bd el _ cN=>LL es/\(k=2\/k=3\/k=5\/k=6\/k=8\/k=9->es.length=1)/\(k=4->es.length=2/\((k7 es).k=5\/(k7 es).k=6))/\(k=2\/k=3→-1000000000<cN)/\LB bd/\LB el
def LB:List Sm->Prop
 |[]=>True
 |s::l=>LS s/\LB l
end
theorem IY(s:Sm):LS s↔LL s.es/\(s.k=2\/s.k=3\/s.k=5\/s.k=6\/s.k=8\/s.k=9->s.es.length=1)/\(s.k=4->s.es.length=2/\((k7 s.es).k=5\/(k7 s.es).k=6))/\(s.k=2\/s.k=3→-1000000000<s.cN)/\LB s.bd/\LB s.el:=by
 cases s;unfold LS;exact Iff.rfl
theorem Gh:∀l:List Sm,LB l↔∀s∈l,LS s
 |[]=>by simp[LB]
 |s::l=>by simp[LB,Gh l]
theorem CV{es:List E}(h:es.length=1):es=[k7 es]:=by
 match es,h with
 |[e],_=>rfl
theorem R6{es:List E}(h:es.length=2):es=[k7 es,N8 es]:=by
 match es,h with
 |[e,f],_=>rfl
theorem ZW{l:List Int}(h:l.length=1):cM l=[[.int .i64 (yU l)]]:=by
 match l,h with
 |[a],_=>rfl
theorem ZY{l:List Int}(h:l.length=2):cM l=[[.int .i64 (yU l)],[.int .i64 (IU l)]]:=by
 match l,h with
 |[a,b],_=>rfl
theorem R7{l:List Sm}(ih:∀s∈l,∀nv a ns,Lo (cS nv a ns s) (2*Sm.sz s)):∀nv a ns,Lo (cB nv a ns l) (2*Sm.eA l):=by
 induction l with
 |nil=>intro nv a ns;rw[Gg];simp[Lo,O0]
 |cons s l NN=>
  intro nv a ns
  rw[yc]
  unfold EI
  exact((ih s List.mem_cons_self nv a ns).gb (NN (λx hx=>ih x (List.mem_cons_of_mem _ hx)) _ _ _)).le (by simp only[Sm.eA];omega)
theorem C3{es:List E}(h:es.length≠0):E.sz (k7 es)<=E.eA es:=by
 match es,h with
 |e::l,_=>simp[k7,E.eA]
theorem Xk(s:Sm):LS s->∀nv a ns,Lo (cS nv a ns s) (2*Sm.sz s):=by
 induction s using Sm.vp with
 |_ s sZ tu=>
  intro hL nv a ns
  rw[IY]at hL
  obtain⟨h1,h2,h3,_,h5,h6⟩:=hL
  rw[Gh]at h5 h6
  have eH:=Sm.nV s
  have one:∀i,Lo (gK i) 1:=λi=>by simp[Lo,gK]
  have f:=λnv a ns=>R7 (λx hx=>sZ x hx (h5 x hx)) nv a ns
  have g:=λnv a ns=>R7 (λx hx=>tu x hx (h6 x hx)) nv a ns
  rw[Mi]
  by_cases c:s.k=2\/s.k=3
  ·rw[if_pos c]
   have:=C3 (es:=s.es) (by rw[h2 (by omega)];decide)
   exact((oC _ _ _).gb (one _)).le (by omega)
  rw[if_neg c]
  by_cases c4:s.k=4
  ·rw[if_pos c4]
   obtain⟨e,f,he⟩:∃e f,s.es=[e,f]:=⟨_,_,R6 (h3 c4).1⟩
   have q1:k7 s.es=e:=by rw[he];rfl
   have q2:N8 s.es=f:=by rw[he];rfl
   have q3:E.eA s.es=E.sz e+E.sz f:=by rw[he];simp[E.eA]
   have q4:=E.sK e
   rw[q1,q2]
   unfold Ge
   exact(((KG _ _ _).gb (oC _ _ _)).gb (one _)).le (by omega)
  rw[if_neg c4]
  by_cases c5:s.k=5
  ·rw[if_pos c5]
   have:=C3 (es:=s.es) (by rw[h2 (by omega)];decide)
   unfold ZU
   dsimp only
   obtain⟨a1,a2,a3⟩:=oC (k7 s.es) nv ns
   have b1:=f (nv+(cE nv ns (k7 s.es)).2.vs.length) (a+(cE nv ns (k7 s.es)).2.is.length+1) (ns+(cE nv ns (k7 s.es)).2.ss.length)
   generalize cE nv ns (k7 s.es)=x at *
   generalize cB (nv+x.2.vs.length) (a+x.2.is.length+1) (ns+x.2.ss.length) s.bd=y at *
   have c1:=g (nv+x.2.vs.length+y.vs.length) (a+x.2.is.length+1+y.is.length+1) (ns+x.2.ss.length+y.ss.length)
   generalize cB (nv+x.2.vs.length+y.vs.length) (a+x.2.is.length+1+y.is.length+1) (ns+x.2.ss.length+y.ss.length) s.el=z at *
   obtain⟨b1,b2,b3⟩:=b1
   obtain⟨c1,c2,c3⟩:=c1
   refine⟨?_,?_,?_⟩<;>simp only[List.length_append,List.length_cons]<;>omega
  rw[if_neg c5]
  by_cases c6:s.k=6
  ·rw[if_pos c6]
   have:=C3 (es:=s.es) (by rw[h2 (by omega)];decide)
   unfold ZV
   dsimp only
   obtain⟨a1,a2,a3⟩:=oC (k7 s.es) nv ns
   have b1:=f (nv+(cE nv ns (k7 s.es)).2.vs.length) (a+(cE nv ns (k7 s.es)).2.is.length+1) (ns+(cE nv ns (k7 s.es)).2.ss.length)
   generalize cE nv ns (k7 s.es)=x at *
   generalize cB (nv+x.2.vs.length) (a+x.2.is.length+1) (ns+x.2.ss.length) s.bd=y at *
   obtain⟨b1,b2,b3⟩:=b1
   refine⟨?_,?_,?_⟩<;>simp only[List.length_append,List.length_cons,List.length_nil]<;>omega
  rw[if_neg c6]
  by_cases c7:s.k=7
  ·rw[if_pos c7]
   match qe:s.es with
   |[]=>exact(one _).le (by omega)
   |e::l=>
    have:E.eA s.es=E.sz e+E.eA l:=by rw[qe];rfl
    exact((oC _ _ _).gb (one _)).le (by omega)
  rw[if_neg c7]
  by_cases c8:s.k=8
  ·rw[if_pos c8]
   have:=C3 (es:=s.es) (by rw[h2 (by omega)];decide)
   exact((oC _ _ _).gb (one _)).le (by omega)
  rw[if_neg c8]
  by_cases c9:s.k=9
  ·rw[if_pos c9]
   have:=C3 (es:=s.es) (by rw[h2 (by omega)];decide)
   exact(oC _ _ _).le (by omega)
  rw[if_neg c9]
  simp[Lo,O0]
theorem IZ{l:List Sm}(h:LB l)(nv a ns:Nat):Lo (cB nv a ns l) (2*Sm.eA l):=R7 (λs hs=>Xk s ((Gh _).1 h s hs)) nv a ns
theorem CX{l:List Sm}{k:Nat}(h:k<l.length):(Sm.rows l)[k]?=some l[k].row:=by simp[gH,h]
theorem ya{l:List Sm}{k:Nat}(h:k<l.length)(h2:k<(Sm.rows l).length):(Sm.rows l)[k]=l[k].row:=by simp[gH]
end wo
namespace wo
open Ax Go V7 kL lV
def tf(vs:List T3)(t:T3)(a:Int):Prop:=∃k:Nat,a=k/\vs[k]?=some t
theorem tf.gb{vs ws:List T3}{t:T3}{a:Int}(h:tf vs t a):tf (vs++ws) t a:=by
 obtain⟨k,h1,h2⟩:=h
 exact⟨k,h1,by rw[List.getElem?_append_left (List.getElem?_eq_some_iff.1 h2).1];exact h2⟩
def ze(vs:List T3):List Vd->List Int->Prop
 |[],[]=>True
 |p::ps,a::l=>tf vs p.ty a/\ze vs ps l
 |_,_=>False
theorem ze.gb{vs ws:List T3}:∀{ps:List Vd}{l:List Int},ze vs ps l->ze (vs++ws) ps l
 |[],[],_=>trivial
 |_::_,_::_,h=>⟨h.1.gb,ze.gb h.2⟩
 |[],_::_,h=>h.elim
 |_::_,[],h=>h.elim
inductive wm (H:Hd) (f:Nat) (bO:Bool) (br:T3) (vs:List T3) (ss:List Sd) (m:Nat):In->Prop
 |c1 {a n:Int}:tf vs tI a->wm H f bO br vs ss m ⟨1,a,0,0,n,[]⟩
 |c1b {a n:Int}:tf vs tB a->n=0\/n=1->wm H f bO br vs ss m ⟨1,a,0,0,n,[]⟩
 |c2 {a:Int} {t:T3}:tf vs t a->xM t=true->wm H f bO br vs ss m ⟨2,a,0,0,0,[]⟩
 |c3 {a b:Int} {t:T3}:tf vs t a->tf vs t b->wm H f bO br vs ss m ⟨3,a,b,0,0,[]⟩
 |c4 {a b c k:Int} {ta tb t:T3} {r:Int}:tf vs ta b->tf vs tb c->lV.FJ k ta tb=some (t,r)->14<=k/\k<=24->tf vs t a->wm H f bO br vs ss m ⟨4,a,b,c,k,[]⟩
 |c5i {a b:Int}:tf vs tI a->tf vs tI b->wm H f bO br vs ss m ⟨5,a,b,0,12,[]⟩
 |c5b {a b:Int}:tf vs tB a->tf vs tB b->wm H f bO br vs ss m ⟨5,a,b,0,13,[]⟩
 |c6 {a b:Int} {r j:Nat} {s:List UInt8×List Vd} {v:Vd}:tf vs ⟨3,r,0⟩ b->H.cF[r]?=some s->s.2[j]?=some v->tf vs v.ty a->wm H f bO br vs ss m ⟨6,a,b,j,0,[]⟩
 |c7 {a b:Int} {r j:Nat} {s:List UInt8×List Vd} {v:Vd}:tf vs ⟨3,r,0⟩ a->H.cF[r]?=some s->s.2[j]?=some v->tf vs v.ty b->wm H f bO br vs ss m ⟨7,a,b,j,0,[]⟩
 |c8 {a b c:Int} {t:T3}:tf vs t b->0<t.d->tf vs ⟨t.b,t.r,t.d-1⟩ a->tf vs tI c->wm H f bO br vs ss m ⟨8,a,b,c,0,[]⟩
 |c9 {a b c:Int} {t:T3}:tf vs t a->0<t.d->tf vs ⟨t.b,t.r,t.d-1⟩ c->tf vs tI b->wm H f bO br vs ss m ⟨9,a,b,c,0,[]⟩
 |Ab {a b:Int} {t:T3}:tf vs tI a->tf vs t b->0<t.d->wm H f bO br vs ss m ⟨10,a,b,0,0,[]⟩
 |Js {a:Int} {n:Nat} {t:T3}:tf vs t a->t.b=3->t.d=0->ss[n]?=some ⟨f,t⟩->wm H f bO br vs ss m ⟨11,a,0,0,n,[]⟩
 |Il {a b:Int} {n:Nat} {t:T3}:tf vs t a->0<t.d->ss[n]?=some ⟨f,t⟩->tf vs tI b->wm H f bO br vs ss m ⟨12,a,b,0,n,[]⟩
 |L7 {a:Int} {j:Nat} {s:Sg} {l:List Int}:H.sigs[j]?=some s->ze vs s.ps l->(a = -1\/s.bO=true/\tf vs s.br a)->wm H f bO br vs ss m ⟨13,a,0,j,0,l⟩
 |c14 {a:Int}:tf vs tI a->wm H f bO br vs ss m ⟨14,a,0,0,0,[]⟩
 |c15 {a:Int}:tf vs tI a->wm H f bO br vs ss m ⟨15,a,0,0,0,[]⟩
 |c16 {n:Nat}:n<=m->wm H f bO br vs ss m ⟨16,0,0,0,n,[]⟩
 |c17 {a:Int} {n c:Nat}:tf vs tB a->n<=m->c<=m->wm H f bO br vs ss m ⟨17,a,0,c,n,[]⟩
 |c18 {a:Int}:(if bO=true then tf vs br a else a = -1)->wm H f bO br vs ss m ⟨18,a,0,0,0,[]⟩
 |c19 {a:Int} {j:Nat} {v:Vd}:H.globals[j]?=some v->tf vs v.ty a->wm H f bO br vs ss m ⟨19,a,0,0,j,[]⟩
 |c20 {a:Int} {j:Nat} {v:Vd}:H.globals[j]?=some v->tf vs v.ty a->wm H f bO br vs ss m ⟨20,a,0,0,j,[]⟩
variable {H:Hd}{f:Nat}{bO:Bool}{br:T3}
theorem A5{α:Type}{l r:List α}{k:Nat}{x:α}(h:l[k]?=some x):(l++r)[k]?=some x:=by
 rw[List.getElem?_append_left (List.getElem?_eq_some_iff.1 h).1];exact h
theorem wm.mono{vs ws:List T3}{ss ts:List Sd}{m m':Nat}{i:In}(h:wm H f bO br vs ss m i)(hm:m<=m'):wm H f bO br (vs++ws) (ss++ts) m' i:=by
 cases h with
 |c1 a=>exact .c1 a.gb
 |c1b a b=>exact .c1b a.gb b
 |c2 a b=>exact .c2 a.gb b
 |c3 a b=>exact .c3 a.gb b.gb
 |c4 a b c d e=>exact .c4 a.gb b.gb c d e.gb
 |c5i a b=>exact .c5i a.gb b.gb
 |c5b a b=>exact .c5b a.gb b.gb
 |c6 a b c d=>exact .c6 a.gb b c d.gb
 |c7 a b c d=>exact .c7 a.gb b c d.gb
 |c8 a b c d=>exact .c8 a.gb b c.gb d.gb
 |c9 a b c d=>exact .c9 a.gb b c.gb d.gb
 |Ab a b c=>exact .Ab a.gb b.gb c
 |Js a b c d=>exact .Js a.gb b c (A5 d)
 |Il a b c d=>exact .Il a.gb b (A5 c) d.gb
 |L7 a b c=>exact .L7 a b.gb (c.imp id λh=>⟨h.1,h.2.gb⟩)
 |c14 a=>exact .c14 a.gb
 |c15 a=>exact .c15 a.gb
 |c16 a=>exact .c16 (by omega)
 |c17 a b c=>exact .c17 a.gb (by omega) (by omega)
 |c18 a=>
  refine .c18 ?_
  split
  ·rename_i q;rw[if_pos q]at a;exact a.gb
  ·rename_i q;rw[if_neg q]at a;exact a
 |c19 a b=>exact .c19 a b.gb
 |c20 a b=>exact .c20 a b.gb
def ZZ(V:List Vd)(vs:List T3):Prop:=∀(k:Nat)(v:Vd),V[k]?=some v->vs[k]?=some v.ty
theorem ZZ.gb{V:List Vd}{vs ws:List T3}(h:ZZ V vs):ZZ V (vs++ws):=λk v hk=>A5 (h k v hk)
structure Tm (H:Hd)(f:Nat)(bO:Bool)(br:T3)(vs:List T3)(ss:List Sd)(m:Nat)(o:l7):Prop where
 is:∀i∈o.is,wm H f bO br (vs++o.vs) (ss++o.ss.map (Sd.mk f)) m i
theorem Tm.nil{vs:List T3}{ss:List Sd}{m:Nat}:Tm H f bO br vs ss m O0:=⟨by simp[O0]⟩
theorem Tm.gb{vs:List T3}{ss:List Sd}{m m1 m2:Nat}{x y:l7}(h:Tm H f bO br vs ss m1 x)(k:Tm H f bO br (vs++x.vs) (ss++x.ss.map (Sd.mk f)) m2 y)(h1:m1<=m)(h2:m2<=m):Tm H f bO br vs ss m (x.gb y):=by
 refine⟨λi hi=>?_⟩
 simp only[l7.gb,List.map_append,<-List.append_assoc]
 rcases List.mem_append.1 hi with hi|hi
 ·exact(h.is i hi).mono h1
 ·have:=(k.is i hi).mono (ws:=[]) (ts:=[]) h2
  simpa using this
theorem qa{s:List UInt8}:∀{l:List Vd}{i k:Nat}{t:T3},ij s i l=some (k,t)->i<=k/\∃v,l[k-i]?=some v/\v.ty=t
 |[],_,_,_,h=>by cases h
 |f::l,i,k,t,h=>by
  unfold ij at h
  split at h
  ·cases h;exact⟨Nat.le_refl _,f,by simp,rfl⟩
  ·obtain⟨h1,v,h2,h3⟩:=qa h
   have e:k-i=(k-(i+1))+1:=by omega
   exact⟨by omega,v,by rw[e,List.getElem?_cons_succ];exact h2,h3⟩
theorem EJ{s:List UInt8}:∀{l:List Sg}{i k:Nat}{t:Sg},oB s i l=some (k,t)->i<=k/\l[k-i]?=some t
 |[],_,_,_,h=>by cases h
 |g::l,i,k,t,h=>by
  unfold oB at h
  split at h
  ·cases h;exact⟨Nat.le_refl _,by simp⟩
  ·obtain⟨h1,h2⟩:=EJ h
   have e:k-i=(k-(i+1))+1:=by omega
   exact⟨by omega,by rw[e,List.getElem?_cons_succ];exact h2⟩
end wo
namespace wo
open Ax Go V7 kL lV
variable {H:Hd}{f:Nat}{bO:Bool}{br:T3}{V:List Vd}
def BT(t:T3):Prop:=1<=t.b/\t.b<=3
theorem BT.ne{t:T3}(h:BT t):t≠T0:=λe=>by rw[e]at h;exact absurd h.1 (by decide)
structure Hd.gd (H:Hd):Prop where
 cF:∀s∈H.cF,∀f∈s.2,BT f.ty
 globals:∀f∈H.globals,BT f.ty
 ps:∀s∈H.sigs,∀f∈s.ps,BT f.ty
 br:∀s∈H.sigs,s.br≠T0->BT s.br/\s.bO=true
theorem vD{l:List (List UInt8)}{s:List UInt8}{d:Int}(h:(dh l s d).2=true):BT (dh l s d).1:=by
 unfold dh at h ⊢
 split
 ·rename_i c;rw[if_pos c]at h;cases h
 rename_i c
 rw[if_neg c]at h
 split
 ·exact⟨by show (1:Int)<=1;decide,by show (1:Int)<=3;decide⟩
 rename_i c2
 rw[if_neg c2]at h
 split
 ·exact⟨by show (1:Int)<=2;decide,by show (2:Int)<=3;decide⟩
 rename_i c3
 rw[if_neg c3]at h
 split
 ·rename_i c4;rw[if_pos c4]at h;cases h
 ·exact⟨by show (1:Int)<=3;decide,by show (3:Int)<=3;decide⟩
theorem iY{b:Bool}{t u:T3}{r:Int}(h:GK b t=some (u,r)):b=true/\u=t/\r=0:=by
 unfold GK at h
 cases b with
 |false=>cases h
 |true=>cases h;exact⟨rfl,rfl,rfl⟩
theorem mem_of{α:Type}{l:List α}{k:Nat}{x:α}(h:l[k]?=some x):x∈l:=List.mem_of_getElem? h
theorem ajK{ks:List E}(h:ks.length=2):∃a b,ks=[a,b]:=by
 match ks,h with
 |[a,b],_=>exact⟨a,b,rfl⟩
theorem Z0(hG:Hd.gd H)(hV:∀v∈V,BT v.ty){k n:Int}{nm on:List UInt8}{od:Int}{ks:List E}{t:T3}{r:Int}(hk:dY k n ks.length=true)(oy:∀e∈ks,BT e.ty)(h:oO H V k nm on od ks=some (t,r)):(t=T0->k=7)/\(t≠T0->BT t):=by
 have bI:BT tI:=⟨by decide,by decide⟩
 have bB:BT tB:=⟨by decide,by decide⟩
 have of:BT t->(t=T0->k=7)/\(t≠T0->BT t):=λh=>⟨λe=>absurd e h.ne,λ_=>h⟩
 unfold oO at h
 by_cases c1:k=1\/k=11
 ·rw[if_pos c1]at h;cases h;exact of bI
 rw[if_neg c1]at h
 by_cases c2:k=2
 ·rw[if_pos c2]at h;cases h;exact of bB
 rw[if_neg c2]at h
 by_cases c3:k=3
 ·rw[if_pos c3]at h
  obtain⟨h1,rfl,_⟩:=iY h
  rw[Bool.and_eq_true]at h1
  exact of (vD h1.1)
 rw[if_neg c3]at h
 by_cases c4:k=4
 ·rw[if_pos c4]at h
  unfold yX at h
  split at h
  ·rename_i j u e
   cases h
   obtain⟨_,v,h1,h2⟩:=qa e
   exact of (h2 ▸ hV v (mem_of h1))
  ·split at h
   ·rename_i j u e
    cases h
    obtain⟨_,v,h1,h2⟩:=qa e
    exact of (h2 ▸ hG.globals v (mem_of h1))
   ·cases h
 rw[if_neg c4]at h
 by_cases c5:k=5
 ·rw[if_pos c5]at h
  unfold yY at h
  split at h
  ·split at h
   ·rename_i s hs
    split at h
    ·rename_i i u e
     cases h
     obtain⟨_,v,h1,h2⟩:=qa e
     exact of (h2 ▸ hG.cF s (mem_of hs) v (mem_of h1))
    ·cases h
   ·cases h
  ·cases h
 rw[if_neg c5]at h
 by_cases c6:k=6
 ·rw[if_pos c6]at h
  obtain⟨h1,rfl,_⟩:=iY h
  have hl:ks.length=2:=by
   unfold dY at hk
   rw[if_neg (by omega),if_neg (by omega),if_neg (by omega),if_neg (by omega)]at hk
   simp only[Bool.and_eq_true,decide_eq_true_eq]at hk
   exact hk.2
  obtain⟨a,b,rfl⟩:=ajK hl
  exact of (oy a (by simp))
 rw[if_neg c6]at h
 by_cases c7:k=7
 ·rw[if_pos c7]at h
  refine⟨λ_=>c7,λku=>?_⟩
  unfold CE at h
  split at h
  ·rename_i i s hs
   split at h
   ·cases h
    obtain⟨_,h2⟩:=EJ hs
    exact(hG.br s (mem_of h2) ku).1
   ·cases h
  ·cases h
 rw[if_neg c7]at h
 by_cases c8:k=8
 ·rw[if_pos c8]at h
  obtain⟨h1,rfl,_⟩:=iY h
  simp only[Bool.and_eq_true]at h1
  exact of (vD h1.1.1)
 rw[if_neg c8]at h
 by_cases c9:k=9
 ·rw[if_pos c9]at h
  obtain⟨h1,rfl,_⟩:=iY h
  simp only[Bool.and_eq_true]at h1
  exact of (vD h1.1.1)
 rw[if_neg c9]at h
 by_cases Ab:k=10
 ·rw[if_pos Ab]at h
  obtain⟨_,rfl,_⟩:=iY h
  exact of bI
 rw[if_neg Ab]at h
 by_cases Il:k=12
 ·rw[if_pos Il]at h
  obtain⟨_,rfl,_⟩:=iY h
  exact of bI
 rw[if_neg Il]at h
 by_cases L7:k=13
 ·rw[if_pos L7]at h
  obtain⟨_,rfl,_⟩:=iY h
  exact of bB
 rw[if_neg L7]at h
 unfold lV.FJ at h
 split at h
 ·obtain⟨_,rfl,_⟩:=iY h;exact of bI
 split at h
 ·obtain⟨_,rfl,_⟩:=iY h;exact of bB
 split at h
 ·obtain⟨_,rfl,_⟩:=iY h;exact of bB
 ·obtain⟨_,rfl,_⟩:=iY h;exact of bB
theorem R8:∀{l ys:List E},lW H V l=.ok ys->∀y∈ys,y.ty≠T0
 |[],ys,h=>by unfold lW at h;cases h;simp
 |e::l,ys,h=>by
  obtain⟨y,zs,_,h1,h2,rfl⟩:=lp h
  intro z hz
  rcases List.mem_cons.1 hz with rfl|hz
  ·exact h1
  ·exact R8 h2 z hz
theorem Z1(hG:Hd.gd H)(hV:∀v∈V,BT v.ty)(e:E):∀y,vo H V e=.ok y->(y.ty=T0->y.k=7)/\(y.ty≠T0->BT y.ty):=by
 induction e using E.vp with
 |_ e ih=>
  intro y h
  obtain⟨ks,t,r,h1,h2,h3,rfl⟩:=yZ h
  have hb:=qE h2 ih
  have hn:=R8 h2
  exact Z0 hG hV (by rw[vq h2];exact h1) (λe he=>(hb e he).2 (hn e he)) h3
end wo
namespace wo
open Ax Go V7 kL lV
variable {H:Hd}{f:Nat}{bO:Bool}{br:T3}{V X:List Vd}
theorem Mk{k:Int}{nm:List UInt8}{es:List E}{t:T3}{r:Int}{W:List Vd}(h:j8 H br V k nm es t=some (r,W)):∃l,W=V++l/\∀v∈l,v.ty=t/\(k=1\/k=2):=by
 have nil:∀{W:List Vd},W=V->∃l,W=V++l/\∀v∈l,v.ty=t/\(k=1\/k=2):=λe=>⟨[],by simp[e],by simp⟩
 unfold j8 at h
 split at h
 ·rename_i c
  split at h
  ·cases h
  ·cases h;exact⟨_,rfl,by simp[c]⟩
 split at h
 ·rename_i c
  split at h
  ·split at h
   ·cases h
   ·cases h;exact⟨_,rfl,by simp[c]⟩
  ·cases h
 split at h
 ·split at h
  ·split at h
   ·cases h;exact nil rfl
   ·cases h
  ·cases h
 split at h
 ·split at h
  ·cases h;exact nil rfl
  ·cases h
 split at h
 ·split at h
  ·cases h;exact nil rfl
  ·cases h
 split at h
 ·split at h
  ·cases h;exact nil rfl
  ·cases h
 split at h
 ·split at h
  ·cases h;exact nil rfl
  ·cases h
 ·cases h;exact nil rfl
def Gv(H:Hd)(V:List Vd):Prop:=∀v∈V,WT H.rs.length v.ty/\BT v.ty
theorem VL{k:Int}{on:List UInt8}{od:Int}{t:T3}(h:j5 H k on od=some t)(hk:k=1\/k=2):WT H.rs.length t/\BT t:=by
 unfold j5 at h
 rw[if_pos hk]at h
 split at h
 ·rename_i c;cases h;exact⟨mF _ _ _,vD c⟩
 ·cases h
theorem R9{k:Int}{nm on:List UInt8}{od:Int}{es:List E}{t:T3}{r:Int}{W:List Vd}(hd:j5 H k on od=some t)(h:j8 H br V k nm es t=some (r,W))(hV:Gv H V):Gv H W:=by
 obtain⟨l,rfl,h1⟩:=Mk h
 intro v hv
 rcases List.mem_append.1 hv with hv|hv
 ·exact hV v hv
 ·obtain⟨e,hk⟩:=h1 v hv
  rw[e];exact VL hd hk
def N9(V X:List Vd):Prop:=∃l,X=V++l
theorem N9.rfl':N9 V V:=⟨[],by simp⟩
theorem N9.trans{A B C:List Vd}(h:N9 A B)(k:N9 B C):N9 A C:=by
 obtain⟨l,rfl⟩:=h
 obtain⟨m,rfl⟩:=k
 exact⟨l++m,by simp⟩
theorem N9.pre{A B:List Vd}{vs:List T3}(h:N9 A B)(hp:ZZ B vs):ZZ A vs:=by
 obtain⟨l,rfl⟩:=h
 exact λk v hk=>hp k v (A5 hk)
theorem uD:∀{l ys:List Sm}{V X:List Vd},(∀s∈l,∀V y W,wQ H bO br V s=.ok (y,W)->Gv H V->N9 V W/\Gv H W)->kF H bO br V l=.ok (ys,X)->Gv H V->N9 V X/\Gv H X
 |[],ys,V,X,_,h,hV=>by
  unfold kF at h
  cases h
  exact⟨.rfl',hV⟩
 |s::l,ys,V,X,hp,h,hV=>by
  obtain⟨y,W,zs,h1,h2,rfl⟩:=uq h
  obtain⟨a,b⟩:=hp s List.mem_cons_self V y W h1 hV
  obtain⟨c,d⟩:=uD (λt ht=>hp t (List.mem_cons_of_mem _ ht)) h2 b
  exact⟨a.trans c,d⟩
theorem Ml(s:Sm):∀V y W,wQ H bO br V s=.ok (y,W)->Gv H V->N9 V W/\Gv H W:=by
 induction s using Sm.vp with
 |_ s sZ tu=>
  intro V y X h hV
  obtain⟨t,ys,r,W,hf,ht,Tl,cm,hh⟩:=CF h
  obtain⟨l,e,_⟩:=Mk cm
  have h1:N9 V W:=⟨l,e⟩
  have h2:=R9 ht cm hV
  rcases hh with⟨_,b,W1,c,hb,hc,rfl⟩|⟨_,b,hb,rfl⟩|⟨_,_,rfl,rfl⟩
  ·obtain⟨a1,a2⟩:=uD sZ hb h2
   obtain⟨b1,b2⟩:=uD tu hc a2
   exact⟨h1.trans (a1.trans b1),b2⟩
  ·obtain⟨a1,a2⟩:=uD sZ hb h2
   exact⟨h1.trans a1,a2⟩
  ·exact⟨h1,h2⟩
theorem VM{l ys:List Sm}{V X:List Vd}(h:kF H bO br V l=.ok (ys,X))(hV:Gv H V):N9 V X/\Gv H X:=uD (λs _=>Ml s) h hV
def FS(H:Hd)(f:Nat)(bO:Bool)(br:T3)(X:List Vd)(y:Sm):Prop:=∀(vs:List T3)(ss:List Sd)(at_:Nat),ZZ X vs->Tm H f bO br vs ss (at_+(cS vs.length at_ ss.length y).is.length) (cS vs.length at_ ss.length y)
theorem Tm.lU{vs:List T3}{ss:List Sd}{m m':Nat}{o:l7}(h:Tm H f bO br vs ss m o)(hm:m<=m'):Tm H f bO br vs ss m' o:=⟨λi hi=>by
 have:=(h.is i hi).mono (ws:=[]) (ts:=[]) hm
 simpa using this⟩
end wo
namespace wo
open Ax Go V7 kL lV
variable {H:Hd}{f:Nat}{bO:Bool}{br:T3}{V X:List Vd}
structure MT (H:Hd)(t:T3):Prop where
 wt:WT H.rs.length t
 bt:BT t
 rt:t.b≠3->t.r=0
def RT(t:T3):Prop:=t.b≠3->t.r=0
structure Hd.rt (H:Hd):Prop where
 cF:∀s∈H.cF,∀f∈s.2,RT f.ty
 globals:∀f∈H.globals,RT f.ty
 ps:∀s∈H.sigs,∀f∈s.ps,RT f.ty
 br:∀s∈H.sigs,RT s.br
theorem Mm{l:List (List UInt8)}{s:List UInt8}{d:Int}:RT (dh l s d).1:=by
 unfold dh RT
 split
 ·intro _;rfl
 split
 ·intro _;rfl
 split
 ·intro _;rfl
 split
 ·intro _;rfl
 ·intro h;exact absurd rfl h
structure Gi (H:Hd)(o:l7):Prop where
 vs:∀t∈o.vs,MT H t
 ss:∀t∈o.ss,MT H t/\xM t=true
theorem Gi.nil:Gi H O0:=⟨by simp[O0],by simp[O0]⟩
theorem Gi.gb{x y:l7}(h:Gi H x)(k:Gi H y):Gi H (x.gb y):=by
 refine⟨λt ht=>?_,λt ht=>?_⟩
 ·rcases List.mem_append.1 ht with ht|ht
  ·exact h.vs t ht
  ·exact k.vs t ht
 ·rcases List.mem_append.1 ht with ht|ht
  ·exact h.ss t ht
  ·exact k.ss t ht
def Mv(H:Hd)(V:List Vd):Prop:=∀v∈V,MT H v.ty
theorem Gi.of{x:l7}(h:Gi H x)(l:List In):Gi H ⟨x.vs,l,x.ss⟩:=⟨h.vs,h.ss⟩
end wo
namespace wo
open Ax Go V7 kL lV
variable {H:Hd}{f:Nat}{bO:Bool}{br:T3}{V X:List Vd}
structure Hd.ajL (H:Hd):Prop where
 ok:H.ok
 gd:Hd.gd H
 rt:Hd.rt H
 yes:∀s∈H.sigs,s.bO=true->MT H s.br
 no:∀s∈H.sigs,s.bO=false->s.br=T0
 cF:∀s∈H.cF,s.2.length<=8
 pn:∀s∈H.sigs,s.ps.length<=6
 nr:H.cF.length<=12
 ng:H.globals.length<=8
 nf:H.sigs.length<=16
structure Mn (H:Hd)(f:Nat)(s:Sg)(ss:List Sd)(c:Cd):Prop where
 params:c.params=s.ps.length
 bO:c.bO=s.bO
 br:c.br=s.br
 pre:ZZ s.ps c.vars
 vt:∀t∈c.vars,MT H t
 nv:c.vars.length<=4000
 Dp:∀i∈c.is,wm H f s.bO s.br c.vars ss (c.is.length-1) i
 ajM:∃i,c.is.getLast? = some i/\i.op=18
theorem Mn.lU{s:Sg}{ss ts:List Sd}{c:Cd}(h:Mn H f s ss c):Mn H f s (ss++ts) c:=
 ⟨h.params,h.bO,h.br,h.pre,h.vt,h.nv,λi hi=>by
  have:=(h.Dp i hi).mono (ws:=[]) (ts:=ts) (Nat.le_refl _)
  simpa using this,h.ajM⟩
structure Made (H:Hd)(cs:List Cd)(ss:List Sd)(all:Nat):Prop where
 code:∀(j:Nat) (c:Cd),cs[j]?=some c->∃s,H.sigs[j]?=some s/\Mn H j s ss c
 ZT:∀s∈ss,MT H s.ty/\xM s.ty=true/\s.fn<cs.length
 ns:ss.length<=60
 sum:(cs.map (·.is.length)).sum=all
 few:all<=2500
end wo
namespace wo
open Ax Go V7 kL lV
variable {H:Hd}{V:List Vd}{bO:Bool}{br:T3}
theorem Sa{k n:Int}{m:Nat}(h:dY k n m=true):(k=5\/k=9\/k=10\/k=12\/k=13->m=1)/\(k=6\/14<=k->m=2)/\(0<k/\k<25):=by
 unfold dY at h
 split at h
 ·rename_i c
  exact⟨λq=>by omega,λq=>by omega,by omega⟩
 split at h
 ·rename_i c
  exact⟨λq=>by omega,λq=>by omega,by omega⟩
 split at h
 ·rename_i c
  exact⟨λq=>by omega,λq=>by omega,by omega⟩
 split at h
 ·rename_i c1 c2 c3 c
  have hm:m=1:=by simpa using h
  exact⟨λ_=>hm,λq=>by omega,by omega⟩
 ·rename_i c1 c2 c3 c
  simp only[Bool.and_eq_true,Bool.or_eq_true,decide_eq_true_eq]at h
  exact⟨λq=>by omega,λq=>h.2,by omega⟩
theorem xV:∀{l:List Vd}{s:List UInt8}{i k:Nat}{t:T3},ij s i l=some (k,t)->k<i+l.length
 |[],_,_,_,_,h=>by cases h
 |f::l,s,i,k,t,h=>by
  unfold ij at h
  split at h
  ·cases h;simp
  ·have:=xV h
   simp only[List.length_cons];omega
theorem Mo{s:List UInt8}{t:T3}{r:Int}(hg:H.globals.length<100000000)(h:yX H V s=some (t,r)) : -1000000000<r:=by
 unfold yX at h
 split at h
 ·cases h;omega
 ·split at h
  ·rename_i k t' hk
   cases h
   have:=xV hk
   omega
  ·cases h
theorem Z2(hG:Hd.gd H)(hg:H.globals.length<100000000)(hV:∀v∈V,BT v.ty)(e:E):∀y,vo H V e=.ok y->LE y:=by
 induction e using E.vp with
 |_ e ih=>
  intro y h
  have hbt:=(Z1 hG hV e y h).1
  obtain⟨ks,t,r,h1,h2,h3,rfl⟩:=yZ h
  have hl:=vq h2
  rw[<-hl]at h1
  obtain⟨a,b,c⟩:=Sa h1
  rw[R4]
  refine⟨hbt,a,b,c,λk4=>?_,(qZ _).2 (qE h2 ih)⟩
  have k4:e.k=4:=k4
  unfold oO at h3
  rw[if_neg (by omega),if_neg (by omega),if_neg (by omega),if_pos k4]at h3
  exact Mo hg h3
theorem VN{k:Int}{es ys:List E}{P:E->Prop}(h:Aa H V k es=.ok ys)(hp:∀e∈es,∀y,vo H V e=.ok y->P y):∀y∈ys,P y:=by
 unfold Aa at h
 by_cases h9:k=9
 ·rw[if_pos h9]at h
  match es,h,hp with
  |[],h,_=>cases h;simp
  |e::l,h,hp=>
   cases hx:vo H V e with
   |error a=>simp only[hx]at h;cases h
   |ok y=>
    simp only[hx]at h;cases h
    intro z hz
    rw[List.mem_singleton.1 hz]
    exact hp e List.mem_cons_self y hx
 ·rw[if_neg h9]at h
  exact qE h hp
theorem yd:∀{l ys:List Sm}{V X:List Vd},(∀s∈l,∀V y W,wQ H bO br V s=.ok (y,W)->Gv H V->LS y)->kF H bO br V l=.ok (ys,X)->Gv H V->LB ys
 |[],ys,V,X,_,h,_=>by
  unfold kF at h
  cases h
  simp[LB]
 |s::l,ys,V,X,hp,h,hV=>by
  obtain⟨y,W,zs,h1,h2,rfl⟩:=uq h
  unfold LB
  exact⟨hp s List.mem_cons_self V y W h1 hV,yd (λt ht=>hp t (List.mem_cons_of_mem _ ht)) h2 (Ml s V y W h1 hV).2⟩
theorem Sb{k:Int}{es:List E}(h:ee bO k es=true):(k=2\/k=3\/k=5\/k=6\/k=8\/k=9->es.length=1)/\(k=4->es.length=2/\((k7 es).k=5\/(k7 es).k=6)):=by
 unfold ee at h
 split at h
 ·exact⟨λq=>by omega,λq=>by omega⟩
 split at h
 ·rename_i c
  refine⟨λq=>by omega,λ_=>?_⟩
  match es,h with
  |[e,f],h=>exact⟨rfl,by simpa [k7] using h⟩
 split at h
 ·exact⟨λq=>by omega,λq=>by omega⟩
 split at h
 ·refine⟨λ_=>?_,λq=>by omega⟩
  match es,h with
  |[e],_=>rfl
 split at h
 ·rename_i c1 c2 c3 c4 c
  exact⟨λ_=>by simpa using h,λq=>absurd q c2⟩
 ·cases h
theorem Z3(hG:Hd.gd H)(hg:H.globals.length<100000000)(s:Sm):∀V y W,wQ H bO br V s=.ok (y,W)->Gv H V->LS y:=by
 induction s using Sm.vp with
 |_ s sZ tu=>
  intro V y X h hV
  obtain⟨t,ys,r,W,hf,ht,Tl,cm,hh⟩:=CF h
  have hW:=R9 ht cm hV
  have a1:LL ys:=(qZ _).2 (VN Tl λe _ y hy=>Z2 hG hg (λv hv=>(hV v hv).2) e y hy)
  obtain⟨a2,a3⟩:=Sb (Rn Tl hf)
  have a4:s.k=2\/s.k=3→-1000000000<r:=λq=>by
   unfold j8 at cm
   rw[if_neg (by omega)]at cm
   by_cases c2:s.k=2
   ·rw[if_pos c2]at cm
    split at cm
    ·split at cm
     ·cases cm
     ·cases cm;omega
    ·cases cm
   ·rw[if_neg c2,if_pos (by omega)]at cm
    split at cm
    ·rename_i u r' hv
     split at cm
     ·cases cm;exact Mo hg hv
     ·cases cm
    ·cases cm
  rcases hh with⟨_,b,W1,c,hb,hc,rfl⟩|⟨_,b,hb,rfl⟩|⟨_,_,rfl,rfl⟩
  ·rw[IY];exact⟨a1,a2,a3,a4,yd sZ hb hW,yd tu hc (VM hb hW).2⟩
  ·rw[IY];exact⟨a1,a2,a3,a4,yd sZ hb hW,by simp[Sm.el,LB]⟩
  ·rw[IY];exact⟨a1,a2,a3,a4,by simp[Sm.bd,LB],by simp[Sm.el,LB]⟩
theorem Sc(hG:Hd.gd H)(hg:H.globals.length<100000000):∀{ss:List Sg}{fs:List Fc}{bs:List Bd},(∀s∈ss,Gv H s.ps)->q8 H ss fs=.ok bs->∀b∈bs,LB b.code
 |[],fs,bs,_,h=>by unfold q8 at h;cases h;simp
 |_::_,[],bs,_,h=>by unfold q8 at h;cases h;simp
 |s::ss,f::fs,bs,hs,h=>by
  unfold q8 at h
  split at h
  ·cases h
  ·rename_i c W hb
   split at h
   ·cases h
   ·rename_i l hl
    cases h
    intro b hbm
    rcases List.mem_cons.1 hbm with rfl|hbm
    ·exact yd (λs _=>Z3 hG hg s) hb (hs s List.mem_cons_self)
    ·exact Sc hG hg (λs h=>hs s (List.mem_cons_of_mem _ h)) hl b hbm
end wo
namespace wo
open Ax Go cz V7 kL lV K9 N7 U7
theorem sQ{a b:Option Int}(h:wk a b=none):a=none/\b=none:=by
 cases a with
 |none=>exact⟨rfl,h⟩
 |some x=>cases h
theorem Ag{α:Type}{zY:List α->α->Option Int}{l:List α}:∀{m:Nat},gw zY l m=none->∀k (h:k<l.length),k<m->zY (l.take k) l[k]=none
 |0,_,k,_,hk=>absurd hk (by omega)
 |m+1,h,k,hl,hk=>by
  obtain⟨h1,h2⟩:=sQ h
  by_cases e:k=m
  ·subst e
   rw[List.getElem?_eq_getElem hl]at h2
   exact h2
  ·exact Ag h1 k hl (by omega)
theorem zf{α:Type}{zY:List α->α->Option Int}{l:List α}(h:gw zY l l.length=none):∀x∈l,∃b,zY b x=none:=λx hx=>by
 obtain⟨k,hk,rfl⟩:=List.getElem_of_mem hx
 exact⟨_,Ag h k hk hk⟩
theorem KH{rs:List (List UInt8)}{l:List PD}(h:gw (xO rs) l l.length=none):∀v∈mD rs l,BT v.ty/\RT v.ty:=by
 intro v hv
 obtain⟨q,hq,rfl⟩:=List.mem_map.1 hv
 obtain⟨b,h1⟩:=zf h q hq
 unfold xO at h1
 split at h1
 ·cases h1
 ·rename_i c
  simp only[Bool.or_eq_true,Bool.not_eq_true',not_or,Bool.not_eq_false]at c
  exact⟨vD c.2,Mm⟩
structure Few (p:Pg):Prop where
 r:p.bG.length<=12
 g:p.globals.length<=8
 f:p.funcs.length<=16
 fl:∀x∈p.bG,x.cq.length<=8
 ps:∀x∈p.funcs,x.params.length<=6
theorem VO{p:Pg}(h:mK (kO p)=none)(hf:Few p):Hd.ajL (aS p):=by
 have X2:=Mg p
 have h3:uu (kO p)=none:=by
  unfold mK at h
  split at h
  ·exact(sQ h).1
  ·exact h
 unfold uu at h3
 obtain⟨h4,hS⟩:=sQ h3
 obtain⟨h5,hP⟩:=sQ h4
 obtain⟨h6,hFl⟩:=sQ h5
 rw[A4]at hS hP hFl
 rw[qH]at hS
 rw[F5]at hP
 rw[qG]at hFl
 have hg:=KH hP
 have hr:∀x∈p.bG,∀v∈mD (ck p) x.cq,BT v.ty/\RT v.ty:=λx hx=>by
  obtain⟨b,h1⟩:=zf hFl (IE x) (List.mem_map_of_mem hx)
  unfold NG at h1
  rw[show (IE x).cq=aB 4 (x.cq.map PD.cells) from rfl,oR]at h1
  exact KH h1
 have hs:∀x∈p.funcs,(∀v∈mD (ck p) x.params,BT v.ty/\RT v.ty)/\(x.bO=true->(dh (ck p) x.on x.od).2=true):=λx hx=>by
  obtain⟨b,h1⟩:=zf hS (DI x) (List.mem_map_of_mem hx)
  unfold NH at h1
  obtain⟨h2,h7⟩:=sQ h1
  have h8:=(sQ h2).2
  rw[show (DI x).params=aB 4 (x.params.map PD.cells) from rfl,oR]at h8
  refine⟨KH h8,λhh=>?_⟩
  unfold Iy at h7
  split at h7
  ·cases h7
  ·rename_i c
   show (dh (ck p) (DI x).on (DI x).od).2=true
   have hh':(DI x).bO=true:=hh
   rw[hh']at c
   simpa using c
 have Z4:∀x∈p.funcs,(wP (ck p) x).bO=true->MT (aS p) (wP (ck p) x).br:=λx hx hh=>by
  have hh:x.bO=true:=hh
  have e:(wP (ck p) x).br=(dh (ck p) x.on x.od).1:=by
   show (if x.bO then _ else T0)=_
   rw[if_pos hh]
  rw[e]
  exact⟨mF _ _ _,vD ((hs x hx).2 hh),Mm⟩
 have Se:∀x∈p.funcs,(wP (ck p) x).bO=false->(wP (ck p) x).br=T0:=λx hx hh=>by
  have hh:x.bO=false:=hh
  show (if x.bO then _ else T0)=_
  rw[hh];rfl
 refine⟨X2,⟨?_,?_,?_,?_⟩,⟨?_,?_,?_,?_⟩,?_,?_,?_,?_,?_,?_,?_⟩
 ·intro s tD v hv
  obtain⟨x,hx,rfl⟩:=List.mem_map.1 tD
  exact(hr x hx v hv).1
 ·exact λv hv=>(hg v hv).1
 ·intro s tD v hv
  obtain⟨x,hx,rfl⟩:=List.mem_map.1 tD
  exact((hs x hx).1 v hv).1
 ·intro s tD ku
  obtain⟨x,hx,rfl⟩:=List.mem_map.1 tD
  cases hh:(wP (ck p) x).bO with
  |true=>exact⟨(Z4 x hx hh).bt,rfl⟩
  |false=>exact absurd (Se x hx hh) ku
 ·intro s tD v hv
  obtain⟨x,hx,rfl⟩:=List.mem_map.1 tD
  exact(hr x hx v hv).2
 ·exact λv hv=>(hg v hv).2
 ·intro s tD v hv
  obtain⟨x,hx,rfl⟩:=List.mem_map.1 tD
  exact((hs x hx).1 v hv).2
 ·intro s tD
  obtain⟨x,hx,rfl⟩:=List.mem_map.1 tD
  cases hh:(wP (ck p) x).bO with
  |true=>exact(Z4 x hx hh).rt
  |false=>rw[Se x hx hh];intro _;rfl
 ·intro s tD hh
  obtain⟨x,hx,rfl⟩:=List.mem_map.1 tD
  exact Z4 x hx hh
 ·intro s tD hh
  obtain⟨x,hx,rfl⟩:=List.mem_map.1 tD
  exact Se x hx hh
 ·intro s tD
  obtain⟨x,hx,rfl⟩:=List.mem_map.1 tD
  have:=hf.fl x hx
  simpa [mD] using this
 ·intro s tD
  obtain⟨x,hx,rfl⟩:=List.mem_map.1 tD
  have:=hf.ps x hx
  simpa [wP,mD] using this
 ·have:=hf.r;simpa [aS] using this
 ·have:=hf.g;simpa [aS,mD] using this
 ·have:=hf.f;simpa [aS] using this
end wo
