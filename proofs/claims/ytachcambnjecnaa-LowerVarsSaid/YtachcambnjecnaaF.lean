/-
  A program as codes, in plain terms.
-/
import Derived.Test.YtachcambnjecnaaP
import Derived.Test.YtachcambnjecnaaA6
import Derived.Test.YtachcambnjecnaaD

set_option maxRecDepth 100000
set_option maxHeartbeats 4000000
namespace uF
open Ax Go V7 j4 k8
structure In where
 op:Int
 a:Int
 b:Int
 c:Int
 n:Int
 args:List Int
def nH (l:List Int):AV:=aA 1 (ints l)
def In.row (i:In):List AV:=[.int .i64 i.op,.int .i64 i.a,.int .i64 i.b,.int .i64 i.c,.int .i64 i.n,nH i.args]
structure Out where
 vs:List T3
 is:List In
 ss:List T3
def O0:Out:=⟨[],[],[]⟩
def Out.app (x y:Out):Out:=⟨x.vs++y.vs,x.is++y.is,x.ss++y.ss⟩
def fY (i:In):Out:=⟨[],[i],[]⟩
def xW (l:List Int):Int:=match l with|a::_=>a | []=>0
def Ym (l:List Int):Int:=match l with|_::a::_=>a|_=>0
def ff (k n ref t site:Int)(l:List Int):In:=
 if k=1\/k=2 then ⟨1,t,0,0,n,[]⟩
 else if k=3 then ⟨2,t,0,0,0,[]⟩
 else if k=4 then ⟨19,t,0,0,-1-ref,[]⟩
 else if k=5 then ⟨6,t,xW l,ref,0,[]⟩
 else if k=6 then ⟨8,t,xW l,Ym l,0,[]⟩
 else if k=7 then ⟨13,t,0,ref,0,l⟩
 else if k=8 then ⟨11,t,0,0,site,[]⟩
 else if k=9 then ⟨12,t,xW l,0,site,[]⟩
 else if k=10 then ⟨10,t,xW l,0,0,[]⟩
 else if k=11 then ⟨14,t,0,0,0,[]⟩
 else if k=12\/k=13 then ⟨5,t,xW l,0,k,[]⟩
 else ⟨4,t,xW l,Ym l,k,[]⟩
def cK (nv ns:Nat)(k n ref:Int)(ty:T3)(x:List Int×Out):Int×Out:=
 if ty=T0 then (-1,x.2.app (fY ⟨13,-1,0,ref,0,x.1⟩))
 else (((nv+x.2.vs.length:Nat):Int),x.2.app ⟨[ty],[ff k n ref ((nv+x.2.vs.length:Nat):Int) ((ns+x.2.ss.length:Nat):Int) x.1],if k=8\/k=9 then [ty] else []⟩)
mutual
def cE (nv ns:Nat):E->Int×Out
 |.mk k n _ _ _ kids _ ty ref=>if k=4/\0<=ref then (ref,O0) else cK nv ns k n ref ty (rO nv ns kids)
def rO (nv ns:Nat):List E->List Int×Out
 |[]=>([],O0)
 |e::l=>((cE nv ns e).1::(rO (nv+(cE nv ns e).2.vs.length) (ns+(cE nv ns e).2.ss.length) l).1,(cE nv ns e).2.app (rO (nv+(cE nv ns e).2.vs.length) (ns+(cE nv ns e).2.ss.length) l).2)
end
def E0:E:=.mk 0 0 [] [] 0 [] 0 T0 0
def ko (es:List E):E:=match es with|e::_=>e | []=>E0
def MJ (es:List E):E:=match es with|_::e::_=>e|_=>E0
def DH (nv at_ ns:Nat)(x:Out)(f:Nat->Nat->Nat->Out):Out:=x.app (f (nv+x.vs.length) (at_+x.is.length) (ns+x.ss.length))
def HK (ref v:Int):In:=if ref<0 then ⟨20,v,0,0,-1-ref,[]⟩ else ⟨3,ref,v,0,0,[]⟩
def QE (k ref v:Int)(l:List Int):In:=if k=5 then ⟨7,xW l,v,ref,0,[]⟩ else ⟨9,xW l,Ym l,v,0,[]⟩
def Yn (nv at_ ns:Nat)(x:Int×Out)(f g:Nat->Nat->Nat->Out):Out:=
 let i:=at_+x.2.is.length
 let b:=f (nv+x.2.vs.length) (i+1) (ns+x.2.ss.length)
 let j:=i+1+b.is.length
 let c:=g (nv+x.2.vs.length+b.vs.length) (j+1) (ns+x.2.ss.length+b.ss.length)
 ⟨x.2.vs++b.vs++c.vs,x.2.is++⟨17,x.1,0,((j+1:Nat):Int),((i+1:Nat):Int),[]⟩::(b.is++⟨16,0,0,0,((j+1+c.is.length:Nat):Int),[]⟩::c.is),x.2.ss++b.ss++c.ss⟩
def Yo (nv at_ ns:Nat)(x:Int×Out)(f:Nat->Nat->Nat->Out):Out:=
 let i:=at_+x.2.is.length
 let b:=f (nv+x.2.vs.length) (i+1) (ns+x.2.ss.length)
 let j:=i+1+b.is.length
 ⟨x.2.vs++b.vs,x.2.is++⟨17,x.1,0,((j+1:Nat):Int),((i+1:Nat):Int),[]⟩::(b.is++[⟨16,0,0,0,(at_:Int),[]⟩]),x.2.ss++b.ss⟩
def E8 (nv ns:Nat)(e:E)(x:List Int×Out)(f:Nat->Nat->Int×Out):Out:=
 let v:=f (nv+x.2.vs.length) (ns+x.2.ss.length)
 (x.2.app v.2).app (fY (QE e.k e.ref v.1 x.1))
mutual
def cS (nv at_ ns:Nat):Sm->Out
 |.mk k _ _ _ es bd el _ ref=>
  if k=2\/k=3 then (cE nv ns (ko es)).2.app (fY (HK ref (cE nv ns (ko es)).1))
  else if k=4 then E8 nv ns (ko es) (rO nv ns (ko es).kids) (λnv ns=>cE nv ns (MJ es))
  else if k=5 then Yn nv at_ ns (cE nv ns (ko es)) (λnv at_ ns=>cB nv at_ ns bd) (λnv at_ ns=>cB nv at_ ns el)
  else if k=6 then Yo nv at_ ns (cE nv ns (ko es)) (λnv at_ ns=>cB nv at_ ns bd)
  else if k=7 then (match es with
   |[]=>fY ⟨18,-1,0,0,0,[]⟩
   |e::_=>(cE nv ns e).2.app (fY ⟨18,(cE nv ns e).1,0,0,0,[]⟩))
  else if k=8 then (cE nv ns (ko es)).2.app (fY ⟨15,(cE nv ns (ko es)).1,0,0,0,[]⟩)
  else if k=9 then (cE nv ns (ko es)).2
  else O0
def cB (nv at_ ns:Nat):List Sm->Out
 |[]=>O0
 |s::l=>DH nv at_ ns (cS nv at_ ns s) (λnv at_ ns=>cB nv at_ ns l)
end
structure Cd where
 params:Nat
 vars:List T3
 has:Bool
 res:T3
 is:List In
def Cd.row (c:Cd):List AV:=[.int .i64 c.params,aA 3 (c.vars.map T3.cells),.bool c.has,.int .i64 c.res.b,.int .i64 c.res.r,.int .i64 c.res.d,aA 6 (c.is.map In.row)]
structure Sd where
 fn:Nat
 ty:T3
def Sd.row (s:Sd):List AV:=[.int .i64 s.fn,.int .i64 s.ty.b,.int .i64 s.ty.r,.int .i64 s.ty.d]
def HL (s:Sg)(t:Nat):List In:=if s.has then [⟨if vz s.res then 2 else 1,(t:Int),0,0,0,[]⟩,⟨18,(t:Int),0,0,0,[]⟩] else [⟨18,-1,0,0,0,[]⟩]
def ij (ns:Nat)(b:Bd):Out:=cB b.vars.length 0 ns b.code
def cx (ns:Nat)(s:Sg)(b:Bd):Cd:=
 ⟨s.ps.length,b.vars.map (·.ty)++(ij ns b).vs++(if s.has then [s.res] else []),s.has,s.res,(ij ns b).is++HL s (b.vars.length+(ij ns b).vs.length)⟩
def B8 (cs:List Cd)(ss:List Sd)(all:Nat):List Sg->List Bd->Except Int (List Cd×List Sd)
 |s::sg,b::bs=>
  if 4000<(cx ss.length s b).vars.length\/2500<all+(cx ss.length s b).is.length\/60<ss.length+(ij ss.length b).ss.length then .error b.a
  else B8 (cs++[cx ss.length s b]) (ss++(ij ss.length b).ss.map (λt=>⟨cs.length,t⟩)) (all+(cx ss.length s b).is.length) sg bs
 |_,_=>.ok (cs,ss)
theorem HM (nv ns:Nat)(e:E):cE nv ns e=if e.k=4/\0<=e.ref then (e.ref,O0) else cK nv ns e.k e.n e.ref e.ty (rO nv ns e.kids):=by
 obtain⟨k,n,nm,on,od,kids,a,ty,ref⟩:=e
 (conv=>lhs;unfold cE)<;>rfl
theorem tq (nv ns:Nat)(e:E)(l:List E):rO nv ns (e::l)=((cE nv ns e).1::(rO (nv+(cE nv ns e).2.vs.length) (ns+(cE nv ns e).2.ss.length) l).1,(cE nv ns e).2.app (rO (nv+(cE nv ns e).2.vs.length) (ns+(cE nv ns e).2.ss.length) l).2):=by
 (conv=>lhs;unfold rO)<;>rfl
theorem KX (nv at_ ns:Nat)(s:Sm):cS nv at_ ns s =
  if s.k=2\/s.k=3 then (cE nv ns (ko s.es)).2.app (fY (HK s.ref (cE nv ns (ko s.es)).1))
  else if s.k=4 then E8 nv ns (ko s.es) (rO nv ns (ko s.es).kids) (λnv ns=>cE nv ns (MJ s.es))
  else if s.k=5 then Yn nv at_ ns (cE nv ns (ko s.es)) (λnv at_ ns=>cB nv at_ ns s.bd) (λnv at_ ns=>cB nv at_ ns s.el)
  else if s.k=6 then Yo nv at_ ns (cE nv ns (ko s.es)) (λnv at_ ns=>cB nv at_ ns s.bd)
  else if s.k=7 then (match s.es with
   |[]=>fY ⟨18,-1,0,0,0,[]⟩
   |e::_=>(cE nv ns e).2.app (fY ⟨18,(cE nv ns e).1,0,0,0,[]⟩))
  else if s.k=8 then (cE nv ns (ko s.es)).2.app (fY ⟨15,(cE nv ns (ko s.es)).1,0,0,0,[]⟩)
  else if s.k=9 then (cE nv ns (ko s.es)).2
  else O0:=by
 obtain⟨k,nm,on,od,es,bd,el,a,ref⟩:=s
 (conv=>lhs;unfold cS)<;>rfl
theorem JH (nv at_ ns:Nat):cB nv at_ ns []=O0:=by unfold cB;rfl
theorem wZ (nv at_ ns:Nat)(s:Sm)(l:List Sm):cB nv at_ ns (s::l)=DH nv at_ ns (cS nv at_ ns s) (λnv at_ ns=>cB nv at_ ns l):=by
 (conv=>lhs;unfold cB)<;>rfl
theorem KY (x y z:Out):(x.app y).app z=x.app (y.app z):=by simp[Out.app]
end uF
namespace uF
open Ax Go V7 j4 k8
mutual
def LE:E->Prop
 |.mk k _ _ _ _ kids _ ty ref=>(ty=T0->k=7)/\(k=5\/k=9\/k=10\/k=12\/k=13->kids.length=1)/\(k=6\/14<=k->kids.length=2)/\(0<k/\k<25)/\(k=4→-1000000000<ref)/\LL kids
def LL:List E->Prop
 |[]=>True
 |e::l=>LE e/\LL l
end
theorem QF (e:E):LE e↔(e.ty=T0->e.k=7)/\(e.k=5\/e.k=9\/e.k=10\/e.k=12\/e.k=13->e.kids.length=1)/\(e.k=6\/14<=e.k->e.kids.length=2)/\(0<e.k/\e.k<25)/\(e.k=4→-1000000000<e.ref)/\LL e.kids:=by
 cases e;unfold LE;exact Iff.rfl
theorem qh:∀l:List E,LL l↔∀e∈l,LE e
 |[]=>by simp[LL]
 |e::l=>by simp[LL,qh l]
theorem Um (x y:Out):(x.app y).vs.length=x.vs.length+y.vs.length/\(x.app y).is.length=x.is.length+y.is.length/\(x.app y).ss.length=x.ss.length+y.ss.length:=by simp[Out.app]
def Lo (o:Out)(n:Nat):Prop:=o.vs.length<=n/\o.is.length<=n/\o.ss.length<=n
theorem Lo.app {x y:Out}{n m:Nat}(h:Lo x n)(g:Lo y m):Lo (x.app y) (n+m):=by
 obtain⟨a,b,c⟩:=Um x y
 obtain⟨h1,h2,h3⟩:=h
 obtain⟨g1,g2,g3⟩:=g
 exact⟨by omega,by omega,by omega⟩
theorem Lo.le {x:Out}{n m:Nat}(h:Lo x n)(g:n<=m):Lo x m:=⟨by have:=h.1;omega,by have:=h.2.1;omega,by have:=h.2.2;omega⟩
theorem QG {l:List E}(ih:∀e∈l,∀nv ns,Lo (cE nv ns e).2 (E.sz e)):∀nv ns,Lo (rO nv ns l).2 (E.dG l):=by
 induction l with
 |nil=>intro nv ns;simp[rO,O0,Lo,E.dG]
 |cons e l Mw=>
  intro nv ns
  rw[tq]
  simp only[E.dG]
  exact(ih e List.mem_cons_self nv ns).app (Mw (λx hx=>ih x (List.mem_cons_of_mem _ hx)) _ _)
theorem nN (e:E):∀nv ns,Lo (cE nv ns e).2 (E.sz e):=by
 induction e using E.ind with
 |_ e ih=>
  intro nv ns
  have hk:=E.rz e
  rw[HM]
  split
  ·simp[Lo,O0]
  ·have h:=QG ih nv ns
   unfold cK
   split
   ·exact(h.app (y:=fY _) (m:=1) (by simp[Lo,fY])).le (by omega)
   ·refine(h.app (m:=1) ?_).le (by omega)
    refine⟨by simp,by simp,?_⟩
    simp only
    split<;>simp
theorem JI (l:List E)(nv ns:Nat):Lo (rO nv ns l).2 (E.dG l):=QG (λe _=>nN e) nv ns
theorem B0 {l:List E}{k:Nat}(h:k<l.length):(E.rows l)[k]?=some l[k].row:=by simp[gC,h]
theorem vF {l:List E}{k:Nat}(h:k<l.length)(h2:k<(E.rows l).length):(E.rows l)[k]=l[k].row:=by simp[gC]
theorem zL {sz:Nat}{r:List (List AV)}(h:fits sz r=true):cI sz (aA sz r)=true:=by
 cases r with
 |nil=>rfl
 |cons a r=>simpa [cI] using h
theorem zE {l:List E}:cI 11 (aT l)=true:=zL (by simp[fits,gC,E.aE])
theorem zI {l:List Int}:cI 1 (aA 1 (ints l))=true:=zL (by simp[fits,ints])
mutual
def LS:Sm->Prop
 |.mk k _ _ _ es bd el _ ref=>LL es/\(k=2\/k=3\/k=5\/k=6\/k=8\/k=9->es.length=1)/\(k=4->es.length=2/\((ko es).k=5\/(ko es).k=6))/\(k=2\/k=3→-1000000000<ref)/\LB bd/\LB el
def LB:List Sm->Prop
 |[]=>True
 |s::l=>LS s/\LB l
end
theorem HN (s:Sm):LS s↔LL s.es/\(s.k=2\/s.k=3\/s.k=5\/s.k=6\/s.k=8\/s.k=9->s.es.length=1)/\(s.k=4->s.es.length=2/\((ko s.es).k=5\/(ko s.es).k=6))/\(s.k=2\/s.k=3→-1000000000<s.ref)/\LB s.bd/\LB s.el:=by
 cases s;unfold LS;exact Iff.rfl
theorem E9:∀l:List Sm,LB l↔∀s∈l,LS s
 |[]=>by simp[LB]
 |s::l=>by simp[LB,E9 l]
theorem B1 {es:List E}(h:es.length=1):es=[ko es]:=by
 match es,h with
 |[e],_=>rfl
theorem QH {es:List E}(h:es.length=2):es=[ko es,MJ es]:=by
 match es,h with
 |[e,f],_=>rfl
theorem Yp {l:List Int}(h:l.length=1):ints l=[[.int .i64 (xW l)]]:=by
 match l,h with
 |[a],_=>rfl
theorem Yq {l:List Int}(h:l.length=2):ints l=[[.int .i64 (xW l)],[.int .i64 (Ym l)]]:=by
 match l,h with
 |[a,b],_=>rfl
theorem QI {l:List Sm}(ih:∀s∈l,∀nv a ns,Lo (cS nv a ns s) (2*Sm.sz s)):∀nv a ns,Lo (cB nv a ns l) (2*Sm.dG l):=by
 induction l with
 |nil=>intro nv a ns;rw[JH];simp[Lo,O0]
 |cons s l Mw=>
  intro nv a ns
  rw[wZ]
  unfold DH
  exact((ih s List.mem_cons_self nv a ns).app (Mw (λx hx=>ih x (List.mem_cons_of_mem _ hx)) _ _ _)).le (by simp only[Sm.dG];omega)
theorem B9 {es:List E}(h:es.length≠0):E.sz (ko es)<=E.dG es:=by
 match es,h with
 |e::l,_=>simp[ko,E.dG]
theorem VJ (s:Sm):LS s->∀nv a ns,Lo (cS nv a ns s) (2*Sm.sz s):=by
 induction s using Sm.ind with
 |_ s rL rA=>
  intro hL nv a ns
  rw[HN]at hL
  obtain⟨h1,h2,h3,_,h5,h6⟩:=hL
  rw[E9]at h5 h6
  have dL:=Sm.ni s
  have one:∀i,Lo (fY i) 1:=λi=>by simp[Lo,fY]
  have f:=λnv a ns=>QI (λx hx=>rL x hx (h5 x hx)) nv a ns
  have g:=λnv a ns=>QI (λx hx=>rA x hx (h6 x hx)) nv a ns
  rw[KX]
  by_cases c:s.k=2\/s.k=3
  ·rw[if_pos c]
   have:=B9 (es:=s.es) (by rw[h2 (by omega)];decide)
   exact((nN _ _ _).app (one _)).le (by omega)
  rw[if_neg c]
  by_cases c4:s.k=4
  ·rw[if_pos c4]
   obtain⟨e,f,he⟩:∃e f,s.es=[e,f]:=⟨_,_,QH (h3 c4).1⟩
   have q1:ko s.es=e:=by rw[he];rfl
   have q2:MJ s.es=f:=by rw[he];rfl
   have q3:E.dG s.es=E.sz e+E.sz f:=by rw[he];simp[E.dG]
   have q4:=E.rz e
   rw[q1,q2]
   unfold E8
   exact(((JI _ _ _).app (nN _ _ _)).app (one _)).le (by omega)
  rw[if_neg c4]
  by_cases c5:s.k=5
  ·rw[if_pos c5]
   have:=B9 (es:=s.es) (by rw[h2 (by omega)];decide)
   unfold Yn
   dsimp only
   obtain⟨a1,a2,a3⟩:=nN (ko s.es) nv ns
   have b1:=f (nv+(cE nv ns (ko s.es)).2.vs.length) (a+(cE nv ns (ko s.es)).2.is.length+1) (ns+(cE nv ns (ko s.es)).2.ss.length)
   generalize cE nv ns (ko s.es)=x at *
   generalize cB (nv+x.2.vs.length) (a+x.2.is.length+1) (ns+x.2.ss.length) s.bd=y at *
   have c1:=g (nv+x.2.vs.length+y.vs.length) (a+x.2.is.length+1+y.is.length+1) (ns+x.2.ss.length+y.ss.length)
   generalize cB (nv+x.2.vs.length+y.vs.length) (a+x.2.is.length+1+y.is.length+1) (ns+x.2.ss.length+y.ss.length) s.el=z at *
   obtain⟨b1,b2,b3⟩:=b1
   obtain⟨c1,c2,c3⟩:=c1
   refine⟨?_,?_,?_⟩<;>simp only[List.length_append,List.length_cons]<;>omega
  rw[if_neg c5]
  by_cases c6:s.k=6
  ·rw[if_pos c6]
   have:=B9 (es:=s.es) (by rw[h2 (by omega)];decide)
   unfold Yo
   dsimp only
   obtain⟨a1,a2,a3⟩:=nN (ko s.es) nv ns
   have b1:=f (nv+(cE nv ns (ko s.es)).2.vs.length) (a+(cE nv ns (ko s.es)).2.is.length+1) (ns+(cE nv ns (ko s.es)).2.ss.length)
   generalize cE nv ns (ko s.es)=x at *
   generalize cB (nv+x.2.vs.length) (a+x.2.is.length+1) (ns+x.2.ss.length) s.bd=y at *
   obtain⟨b1,b2,b3⟩:=b1
   refine⟨?_,?_,?_⟩<;>simp only[List.length_append,List.length_cons,List.length_nil]<;>omega
  rw[if_neg c6]
  by_cases c7:s.k=7
  ·rw[if_pos c7]
   match o6:s.es with
   |[]=>exact(one _).le (by omega)
   |e::l=>
    have:E.dG s.es=E.sz e+E.dG l:=by rw[o6];rfl
    exact((nN _ _ _).app (one _)).le (by omega)
  rw[if_neg c7]
  by_cases c8:s.k=8
  ·rw[if_pos c8]
   have:=B9 (es:=s.es) (by rw[h2 (by omega)];decide)
   exact((nN _ _ _).app (one _)).le (by omega)
  rw[if_neg c8]
  by_cases c9:s.k=9
  ·rw[if_pos c9]
   have:=B9 (es:=s.es) (by rw[h2 (by omega)];decide)
   exact(nN _ _ _).le (by omega)
  rw[if_neg c9]
  simp[Lo,O0]
theorem HO {l:List Sm}(h:LB l)(nv a ns:Nat):Lo (cB nv a ns l) (2*Sm.dG l):=QI (λs hs=>VJ s ((E9 _).1 h s hs)) nv a ns
theorem B3 {l:List Sm}{k:Nat}(h:k<l.length):(Sm.rows l)[k]?=some l[k].row:=by simp[gi,h]
theorem wX {l:List Sm}{k:Nat}(h:k<l.length)(h2:k<(Sm.rows l).length):(Sm.rows l)[k]=l[k].row:=by simp[gi]
end uF
namespace uF
open Ax Go V7 j4 k8
def rP (vs:List T3)(t:T3)(a:Int):Prop:=∃k:Nat,a=k/\vs[k]?=some t
theorem rP.app {vs ws:List T3}{t:T3}{a:Int}(h:rP vs t a):rP (vs++ws) t a:=by
 obtain⟨k,h1,h2⟩:=h
 exact⟨k,h1,by rw[List.getElem?_append_left (List.getElem?_eq_some_iff.1 h2).1];exact h2⟩
def yf (vs:List T3):List Vd->List Int->Prop
 |[],[]=>True
 |p::ps,a::l=>rP vs p.ty a/\yf vs ps l
 |_,_=>False
theorem yf.app {vs ws:List T3}:∀{ps:List Vd}{l:List Int},yf vs ps l->yf (vs++ws) ps l
 |[],[],_=>trivial
 |_::_,_::_,h=>⟨h.1.app,yf.app h.2⟩
 |[],_::_,h=>h.elim
 |_::_,[],h=>h.elim
inductive uZ (H:Hd) (f:Nat) (has:Bool) (res:T3) (vs:List T3) (ss:List Sd) (m:Nat):In->Prop
 |c1 {a n:Int}:rP vs tI a->uZ H f has res vs ss m ⟨1,a,0,0,n,[]⟩
 |c1b {a n:Int}:rP vs tB a->n=0\/n=1->uZ H f has res vs ss m ⟨1,a,0,0,n,[]⟩
 |c2 {a:Int} {t:T3}:rP vs t a->vz t=true->uZ H f has res vs ss m ⟨2,a,0,0,0,[]⟩
 |c3 {a b:Int} {t:T3}:rP vs t a->rP vs t b->uZ H f has res vs ss m ⟨3,a,b,0,0,[]⟩
 |c4 {a b c k:Int} {ta tb t:T3} {r:Int}:rP vs ta b->rP vs tb c->k8.EF k ta tb=some (t,r)->14<=k/\k<=24->rP vs t a->uZ H f has res vs ss m ⟨4,a,b,c,k,[]⟩
 |c5i {a b:Int}:rP vs tI a->rP vs tI b->uZ H f has res vs ss m ⟨5,a,b,0,12,[]⟩
 |c5b {a b:Int}:rP vs tB a->rP vs tB b->uZ H f has res vs ss m ⟨5,a,b,0,13,[]⟩
 |c6 {a b:Int} {r j:Nat} {s:List UInt8×List Vd} {v:Vd}:rP vs ⟨3,r,0⟩ b->H.ct[r]?=some s->s.2[j]?=some v->rP vs v.ty a->uZ H f has res vs ss m ⟨6,a,b,j,0,[]⟩
 |c7 {a b:Int} {r j:Nat} {s:List UInt8×List Vd} {v:Vd}:rP vs ⟨3,r,0⟩ a->H.ct[r]?=some s->s.2[j]?=some v->rP vs v.ty b->uZ H f has res vs ss m ⟨7,a,b,j,0,[]⟩
 |c8 {a b c:Int} {t:T3}:rP vs t b->0<t.d->rP vs ⟨t.b,t.r,t.d-1⟩ a->rP vs tI c->uZ H f has res vs ss m ⟨8,a,b,c,0,[]⟩
 |c9 {a b c:Int} {t:T3}:rP vs t a->0<t.d->rP vs ⟨t.b,t.r,t.d-1⟩ c->rP vs tI b->uZ H f has res vs ss m ⟨9,a,b,c,0,[]⟩
 |zb {a b:Int} {t:T3}:rP vs tI a->rP vs t b->0<t.d->uZ H f has res vs ss m ⟨10,a,b,0,0,[]⟩
 |Is {a:Int} {n:Nat} {t:T3}:rP vs t a->t.b=3->t.d=0->ss[n]?=some ⟨f,t⟩->uZ H f has res vs ss m ⟨11,a,0,0,n,[]⟩
 |G4 {a b:Int} {n:Nat} {t:T3}:rP vs t a->0<t.d->ss[n]?=some ⟨f,t⟩->rP vs tI b->uZ H f has res vs ss m ⟨12,a,b,0,n,[]⟩
 |KL {a:Int} {j:Nat} {s:Sg} {l:List Int}:H.sigs[j]?=some s->yf vs s.ps l->(a = -1\/s.has=true/\rP vs s.res a)->uZ H f has res vs ss m ⟨13,a,0,j,0,l⟩
 |c14 {a:Int}:rP vs tI a->uZ H f has res vs ss m ⟨14,a,0,0,0,[]⟩
 |c15 {a:Int}:rP vs tI a->uZ H f has res vs ss m ⟨15,a,0,0,0,[]⟩
 |c16 {n:Nat}:n<=m->uZ H f has res vs ss m ⟨16,0,0,0,n,[]⟩
 |c17 {a:Int} {n c:Nat}:rP vs tB a->n<=m->c<=m->uZ H f has res vs ss m ⟨17,a,0,c,n,[]⟩
 |c18 {a:Int}:(if has=true then rP vs res a else a = -1)->uZ H f has res vs ss m ⟨18,a,0,0,0,[]⟩
 |c19 {a:Int} {j:Nat} {v:Vd}:H.globals[j]?=some v->rP vs v.ty a->uZ H f has res vs ss m ⟨19,a,0,0,j,[]⟩
 |c20 {a:Int} {j:Nat} {v:Vd}:H.globals[j]?=some v->rP vs v.ty a->uZ H f has res vs ss m ⟨20,a,0,0,j,[]⟩
variable {H:Hd}{f:Nat}{has:Bool}{res:T3}
theorem Ab {α:Type}{l r:List α}{k:Nat}{x:α}(h:l[k]?=some x):(l++r)[k]?=some x:=by
 rw[List.getElem?_append_left (List.getElem?_eq_some_iff.1 h).1];exact h
theorem uZ.mono {vs ws:List T3}{ss ts:List Sd}{m m':Nat}{i:In}(h:uZ H f has res vs ss m i)(hm:m<=m'):uZ H f has res (vs++ws) (ss++ts) m' i:=by
 cases h with
 |c1 a=>exact .c1 a.app
 |c1b a b=>exact .c1b a.app b
 |c2 a b=>exact .c2 a.app b
 |c3 a b=>exact .c3 a.app b.app
 |c4 a b c d e=>exact .c4 a.app b.app c d e.app
 |c5i a b=>exact .c5i a.app b.app
 |c5b a b=>exact .c5b a.app b.app
 |c6 a b c d=>exact .c6 a.app b c d.app
 |c7 a b c d=>exact .c7 a.app b c d.app
 |c8 a b c d=>exact .c8 a.app b c.app d.app
 |c9 a b c d=>exact .c9 a.app b c.app d.app
 |zb a b c=>exact .zb a.app b.app c
 |Is a b c d=>exact .Is a.app b c (Ab d)
 |G4 a b c d=>exact .G4 a.app b (Ab c) d.app
 |KL a b c=>exact .KL a b.app (c.imp id λh=>⟨h.1,h.2.app⟩)
 |c14 a=>exact .c14 a.app
 |c15 a=>exact .c15 a.app
 |c16 a=>exact .c16 (by omega)
 |c17 a b c=>exact .c17 a.app (by omega) (by omega)
 |c18 a=>
  refine .c18 ?_
  split
  ·rename_i q;rw[if_pos q]at a;exact a.app
  ·rename_i q;rw[if_neg q]at a;exact a
 |c19 a b=>exact .c19 a b.app
 |c20 a b=>exact .c20 a b.app
def Yr (V:List Vd)(vs:List T3):Prop:=∀(k:Nat)(v:Vd),V[k]?=some v->vs[k]?=some v.ty
theorem Yr.app {V:List Vd}{vs ws:List T3}(h:Yr V vs):Yr V (vs++ws):=λk v hk=>Ab (h k v hk)
structure RL (H:Hd)(f:Nat)(has:Bool)(res:T3)(vs:List T3)(ss:List Sd)(m:Nat)(o:Out):Prop where
 is:∀i∈o.is,uZ H f has res (vs++o.vs) (ss++o.ss.map (Sd.mk f)) m i
theorem RL.nil {vs:List T3}{ss:List Sd}{m:Nat}:RL H f has res vs ss m O0:=⟨by simp[O0]⟩
theorem RL.app {vs:List T3}{ss:List Sd}{m m1 m2:Nat}{x y:Out}(h:RL H f has res vs ss m1 x)(k:RL H f has res (vs++x.vs) (ss++x.ss.map (Sd.mk f)) m2 y)(h1:m1<=m)(h2:m2<=m):RL H f has res vs ss m (x.app y):=by
 refine⟨λi hi=>?_⟩
 simp only[Out.app,List.map_append,<-List.append_assoc]
 rcases List.mem_append.1 hi with hi|hi
 ·exact(h.is i hi).mono h1
 ·have:=(k.is i hi).mono (ws:=[]) (ts:=[]) h2
  simpa using this
theorem oY {s:List UInt8}:∀{l:List Vd}{i k:Nat}{t:T3},fW s i l=some (k,t)->i<=k/\∃v,l[k-i]?=some v/\v.ty=t
 |[],_,_,_,h=>by cases h
 |f::l,i,k,t,h=>by
  unfold fW at h
  split at h
  ·cases h;exact⟨Nat.le_refl _,f,by simp,rfl⟩
  ·obtain⟨h1,v,h2,h3⟩:=oY h
   have e:k-i=(k-(i+1))+1:=by omega
   exact⟨by omega,v,by rw[e,List.getElem?_cons_succ];exact h2,h3⟩
theorem DI {s:List UInt8}:∀{l:List Sg}{i k:Nat}{t:Sg},nM s i l=some (k,t)->i<=k/\l[k-i]?=some t
 |[],_,_,_,h=>by cases h
 |g::l,i,k,t,h=>by
  unfold nM at h
  split at h
  ·cases h;exact⟨Nat.le_refl _,by simp⟩
  ·obtain⟨h1,h2⟩:=DI h
   have e:k-i=(k-(i+1))+1:=by omega
   exact⟨by omega,by rw[e,List.getElem?_cons_succ];exact h2⟩
end uF
namespace uF
open Ax Go V7 j4 k8
variable {H:Hd}{f:Nat}{has:Bool}{res:T3}{V:List Vd}
def BT (t:T3):Prop:=1<=t.b/\t.b<=3
theorem BT.ne {t:T3}(h:BT t):t≠T0:=λe=>by rw[e]at h;exact absurd h.1 (by decide)
structure Hd.gd (H:Hd):Prop where
 ct:∀s∈H.ct,∀f∈s.2,BT f.ty
 globals:∀f∈H.globals,BT f.ty
 ps:∀s∈H.sigs,∀f∈s.ps,BT f.ty
 res:∀s∈H.sigs,s.res≠T0->BT s.res/\s.has=true
theorem uq {l:List (List UInt8)}{s:List UInt8}{d:Int}(h:(cH l s d).2=true):BT (cH l s d).1:=by
 unfold cH at h ⊢
 split
 ·rename_i c;rw[if_pos c]at h;cases h
 rename_i c
 rw[if_neg c]at h
 split
 ·exact⟨by show (1:Int)<=1;decide,by show (1:Int)<=3;decide⟩
 rename_i c2
 rw[if_neg c2]at h
 split
 ·exact⟨by show (1:Int)<=2;decide,by show (2:Int)<=3;decide⟩
 rename_i c3
 rw[if_neg c3]at h
 split
 ·rename_i c4;rw[if_pos c4]at h;cases h
 ·exact⟨by show (1:Int)<=3;decide,by show (3:Int)<=3;decide⟩
theorem iE {b:Bool}{t u:T3}{r:Int}(h:Dz b t=some (u,r)):b=true/\u=t/\r=0:=by
 unfold Dz at h
 cases b with
 |false=>cases h
 |true=>cases h;exact⟨rfl,rfl,rfl⟩
theorem mem_of {α:Type}{l:List α}{k:Nat}{x:α}(h:l[k]?=some x):x∈l:=List.mem_of_getElem? h
theorem ahQ {ks:List E}(h:ks.length=2):∃a b,ks=[a,b]:=by
 match ks,h with
 |[a,b],_=>exact⟨a,b,rfl⟩
theorem Ys (hG:Hd.gd H)(hV:∀v∈V,BT v.ty){k n:Int}{nm on:List UInt8}{od:Int}{ks:List E}{t:T3}{r:Int}(hk:cR k n ks.length=true)(mq:∀e∈ks,BT e.ty)(h:mD H V k nm on od ks=some (t,r)):(t=T0->k=7)/\(t≠T0->BT t):=by
 have bI:BT tI:=⟨by decide,by decide⟩
 have bB:BT tB:=⟨by decide,by decide⟩
 have of:BT t->(t=T0->k=7)/\(t≠T0->BT t):=λh=>⟨λe=>absurd e h.ne,λ_=>h⟩
 unfold mD at h
 by_cases c1:k=1\/k=11
 ·rw[if_pos c1]at h;cases h;exact of bI
 rw[if_neg c1]at h
 by_cases c2:k=2
 ·rw[if_pos c2]at h;cases h;exact of bB
 rw[if_neg c2]at h
 by_cases c3:k=3
 ·rw[if_pos c3]at h
  obtain⟨h1,rfl,_⟩:=iE h
  rw[Bool.and_eq_true]at h1
  exact of (uq h1.1)
 rw[if_neg c3]at h
 by_cases c4:k=4
 ·rw[if_pos c4]at h
  unfold x4 at h
  split at h
  ·rename_i j u e
   cases h
   obtain⟨_,v,h1,h2⟩:=oY e
   exact of (h2 ▸ hV v (mem_of h1))
  ·split at h
   ·rename_i j u e
    cases h
    obtain⟨_,v,h1,h2⟩:=oY e
    exact of (h2 ▸ hG.globals v (mem_of h1))
   ·cases h
 rw[if_neg c4]at h
 by_cases c5:k=5
 ·rw[if_pos c5]at h
  unfold x5 at h
  split at h
  ·split at h
   ·rename_i s hs
    split at h
    ·rename_i i u e
     cases h
     obtain⟨_,v,h1,h2⟩:=oY e
     exact of (h2 ▸ hG.ct s (mem_of hs) v (mem_of h1))
    ·cases h
   ·cases h
  ·cases h
 rw[if_neg c5]at h
 by_cases c6:k=6
 ·rw[if_pos c6]at h
  obtain⟨h1,rfl,_⟩:=iE h
  have hl:ks.length=2:=by
   unfold cR at hk
   rw[if_neg (by omega),if_neg (by omega),if_neg (by omega),if_neg (by omega)]at hk
   simp only[Bool.and_eq_true,decide_eq_true_eq]at hk
   exact hk.2
  obtain⟨a,b,rfl⟩:=ahQ hl
  exact of (mq a (by simp))
 rw[if_neg c6]at h
 by_cases c7:k=7
 ·rw[if_pos c7]at h
  refine⟨λ_=>c7,λjH=>?_⟩
  unfold BJ at h
  split at h
  ·rename_i i s hs
   split at h
   ·cases h
    obtain⟨_,h2⟩:=DI hs
    exact(hG.res s (mem_of h2) jH).1
   ·cases h
  ·cases h
 rw[if_neg c7]at h
 by_cases c8:k=8
 ·rw[if_pos c8]at h
  obtain⟨h1,rfl,_⟩:=iE h
  simp only[Bool.and_eq_true]at h1
  exact of (uq h1.1.1)
 rw[if_neg c8]at h
 by_cases c9:k=9
 ·rw[if_pos c9]at h
  obtain⟨h1,rfl,_⟩:=iE h
  simp only[Bool.and_eq_true]at h1
  exact of (uq h1.1.1)
 rw[if_neg c9]at h
 by_cases zb:k=10
 ·rw[if_pos zb]at h
  obtain⟨_,rfl,_⟩:=iE h
  exact of bI
 rw[if_neg zb]at h
 by_cases G4:k=12
 ·rw[if_pos G4]at h
  obtain⟨_,rfl,_⟩:=iE h
  exact of bI
 rw[if_neg G4]at h
 by_cases KL:k=13
 ·rw[if_pos KL]at h
  obtain⟨_,rfl,_⟩:=iE h
  exact of bB
 rw[if_neg KL]at h
 unfold k8.EF at h
 split at h
 ·obtain⟨_,rfl,_⟩:=iE h;exact of bI
 split at h
 ·obtain⟨_,rfl,_⟩:=iE h;exact of bB
 split at h
 ·obtain⟨_,rfl,_⟩:=iE h;exact of bB
 ·obtain⟨_,rfl,_⟩:=iE h;exact of bB
theorem QJ:∀{l ys:List E},kG H V l=.ok ys->∀y∈ys,y.ty≠T0
 |[],ys,h=>by unfold kG at h;cases h;simp
 |e::l,ys,h=>by
  obtain⟨y,zs,_,h1,h2,rfl⟩:=kH h
  intro z hz
  rcases List.mem_cons.1 hz with rfl|hz
  ·exact h1
  ·exact QJ h2 z hz
theorem Yt (hG:Hd.gd H)(hV:∀v∈V,BT v.ty)(e:E):∀y,rW H V e=.ok y->(y.ty=T0->y.k=7)/\(y.ty≠T0->BT y.ty):=by
 induction e using E.ind with
 |_ e ih=>
  intro y h
  obtain⟨ks,t,r,h1,h2,h3,rfl⟩:=x8 h
  have hb:=pS h2 ih
  have hn:=QJ h2
  exact Ys hG hV (by rw[ud h2];exact h1) (λe he=>(hb e he).2 (hn e he)) h3
end uF
namespace uF
open Ax Go V7 j4 k8
variable {H:Hd}{f:Nat}{has:Bool}{res:T3}{V X:List Vd}
theorem KZ {k:Int}{nm:List UInt8}{es:List E}{t:T3}{r:Int}{W:List Vd}(h:ji H res V k nm es t=some (r,W)):∃l,W=V++l/\∀v∈l,v.ty=t/\(k=1\/k=2):=by
 have nil:∀{W:List Vd},W=V->∃l,W=V++l/\∀v∈l,v.ty=t/\(k=1\/k=2):=λe=>⟨[],by simp[e],by simp⟩
 unfold ji at h
 split at h
 ·rename_i c
  split at h
  ·cases h
  ·cases h;exact⟨_,rfl,by simp[c]⟩
 split at h
 ·rename_i c
  split at h
  ·split at h
   ·cases h
   ·cases h;exact⟨_,rfl,by simp[c]⟩
  ·cases h
 split at h
 ·split at h
  ·split at h
   ·cases h;exact nil rfl
   ·cases h
  ·cases h
 split at h
 ·split at h
  ·cases h;exact nil rfl
  ·cases h
 split at h
 ·split at h
  ·cases h;exact nil rfl
  ·cases h
 split at h
 ·split at h
  ·cases h;exact nil rfl
  ·cases h
 split at h
 ·split at h
  ·cases h;exact nil rfl
  ·cases h
 ·cases h;exact nil rfl
def Gv (H:Hd)(V:List Vd):Prop:=∀v∈V,WT H.rs.length v.ty/\BT v.ty
theorem Un {k:Int}{on:List UInt8}{od:Int}{t:T3}(h:iM H k on od=some t)(hk:k=1\/k=2):WT H.rs.length t/\BT t:=by
 unfold iM at h
 rw[if_pos hk]at h
 split at h
 ·rename_i c;cases h;exact⟨lN _ _ _,uq c⟩
 ·cases h
theorem QK {k:Int}{nm on:List UInt8}{od:Int}{es:List E}{t:T3}{r:Int}{W:List Vd}(hd:iM H k on od=some t)(h:ji H res V k nm es t=some (r,W))(hV:Gv H V):Gv H W:=by
 obtain⟨l,rfl,h1⟩:=KZ h
 intro v hv
 rcases List.mem_append.1 hv with hv|hv
 ·exact hV v hv
 ·obtain⟨e,hk⟩:=h1 v hv
  rw[e];exact Un hd hk
def Ext (V X:List Vd):Prop:=∃l,X=V++l
theorem Ext.rfl':Ext V V:=⟨[],by simp⟩
theorem Ext.trans {A B C:List Vd}(h:Ext A B)(k:Ext B C):Ext A C:=by
 obtain⟨l,rfl⟩:=h
 obtain⟨m,rfl⟩:=k
 exact⟨l++m,by simp⟩
theorem Ext.pre {A B:List Vd}{vs:List T3}(h:Ext A B)(hp:Yr B vs):Yr A vs:=by
 obtain⟨l,rfl⟩:=h
 exact λk v hk=>hp k v (Ab hk)
theorem tr:∀{l ys:List Sm}{V X:List Vd},(∀s∈l,∀V y W,sY H has res V s=.ok (y,W)->Gv H V->Ext V W/\Gv H W)->j6 H has res V l=.ok (ys,X)->Gv H V->Ext V X/\Gv H X
 |[],ys,V,X,_,h,hV=>by
  unfold j6 at h
  cases h
  exact⟨.rfl',hV⟩
 |s::l,ys,V,X,hp,h,hV=>by
  obtain⟨y,W,zs,h1,h2,rfl⟩:=sZ h
  obtain⟨a,b⟩:=hp s List.mem_cons_self V y W h1 hV
  obtain⟨c,d⟩:=tr (λt ht=>hp t (List.mem_cons_of_mem _ ht)) h2 b
  exact⟨a.trans c,d⟩
theorem K0 (s:Sm):∀V y W,sY H has res V s=.ok (y,W)->Gv H V->Ext V W/\Gv H W:=by
 induction s using Sm.ind with
 |_ s rL rA=>
  intro V y X h hV
  obtain⟨t,ys,r,W,hf,ht,RK,bY,hh⟩:=BK h
  obtain⟨l,e,_⟩:=KZ bY
  have h1:Ext V W:=⟨l,e⟩
  have h2:=QK ht bY hV
  rcases hh with⟨_,b,W1,c,hb,hc,rfl⟩|⟨_,b,hb,rfl⟩|⟨_,_,rfl,rfl⟩
  ·obtain⟨a1,a2⟩:=tr rL hb h2
   obtain⟨b1,b2⟩:=tr rA hc a2
   exact⟨h1.trans (a1.trans b1),b2⟩
  ·obtain⟨a1,a2⟩:=tr rL hb h2
   exact⟨h1.trans a1,a2⟩
  ·exact⟨h1,h2⟩
theorem Uo {l ys:List Sm}{V X:List Vd}(h:j6 H has res V l=.ok (ys,X))(hV:Gv H V):Ext V X/\Gv H X:=tr (λs _=>K0 s) h hV
def FS (H:Hd)(f:Nat)(has:Bool)(res:T3)(X:List Vd)(y:Sm):Prop:=∀(vs:List T3)(ss:List Sd)(at_:Nat),Yr X vs->RL H f has res vs ss (at_+(cS vs.length at_ ss.length y).is.length) (cS vs.length at_ ss.length y)
theorem RL.k7 {vs:List T3}{ss:List Sd}{m m':Nat}{o:Out}(h:RL H f has res vs ss m o)(hm:m<=m'):RL H f has res vs ss m' o:=⟨λi hi=>by
 have:=(h.is i hi).mono (ws:=[]) (ts:=[]) hm
 simpa using this⟩
end uF
namespace uF
open Ax Go V7 j4 k8
variable {H:Hd}{f:Nat}{has:Bool}{res:T3}{V X:List Vd}
structure MT (H:Hd)(t:T3):Prop where
 wt:WT H.rs.length t
 bt:BT t
 rt:t.b≠3->t.r=0
def RT (t:T3):Prop:=t.b≠3->t.r=0
structure Hd.rt (H:Hd):Prop where
 ct:∀s∈H.ct,∀f∈s.2,RT f.ty
 globals:∀f∈H.globals,RT f.ty
 ps:∀s∈H.sigs,∀f∈s.ps,RT f.ty
 res:∀s∈H.sigs,RT s.res
theorem K1 {l:List (List UInt8)}{s:List UInt8}{d:Int}:RT (cH l s d).1:=by
 unfold cH RT
 split
 ·intro _;rfl
 split
 ·intro _;rfl
 split
 ·intro _;rfl
 split
 ·intro _;rfl
 ·intro h;exact absurd rfl h
structure Fa (H:Hd)(o:Out):Prop where
 vs:∀t∈o.vs,MT H t
 ss:∀t∈o.ss,MT H t/\vz t=true
theorem Fa.nil:Fa H O0:=⟨by simp[O0],by simp[O0]⟩
theorem Fa.app {x y:Out}(h:Fa H x)(k:Fa H y):Fa H (x.app y):=by
 refine⟨λt ht=>?_,λt ht=>?_⟩
 ·rcases List.mem_append.1 ht with ht|ht
  ·exact h.vs t ht
  ·exact k.vs t ht
 ·rcases List.mem_append.1 ht with ht|ht
  ·exact h.ss t ht
  ·exact k.ss t ht
def Mv (H:Hd)(V:List Vd):Prop:=∀v∈V,MT H v.ty
theorem Fa.of {x:Out}(h:Fa H x)(l:List In):Fa H ⟨x.vs,l,x.ss⟩:=⟨h.vs,h.ss⟩
end uF
namespace uF
open Ax Go V7 j4 k8
variable {H:Hd}{f:Nat}{has:Bool}{res:T3}{V X:List Vd}
structure Hd.ahR (H:Hd):Prop where
 ok:H.ok
 gd:Hd.gd H
 rt:Hd.rt H
 yes:∀s∈H.sigs,s.has=true->MT H s.res
 no:∀s∈H.sigs,s.has=false->s.res=T0
 ct:∀s∈H.ct,s.2.length<=8
 pn:∀s∈H.sigs,s.ps.length<=6
 nr:H.ct.length<=12
 ng:H.globals.length<=8
 nf:H.sigs.length<=16
structure K2 (H:Hd)(f:Nat)(s:Sg)(ss:List Sd)(c:Cd):Prop where
 params:c.params=s.ps.length
 has:c.has=s.has
 res:c.res=s.res
 pre:Yr s.ps c.vars
 vt:∀t∈c.vars,MT H t
 nv:c.vars.length<=4000
 fit:∀i∈c.is,uZ H f s.has s.res c.vars ss (c.is.length-1) i
 last:∃i,c.is.getLast? = some i/\i.op=18
theorem K2.k7 {s:Sg}{ss ts:List Sd}{c:Cd}(h:K2 H f s ss c):K2 H f s (ss++ts) c:=
 ⟨h.params,h.has,h.res,h.pre,h.vt,h.nv,λi hi=>by
  have:=(h.fit i hi).mono (ws:=[]) (ts:=ts) (Nat.le_refl _)
  simpa using this,h.last⟩
structure Made (H:Hd)(cs:List Cd)(ss:List Sd)(all:Nat):Prop where
 code:∀(j:Nat) (c:Cd),cs[j]?=some c->∃s,H.sigs[j]?=some s/\K2 H j s ss c
 site:∀s∈ss,MT H s.ty/\vz s.ty=true/\s.fn<cs.length
 ns:ss.length<=60
 sum:(cs.map (·.is.length)).sum=all
 Z3:all<=2500
end uF
namespace uF
open Ax Go V7 j4 k8
variable {H:Hd}{V:List Vd}{has:Bool}{res:T3}
theorem QL {k n:Int}{m:Nat}(h:cR k n m=true):(k=5\/k=9\/k=10\/k=12\/k=13->m=1)/\(k=6\/14<=k->m=2)/\(0<k/\k<25):=by
 unfold cR at h
 split at h
 ·rename_i c
  exact⟨λq=>by omega,λq=>by omega,by omega⟩
 split at h
 ·rename_i c
  exact⟨λq=>by omega,λq=>by omega,by omega⟩
 split at h
 ·rename_i c
  exact⟨λq=>by omega,λq=>by omega,by omega⟩
 split at h
 ·rename_i c1 c2 c3 c
  have hm:m=1:=by simpa using h
  exact⟨λ_=>hm,λq=>by omega,by omega⟩
 ·rename_i c1 c2 c3 c
  simp only[Bool.and_eq_true,Bool.or_eq_true,decide_eq_true_eq]at h
  exact⟨λq=>by omega,λq=>h.2,by omega⟩
theorem wO:∀{l:List Vd}{s:List UInt8}{i k:Nat}{t:T3},fW s i l=some (k,t)->k<i+l.length
 |[],_,_,_,_,h=>by cases h
 |f::l,s,i,k,t,h=>by
  unfold fW at h
  split at h
  ·cases h;simp
  ·have:=wO h
   simp only[List.length_cons];omega
theorem K3 {s:List UInt8}{t:T3}{r:Int}(hg:H.globals.length<100000000)(h:x4 H V s=some (t,r)) : -1000000000<r:=by
 unfold x4 at h
 split at h
 ·cases h;omega
 ·split at h
  ·rename_i k t' hk
   cases h
   have:=wO hk
   omega
  ·cases h
theorem Yu (hG:Hd.gd H)(hg:H.globals.length<100000000)(hV:∀v∈V,BT v.ty)(e:E):∀y,rW H V e=.ok y->LE y:=by
 induction e using E.ind with
 |_ e ih=>
  intro y h
  have hbt:=(Yt hG hV e y h).1
  obtain⟨ks,t,r,h1,h2,h3,rfl⟩:=x8 h
  have hl:=ud h2
  rw[<-hl]at h1
  obtain⟨a,b,c⟩:=QL h1
  rw[QF]
  refine⟨hbt,a,b,c,λk4=>?_,(qh _).2 (pS h2 ih)⟩
  have k4:e.k=4:=k4
  unfold mD at h3
  rw[if_neg (by omega),if_neg (by omega),if_neg (by omega),if_pos k4]at h3
  exact K3 hg h3
theorem Up {k:Int}{es ys:List E}{P:E->Prop}(h:vO H V k es=.ok ys)(hp:∀e∈es,∀y,rW H V e=.ok y->P y):∀y∈ys,P y:=by
 unfold vO at h
 by_cases h9:k=9
 ·rw[if_pos h9]at h
  match es,h,hp with
  |[],h,_=>cases h;simp
  |e::l,h,hp=>
   cases hx:rW H V e with
   |error a=>simp only[hx]at h;cases h
   |ok y=>
    simp only[hx]at h;cases h
    intro z hz
    rw[List.mem_singleton.1 hz]
    exact hp e List.mem_cons_self y hx
 ·rw[if_neg h9]at h
  exact pS h hp
theorem w6:∀{l ys:List Sm}{V X:List Vd},(∀s∈l,∀V y W,sY H has res V s=.ok (y,W)->Gv H V->LS y)->j6 H has res V l=.ok (ys,X)->Gv H V->LB ys
 |[],ys,V,X,_,h,_=>by
  unfold j6 at h
  cases h
  simp[LB]
 |s::l,ys,V,X,hp,h,hV=>by
  obtain⟨y,W,zs,h1,h2,rfl⟩:=sZ h
  unfold LB
  exact⟨hp s List.mem_cons_self V y W h1 hV,w6 (λt ht=>hp t (List.mem_cons_of_mem _ ht)) h2 (K0 s V y W h1 hV).2⟩
theorem QM {k:Int}{es:List E}(h:cY has k es=true):(k=2\/k=3\/k=5\/k=6\/k=8\/k=9->es.length=1)/\(k=4->es.length=2/\((ko es).k=5\/(ko es).k=6)):=by
 unfold cY at h
 split at h
 ·exact⟨λq=>by omega,λq=>by omega⟩
 split at h
 ·rename_i c
  refine⟨λq=>by omega,λ_=>?_⟩
  match es,h with
  |[e,f],h=>exact⟨rfl,by simpa [ko] using h⟩
 split at h
 ·exact⟨λq=>by omega,λq=>by omega⟩
 split at h
 ·refine⟨λ_=>?_,λq=>by omega⟩
  match es,h with
  |[e],_=>rfl
 split at h
 ·rename_i c1 c2 c3 c4 c
  exact⟨λ_=>by simpa using h,λq=>absurd q c2⟩
 ·cases h
theorem Yv (hG:Hd.gd H)(hg:H.globals.length<100000000)(s:Sm):∀V y W,sY H has res V s=.ok (y,W)->Gv H V->LS y:=by
 induction s using Sm.ind with
 |_ s rL rA=>
  intro V y X h hV
  obtain⟨t,ys,r,W,hf,ht,RK,bY,hh⟩:=BK h
  have hW:=QK ht bY hV
  have a1:LL ys:=(qh _).2 (Up RK λe _ y hy=>Yu hG hg (λv hv=>(hV v hv).2) e y hy)
  obtain⟨a2,a3⟩:=QM (P6 RK hf)
  have a4:s.k=2\/s.k=3→-1000000000<r:=λq=>by
   unfold ji at bY
   rw[if_neg (by omega)]at bY
   by_cases c2:s.k=2
   ·rw[if_pos c2]at bY
    split at bY
    ·split at bY
     ·cases bY
     ·cases bY;omega
    ·cases bY
   ·rw[if_neg c2,if_pos (by omega)]at bY
    split at bY
    ·rename_i u r' hv
     split at bY
     ·cases bY;exact K3 hg hv
     ·cases bY
    ·cases bY
  rcases hh with⟨_,b,W1,c,hb,hc,rfl⟩|⟨_,b,hb,rfl⟩|⟨_,_,rfl,rfl⟩
  ·rw[HN];exact⟨a1,a2,a3,a4,w6 rL hb hW,w6 rA hc (Uo hb hW).2⟩
  ·rw[HN];exact⟨a1,a2,a3,a4,w6 rL hb hW,by simp[Sm.el,LB]⟩
  ·rw[HN];exact⟨a1,a2,a3,a4,by simp[Sm.bd,LB],by simp[Sm.el,LB]⟩
theorem QN (hG:Hd.gd H)(hg:H.globals.length<100000000):∀{ss:List Sg}{fs:List Fc}{bs:List Bd},(∀s∈ss,Gv H s.ps)->qj H ss fs=.ok bs->∀b∈bs,LB b.code
 |[],fs,bs,_,h=>by unfold qj at h;cases h;simp
 |_::_,[],bs,_,h=>by unfold qj at h;cases h;simp
 |s::ss,f::fs,bs,hs,h=>by
  unfold qj at h
  split at h
  ·cases h
  ·rename_i c W hb
   split at h
   ·cases h
   ·rename_i l hl
    cases h
    intro b hbm
    rcases List.mem_cons.1 hbm with rfl|hbm
    ·exact w6 (λs _=>Yv hG hg s) hb (hs s List.mem_cons_self)
    ·exact QN hG hg (λs h=>hs s (List.mem_cons_of_mem _ h)) hl b hbm
end uF
namespace uF
open Ax Go cp V7 j4 k8 K9 N7 U7
theorem rG {a b:Option Int}(h:uY a b=none):a=none/\b=none:=by
 cases a with
 |none=>exact⟨rfl,h⟩
 |some x=>cases h
theorem zg {α:Type}{bad:List α->α->Option Int}{l:List α}:∀{m:Nat},fV bad l m=none->∀k (h:k<l.length),k<m->bad (l.take k) l[k]=none
 |0,_,k,_,hk=>absurd hk (by omega)
 |m+1,h,k,hl,hk=>by
  obtain⟨h1,h2⟩:=rG h
  by_cases e:k=m
  ·subst e
   rw[List.getElem?_eq_getElem hl]at h2
   exact h2
  ·exact zg h1 k hl (by omega)
theorem yg {α:Type}{bad:List α->α->Option Int}{l:List α}(h:fV bad l l.length=none):∀x∈l,∃b,bad b x=none:=λx hx=>by
 obtain⟨k,hk,rfl⟩:=List.getElem_of_mem hx
 exact⟨_,zg h k hk hk⟩
theorem JJ {rs:List (List UInt8)}{l:List PD}(h:fV (wI rs) l l.length=none):∀v∈lK rs l,BT v.ty/\RT v.ty:=by
 intro v hv
 obtain⟨q,hq,rfl⟩:=List.mem_map.1 hv
 obtain⟨b,h1⟩:=yg h q hq
 unfold wI at h1
 split at h1
 ·cases h1
 ·rename_i c
  simp only[Bool.or_eq_true,Bool.not_eq_true',not_or,Bool.not_eq_false]at c
  exact⟨uq c.2,K1⟩
structure Few (p:Pg):Prop where
 r:p.bw.length<=12
 g:p.globals.length<=8
 f:p.funcs.length<=16
 fl:∀x∈p.bw,x.fields.length<=8
 ps:∀x∈p.funcs,x.params.length<=6
theorem Uq {p:Pg}(h:lS (j8 p)=none)(hf:Few p):Hd.ahR (aQ p):=by
 have Wj:=KU p
 have h3:td (j8 p)=none:=by
  unfold lS at h
  split at h
  ·exact(rG h).1
  ·exact h
 unfold td at h3
 obtain⟨h4,hS⟩:=rG h3
 obtain⟨h5,hP⟩:=rG h4
 obtain⟨h6,hFl⟩:=rG h5
 rw[Aa]at hS hP hFl
 rw[pW]at hS
 rw[EY]at hP
 rw[pV]at hFl
 have hg:=JJ hP
 have hr:∀x∈p.bw,∀v∈lK (bX p) x.fields,BT v.ty/\RT v.ty:=λx hx=>by
  obtain⟨b,h1⟩:=yg hFl (Hv x) (List.mem_map_of_mem hx)
  unfold Mr at h1
  rw[show (Hv x).fields=aA 4 (x.fields.map PD.cells) from rfl,n6]at h1
  exact JJ h1
 have hs:∀x∈p.funcs,(∀v∈lK (bX p) x.params,BT v.ty/\RT v.ty)/\(x.has=true->(cH (bX p) x.on x.od).2=true):=λx hx=>by
  obtain⟨b,h1⟩:=yg hS (CO x) (List.mem_map_of_mem hx)
  unfold Ms at h1
  obtain⟨h2,h7⟩:=rG h1
  have h8:=(rG h2).2
  rw[show (CO x).params=aA 4 (x.params.map PD.cells) from rfl,n6]at h8
  refine⟨JJ h8,λhh=>?_⟩
  unfold Hp at h7
  split at h7
  ·cases h7
  ·rename_i c
   show (cH (bX p) (CO x).on (CO x).od).2=true
   have hh':(CO x).has=true:=hh
   rw[hh']at c
   simpa using c
 have Yw:∀x∈p.funcs,(vA (bX p) x).has=true->MT (aQ p) (vA (bX p) x).res:=λx hx hh=>by
  have hh:x.has=true:=hh
  have e:(vA (bX p) x).res=(cH (bX p) x.on x.od).1:=by
   show (if x.has then _ else T0)=_
   rw[if_pos hh]
  rw[e]
  exact⟨lN _ _ _,uq ((hs x hx).2 hh),K1⟩
 have QO:∀x∈p.funcs,(vA (bX p) x).has=false->(vA (bX p) x).res=T0:=λx hx hh=>by
  have hh:x.has=false:=hh
  show (if x.has then _ else T0)=_
  rw[hh];rfl
 refine⟨Wj,⟨?_,?_,?_,?_⟩,⟨?_,?_,?_,?_⟩,?_,?_,?_,?_,?_,?_,?_⟩
 ·intro s rX v hv
  obtain⟨x,hx,rfl⟩:=List.mem_map.1 rX
  exact(hr x hx v hv).1
 ·exact λv hv=>(hg v hv).1
 ·intro s rX v hv
  obtain⟨x,hx,rfl⟩:=List.mem_map.1 rX
  exact((hs x hx).1 v hv).1
 ·intro s rX jH
  obtain⟨x,hx,rfl⟩:=List.mem_map.1 rX
  cases hh:(vA (bX p) x).has with
  |true=>exact⟨(Yw x hx hh).bt,rfl⟩
  |false=>exact absurd (QO x hx hh) jH
 ·intro s rX v hv
  obtain⟨x,hx,rfl⟩:=List.mem_map.1 rX
  exact(hr x hx v hv).2
 ·exact λv hv=>(hg v hv).2
 ·intro s rX v hv
  obtain⟨x,hx,rfl⟩:=List.mem_map.1 rX
  exact((hs x hx).1 v hv).2
 ·intro s rX
  obtain⟨x,hx,rfl⟩:=List.mem_map.1 rX
  cases hh:(vA (bX p) x).has with
  |true=>exact(Yw x hx hh).rt
  |false=>rw[QO x hx hh];intro _;rfl
 ·intro s rX hh
  obtain⟨x,hx,rfl⟩:=List.mem_map.1 rX
  exact Yw x hx hh
 ·intro s rX hh
  obtain⟨x,hx,rfl⟩:=List.mem_map.1 rX
  exact QO x hx hh
 ·intro s rX
  obtain⟨x,hx,rfl⟩:=List.mem_map.1 rX
  have:=hf.fl x hx
  simpa [lK] using this
 ·intro s rX
  obtain⟨x,hx,rfl⟩:=List.mem_map.1 rX
  have:=hf.ps x hx
  simpa [vA,lK] using this
 ·have:=hf.r;simpa [aQ] using this
 ·have:=hf.g;simpa [aQ,lK] using this
 ·have:=hf.f;simpa [aQ] using this
end uF
