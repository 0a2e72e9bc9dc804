/-
  A program as codes, in plain terms.
-/
import Derived.Test.YtachcambnjecnaaGreatP
import Derived.Test.YtachcambnjecnaaGreatA6
import Derived.Test.YtachcambnjecnaaGreatD
import Derived.Test.YtachcambnjecnaaGreatN
import Derived.Test.YtachcambnjecnaaGreatS

set_option maxRecDepth 100000
set_option maxHeartbeats 4000000
namespace vC
open Ax Go V7 lP mV
structure In where
 op:Int
 a:Int
 b:Int
 c:Int
 n:Int
 args:List Int
def kR (l:List Int):AV:=aD 1 (ints l)
def In.row (i:In):List AV:=[.int .i64 i.op,.int .i64 i.a,.int .i64 i.b,.int .i64 i.c,.int .i64 i.n,kR i.args]
structure Out where
 vs:List T3
 is:List In
 ss:List T3
def O0:Out:=⟨[],[],[]⟩
def Out.app (x y:Out):Out:=⟨x.vs++y.vs,x.is++y.is,x.ss++y.ss⟩
def eO (i:In):Out:=⟨[],[i],[]⟩
def x9 (l:List Int):Int:=match l with|a::_=>a | []=>0
def Wy (l:List Int):Int:=match l with|_::a::_=>a|_=>0
def eK (k n ref t site:Int)(l:List Int):In:=
 if k=1\/k=2 then ⟨1,t,0,0,n,[]⟩
 else if k=3 then ⟨2,t,0,0,0,[]⟩
 else if k=4 then ⟨19,t,0,0,-1-ref,[]⟩
 else if k=5 then ⟨6,t,x9 l,ref,0,[]⟩
 else if k=6 then ⟨8,t,x9 l,Wy l,0,[]⟩
 else if k=7 then ⟨13,t,0,ref,0,l⟩
 else if k=8 then ⟨11,t,0,0,site,[]⟩
 else if k=9 then ⟨12,t,x9 l,0,site,[]⟩
 else if k=10 then ⟨10,t,x9 l,0,0,[]⟩
 else if k=11 then ⟨14,t,0,0,0,[]⟩
 else if k=12\/k=13 then ⟨5,t,x9 l,0,k,[]⟩
 else ⟨4,t,x9 l,Wy l,k,[]⟩
def cK (nv ns:Nat)(k n ref:Int)(ty:T3)(x:List Int×Out):Int×Out:=
 if ty=T0 then (-1,x.2.app (eO ⟨13,-1,0,ref,0,x.1⟩))
 else (((nv+x.2.vs.length:Nat):Int),x.2.app ⟨[ty],[eK k n ref ((nv+x.2.vs.length:Nat):Int) ((ns+x.2.ss.length:Nat):Int) x.1],if k=8\/k=9 then [ty] else []⟩)
mutual
def cE (nv ns:Nat):E->Int×Out
 |.mk k n _ _ _ kids _ ty ref=>if k=4/\0<=ref then (ref,O0) else cK nv ns k n ref ty (mE nv ns kids)
def mE (nv ns:Nat):List E->List Int×Out
 |[]=>([],O0)
 |e::l=>((cE nv ns e).1::(mE (nv+(cE nv ns e).2.vs.length) (ns+(cE nv ns e).2.ss.length) l).1,(cE nv ns e).2.app (mE (nv+(cE nv ns e).2.vs.length) (ns+(cE nv ns e).2.ss.length) l).2)
end
def E0:E:=.mk 0 0 [] [] 0 [] 0 T0 0
def kq (es:List E):E:=match es with|e::_=>e | []=>E0
def Ri (es:List E):E:=match es with|_::e::_=>e|_=>E0
def D6 (nv at_ ns:Nat)(x:Out)(f:Nat->Nat->Nat->Out):Out:=x.app (f (nv+x.vs.length) (at_+x.is.length) (ns+x.ss.length))
def Co (ref v:Int):In:=if ref<0 then ⟨20,v,0,0,-1-ref,[]⟩ else ⟨3,ref,v,0,0,[]⟩
def Ii (k ref v:Int)(l:List Int):In:=if k=5 then ⟨7,x9 l,v,ref,0,[]⟩ else ⟨9,x9 l,Wy l,v,0,[]⟩
def Rj (nv at_ ns:Nat)(x:Int×Out)(f g:Nat->Nat->Nat->Out):Out:=
 let i:=at_+x.2.is.length
 let b:=f (nv+x.2.vs.length) (i+1) (ns+x.2.ss.length)
 let j:=i+1+b.is.length
 let c:=g (nv+x.2.vs.length+b.vs.length) (j+1) (ns+x.2.ss.length+b.ss.length)
 ⟨x.2.vs++b.vs++c.vs,x.2.is++⟨17,x.1,0,((j+1:Nat):Int),((i+1:Nat):Int),[]⟩::(b.is++⟨16,0,0,0,((j+1+c.is.length:Nat):Int),[]⟩::c.is),x.2.ss++b.ss++c.ss⟩
def Rk (nv at_ ns:Nat)(x:Int×Out)(f:Nat->Nat->Nat->Out):Out:=
 let i:=at_+x.2.is.length
 let b:=f (nv+x.2.vs.length) (i+1) (ns+x.2.ss.length)
 let j:=i+1+b.is.length
 ⟨x.2.vs++b.vs,x.2.is++⟨17,x.1,0,((j+1:Nat):Int),((i+1:Nat):Int),[]⟩::(b.is++[⟨16,0,0,0,(at_:Int),[]⟩]),x.2.ss++b.ss⟩
def Fw (nv ns:Nat)(e:E)(x:List Int×Out)(f:Nat->Nat->Int×Out):Out:=
 let v:=f (nv+x.2.vs.length) (ns+x.2.ss.length)
 (x.2.app v.2).app (eO (Ii e.k e.ref v.1 x.1))
mutual
def cS (nv at_ ns:Nat):Sm->Out
 |.mk k _ _ _ es bd el _ ref=>
  if k=2\/k=3 then (cE nv ns (kq es)).2.app (eO (Co ref (cE nv ns (kq es)).1))
  else if k=4 then Fw nv ns (kq es) (mE nv ns (kq es).kids) (λnv ns=>cE nv ns (Ri es))
  else if k=5 then Rj nv at_ ns (cE nv ns (kq es)) (λnv at_ ns=>cB nv at_ ns bd) (λnv at_ ns=>cB nv at_ ns el)
  else if k=6 then Rk nv at_ ns (cE nv ns (kq es)) (λnv at_ ns=>cB nv at_ ns bd)
  else if k=7 then (match es with
   |[]=>eO ⟨18,-1,0,0,0,[]⟩
   |e::_=>(cE nv ns e).2.app (eO ⟨18,(cE nv ns e).1,0,0,0,[]⟩))
  else if k=8 then (cE nv ns (kq es)).2.app (eO ⟨15,(cE nv ns (kq es)).1,0,0,0,[]⟩)
  else if k=9 then (cE nv ns (kq es)).2
  else O0
def cB (nv at_ ns:Nat):List Sm->Out
 |[]=>O0
 |s::l=>D6 nv at_ ns (cS nv at_ ns s) (λnv at_ ns=>cB nv at_ ns l)
end
structure Cd where
 params:Nat
 vars:List T3
 has:Bool
 res:T3
 is:List In
def Cd.row (c:Cd):List AV:=[.int .i64 c.params,aD 3 (c.vars.map T3.cells),.bool c.has,.int .i64 c.res.b,.int .i64 c.res.r,.int .i64 c.res.d,aD 6 (c.is.map In.row)]
structure Sd where
 fn:Nat
 ty:T3
def Sd.row (s:Sd):List AV:=[.int .i64 s.fn,.int .i64 s.ty.b,.int .i64 s.ty.r,.int .i64 s.ty.d]
def vD (s:Sg)(t:Nat):List In:=if s.has then [⟨if kX s.res then 2 else 1,(t:Int),0,0,0,[]⟩,⟨18,(t:Int),0,0,0,[]⟩] else [⟨18,-1,0,0,0,[]⟩]
def hY (ns:Nat)(b:Bd):Out:=cB b.vars.length 0 ns b.code
def ct (ns:Nat)(s:Sg)(b:Bd):Cd:=
 ⟨s.ps.length,b.vars.map (·.ty)++(hY ns b).vs++(if s.has then [s.res] else []),s.has,s.res,(hY ns b).is++vD s (b.vars.length+(hY ns b).vs.length)⟩
def wL (cs:List Cd)(ss:List Sd)(all:Nat):List Sg->List Bd->Except Int (List Cd×List Sd)
 |s::sg,b::bs=>
  if 4000<(ct ss.length s b).vars.length\/2500<all+(ct ss.length s b).is.length\/60<ss.length+(hY ss.length b).ss.length then .error b.a
  else wL (cs++[ct ss.length s b]) (ss++(hY ss.length b).ss.map (λt=>⟨cs.length,t⟩)) (all+(ct ss.length s b).is.length) sg bs
 |_,_=>.ok (cs,ss)
theorem zz (nv ns:Nat)(e:E):cE nv ns e=if e.k=4/\0<=e.ref then (e.ref,O0) else cK nv ns e.k e.n e.ref e.ty (mE nv ns e.kids):=by
 obtain⟨k,n,nm,on,od,kids,a,ty,ref⟩:=e
 (conv=>lhs;unfold cE)<;>rfl
theorem uv (nv ns:Nat)(e:E)(l:List E):mE nv ns (e::l)=((cE nv ns e).1::(mE (nv+(cE nv ns e).2.vs.length) (ns+(cE nv ns e).2.ss.length) l).1,(cE nv ns e).2.app (mE (nv+(cE nv ns e).2.vs.length) (ns+(cE nv ns e).2.ss.length) l).2):=by
 (conv=>lhs;unfold mE)<;>rfl
theorem Rl (nv at_ ns:Nat)(s:Sm):cS nv at_ ns s =
  if s.k=2\/s.k=3 then (cE nv ns (kq s.es)).2.app (eO (Co s.ref (cE nv ns (kq s.es)).1))
  else if s.k=4 then Fw nv ns (kq s.es) (mE nv ns (kq s.es).kids) (λnv ns=>cE nv ns (Ri s.es))
  else if s.k=5 then Rj nv at_ ns (cE nv ns (kq s.es)) (λnv at_ ns=>cB nv at_ ns s.bd) (λnv at_ ns=>cB nv at_ ns s.el)
  else if s.k=6 then Rk nv at_ ns (cE nv ns (kq s.es)) (λnv at_ ns=>cB nv at_ ns s.bd)
  else if s.k=7 then (match s.es with
   |[]=>eO ⟨18,-1,0,0,0,[]⟩
   |e::_=>(cE nv ns e).2.app (eO ⟨18,(cE nv ns e).1,0,0,0,[]⟩))
  else if s.k=8 then (cE nv ns (kq s.es)).2.app (eO ⟨15,(cE nv ns (kq s.es)).1,0,0,0,[]⟩)
  else if s.k=9 then (cE nv ns (kq s.es)).2
  else O0:=by
 obtain⟨k,nm,on,od,es,bd,el,a,ref⟩:=s
 (conv=>lhs;unfold cS)<;>rfl
theorem Fx (nv at_ ns:Nat):cB nv at_ ns []=O0:=by unfold cB;rfl
theorem Av (nv at_ ns:Nat)(s:Sm)(l:List Sm):cB nv at_ ns (s::l)=D6 nv at_ ns (cS nv at_ ns s) (λnv at_ ns=>cB nv at_ ns l):=by
 (conv=>lhs;unfold cB)<;>rfl
theorem JV (x:Out):O0.app x=x:=by simp[Out.app,O0]
theorem Lj (x y z:Out):(x.app y).app z=x.app (y.app z):=by simp[Out.app]
end vC
namespace vC
open Ax Go V7 lP mV
mutual
def LE:E->Prop
 |.mk k _ _ _ _ kids _ ty ref=>(ty=T0->k=7)/\(k=5\/k=9\/k=10\/k=12\/k=13->kids.length=1)/\(k=6\/14<=k->kids.length=2)/\(0<k/\k<25)/\(k=4→-1000000000<ref)/\LL kids
def LL:List E->Prop
 |[]=>True
 |e::l=>LE e/\LL l
end
theorem Rm (e:E):LE e↔(e.ty=T0->e.k=7)/\(e.k=5\/e.k=9\/e.k=10\/e.k=12\/e.k=13->e.kids.length=1)/\(e.k=6\/14<=e.k->e.kids.length=2)/\(0<e.k/\e.k<25)/\(e.k=4→-1000000000<e.ref)/\LL e.kids:=by
 cases e;unfold LE;exact Iff.rfl
theorem qH:∀l:List E,LL l↔∀e∈l,LE e
 |[]=>by simp[LL]
 |e::l=>by simp[LL,qH l]
theorem Vc (x y:Out):(x.app y).vs.length=x.vs.length+y.vs.length/\(x.app y).is.length=x.is.length+y.is.length/\(x.app y).ss.length=x.ss.length+y.ss.length:=by simp[Out.app]
def Lo (o:Out)(n:Nat):Prop:=o.vs.length<=n/\o.is.length<=n/\o.ss.length<=n
theorem Lo.app {x y:Out}{n m:Nat}(h:Lo x n)(g:Lo y m):Lo (x.app y) (n+m):=by
 obtain⟨a,b,c⟩:=Vc x y
 obtain⟨h1,h2,h3⟩:=h
 obtain⟨g1,g2,g3⟩:=g
 exact⟨by omega,by omega,by omega⟩
theorem Lo.le {x:Out}{n m:Nat}(h:Lo x n)(g:n<=m):Lo x m:=⟨by have:=h.1;omega,by have:=h.2.1;omega,by have:=h.2.2;omega⟩
theorem Rn {l:List E}(ih:∀e∈l,∀nv ns,Lo (cE nv ns e).2 (E.sz e)):∀nv ns,Lo (mE nv ns l).2 (E.dV l):=by
 induction l with
 |nil=>intro nv ns;simp[mE,O0,Lo,E.dV]
 |cons e l MY=>
  intro nv ns
  rw[uv]
  simp only[E.dV]
  exact(ih e List.mem_cons_self nv ns).app (MY (λx hx=>ih x (List.mem_cons_of_mem _ hx)) _ _)
theorem og (e:E):∀nv ns,Lo (cE nv ns e).2 (E.sz e):=by
 induction e using E.ind with
 |_ e ih=>
  intro nv ns
  have hk:=E.sF e
  rw[zz]
  split
  ·simp[Lo,O0]
  ·have h:=Rn ih nv ns
   unfold cK
   split
   ·exact(h.app (y:=eO _) (m:=1) (by simp[Lo,eO])).le (by omega)
   ·refine(h.app (m:=1) ?_).le (by omega)
    refine⟨by simp,by simp,?_⟩
    simp only
    split<;>simp
theorem JW (l:List E)(nv ns:Nat):Lo (mE nv ns l).2 (E.dV l):=Rn (λe _=>og e) nv ns
theorem Ch {l:List E}{k:Nat}(h:k<l.length):(E.rows l)[k]?=some l[k].row:=by simp[gQ,h]
theorem wJ {l:List E}{k:Nat}(h:k<l.length)(h2:k<(E.rows l).length):(E.rows l)[k]=l[k].row:=by simp[gQ]
theorem zL {sz:Nat}{r:List (List AV)}(h:fits sz r=true):cD sz (aD sz r)=true:=by
 cases r with
 |nil=>rfl
 |cons a r=>simpa [cD] using h
theorem zE {l:List E}:cD 11 (aY l)=true:=zL (by simp[fits,gQ,E.aH])
theorem zI {l:List Int}:cD 1 (aD 1 (ints l))=true:=zL (by simp[fits,ints])
mutual
def LS:Sm->Prop
 |.mk k _ _ _ es bd el _ ref=>LL es/\(k=2\/k=3\/k=5\/k=6\/k=8\/k=9->es.length=1)/\(k=4->es.length=2/\((kq es).k=5\/(kq es).k=6))/\(k=2\/k=3→-1000000000<ref)/\LB bd/\LB el
def LB:List Sm->Prop
 |[]=>True
 |s::l=>LS s/\LB l
end
theorem Ij (s:Sm):LS s↔LL s.es/\(s.k=2\/s.k=3\/s.k=5\/s.k=6\/s.k=8\/s.k=9->s.es.length=1)/\(s.k=4->s.es.length=2/\((kq s.es).k=5\/(kq s.es).k=6))/\(s.k=2\/s.k=3→-1000000000<s.ref)/\LB s.bd/\LB s.el:=by
 cases s;unfold LS;exact Iff.rfl
theorem Fy:∀l:List Sm,LB l↔∀s∈l,LS s
 |[]=>by simp[LB]
 |s::l=>by simp[LB,Fy l]
theorem Ci {es:List E}(h:es.length=1):es=[kq es]:=by
 match es,h with
 |[e],_=>rfl
theorem Ro {es:List E}(h:es.length=2):es=[kq es,Ri es]:=by
 match es,h with
 |[e,f],_=>rfl
theorem Zd {l:List Int}(h:l.length=1):ints l=[[.int .i64 (x9 l)]]:=by
 match l,h with
 |[a],_=>rfl
theorem Ze {l:List Int}(h:l.length=2):ints l=[[.int .i64 (x9 l)],[.int .i64 (Wy l)]]:=by
 match l,h with
 |[a,b],_=>rfl
theorem Rp {l:List Sm}(ih:∀s∈l,∀nv a ns,Lo (cS nv a ns s) (2*Sm.sz s)):∀nv a ns,Lo (cB nv a ns l) (2*Sm.dV l):=by
 induction l with
 |nil=>intro nv a ns;rw[Fx];simp[Lo,O0]
 |cons s l MY=>
  intro nv a ns
  rw[Av]
  unfold D6
  exact((ih s List.mem_cons_self nv a ns).app (MY (λx hx=>ih x (List.mem_cons_of_mem _ hx)) _ _ _)).le (by simp only[Sm.dV];omega)
theorem Cp {es:List E}(h:es.length≠0):E.sz (kq es)<=E.dV es:=by
 match es,h with
 |e::l,_=>simp[kq,E.dV]
theorem Wz (s:Sm):LS s->∀nv a ns,Lo (cS nv a ns s) (2*Sm.sz s):=by
 induction s using Sm.ind with
 |_ s sW uh=>
  intro hL nv a ns
  rw[Ij]at hL
  obtain⟨h1,h2,h3,_,h5,h6⟩:=hL
  rw[Fy]at h5 h6
  have dZ:=Sm.nK s
  have one:∀i,Lo (eO i) 1:=λi=>by simp[Lo,eO]
  have f:=λnv a ns=>Rp (λx hx=>sW x hx (h5 x hx)) nv a ns
  have g:=λnv a ns=>Rp (λx hx=>uh x hx (h6 x hx)) nv a ns
  rw[Rl]
  by_cases c:s.k=2\/s.k=3
  ·rw[if_pos c]
   have:=Cp (es:=s.es) (by rw[h2 (by omega)];decide)
   exact((og _ _ _).app (one _)).le (by omega)
  rw[if_neg c]
  by_cases c4:s.k=4
  ·rw[if_pos c4]
   obtain⟨e,f,he⟩:∃e f,s.es=[e,f]:=⟨_,_,Ro (h3 c4).1⟩
   have q1:kq s.es=e:=by rw[he];rfl
   have q2:Ri s.es=f:=by rw[he];rfl
   have q3:E.dV s.es=E.sz e+E.sz f:=by rw[he];simp[E.dV]
   have q4:=E.sF e
   rw[q1,q2]
   unfold Fw
   exact(((JW _ _ _).app (og _ _ _)).app (one _)).le (by omega)
  rw[if_neg c4]
  by_cases c5:s.k=5
  ·rw[if_pos c5]
   have:=Cp (es:=s.es) (by rw[h2 (by omega)];decide)
   unfold Rj
   dsimp only
   obtain⟨a1,a2,a3⟩:=og (kq s.es) nv ns
   have b1:=f (nv+(cE nv ns (kq s.es)).2.vs.length) (a+(cE nv ns (kq s.es)).2.is.length+1) (ns+(cE nv ns (kq s.es)).2.ss.length)
   generalize cE nv ns (kq s.es)=x at *
   generalize cB (nv+x.2.vs.length) (a+x.2.is.length+1) (ns+x.2.ss.length) s.bd=y at *
   have c1:=g (nv+x.2.vs.length+y.vs.length) (a+x.2.is.length+1+y.is.length+1) (ns+x.2.ss.length+y.ss.length)
   generalize cB (nv+x.2.vs.length+y.vs.length) (a+x.2.is.length+1+y.is.length+1) (ns+x.2.ss.length+y.ss.length) s.el=z at *
   obtain⟨b1,b2,b3⟩:=b1
   obtain⟨c1,c2,c3⟩:=c1
   refine⟨?_,?_,?_⟩<;>simp only[List.length_append,List.length_cons]<;>omega
  rw[if_neg c5]
  by_cases c6:s.k=6
  ·rw[if_pos c6]
   have:=Cp (es:=s.es) (by rw[h2 (by omega)];decide)
   unfold Rk
   dsimp only
   obtain⟨a1,a2,a3⟩:=og (kq s.es) nv ns
   have b1:=f (nv+(cE nv ns (kq s.es)).2.vs.length) (a+(cE nv ns (kq s.es)).2.is.length+1) (ns+(cE nv ns (kq s.es)).2.ss.length)
   generalize cE nv ns (kq s.es)=x at *
   generalize cB (nv+x.2.vs.length) (a+x.2.is.length+1) (ns+x.2.ss.length) s.bd=y at *
   obtain⟨b1,b2,b3⟩:=b1
   refine⟨?_,?_,?_⟩<;>simp only[List.length_append,List.length_cons,List.length_nil]<;>omega
  rw[if_neg c6]
  by_cases c7:s.k=7
  ·rw[if_pos c7]
   match qK:s.es with
   |[]=>exact(one _).le (by omega)
   |e::l=>
    have:E.dV s.es=E.sz e+E.dV l:=by rw[qK];rfl
    exact((og _ _ _).app (one _)).le (by omega)
  rw[if_neg c7]
  by_cases c8:s.k=8
  ·rw[if_pos c8]
   have:=Cp (es:=s.es) (by rw[h2 (by omega)];decide)
   exact((og _ _ _).app (one _)).le (by omega)
  rw[if_neg c8]
  by_cases c9:s.k=9
  ·rw[if_pos c9]
   have:=Cp (es:=s.es) (by rw[h2 (by omega)];decide)
   exact(og _ _ _).le (by omega)
  rw[if_neg c9]
  simp[Lo,O0]
theorem Ik {l:List Sm}(h:LB l)(nv a ns:Nat):Lo (cB nv a ns l) (2*Sm.dV l):=Rp (λs hs=>Wz s ((Fy _).1 h s hs)) nv a ns
theorem Cj {l:List Sm}{k:Nat}(h:k<l.length):(Sm.rows l)[k]?=some l[k].row:=by simp[gr,h]
theorem xT {l:List Sm}{k:Nat}(h:k<l.length)(h2:k<(Sm.rows l).length):(Sm.rows l)[k]=l[k].row:=by simp[gr]
end vC
namespace vC
open Ax Go V7 lP mV
def mB (vs:List T3)(t:T3)(a:Int):Prop:=∃k:Nat,a=k/\vs[k]?=some t
theorem mB.app {vs ws:List T3}{t:T3}{a:Int}(h:mB vs t a):mB (vs++ws) t a:=by
 obtain⟨k,h1,h2⟩:=h
 exact⟨k,h1,by rw[List.getElem?_append_left (List.getElem?_eq_some_iff.1 h2).1];exact h2⟩
def sL (vs:List T3):List Vd->List Int->Prop
 |[],[]=>True
 |p::ps,a::l=>mB vs p.ty a/\sL vs ps l
 |_,_=>False
theorem sL.app {vs ws:List T3}:∀{ps:List Vd}{l:List Int},sL vs ps l->sL (vs++ws) ps l
 |[],[],_=>trivial
 |_::_,_::_,h=>⟨h.1.app,sL.app h.2⟩
 |[],_::_,h=>h.elim
 |_::_,[],h=>h.elim
inductive sI (H:Hd) (f:Nat) (has:Bool) (res:T3) (vs:List T3) (ss:List Sd) (m:Nat):In->Prop
 |c1 {a n:Int}:mB vs tI a->sI H f has res vs ss m ⟨1,a,0,0,n,[]⟩
 |c1b {a n:Int}:mB vs tB a->n=0\/n=1->sI H f has res vs ss m ⟨1,a,0,0,n,[]⟩
 |c2 {a:Int} {t:T3}:mB vs t a->kX t=true->sI H f has res vs ss m ⟨2,a,0,0,0,[]⟩
 |c3 {a b:Int} {t:T3}:mB vs t a->mB vs t b->sI H f has res vs ss m ⟨3,a,b,0,0,[]⟩
 |c4 {a b c k:Int} {ta tb t:T3} {r:Int}:mB vs ta b->mB vs tb c->mV.ue k ta tb=some (t,r)->14<=k/\k<=24->mB vs t a->sI H f has res vs ss m ⟨4,a,b,c,k,[]⟩
 |c5i {a b:Int}:mB vs tI a->mB vs tI b->sI H f has res vs ss m ⟨5,a,b,0,12,[]⟩
 |c5b {a b:Int}:mB vs tB a->mB vs tB b->sI H f has res vs ss m ⟨5,a,b,0,13,[]⟩
 |c6 {a b:Int} {r j:Nat} {s:List UInt8×List Vd} {v:Vd}:mB vs ⟨3,r,0⟩ b->H.bQ[r]?=some s->s.2[j]?=some v->mB vs v.ty a->sI H f has res vs ss m ⟨6,a,b,j,0,[]⟩
 |c7 {a b:Int} {r j:Nat} {s:List UInt8×List Vd} {v:Vd}:mB vs ⟨3,r,0⟩ a->H.bQ[r]?=some s->s.2[j]?=some v->mB vs v.ty b->sI H f has res vs ss m ⟨7,a,b,j,0,[]⟩
 |c8 {a b c:Int} {t:T3}:mB vs t b->0<t.d->mB vs ⟨t.b,t.r,t.d-1⟩ a->mB vs tI c->sI H f has res vs ss m ⟨8,a,b,c,0,[]⟩
 |c9 {a b c:Int} {t:T3}:mB vs t a->0<t.d->mB vs ⟨t.b,t.r,t.d-1⟩ c->mB vs tI b->sI H f has res vs ss m ⟨9,a,b,c,0,[]⟩
 |zx {a b:Int} {t:T3}:mB vs tI a->mB vs t b->0<t.d->sI H f has res vs ss m ⟨10,a,b,0,0,[]⟩
 |Ll {a:Int} {n:Nat} {t:T3}:mB vs t a->t.b=3->t.d=0->ss[n]?=some ⟨f,t⟩->sI H f has res vs ss m ⟨11,a,0,0,n,[]⟩
 |zU {a b:Int} {n:Nat} {t:T3}:mB vs t a->0<t.d->ss[n]?=some ⟨f,t⟩->mB vs tI b->sI H f has res vs ss m ⟨12,a,b,0,n,[]⟩
 |CN {a:Int} {j:Nat} {s:Sg} {l:List Int}:H.sigs[j]?=some s->sL vs s.ps l->(a = -1\/s.has=true/\mB vs s.res a)->sI H f has res vs ss m ⟨13,a,0,j,0,l⟩
 |c14 {a:Int}:mB vs tI a->sI H f has res vs ss m ⟨14,a,0,0,0,[]⟩
 |c15 {a:Int}:mB vs tI a->sI H f has res vs ss m ⟨15,a,0,0,0,[]⟩
 |c16 {n:Nat}:n<=m->sI H f has res vs ss m ⟨16,0,0,0,n,[]⟩
 |c17 {a:Int} {n c:Nat}:mB vs tB a->n<=m->c<=m->sI H f has res vs ss m ⟨17,a,0,c,n,[]⟩
 |Zf {a:Int}:(if has=true then mB vs res a else a = -1)->sI H f has res vs ss m ⟨18,a,0,0,0,[]⟩
 |c19 {a:Int} {j:Nat} {v:Vd}:H.globals[j]?=some v->mB vs v.ty a->sI H f has res vs ss m ⟨19,a,0,0,j,[]⟩
 |c20 {a:Int} {j:Nat} {v:Vd}:H.globals[j]?=some v->mB vs v.ty a->sI H f has res vs ss m ⟨20,a,0,0,j,[]⟩
variable {H:Hd}{f:Nat}{has:Bool}{res:T3}
theorem sM {α:Type}{l r:List α}{k:Nat}{x:α}(h:l[k]?=some x):(l++r)[k]?=some x:=by
 rw[List.getElem?_append_left (List.getElem?_eq_some_iff.1 h).1];exact h
theorem sI.mono {vs ws:List T3}{ss ts:List Sd}{m m':Nat}{i:In}(h:sI H f has res vs ss m i)(hm:m<=m'):sI H f has res (vs++ws) (ss++ts) m' i:=by
 cases h with
 |c1 a=>exact .c1 a.app
 |c1b a b=>exact .c1b a.app b
 |c2 a b=>exact .c2 a.app b
 |c3 a b=>exact .c3 a.app b.app
 |c4 a b c d e=>exact .c4 a.app b.app c d e.app
 |c5i a b=>exact .c5i a.app b.app
 |c5b a b=>exact .c5b a.app b.app
 |c6 a b c d=>exact .c6 a.app b c d.app
 |c7 a b c d=>exact .c7 a.app b c d.app
 |c8 a b c d=>exact .c8 a.app b c.app d.app
 |c9 a b c d=>exact .c9 a.app b c.app d.app
 |zx a b c=>exact .zx a.app b.app c
 |Ll a b c d=>exact .Ll a.app b c (sM d)
 |zU a b c d=>exact .zU a.app b (sM c) d.app
 |CN a b c=>exact .CN a b.app (c.imp id λh=>⟨h.1,h.2.app⟩)
 |c14 a=>exact .c14 a.app
 |c15 a=>exact .c15 a.app
 |c16 a=>exact .c16 (by omega)
 |c17 a b c=>exact .c17 a.app (by omega) (by omega)
 |Zf a=>
  refine .Zf ?_
  split
  ·rename_i q;rw[if_pos q]at a;exact a.app
  ·rename_i q;rw[if_neg q]at a;exact a
 |c19 a b=>exact .c19 a b.app
 |c20 a b=>exact .c20 a b.app
def Cq (V:List Vd)(vs:List T3):Prop:=∀(k:Nat)(v:Vd),V[k]?=some v->vs[k]?=some v.ty
theorem Cq.app {V:List Vd}{vs ws:List T3}(h:Cq V vs):Cq V (vs++ws):=λk v hk=>sM (h k v hk)
structure wO (H:Hd)(f:Nat)(has:Bool)(res:T3)(vs:List T3)(ss:List Sd)(m:Nat)(o:Out):Prop where
 is:∀i∈o.is,sI H f has res (vs++o.vs) (ss++o.ss.map (Sd.mk f)) m i
theorem wO.nil {vs:List T3}{ss:List Sd}{m:Nat}:wO H f has res vs ss m O0:=⟨by simp[O0]⟩
theorem wO.app {vs:List T3}{ss:List Sd}{m m1 m2:Nat}{x y:Out}(h:wO H f has res vs ss m1 x)(k:wO H f has res (vs++x.vs) (ss++x.ss.map (Sd.mk f)) m2 y)(h1:m1<=m)(h2:m2<=m):wO H f has res vs ss m (x.app y):=by
 refine⟨λi hi=>?_⟩
 simp only[Out.app,List.map_append,<-List.append_assoc]
 rcases List.mem_append.1 hi with hi|hi
 ·exact(h.is i hi).mono h1
 ·have:=(k.is i hi).mono (ws:=[]) (ts:=[]) h2
  simpa using this
theorem wO.ins {vs:List T3}{ss:List Sd}{m:Nat}{i:In}(h:sI H f has res vs ss m i):wO H f has res vs ss m (eO i):=by
 refine⟨λj hj=>?_⟩
 simp only[eO,List.mem_singleton]at hj
 subst hj
 simpa [eO] using h
theorem gy {s:List UInt8}:∀{l:List Vd}{i k:Nat}{t:T3},gK s i l=some (k,t)->i<=k/\∃v,l[k-i]?=some v/\v.ty=t
 |[],_,_,_,h=>by cases h
 |f::l,i,k,t,h=>by
  unfold gK at h
  split at h
  ·cases h;exact⟨Nat.le_refl _,f,by simp,rfl⟩
  ·obtain⟨h1,v,h2,h3⟩:=gy h
   have e:k-i=(k-(i+1))+1:=by omega
   exact⟨by omega,v,by rw[e,List.getElem?_cons_succ];exact h2,h3⟩
theorem rz {s:List UInt8}:∀{l:List Sg}{i k:Nat}{t:Sg},oe s i l=some (k,t)->i<=k/\l[k-i]?=some t
 |[],_,_,_,h=>by cases h
 |g::l,i,k,t,h=>by
  unfold oe at h
  split at h
  ·cases h;exact⟨Nat.le_refl _,by simp⟩
  ·obtain⟨h1,h2⟩:=rz h
   have e:k-i=(k-(i+1))+1:=by omega
   exact⟨by omega,by rw[e,List.getElem?_cons_succ];exact h2⟩
theorem yI {vs:List T3}:∀{ps:List Vd}{ks:List E}{l:List Int},ld ps ks=true->l.length=ks.length->(∀(j:Nat)(e:E)(a:Int),ks[j]?=some e->l[j]?=some a->mB vs e.ty a)->sL vs ps l
 |[],[],[],_,_,_=>trivial
 |p::ps,k::ks,a::l,h,hl,hv=>by
  simp only[ld,Bool.and_eq_true,decide_eq_true_eq]at h
  refine⟨?_,yI h.2 (by simpa using hl) λj e b h1 h2=>hv (j+1) e b (by simpa using h1) (by simpa using h2)⟩
  have:=hv 0 k a rfl rfl
  rw[h.1]at this
  exact this
 |[],_::_,_,h,_,_=>by simp[ld]at h
 |_::_,[],_,h,_,_=>by simp[ld]at h
 |[],[],_::_,_,hl,_=>by simp at hl
 |_::_,_::_,[],_,hl,_=>by simp at hl
end vC
namespace vC
open Ax Go V7 lP mV
variable {H:Hd}{f:Nat}{has:Bool}{res:T3}{V:List Vd}
def BT (t:T3):Prop:=1<=t.b/\t.b<=3
theorem BT.ne {t:T3}(h:BT t):t≠T0:=λe=>by rw[e]at h;exact absurd h.1 (by decide)
structure Hd.gd (H:Hd):Prop where
 bQ:∀s∈H.bQ,∀f∈s.2,BT f.ty
 globals:∀f∈H.globals,BT f.ty
 ps:∀s∈H.sigs,∀f∈s.ps,BT f.ty
 res:∀s∈H.sigs,s.res≠T0->BT s.res/\s.has=true
theorem u5 {l:List (List UInt8)}{s:List UInt8}{d:Int}(h:(cM l s d).2=true):BT (cM l s d).1:=by
 unfold cM at h ⊢
 split
 ·rename_i c;rw[if_pos c]at h;cases h
 rename_i c
 rw[if_neg c]at h
 split
 ·exact⟨by show (1:Int)<=1;decide,by show (1:Int)<=3;decide⟩
 rename_i c2
 rw[if_neg c2]at h
 split
 ·exact⟨by show (1:Int)<=2;decide,by show (2:Int)<=3;decide⟩
 rename_i c3
 rw[if_neg c3]at h
 split
 ·rename_i c4;rw[if_pos c4]at h;cases h
 ·exact⟨by show (1:Int)<=3;decide,by show (3:Int)<=3;decide⟩
theorem b6 {b:Bool}{t u:T3}{r:Int}(h:F6 b t=some (u,r)):b=true/\u=t/\r=0:=by
 unfold F6 at h
 cases b with
 |false=>cases h
 |true=>cases h;exact⟨rfl,rfl,rfl⟩
theorem mem_of {α:Type}{l:List α}{k:Nat}{x:α}(h:l[k]?=some x):x∈l:=List.mem_of_getElem? h
theorem Nb {ks:List E}(h:ks.length=1):∃a,ks=[a]:=by
 match ks,h with
 |[a],_=>exact⟨a,rfl⟩
theorem Rq {ks:List E}(h:ks.length=2):∃a b,ks=[a,b]:=by
 match ks,h with
 |[a,b],_=>exact⟨a,b,rfl⟩
theorem Zg (hG:Hd.gd H)(hV:∀v∈V,BT v.ty){k n:Int}{nm on:List UInt8}{od:Int}{ks:List E}{t:T3}{r:Int}(hk:hJ k n ks.length=true)(s8:∀e∈ks,BT e.ty)(h:oC H V k nm on od ks=some (t,r)):(t=T0->k=7)/\(t≠T0->BT t):=by
 have bI:BT tI:=⟨by decide,by decide⟩
 have bB:BT tB:=⟨by decide,by decide⟩
 have of:BT t->(t=T0->k=7)/\(t≠T0->BT t):=λh=>⟨λe=>absurd e h.ne,λ_=>h⟩
 unfold oC at h
 by_cases c1:k=1\/k=11
 ·rw[if_pos c1]at h;cases h;exact of bI
 rw[if_neg c1]at h
 by_cases c2:k=2
 ·rw[if_pos c2]at h;cases h;exact of bB
 rw[if_neg c2]at h
 by_cases c3:k=3
 ·rw[if_pos c3]at h
  obtain⟨h1,rfl,_⟩:=b6 h
  rw[Bool.and_eq_true]at h1
  exact of (u5 h1.1)
 rw[if_neg c3]at h
 by_cases c4:k=4
 ·rw[if_pos c4]at h
  unfold tf at h
  split at h
  ·rename_i j u e
   cases h
   obtain⟨_,v,h1,h2⟩:=gy e
   exact of (h2 ▸ hV v (mem_of h1))
  ·split at h
   ·rename_i j u e
    cases h
    obtain⟨_,v,h1,h2⟩:=gy e
    exact of (h2 ▸ hG.globals v (mem_of h1))
   ·cases h
 rw[if_neg c4]at h
 by_cases c5:k=5
 ·rw[if_pos c5]at h
  unfold sE at h
  split at h
  ·split at h
   ·rename_i s hs
    split at h
    ·rename_i i u e
     cases h
     obtain⟨_,v,h1,h2⟩:=gy e
     exact of (h2 ▸ hG.bQ s (mem_of hs) v (mem_of h1))
    ·cases h
   ·cases h
  ·cases h
 rw[if_neg c5]at h
 by_cases c6:k=6
 ·rw[if_pos c6]at h
  obtain⟨h1,rfl,_⟩:=b6 h
  have hl:ks.length=2:=by
   unfold hJ at hk
   rw[if_neg (by omega),if_neg (by omega),if_neg (by omega),if_neg (by omega)]at hk
   simp only[Bool.and_eq_true,decide_eq_true_eq]at hk
   exact hk.2
  obtain⟨a,b,rfl⟩:=Rq hl
  exact of (s8 a (by simp))
 rw[if_neg c6]at h
 by_cases c7:k=7
 ·rw[if_pos c7]at h
  refine⟨λ_=>c7,λiQ=>?_⟩
  unfold xH at h
  split at h
  ·rename_i i s hs
   split at h
   ·cases h
    obtain⟨_,h2⟩:=rz hs
    exact(hG.res s (mem_of h2) iQ).1
   ·cases h
  ·cases h
 rw[if_neg c7]at h
 by_cases c8:k=8
 ·rw[if_pos c8]at h
  obtain⟨h1,rfl,_⟩:=b6 h
  simp only[Bool.and_eq_true]at h1
  exact of (u5 h1.1.1)
 rw[if_neg c8]at h
 by_cases c9:k=9
 ·rw[if_pos c9]at h
  obtain⟨h1,rfl,_⟩:=b6 h
  simp only[Bool.and_eq_true]at h1
  exact of (u5 h1.1.1)
 rw[if_neg c9]at h
 by_cases zx:k=10
 ·rw[if_pos zx]at h
  obtain⟨_,rfl,_⟩:=b6 h
  exact of bI
 rw[if_neg zx]at h
 by_cases zU:k=12
 ·rw[if_pos zU]at h
  obtain⟨_,rfl,_⟩:=b6 h
  exact of bI
 rw[if_neg zU]at h
 by_cases CN:k=13
 ·rw[if_pos CN]at h
  obtain⟨_,rfl,_⟩:=b6 h
  exact of bB
 rw[if_neg CN]at h
 unfold mV.ue at h
 split at h
 ·obtain⟨_,rfl,_⟩:=b6 h;exact of bI
 split at h
 ·obtain⟨_,rfl,_⟩:=b6 h;exact of bB
 split at h
 ·obtain⟨_,rfl,_⟩:=b6 h;exact of bB
 ·obtain⟨_,rfl,_⟩:=b6 h;exact of bB
theorem Fz:∀{l ys:List E},nJ H V l=.ok ys->∀y∈ys,y.ty≠T0
 |[],ys,h=>by unfold nJ at h;cases h;simp
 |e::l,ys,h=>by
  obtain⟨y,zs,_,h1,h2,rfl⟩:=jJ h
  intro z hz
  rcases List.mem_cons.1 hz with rfl|hz
  ·exact h1
  ·exact Fz h2 z hz
theorem FA (hG:Hd.gd H)(hV:∀v∈V,BT v.ty)(e:E):∀y,uf H V e=.ok y->(y.ty=T0->y.k=7)/\(y.ty≠T0->BT y.ty):=by
 induction e using E.ind with
 |_ e ih=>
  intro y h
  obtain⟨ks,t,r,h1,h2,h3,rfl⟩:=pL h
  have hb:=iN h2 ih
  have hn:=Fz h2
  exact Zg hG hV (by rw[oD h2];exact h1) (λe he=>(hb e he).2 (hn e he)) h3
def FE (H:Hd)(f:Nat)(has:Bool)(res:T3)(V:List Vd)(y:E):Prop:=∀(vs:List T3)(ss:List Sd),Cq V vs->wO H f has res vs ss 0 (cE vs.length ss.length y).2/\(y.ty≠T0->mB (vs++(cE vs.length ss.length y).2.vs) y.ty (cE vs.length ss.length y).1)
theorem FB:∀(ys:List E),(∀y∈ys,y.ty≠T0/\FE H f has res V y)->∀(vs:List T3)(ss:List Sd),Cq V vs->
  wO H f has res vs ss 0 (mE vs.length ss.length ys).2/\(mE vs.length ss.length ys).1.length=ys.length/\∀(j:Nat) (e:E) (a:Int),ys[j]?=some e->(mE vs.length ss.length ys).1[j]?=some a->mB (vs++(mE vs.length ss.length ys).2.vs) e.ty a
 |[],_,vs,ss,_=>by
  have e:mE vs.length ss.length []=([],O0):=by unfold mE;rfl
  rw[e]
  exact⟨wO.nil,rfl,λj e a h=>by simp at h⟩
 |y::ys,h,vs,ss,hp=>by
  rw[uv]
  obtain⟨h1,h2⟩:=h y List.mem_cons_self
  obtain⟨h3,h4⟩:=h2 vs ss hp
  generalize hx:cE vs.length ss.length y=x at *
  have e1:vs.length+x.2.vs.length=(vs++x.2.vs).length:=by simp
  have e2:ss.length+x.2.ss.length=(ss++x.2.ss.map (Sd.mk f)).length:=by simp
  rw[e1,e2]
  obtain⟨k1,k2,k3⟩:=FB ys (λz hz=>h z (List.mem_cons_of_mem _ hz)) (vs++x.2.vs) (ss++x.2.ss.map (Sd.mk f)) hp.app
  generalize mE (vs++x.2.vs).length (ss++x.2.ss.map (Sd.mk f)).length ys=z at *
  refine⟨h3.app k1 (Nat.le_refl _) (Nat.le_refl _),by simp[k2],λj e a q1 q2=>?_⟩
  simp only[Out.app,<-List.append_assoc]
  cases j with
  |zero=>
   simp only[List.getElem?_cons_zero,Option.some.injEq]at q1 q2
   subst q1;subst q2
   exact(h4 h1).app
  |succ j=>
   simp only[List.getElem?_cons_succ]at q1 q2
   exact k3 j e a q1 q2
theorem Lm {vs ws:List T3}{t:T3}:mB (vs++(ws++[t])) t ((vs.length+ws.length:Nat):Int):=⟨vs.length+ws.length,rfl,by rw[<-List.append_assoc,List.getElem?_append_right (by simp)];simp⟩
theorem Zh {k n ref:Int}{ty:T3}{vs:List T3}{ss:List Sd}{x:List Int×Out}(hN:wO H f has res vs ss 0 x.2)(_h0:ty=T0->k=7)
  (h7:ty=T0->sI H f has res (vs++x.2.vs) (ss++x.2.ss.map (Sd.mk f)) 0 ⟨13,-1,0,ref,0,x.1⟩)
  (h:ty≠T0->∀st:List Sd,(k=8\/k=9->st=[⟨f,ty⟩])->sI H f has res (vs++(x.2.vs++[ty])) (ss++x.2.ss.map (Sd.mk f)++st) 0 (eK k n ref ((vs.length+x.2.vs.length:Nat):Int) ((ss.length+x.2.ss.length:Nat):Int) x.1)) :
  wO H f has res vs ss 0 (cK vs.length ss.length k n ref ty x).2/\(ty≠T0->mB (vs++(cK vs.length ss.length k n ref ty x).2.vs) ty (cK vs.length ss.length k n ref ty x).1):=by
 unfold cK
 by_cases ht:ty=T0
 ·rw[if_pos ht]
  exact⟨hN.app (.ins (h7 ht)) (Nat.le_refl _) (Nat.le_refl _),λq=>absurd ht q⟩
 ·rw[if_neg ht]
  refine⟨⟨λi hi=>?_⟩,λ_=>Lm⟩
  rcases List.mem_append.1 hi with hi|hi
  ·have:=(hN.is i hi).mono (ws:=[ty]) (ts:=((if k=8\/k=9 then [ty] else []):List T3).map (Sd.mk f)) (Nat.le_refl 0)
   simpa [Out.app] using this
  ·have hi:i=eK k n ref ((vs.length+x.2.vs.length:Nat):Int) ((ss.length+x.2.ss.length:Nat):Int) x.1:=by simpa using hi
   subst hi
   have:=h ht (((if k=8\/k=9 then [ty] else []):List T3).map (Sd.mk f)) (λq=>by rw[if_pos q];rfl)
   simpa [Out.app] using this
theorem FC {l:List Int}{n:Nat}(h:l.length=n+1):l[0]?=some (x9 l):=by
 match l,h with
 |a::_,_=>rfl
theorem Zi {l:List Int}{n:Nat}(h:l.length=n+2):l[1]?=some (Wy l):=by
 match l,h with
 |_::a::_,_=>rfl
theorem JX (hH:H.ok)(hG:Hd.gd H)(hW:∀v∈V,WT H.rs.length v.ty)(hV:∀v∈V,BT v.ty)(e:E):∀y,uf H V e=.ok y->FE H f has res V y:=by
 induction e using E.ind with
 |_ e ih=>
  intro y h
  have VY:=FA hG hV e y h
  obtain⟨ks,t,r,h1,h2,h3,rfl⟩:=pL h
  have iQ:=Fz h2
  have hb:=iN h2 λe _ y hy=>FA hG hV e y hy
  have UZ:=iN h2 λe _ y hy=>E5 hH hW e y hy
  have hk:hJ e.k e.n ks.length=true:=by rw[oD h2];exact h1
  intro vs ss hp
  obtain⟨k1,k2,k3⟩:=FB (f:=f) (has:=has) (res:=res) ks (λy hy=>⟨iQ y hy,iN h2 ih y hy⟩) vs ss hp
  have hE:cE vs.length ss.length (.mk e.k (nI e.k e.n) (lf e.k e.nm) (lg e.k e.on) (lp e.k e.od) ks e.a t r)=if e.k=4/\0<=r then (r,O0) else cK vs.length ss.length e.k (nI e.k e.n) r t (mE vs.length ss.length ks):=zz _ _ _
  rw[hE]
  generalize hx:mE vs.length ss.length ks=x at *
  obtain⟨l,o⟩:=x
  simp only at k1 k2 k3
  by_cases c4:e.k=4/\0<=r
  ·rw[if_pos c4]
   refine⟨wO.nil,λ_=>?_⟩
   have C4:=h3
   unfold oC at C4
   rw[if_neg (by omega),if_neg (by omega),if_neg (by omega),if_pos c4.1]at C4
   unfold tf at C4
   split at C4
   ·rename_i j u e1
    cases C4
    obtain⟨_,v,q1,q2⟩:=gy e1
    refine⟨j,rfl,?_⟩
    rw[<-q2]
    exact sM (hp j v (by simpa using q1))
   ·split at C4
    ·rename_i j u e1
     cases C4
     omega
    ·cases C4
  rw[if_neg c4]
  refine Zh (x:=(l,o)) k1 VY.1 (λht=>?_) (λht st fm=>?_)
  ·have c7:e.k=7:=VY.1 ht
   unfold oC at h3
   rw[if_neg (by omega),if_neg (by omega),if_neg (by omega),if_neg (by omega),if_neg (by omega),if_neg (by omega),if_pos c7]at h3
   unfold xH at h3
   split at h3
   ·rename_i i s hs
    split at h3
    ·rename_i nU
     cases h3
     obtain⟨_,q⟩:=rz hs
     exact .CN (by simpa using q) (yI nU k2 λj e a q1 q2=>k3 j e a q1 q2) (.inl rfl)
    ·cases h3
   ·cases h3
  ·have jU:mB (vs++(o.vs++[t])) t ((vs.length+o.vs.length:Nat):Int):=Lm
   have kk:∀(j:Nat) (e:E) (a:Int),ks[j]?=some e->l[j]?=some a->mB (vs++(o.vs++[t])) e.ty a:=λj e a q1 q2=>by
    have:=(k3 j e a q1 q2).app (ws:=[t])
    simpa using this
   generalize hA:((vs.length+o.vs.length:Nat):Int)=A at *
   unfold eK
   have qL:=hk
   unfold hJ at qL
   unfold oC at h3
   by_cases c1:e.k=1
   ·rw[if_pos (.inl c1)]at h3 ⊢
    cases h3
    exact .c1 jU
   by_cases c2:e.k=2
   ·rw[if_pos (.inr c2)]
    rw[if_neg (by omega),if_pos c2]at h3 qL
    cases h3
    simp only[Bool.and_eq_true,Bool.or_eq_true,decide_eq_true_eq]at qL
    have VJ:nI e.k e.n=e.n:=by unfold nI;rw[if_pos (.inr c2)]
    rw[VJ]
    exact .c1b jU qL.2
   rw[if_neg (by omega)]
   by_cases c3:e.k=3
   ·rw[if_pos c3]
    rw[if_neg (by omega),if_neg c2,if_pos c3]at h3
    obtain⟨q1,rfl,_⟩:=b6 h3
    rw[Bool.and_eq_true]at q1
    exact .c2 jU q1.2
   rw[if_neg c3]
   by_cases Nc:e.k=4
   ·rw[if_pos Nc]
    rw[if_neg (by omega),if_neg c2,if_neg c3,if_pos Nc]at h3
    unfold tf at h3
    split at h3
    ·rename_i j u e1
     cases h3
     exact absurd ⟨Nc,by omega⟩ c4
    ·split at h3
     ·rename_i j u e1
      cases h3
      obtain⟨_,v,q1,q2⟩:=gy e1
      rw[show (-1-(-1-(j:Int)))=(j:Int) by omega]
      exact .c19 (by simpa using q1) (by rw[q2];exact jU)
     ·cases h3
   rw[if_neg Nc]
   by_cases c5:e.k=5
   ·rw[if_pos c5]
    rw[if_neg (by omega),if_neg c2,if_neg c3,if_neg Nc,if_pos c5]at h3
    rw[if_neg (by omega),if_neg c2,if_neg (by omega),if_pos (.inl c5),decide_eq_true_eq]at qL
    obtain⟨a,rfl⟩:=Nb qL
    have q0:=kk 0 a _ rfl (FC k2)
    unfold sE at h3
    split at h3
    ·rename_i yJ
     split at h3
     ·rename_i s hs
      split at h3
      ·rename_i i u e1
       cases h3
       obtain⟨_,v,q1,q2⟩:=gy e1
       have hr:=(UZ a (by simp)).2.2 yJ.1
       have ha:a.ty=⟨3,((a.ty.r.toNat:Nat):Int),0⟩:=by
        have:a.ty=⟨a.ty.b,a.ty.r,a.ty.d⟩:=rfl
        rw[this]
        have e1:((a.ty.r.toNat:Nat):Int)=a.ty.r:=by omega
        rw[e1]
        have q3:a.ty.b=3:=yJ.1
        have q4:a.ty.d=0:=yJ.2
        rw[q3,q4]
       rw[ha]at q0
       exact .c6 q0 hs (by simpa using q1) (by rw[q2];exact jU)
      ·cases h3
     ·cases h3
    ·cases h3
   rw[if_neg c5]
   by_cases c6:e.k=6
   ·rw[if_pos c6]
    rw[if_neg (by omega),if_neg c2,if_neg c3,if_neg Nc,if_neg c5,if_pos c6]at h3
    rw[if_neg (by omega),if_neg c2,if_neg (by omega),if_neg (by omega)]at qL
    simp only[Bool.and_eq_true,decide_eq_true_eq]at qL
    obtain⟨a,b,rfl⟩:=Rq qL.2
    have q0:=kk 0 a _ rfl (FC k2)
    have q1:=kk 1 b _ rfl (Zi k2)
    obtain⟨q2,rfl,_⟩:=b6 h3
    rw[Bool.and_eq_true,decide_eq_true_eq,decide_eq_true_eq]at q2
    rw[show b.ty=tI from q2.2]at q1
    exact .c8 q0 q2.1 jU q1
   rw[if_neg c6]
   by_cases c7:e.k=7
   ·rw[if_pos c7]
    rw[if_neg (by omega),if_neg c2,if_neg c3,if_neg Nc,if_neg c5,if_neg c6,if_pos c7]at h3
    unfold xH at h3
    split at h3
    ·rename_i i s hs
     split at h3
     ·rename_i nU
      cases h3
      obtain⟨_,q⟩:=rz hs
      have q':H.sigs[i]?=some s:=by simpa using q
      exact .CN q' (yI nU k2 λj e a q1 q2=>kk j e a q1 q2) (.inr ⟨(hG.res s (mem_of q') ht).2,jU⟩)
     ·cases h3
    ·cases h3
   rw[if_neg c7]
   by_cases c8:e.k=8
   ·rw[if_pos c8]
    rw[if_neg (by omega),if_neg c2,if_neg c3,if_neg Nc,if_neg c5,if_neg c6,if_neg c7,if_pos c8]at h3
    obtain⟨q2,rfl,_⟩:=b6 h3
    simp only[Bool.and_eq_true,decide_eq_true_eq]at q2
    rw[fm (.inl c8)]
    exact .Ll jU q2.1.2 q2.2 (by rw[List.getElem?_append_right (by simp)];simp)
   rw[if_neg c8]
   by_cases c9:e.k=9
   ·rw[if_pos c9]
    rw[if_neg (by omega),if_neg c2,if_neg c3,if_neg Nc,if_neg c5,if_neg c6,if_neg c7,if_neg c8,if_pos c9]at h3
    rw[if_neg (by omega),if_neg c2,if_neg (by omega),if_pos (.inr (.inl c9)),decide_eq_true_eq]at qL
    obtain⟨a,rfl⟩:=Nb qL
    have q0:=kk 0 a _ rfl (FC k2)
    obtain⟨q2,rfl,_⟩:=b6 h3
    rw[Bool.and_eq_true,Bool.and_eq_true,decide_eq_true_eq,decide_eq_true_eq]at q2
    rw[fm (.inr c9)]
    rw[show a.ty=tI from q2.2]at q0
    have hd:=(kH H.rs e.on e.od).1
    exact .zU jU (by show 0<(cM H.rs e.on e.od).1.d+1;omega) (by rw[List.getElem?_append_right (by simp)];simp) q0
   rw[if_neg c9]
   by_cases zx:e.k=10
   ·rw[if_pos zx]
    rw[if_neg (by omega),if_neg c2,if_neg c3,if_neg Nc,if_neg c5,if_neg c6,if_neg c7,if_neg c8,if_neg c9,if_pos zx]at h3
    rw[if_neg (by omega),if_neg c2,if_neg (by omega),if_pos (by omega),decide_eq_true_eq]at qL
    obtain⟨a,rfl⟩:=Nb qL
    have q0:=kk 0 a _ rfl (FC k2)
    obtain⟨q2,rfl,_⟩:=b6 h3
    rw[decide_eq_true_eq]at q2
    exact .zx jU q0 q2
   rw[if_neg zx]
   by_cases Ll:e.k=11
   ·rw[if_pos Ll]
    rw[if_pos (.inr Ll)]at h3
    cases h3
    exact .c14 jU
   rw[if_neg Ll]
   by_cases zU:e.k=12
   ·rw[if_pos (.inl zU)]
    rw[if_neg (by omega),if_neg c2,if_neg c3,if_neg Nc,if_neg c5,if_neg c6,if_neg c7,if_neg c8,if_neg c9,if_neg zx,if_pos zU]at h3
    rw[if_neg (by omega),if_neg c2,if_neg (by omega),if_pos (by omega),decide_eq_true_eq]at qL
    obtain⟨a,rfl⟩:=Nb qL
    have q0:=kk 0 a _ rfl (FC k2)
    obtain⟨q2,rfl,_⟩:=b6 h3
    rw[decide_eq_true_eq]at q2
    rw[show a.ty=tI from q2]at q0
    rw[zU]
    exact .c5i jU q0
   by_cases CN:e.k=13
   ·rw[if_pos (.inr CN)]
    rw[if_neg (by omega),if_neg c2,if_neg c3,if_neg Nc,if_neg c5,if_neg c6,if_neg c7,if_neg c8,if_neg c9,if_neg zx,if_neg zU,if_pos CN]at h3
    rw[if_neg (by omega),if_neg c2,if_neg (by omega),if_pos (by omega),decide_eq_true_eq]at qL
    obtain⟨a,rfl⟩:=Nb qL
    have q0:=kk 0 a _ rfl (FC k2)
    obtain⟨q2,rfl,_⟩:=b6 h3
    rw[decide_eq_true_eq]at q2
    rw[show a.ty=tB from q2]at q0
    rw[CN]
    exact .c5b jU q0
   rw[if_neg (by omega)]
   rw[if_neg (by omega),if_neg c2,if_neg c3,if_neg Nc,if_neg c5,if_neg c6,if_neg c7,if_neg c8,if_neg c9,if_neg zx,if_neg zU,if_neg CN]at h3
   rw[if_neg (by omega),if_neg c2,if_neg (by omega),if_neg (by omega)]at qL
   simp only[Bool.and_eq_true,Bool.or_eq_true,decide_eq_true_eq]at qL
   obtain⟨a,b,rfl⟩:=Rq qL.2
   exact .c4 (kk 0 a _ rfl (FC k2)) (kk 1 b _ rfl (Zi k2)) h3 (by omega) jU
end vC
namespace vC
open Ax Go V7 lP mV
variable {H:Hd}{f:Nat}{has:Bool}{res:T3}{V X:List Vd}
theorem Aw {k:Int}{nm:List UInt8}{es:List E}{t:T3}{r:Int}{W:List Vd}(h:jR H res V k nm es t=some (r,W)):∃l,W=V++l/\∀v∈l,v.ty=t/\(k=1\/k=2):=by
 have nil:∀{W:List Vd},W=V->∃l,W=V++l/\∀v∈l,v.ty=t/\(k=1\/k=2):=λe=>⟨[],by simp[e],by simp⟩
 unfold jR at h
 split at h
 ·rename_i c
  split at h
  ·cases h
  ·cases h;exact⟨_,rfl,by simp[c]⟩
 split at h
 ·rename_i c
  split at h
  ·split at h
   ·cases h
   ·cases h;exact⟨_,rfl,by simp[c]⟩
  ·cases h
 split at h
 ·split at h
  ·split at h
   ·cases h;exact nil rfl
   ·cases h
  ·cases h
 split at h
 ·split at h
  ·cases h;exact nil rfl
  ·cases h
 split at h
 ·split at h
  ·cases h;exact nil rfl
  ·cases h
 split at h
 ·split at h
  ·cases h;exact nil rfl
  ·cases h
 split at h
 ·split at h
  ·cases h;exact nil rfl
  ·cases h
 ·cases h;exact nil rfl
def Gv (H:Hd)(V:List Vd):Prop:=∀v∈V,WT H.rs.length v.ty/\BT v.ty
theorem Ln {k:Int}{on:List UInt8}{od:Int}{t:T3}(h:lD H k on od=some t)(hk:k=1\/k=2):WT H.rs.length t/\BT t:=by
 unfold lD at h
 rw[if_pos hk]at h
 split at h
 ·rename_i c;cases h;exact⟨kH _ _ _,u5 c⟩
 ·cases h
theorem JY {k:Int}{nm on:List UInt8}{od:Int}{es:List E}{t:T3}{r:Int}{W:List Vd}(hd:lD H k on od=some t)(h:jR H res V k nm es t=some (r,W))(hV:Gv H V):Gv H W:=by
 obtain⟨l,rfl,h1⟩:=Aw h
 intro v hv
 rcases List.mem_append.1 hv with hv|hv
 ·exact hV v hv
 ·obtain⟨e,hk⟩:=h1 v hv
  rw[e];exact Ln hd hk
def Ext (V X:List Vd):Prop:=∃l,X=V++l
theorem Ext.rfl':Ext V V:=⟨[],by simp⟩
theorem Ext.trans {A B C:List Vd}(h:Ext A B)(k:Ext B C):Ext A C:=by
 obtain⟨l,rfl⟩:=h
 obtain⟨m,rfl⟩:=k
 exact⟨l++m,by simp⟩
theorem Ext.pre {A B:List Vd}{vs:List T3}(h:Ext A B)(hp:Cq B vs):Cq A vs:=by
 obtain⟨l,rfl⟩:=h
 exact λk v hk=>hp k v (sM hk)
theorem uw:∀{l ys:List Sm}{V X:List Vd},(∀s∈l,∀V y W,wF H has res V s=.ok (y,W)->Gv H V->Ext V W/\Gv H W)->kQ H has res V l=.ok (ys,X)->Gv H V->Ext V X/\Gv H X
 |[],ys,V,X,_,h,hV=>by
  unfold kQ at h
  cases h
  exact⟨.rfl',hV⟩
 |s::l,ys,V,X,hp,h,hV=>by
  obtain⟨y,W,zs,h1,h2,rfl⟩:=nL h
  obtain⟨a,b⟩:=hp s List.mem_cons_self V y W h1 hV
  obtain⟨c,d⟩:=uw (λt ht=>hp t (List.mem_cons_of_mem _ ht)) h2 b
  exact⟨a.trans c,d⟩
theorem FF (s:Sm):∀V y W,wF H has res V s=.ok (y,W)->Gv H V->Ext V W/\Gv H W:=by
 induction s using Sm.ind with
 |_ s sW uh=>
  intro V y X h hV
  obtain⟨t,ys,r,W,hf,ht,sV,bn,hh⟩:=ug h
  obtain⟨l,e,_⟩:=Aw bn
  have h1:Ext V W:=⟨l,e⟩
  have h2:=JY ht bn hV
  rcases hh with⟨_,b,W1,c,hb,hc,rfl⟩|⟨_,b,hb,rfl⟩|⟨_,_,rfl,rfl⟩
  ·obtain⟨a1,a2⟩:=uw sW hb h2
   obtain⟨b1,b2⟩:=uw uh hc a2
   exact⟨h1.trans (a1.trans b1),b2⟩
  ·obtain⟨a1,a2⟩:=uw sW hb h2
   exact⟨h1.trans a1,a2⟩
  ·exact⟨h1,h2⟩
theorem qp {l ys:List Sm}{V X:List Vd}(h:kQ H has res V l=.ok (ys,X))(hV:Gv H V):Ext V X/\Gv H X:=uw (λs _=>FF s) h hV
def FS (H:Hd)(f:Nat)(has:Bool)(res:T3)(X:List Vd)(y:Sm):Prop:=∀(vs:List T3)(ss:List Sd)(at_:Nat),Cq X vs->wO H f has res vs ss (at_+(cS vs.length at_ ss.length y).is.length) (cS vs.length at_ ss.length y)
theorem Cr:∀(l:List Sm),(∀y∈l,FS H f has res X y)->∀(vs:List T3)(ss:List Sd)(at_:Nat),Cq X vs->wO H f has res vs ss (at_+(cB vs.length at_ ss.length l).is.length) (cB vs.length at_ ss.length l)
 |[],_,vs,ss,at_,_=>by
  rw[Fx]
  exact .nil
 |y::l,h,vs,ss,at_,hp=>by
  rw[Av]
  unfold D6
  have h1:=h y List.mem_cons_self vs ss at_ hp
  generalize cS vs.length at_ ss.length y=x at *
  have e1:vs.length+x.vs.length=(vs++x.vs).length:=by simp
  have e2:ss.length+x.ss.length=(ss++x.ss.map (Sd.mk f)).length:=by simp
  rw[e1,e2]
  dsimp only
  have h2:=Cr l (λz hz=>h z (List.mem_cons_of_mem _ hz)) (vs++x.vs) (ss++x.ss.map (Sd.mk f)) (at_+x.is.length) hp.app
  generalize cB (vs++x.vs).length (at_+x.is.length) (ss++x.ss.map (Sd.mk f)).length l=z at *
  refine h1.app h2 ?_ ?_
  ·simp only[Out.app,List.length_append];omega
  ·simp only[Out.app,List.length_append];omega
theorem wO.kC {vs:List T3}{ss:List Sd}{m m':Nat}{o:Out}(h:wO H f has res vs ss m o)(hm:m<=m'):wO H f has res vs ss m' o:=⟨λi hi=>by
 have:=(h.is i hi).mono (ws:=[]) (ts:=[]) hm
 simpa using this⟩
theorem Zj {vs:List T3}{ss:List Sd}{at_:Nat}{x:Int×Out}{g1 g2:Nat->Nat->Nat->Out}(hx:wO H f has res vs ss 0 x.2)(hb:mB (vs++x.2.vs) tB x.1)(hp:Cq X vs)
  (h1:∀(vs:List T3) (ss:List Sd) (at_:Nat),Cq X vs->wO H f has res vs ss (at_+(g1 vs.length at_ ss.length).is.length) (g1 vs.length at_ ss.length))
  (h2:∀(vs:List T3) (ss:List Sd) (at_:Nat),Cq X vs->wO H f has res vs ss (at_+(g2 vs.length at_ ss.length).is.length) (g2 vs.length at_ ss.length)) :
  wO H f has res vs ss (at_+(Rj vs.length at_ ss.length x g1 g2).is.length) (Rj vs.length at_ ss.length x g1 g2):=by
 unfold Rj
 have e1:vs.length+x.2.vs.length=(vs++x.2.vs).length:=by simp
 have e2:ss.length+x.2.ss.length=(ss++x.2.ss.map (Sd.mk f)).length:=by simp
 rw[e1,e2]
 have k1:=h1 (vs++x.2.vs) (ss++x.2.ss.map (Sd.mk f)) (at_+x.2.is.length+1) hp.app
 simp only
 generalize g1 (vs++x.2.vs).length (at_+x.2.is.length+1) (ss++x.2.ss.map (Sd.mk f)).length=b at *
 have e3:(vs++x.2.vs).length+b.vs.length=(vs++x.2.vs++b.vs).length:=by simp[Nat.add_assoc]
 have e4:(ss++x.2.ss.map (Sd.mk f)).length+b.ss.length=(ss++x.2.ss.map (Sd.mk f)++b.ss.map (Sd.mk f)).length:=by simp[Nat.add_assoc]
 rw[e3,e4]
 have k2:=h2 (vs++x.2.vs++b.vs) (ss++x.2.ss.map (Sd.mk f)++b.ss.map (Sd.mk f)) (at_+x.2.is.length+1+b.is.length+1) hp.app.app
 generalize g2 (vs++x.2.vs++b.vs).length (at_+x.2.is.length+1+b.is.length+1) (ss++x.2.ss.map (Sd.mk f)++b.ss.map (Sd.mk f)).length=c at *
 refine⟨λi hi=>?_⟩
 simp only[List.map_append,<-List.append_assoc]
 simp only[List.length_append,List.length_cons]
 simp only[List.mem_append,List.mem_cons]at hi
 rcases hi with hi|rfl|hi|rfl|hi
 ·have:=(hx.is i hi).mono (ws:=b.vs++c.vs) (ts:=b.ss.map (Sd.mk f)++c.ss.map (Sd.mk f)) (Nat.zero_le (at_+(x.2.is.length+(b.is.length+(c.is.length+1)+1))))
  simpa only [<-List.append_assoc] using this
 ·refine .c17 ?_ (by omega) (by omega)
  have:=hb.app (ws:=b.vs++c.vs)
  simpa only [<-List.append_assoc] using this
 ·have:=(k1.is i hi).mono (ws:=c.vs) (ts:=c.ss.map (Sd.mk f)) (m':=at_+(x.2.is.length+(b.is.length+(c.is.length+1)+1))) (by omega)
  simpa only [<-List.append_assoc] using this
 ·exact .c16 (by omega)
 ·have:=(k2.is i hi).mono (ws:=[]) (ts:=[]) (m':=at_+(x.2.is.length+(b.is.length+(c.is.length+1)+1))) (by omega)
  simpa only [List.append_nil] using this
theorem Zk {vs:List T3}{ss:List Sd}{at_:Nat}{x:Int×Out}{g1:Nat->Nat->Nat->Out}(hx:wO H f has res vs ss 0 x.2)(hb:mB (vs++x.2.vs) tB x.1)(hp:Cq X vs)
  (h1:∀(vs:List T3) (ss:List Sd) (at_:Nat),Cq X vs->wO H f has res vs ss (at_+(g1 vs.length at_ ss.length).is.length) (g1 vs.length at_ ss.length)) :
  wO H f has res vs ss (at_+(Rk vs.length at_ ss.length x g1).is.length) (Rk vs.length at_ ss.length x g1):=by
 unfold Rk
 have e1:vs.length+x.2.vs.length=(vs++x.2.vs).length:=by simp
 have e2:ss.length+x.2.ss.length=(ss++x.2.ss.map (Sd.mk f)).length:=by simp
 rw[e1,e2]
 have k1:=h1 (vs++x.2.vs) (ss++x.2.ss.map (Sd.mk f)) (at_+x.2.is.length+1) hp.app
 simp only
 generalize g1 (vs++x.2.vs).length (at_+x.2.is.length+1) (ss++x.2.ss.map (Sd.mk f)).length=b at *
 refine⟨λi hi=>?_⟩
 simp only[List.map_append,<-List.append_assoc]
 simp only[List.length_append,List.length_cons,List.length_nil]
 simp only[List.mem_append,List.mem_cons,List.not_mem_nil,or_false]at hi
 rcases hi with hi|rfl|hi|rfl
 ·exact(hx.is i hi).mono (ws:=b.vs) (ts:=b.ss.map (Sd.mk f)) (Nat.zero_le _)
 ·exact .c17 hb.app (by omega) (by omega)
 ·have:=(k1.is i hi).mono (ws:=[]) (ts:=[]) (m':=at_+(x.2.is.length+(b.is.length+(0+1)+1))) (by omega)
  simpa only [List.append_nil] using this
 ·exact .c16 (by omega)
theorem Ve {vs:List T3}{ss:List Sd}{t:T3}{v ref:Int}(hv:mB vs t v)(h:(∃k:Nat,ref=k/\vs[k]?=some t)\/(∃k:Nat,ref = -1-(k:Int)/\∃g,H.globals[k]?=some g/\g.ty=t)):sI H f has res vs ss 0 (Co ref v):=by
 unfold Co
 rcases h with⟨k,rfl,hk⟩|⟨k,rfl,g,hk,rfl⟩
 ·rw[if_neg (by omega)]
  exact .c3 ⟨k,rfl,hk⟩ hv
 ·rw[if_pos (by omega),show (-1-(-1-(k:Int)))=(k:Int) by omega]
  exact .c20 hk hv
theorem FG {vs:List T3}{ss:List Sd}{e:E}{i:In}(h:wO H f has res vs ss 0 (cE vs.length ss.length e).2)(hi:sI H f has res (vs++(cE vs.length ss.length e).2.vs) (ss++(cE vs.length ss.length e).2.ss.map (Sd.mk f)) 0 i)(m:Nat) :
  wO H f has res vs ss m ((cE vs.length ss.length e).2.app (eO i)):=(h.app (.ins hi) (Nat.le_refl _) (Nat.le_refl _)).kC (Nat.zero_le _)
theorem FH {e:E}{ys:List E}(h:nJ H V [e]=.ok ys):∃y,ys=[y]/\uf H V e=.ok y/\y.ty≠T0:=by
 obtain⟨y,zs,h1,h2,h3,rfl⟩:=jJ h
 unfold nJ at h3
 cases h3
 exact⟨y,rfl,h1,h2⟩
theorem Lp {a b:E}{ys:List E}(h:nJ H V [a,b]=.ok ys):∃y z,ys=[y,z]/\uf H V a=.ok y/\y.ty≠T0/\uf H V b=.ok z/\z.ty≠T0:=by
 obtain⟨y,zs,h1,h2,h3,rfl⟩:=jJ h
 obtain⟨z,rfl,h4,h5⟩:=FH h3
 exact⟨y,z,rfl,h1,h2,h4,h5⟩
theorem Lq {es:List E}(h:es.length=1):∃e,es=[e]:=by
 match es,h with
 |[e],_=>exact⟨e,rfl⟩
theorem D7 {nv at_ ns:Nat}{k:Int}{nm on:List UInt8}{od:Int}{es:List E}{bd el:List Sm}{a r:Int}:cS nv at_ ns (.mk k nm on od es bd el a r) =
  if k=2\/k=3 then (cE nv ns (kq es)).2.app (eO (Co r (cE nv ns (kq es)).1))
  else if k=4 then Fw nv ns (kq es) (mE nv ns (kq es).kids) (λnv ns=>cE nv ns (Ri es))
  else if k=5 then Rj nv at_ ns (cE nv ns (kq es)) (λnv at_ ns=>cB nv at_ ns bd) (λnv at_ ns=>cB nv at_ ns el)
  else if k=6 then Rk nv at_ ns (cE nv ns (kq es)) (λnv at_ ns=>cB nv at_ ns bd)
  else if k=7 then (match es with
   |[]=>eO ⟨18,-1,0,0,0,[]⟩
   |e::_=>(cE nv ns e).2.app (eO ⟨18,(cE nv ns e).1,0,0,0,[]⟩))
  else if k=8 then (cE nv ns (kq es)).2.app (eO ⟨15,(cE nv ns (kq es)).1,0,0,0,[]⟩)
  else if k=9 then (cE nv ns (kq es)).2
  else O0:=Rl _ _ _ _
theorem Vf {nm:List UInt8}{u:T3}{r:Int}{vs:List T3}(h:tf H V nm=some (u,r))(hp:Cq V vs):(∃k:Nat,r=k/\vs[k]?=some u)\/(∃k:Nat,r = -1-(k:Int)/\∃g,H.globals[k]?=some g/\g.ty=u):=by
 unfold tf at h
 split at h
 ·rename_i k t e
  cases h
  obtain⟨_,v,q1,q2⟩:=gy e
  exact .inl ⟨k,rfl,by rw[<-q2];exact hp k v (by simpa using q1)⟩
 ·split at h
  ·rename_i k t e
   cases h
   obtain⟨_,v,q1,q2⟩:=gy e
   exact .inr ⟨k,rfl,v,by simpa using q1,q2⟩
  ·cases h
theorem Vg (hH:H.ok)(hG:Hd.gd H)(hV:Gv H V){a b:E}{y z:E}(ha:uf H V a=.ok y)(hb:uf H V b=.ok z)(hk:a.k=5\/a.k=6)(Dr:y.ty=z.ty)(hz:z.ty≠T0){vs:List T3}{ss:List Sd}(hp:Cq V vs)(m:Nat) :
  wO H f has res vs ss m (Fw vs.length ss.length y (mE vs.length ss.length y.kids) (λnv ns=>cE nv ns z)):=by
 have hW:∀v∈V,WT H.rs.length v.ty:=λv hv=>(hV v hv).1
 have hB:∀v∈V,BT v.ty:=λv hv=>(hV v hv).2
 obtain⟨ks,t,r,h1,h2,h3,rfl⟩:=pL ha
 have iQ:=Fz h2
 have UZ:=iN h2 λe _ y hy=>E5 hH hW e y hy
 have JN:hJ a.k a.n ks.length=true:=by rw[oD h2];exact h1
 have hzz:=JX (f:=f) (has:=has) (res:=res) hH hG hW hB b z hb
 obtain⟨k1,k2,k3⟩:=FB (f:=f) (has:=has) (res:=res) ks (λy hy=>⟨iQ y hy,iN h2 (λe _ y hy=>JX hH hG hW hB e y hy) y hy⟩) vs ss hp
 unfold Fw
 simp only
 rw[show (E.mk a.k (nI a.k a.n) (lf a.k a.nm) (lg a.k a.on) (lp a.k a.od) ks a.a t r).kids=ks from rfl]at *
 generalize hx:mE vs.length ss.length ks=x at *
 obtain⟨l,o⟩:=x
 simp only at k1 k2 k3 ⊢
 have e1:vs.length+o.vs.length=(vs++o.vs).length:=by simp
 have e2:ss.length+o.ss.length=(ss++o.ss.map (Sd.mk f)).length:=by simp
 rw[e1,e2]
 obtain⟨q1,q2⟩:=hzz (vs++o.vs) (ss++o.ss.map (Sd.mk f)) hp.app
 have q3:=q2 hz
 generalize cE (vs++o.vs).length (ss++o.ss.map (Sd.mk f)).length z=w at *
 have kk:∀(j:Nat) (e:E) (a:Int),ks[j]?=some e->l[j]?=some a->mB (vs++o.vs++w.2.vs) e.ty a:=λj e a q1 q2=>(k3 j e a q1 q2).app
 have htz:z.ty=t:=Dr.symm
 rw[htz]at q3
 have Rr:sI H f has res (vs++o.vs++w.2.vs) (ss++o.ss.map (Sd.mk f)++w.2.ss.map (Sd.mk f)) 0 (Ii a.k r w.1 l):=by
  unfold Ii
  unfold oC at h3
  unfold hJ at JN
  rcases hk with c5|c6
  ·rw[if_pos c5]
   rw[if_neg (by omega),if_neg (by omega),if_neg (by omega),if_neg (by omega),if_pos c5]at h3
   rw[if_neg (by omega),if_neg (by omega),if_neg (by omega),if_pos (.inl c5),decide_eq_true_eq]at JN
   obtain⟨a,rfl⟩:=Nb JN
   have q0:=kk 0 a _ rfl (FC k2)
   unfold sE at h3
   split at h3
   ·rename_i yJ
    split at h3
    ·rename_i s hs
     split at h3
     ·rename_i i u e1
      cases h3
      obtain⟨_,v,p1,p2⟩:=gy e1
      have hr:=(UZ a (by simp)).2.2 yJ.1
      have ha:a.ty=⟨3,((a.ty.r.toNat:Nat):Int),0⟩:=by
       have:a.ty=⟨a.ty.b,a.ty.r,a.ty.d⟩:=rfl
       rw[this]
       have e1:((a.ty.r.toNat:Nat):Int)=a.ty.r:=by omega
       rw[e1]
       have q3:a.ty.b=3:=yJ.1
       have q4:a.ty.d=0:=yJ.2
       rw[q3,q4]
      rw[ha]at q0
      exact .c7 q0 hs (by simpa using p1) (by rw[p2];exact q3)
     ·cases h3
    ·cases h3
   ·cases h3
  ·rw[if_neg (by omega)]
   rw[if_neg (by omega),if_neg (by omega),if_neg (by omega),if_neg (by omega),if_neg (by omega),if_pos c6]at h3
   rw[if_neg (by omega),if_neg (by omega),if_neg (by omega),if_neg (by omega)]at JN
   simp only[Bool.and_eq_true,decide_eq_true_eq]at JN
   obtain⟨a,b,rfl⟩:=Rq JN.2
   have q0:=kk 0 a _ rfl (FC k2)
   have q1:=kk 1 b _ rfl (Zi k2)
   obtain⟨p2,rfl,_⟩:=b6 h3
   rw[Bool.and_eq_true,decide_eq_true_eq,decide_eq_true_eq]at p2
   rw[show b.ty=tI from p2.2]at q1
   exact .c9 q0 p2.1 q3 q1
 have hA:wO H f has res vs ss 0 (o.app w.2):=k1.app q1 (Nat.le_refl _) (Nat.le_refl _)
 refine(hA.app (m2:=0) (m:=0) (.ins (i:=Ii a.k r w.1 l) ?_) (Nat.le_refl _) (Nat.le_refl _)).kC (Nat.zero_le _)
 simpa only [Out.app,List.map_append,<-List.append_assoc] using Rr
theorem ux:∀{l ys:List Sm}{V X:List Vd},kQ H has res V l=.ok (ys,X)->Gv H V->∀{y:Sm},y∈ys->∃s V' W',s∈l/\wF H has res V' s=.ok (y,W')/\Gv H V'/\Ext V V'/\Ext W' X
 |[],ys,V,X,h,_,y,hy=>by
  unfold kQ at h
  cases h
  simp at hy
 |s::l,ys,V,X,h,hV,y,hy=>by
  obtain⟨z,W,zs,h1,h2,rfl⟩:=nL h
  obtain⟨a,b⟩:=FF s V z W h1 hV
  rcases List.mem_cons.1 hy with rfl|hy
  ·exact⟨s,V,W,List.mem_cons_self,h1,hV,.rfl',(qp h2 b).1⟩
  ·obtain⟨s',V',W',i1,i2,i3,i4,i5⟩:=ux h2 b hy
   exact⟨s',V',W',List.mem_cons_of_mem _ i1,i2,i3,a.trans i4,i5⟩
theorem Zl (hH:H.ok)(hG:Hd.gd H)(s:Sm):∀V y W,wF H has res V s=.ok (y,W)->Gv H V->Ext W X->FS H f has res X y:=by
 induction s using Sm.ind with
 |_ s sW uh=>
  intro V y W0 h hV hX
  obtain⟨t,ys,r,W,hf,ht,sV,bn,hh⟩:=ug h
  have Wk:Ext V W:=by obtain⟨l,e,_⟩:=Aw bn;exact⟨l,e⟩
  have hW:=JY ht bn hV
  have hW1:∀v∈V,WT H.rs.length v.ty:=λv hv=>(hV v hv).1
  have hW2:∀v∈V,BT v.ty:=λv hv=>(hV v hv).2
  have aiu:Ext W W0:=by
   rcases hh with⟨_,b,W1,c,hb,hc,rfl⟩|⟨_,b,hb,rfl⟩|⟨_,_,rfl,rfl⟩
   ·obtain⟨a1,a2⟩:=qp hb hW
    exact a1.trans (qp hc a2).1
   ·exact(qp hb hW).1
   ·exact .rfl'
  have hWX:=aiu.trans hX
  have hVX:=Wk.trans hWX
  intro vs ss at_ hp
  have WA:=hVX.pre hp
  have hpW:=hWX.pre hp
  have one:(s.k=2\/s.k=3\/s.k=5\/s.k=6\/s.k=8)->∃e z,s.es=[e]/\ys=[z]/\uf H V e=.ok z/\z.ty≠T0:=λhk=>by
   unfold dK at hf
   rw[if_neg (by omega),if_neg (by omega),if_neg (by omega),if_neg (by omega),if_pos (by omega),decide_eq_true_eq]at hf
   obtain⟨e,he⟩:=Lq hf
   rw[mj (by omega),he]at sV
   obtain⟨z,h1,h2,h3⟩:=FH sV
   exact⟨e,z,he,h1,h2,h3⟩
  have fe:∀e z,uf H V e=.ok z->FE H f has res V z:=λe z h=>JX hH hG hW1 hW2 e z h
  rcases hh with⟨c5,b,W1,c,hb,hc,rfl⟩|⟨c6,b,hb,rfl⟩|⟨c5,c6,rfl,rfl⟩
  ·rw[D7,if_neg (by omega),if_neg (by omega),if_pos c5]
   obtain⟨e,z,he,rfl,h1,h2⟩:=one (by omega)
   obtain⟨q1,q2⟩:=fe e z h1 vs ss WA
   have q3:=q2 h2
   unfold jR at bn
   rw[if_neg (by omega),if_neg (by omega),if_neg (by omega),if_neg (by omega),if_pos (.inl c5)]at bn
   split at bn
   ·rename_i F4
    rw[show z.ty=tB from F4]at q3
    have g1:=qp hb hW
    refine Zj q1 q3 hp (λvs ss at_ hp=>?_) (λvs ss at_ hp=>?_)
    ·refine Cr b (λy hy=>?_) vs ss at_ hp
     obtain⟨s',V',W',i1,i2,i3,i4,i5⟩:=ux hb hW hy
     exact sW s' i1 V' y W' i2 i3 (i5.trans ((qp hc g1.2).1.trans hX))
    ·refine Cr c (λy hy=>?_) vs ss at_ hp
     obtain⟨s',V',W',i1,i2,i3,i4,i5⟩:=ux hc g1.2 hy
     exact uh s' i1 V' y W' i2 i3 (i5.trans hX)
   ·cases bn
  ·rw[D7,if_neg (by omega),if_neg (by omega),if_neg (by omega),if_pos c6]
   obtain⟨e,z,he,rfl,h1,h2⟩:=one (by omega)
   obtain⟨q1,q2⟩:=fe e z h1 vs ss WA
   have q3:=q2 h2
   unfold jR at bn
   rw[if_neg (by omega),if_neg (by omega),if_neg (by omega),if_neg (by omega),if_pos (.inr c6)]at bn
   split at bn
   ·rename_i F4
    rw[show z.ty=tB from F4]at q3
    refine Zk q1 q3 hp (λvs ss at_ hp=>?_)
    refine Cr b (λy hy=>?_) vs ss at_ hp
    obtain⟨s',V',W',i1,i2,i3,i4,i5⟩:=ux hb hW hy
    exact sW s' i1 V' y W' i2 i3 (i5.trans hX)
   ·cases bn
  ·rw[D7]
   by_cases c2:s.k=2\/s.k=3
   ·rw[if_pos c2]
    obtain⟨e,z,he,rfl,h1,h2⟩:=one (by omega)
    obtain⟨q1,q2⟩:=fe e z h1 vs ss WA
    refine FG q1 (Ve (q2 h2) ?_) _
    unfold jR at bn
    rw[if_neg (by omega)]at bn
    rcases c2 with c2|c3
    ·rw[if_pos c2]at bn
     split at bn
     ·rename_i F4
      split at bn
      ·cases bn
      ·cases bn
       refine .inl ⟨V.length,rfl,?_⟩
       have:=hpW V.length ⟨s.nm,t⟩ (by simp)
       rw[show z.ty=t from F4]
       exact sM this
     ·cases bn
    ·rw[if_neg (by omega),if_pos c3]at bn
     split at bn
     ·rename_i u r' hv
      split at bn
      ·rename_i hu
       cases bn
       rw[show u=z.ty from hu]at hv
       exact Vf hv WA.app
      ·cases bn
     ·cases bn
   rw[if_neg c2]
   by_cases c4:s.k=4
   ·rw[if_pos c4]
    unfold dK at hf
    rw[if_neg (by omega),if_pos c4]at hf
    split at hf
    ·rename_i a b he
     rw[mj (by omega),he]at sV
     obtain⟨y,z,rfl,h1,h2,h3,h4⟩:=Lp sV
     unfold jR at bn
     rw[if_neg (by omega),if_neg (by omega),if_neg (by omega),if_pos c4]at bn
     split at bn
     ·rename_i Dr
      exact Vg hH hG hV h1 h3 (by simpa using hf) Dr h4 WA _
     ·cases bn
    ·cases hf
   rw[if_neg c4,if_neg c5,if_neg c6]
   by_cases c7:s.k=7
   ·rw[if_pos c7]
    rw[mj (by omega)]at sV
    unfold dK at hf
    rw[if_neg (by omega),if_neg (by omega),if_pos c7]at hf
    simp only[Bool.or_eq_true,Bool.and_eq_true,decide_eq_true_eq,Bool.not_eq_true']at hf
    rcases hf with⟨h1,h2⟩|⟨h1,h2⟩
    ·obtain⟨e,he⟩:=Lq h1
     rw[he]at sV
     obtain⟨z,rfl,h3,h4⟩:=FH sV
     obtain⟨q1,q2⟩:=fe e z h3 vs ss WA
     unfold jR at bn
     rw[if_neg (by omega),if_neg (by omega),if_neg (by omega),if_neg (by omega),if_neg (by omega),if_pos c7]at bn
     split at bn
     ·rename_i Dr
      have q3:=q2 h4
      rcases Dr with Dr|Dr
      ·simp at Dr
      ·rw[show z.ty=res from Dr]at q3
       exact FG q1 (.Zf (by rw[if_pos h2];exact q3)) _
     ·cases bn
    ·have he:s.es=[]:=List.eq_nil_of_length_eq_zero h1
     rw[he]at sV
     unfold nJ at sV
     cases sV
     exact .ins (.Zf (by rw[if_neg (by rw[h2];simp)]))
   rw[if_neg c7]
   by_cases c8:s.k=8
   ·rw[if_pos c8]
    obtain⟨e,z,he,rfl,h1,h2⟩:=one (by omega)
    obtain⟨q1,q2⟩:=fe e z h1 vs ss WA
    have q3:=q2 h2
    unfold jR at bn
    rw[if_neg (by omega),if_neg (by omega),if_neg (by omega),if_neg (by omega),if_neg (by omega),if_neg (by omega),if_pos c8]at bn
    split at bn
    ·rename_i Dr
     rw[show z.ty=tI from Dr]at q3
     exact FG q1 (.c15 q3) _
    ·cases bn
   rw[if_neg c8]
   by_cases c9:s.k=9
   ·rw[if_pos c9]
    unfold dK at hf
    rw[if_neg (by omega),if_neg (by omega),if_neg (by omega),if_pos c9]at hf
    split at hf
    ·rename_i e he
     rw[c9,he,K6]at sV
     split at sV
     ·cases sV
     ·rename_i z hz
      cases sV
      exact((fe e z hz vs ss WA).1).kC (Nat.zero_le _)
    ·cases hf
   rw[if_neg c9]
   exact .nil
end vC
namespace vC
open Ax Go V7 lP mV
variable {H:Hd}{f:Nat}{has:Bool}{res:T3}{V X:List Vd}
structure MT (H:Hd)(t:T3):Prop where
 wt:WT H.rs.length t
 bt:BT t
 rt:t.b≠3->t.r=0
def RT (t:T3):Prop:=t.b≠3->t.r=0
structure Hd.rt (H:Hd):Prop where
 bQ:∀s∈H.bQ,∀f∈s.2,RT f.ty
 globals:∀f∈H.globals,RT f.ty
 ps:∀s∈H.sigs,∀f∈s.ps,RT f.ty
 res:∀s∈H.sigs,RT s.res
theorem u6 {l:List (List UInt8)}{s:List UInt8}{d:Int}:RT (cM l s d).1:=by
 unfold cM RT
 split
 ·intro _;rfl
 split
 ·intro _;rfl
 split
 ·intro _;rfl
 split
 ·intro _;rfl
 ·intro h;exact absurd rfl h
theorem Zm (hR:Hd.rt H)(hV:∀v∈V,RT v.ty){k n:Int}{nm on:List UInt8}{od:Int}{ks:List E}{t:T3}{r:Int}(hk:hJ k n ks.length=true)(s8:∀e∈ks,RT e.ty)(h:oC H V k nm on od ks=some (t,r)):RT t:=by
 have bI:RT tI:=λ_=>rfl
 have bB:RT tB:=λ_=>rfl
 unfold oC at h
 by_cases c1:k=1\/k=11
 ·rw[if_pos c1]at h;cases h;exact bI
 rw[if_neg c1]at h
 by_cases c2:k=2
 ·rw[if_pos c2]at h;cases h;exact bB
 rw[if_neg c2]at h
 by_cases c3:k=3
 ·rw[if_pos c3]at h
  obtain⟨h1,rfl,_⟩:=b6 h
  exact u6
 rw[if_neg c3]at h
 by_cases c4:k=4
 ·rw[if_pos c4]at h
  unfold tf at h
  split at h
  ·rename_i j u e
   cases h
   obtain⟨_,v,h1,h2⟩:=gy e
   exact h2 ▸ hV v (mem_of h1)
  ·split at h
   ·rename_i j u e
    cases h
    obtain⟨_,v,h1,h2⟩:=gy e
    exact h2 ▸ hR.globals v (mem_of h1)
   ·cases h
 rw[if_neg c4]at h
 by_cases c5:k=5
 ·rw[if_pos c5]at h
  unfold sE at h
  split at h
  ·split at h
   ·rename_i s hs
    split at h
    ·rename_i i u e
     cases h
     obtain⟨_,v,h1,h2⟩:=gy e
     exact h2 ▸ hR.bQ s (mem_of hs) v (mem_of h1)
    ·cases h
   ·cases h
  ·cases h
 rw[if_neg c5]at h
 by_cases c6:k=6
 ·rw[if_pos c6]at h
  obtain⟨h1,rfl,_⟩:=b6 h
  have hl:ks.length=2:=by
   unfold hJ at hk
   rw[if_neg (by omega),if_neg (by omega),if_neg (by omega),if_neg (by omega)]at hk
   simp only[Bool.and_eq_true,decide_eq_true_eq]at hk
   exact hk.2
  obtain⟨a,b,rfl⟩:=Rq hl
  exact s8 a (by simp)
 rw[if_neg c6]at h
 by_cases c7:k=7
 ·rw[if_pos c7]at h
  unfold xH at h
  split at h
  ·rename_i i s hs
   split at h
   ·cases h
    obtain⟨_,h2⟩:=rz hs
    exact hR.res s (mem_of h2)
   ·cases h
  ·cases h
 rw[if_neg c7]at h
 by_cases c8:k=8
 ·rw[if_pos c8]at h
  obtain⟨h1,rfl,_⟩:=b6 h
  exact u6
 rw[if_neg c8]at h
 by_cases c9:k=9
 ·rw[if_pos c9]at h
  obtain⟨h1,rfl,_⟩:=b6 h
  exact(u6 (l:=H.rs) (s:=on) (d:=od):RT _)
 rw[if_neg c9]at h
 by_cases zx:k=10
 ·rw[if_pos zx]at h
  obtain⟨_,rfl,_⟩:=b6 h
  exact bI
 rw[if_neg zx]at h
 by_cases zU:k=12
 ·rw[if_pos zU]at h
  obtain⟨_,rfl,_⟩:=b6 h
  exact bI
 rw[if_neg zU]at h
 by_cases CN:k=13
 ·rw[if_pos CN]at h
  obtain⟨_,rfl,_⟩:=b6 h
  exact bB
 rw[if_neg CN]at h
 unfold mV.ue at h
 split at h
 ·obtain⟨_,rfl,_⟩:=b6 h;exact bI
 split at h
 ·obtain⟨_,rfl,_⟩:=b6 h;exact bB
 split at h
 ·obtain⟨_,rfl,_⟩:=b6 h;exact bB
 ·obtain⟨_,rfl,_⟩:=b6 h;exact bB
theorem Zn (hR:Hd.rt H)(hV:∀v∈V,RT v.ty)(e:E):∀y,uf H V e=.ok y->RT y.ty:=by
 induction e using E.ind with
 |_ e ih=>
  intro y h
  obtain⟨ks,t,r,h1,h2,h3,rfl⟩:=pL h
  exact Zm hR hV (by rw[oD h2];exact h1) (iN h2 ih) h3
structure nO (H:Hd)(o:Out):Prop where
 vs:∀t∈o.vs,MT H t
 ss:∀t∈o.ss,MT H t/\kX t=true
theorem nO.nil:nO H O0:=⟨by simp[O0],by simp[O0]⟩
theorem nO.app {x y:Out}(h:nO H x)(k:nO H y):nO H (x.app y):=by
 refine⟨λt ht=>?_,λt ht=>?_⟩
 ·rcases List.mem_append.1 ht with ht|ht
  ·exact h.vs t ht
  ·exact k.vs t ht
 ·rcases List.mem_append.1 ht with ht|ht
  ·exact h.ss t ht
  ·exact k.ss t ht
theorem nO.ins {i:In}:nO H (eO i):=⟨by simp[eO],by simp[eO]⟩
theorem FI:∀(ys:List E)(nv ns:Nat),(∀y∈ys,∀nv ns,nO H (cE nv ns y).2)->nO H (mE nv ns ys).2
 |[],nv,ns,_=>by
  have e:mE nv ns []=([],O0):=by unfold mE;rfl
  rw[e];exact .nil
 |y::ys,nv,ns,h=>by
  rw[uv]
  exact(h y List.mem_cons_self nv ns).app (FI ys _ _ λz hz=>h z (List.mem_cons_of_mem _ hz))
def Mv (H:Hd)(V:List Vd):Prop:=∀v∈V,MT H v.ty
theorem Mv.gv (h:Mv H V):Gv H V:=λv hv=>⟨(h v hv).wt,(h v hv).bt⟩
theorem JZ (hH:H.ok)(hG:Hd.gd H)(hR:Hd.rt H)(hV:Mv H V)(e:E):∀y,uf H V e=.ok y->∀nv ns,nO H (cE nv ns y).2:=by
 induction e using E.ind with
 |_ e ih=>
  intro y h nv ns
  have VY:=FA hG (λv hv=>(hV v hv).bt) e y h
  have UZ:=E5 hH (λv hv=>(hV v hv).wt) e y h
  have Bk:=Zn hR (λv hv=>(hV v hv).rt) e y h
  obtain⟨ks,t,r,h1,h2,h3,rfl⟩:=pL h
  have hE:cE nv ns (.mk e.k (nI e.k e.n) (lf e.k e.nm) (lg e.k e.on) (lp e.k e.od) ks e.a t r)=if e.k=4/\0<=r then (r,O0) else cK nv ns e.k (nI e.k e.n) r t (mE nv ns ks):=zz _ _ _
  rw[hE]
  split
  ·exact .nil
  have hk:=FI ks nv ns (iN h2 ih)
  unfold cK
  split
  ·exact hk.app .ins
  ·rename_i ht
   have hm:MT H t:=⟨UZ,VY.2 ht,Bk⟩
   refine hk.app ⟨by simpa using hm,λu hu=>?_⟩
   by_cases q:e.k=8\/e.k=9
   ·have hu':u=t:=by simpa [q] using hu
    subst hu'
    refine⟨hm,?_⟩
    unfold oC at h3
    rw[if_neg (by omega),if_neg (by omega),if_neg (by omega),if_neg (by omega),if_neg (by omega),if_neg (by omega),if_neg (by omega)]at h3
    rcases q with q|q
    ·rw[if_pos q]at h3
     obtain⟨q1,q2,_⟩:=b6 h3
     simp only[Bool.and_eq_true,decide_eq_true_eq]at q1
     unfold kX
     rw[q2,q1.1.2]
     rfl
    ·rw[if_neg (by omega),if_pos q]at h3
     obtain⟨q1,q2,_⟩:=b6 h3
     have hd:=(kH H.rs e.on e.od).1
     unfold kX
     rw[q2]
     rw[Bool.or_eq_true,decide_eq_true_eq,decide_eq_true_eq]
     exact .inr (by show 0<(cM H.rs e.on e.od).1.d+1;omega)
   ·simp[q]at hu
theorem Rs {k:Int}{nm on:List UInt8}{od:Int}{es:List E}{t:T3}{r:Int}{W:List Vd}(hd:lD H k on od=some t)(h:jR H res V k nm es t=some (r,W))(hV:Mv H V):Mv H W:=by
 obtain⟨l,rfl,h1⟩:=Aw h
 intro v hv
 rcases List.mem_append.1 hv with hv|hv
 ·exact hV v hv
 ·obtain⟨e,hk⟩:=h1 v hv
  rw[e]
  obtain⟨q1,q2⟩:=Ln hd hk
  refine⟨q1,q2,?_⟩
  unfold lD at hd
  rw[if_pos hk]at hd
  split at hd
  ·cases hd;exact u6
  ·cases hd
theorem xV:∀{l ys:List Sm}{V X:List Vd},(∀s∈l,∀V y W,wF H has res V s=.ok (y,W)->Mv H V->Mv H W)->kQ H has res V l=.ok (ys,X)->Mv H V->Mv H X
 |[],ys,V,X,_,h,hV=>by
  unfold kQ at h
  cases h
  exact hV
 |s::l,ys,V,X,hp,h,hV=>by
  obtain⟨y,W,zs,h1,h2,rfl⟩:=nL h
  exact xV (λt ht=>hp t (List.mem_cons_of_mem _ ht)) h2 (hp s List.mem_cons_self V y W h1 hV)
theorem Rt (s:Sm):∀V y W,wF H has res V s=.ok (y,W)->Mv H V->Mv H W:=by
 induction s using Sm.ind with
 |_ s sW uh=>
  intro V y X h hV
  obtain⟨t,ys,r,W,hf,ht,sV,bn,hh⟩:=ug h
  have h2:=Rs ht bn hV
  rcases hh with⟨_,b,W1,c,hb,hc,rfl⟩|⟨_,b,hb,rfl⟩|⟨_,_,rfl,rfl⟩
  ·exact xV uh hc (xV sW hb h2)
  ·exact xV sW hb h2
  ·exact h2
theorem Ru {l ys:List Sm}(h:kQ H has res V l=.ok (ys,X))(hV:Mv H V):Mv H X:=xV (λs _=>Rt s) h hV
theorem rA:∀{l ys:List Sm}{V X:List Vd},kQ H has res V l=.ok (ys,X)->Mv H V->∀{y:Sm},y∈ys->∃s V' W',s∈l/\wF H has res V' s=.ok (y,W')/\Mv H V'
 |[],ys,V,X,h,_,y,hy=>by
  unfold kQ at h
  cases h
  simp at hy
 |s::l,ys,V,X,h,hV,y,hy=>by
  obtain⟨z,W,zs,h1,h2,rfl⟩:=nL h
  rcases List.mem_cons.1 hy with rfl|hy
  ·exact⟨s,V,W,List.mem_cons_self,h1,hV⟩
  ·obtain⟨s',V',W',i1,i2,i3⟩:=rA h2 (Rt s V z W h1 hV) hy
   exact⟨s',V',W',List.mem_cons_of_mem _ i1,i2,i3⟩
theorem Cs:∀(l:List Sm)(nv at_ ns:Nat),(∀y∈l,∀nv at_ ns,nO H (cS nv at_ ns y))->nO H (cB nv at_ ns l)
 |[],nv,at_,ns,_=>by rw[Fx];exact .nil
 |y::l,nv,at_,ns,h=>by
  rw[Av]
  unfold D6
  exact(h y List.mem_cons_self nv at_ ns).app (Cs l _ _ _ λz hz=>h z (List.mem_cons_of_mem _ hz))
theorem nO.of {x:Out}(h:nO H x)(l:List In):nO H ⟨x.vs,l,x.ss⟩:=⟨h.vs,h.ss⟩
theorem Zo (hH:H.ok)(hG:Hd.gd H)(hR:Hd.rt H)(s:Sm):∀V y W,wF H has res V s=.ok (y,W)->Mv H V->∀nv at_ ns,nO H (cS nv at_ ns y):=by
 induction s using Sm.ind with
 |_ s sW uh=>
  intro V y W0 h hV nv at_ ns
  obtain⟨t,ys,r,W,hf,ht,sV,bn,hh⟩:=ug h
  have h2:=Rs ht bn hV
  have fe:∀y∈ys,∀nv ns,nO H (cE nv ns y).2:=by
   unfold An at sV
   split at sV
   ·split at sV
    ·rename_i e l _
     cases hx:uf H V e with
     |error a=>rw[hx]at sV;cases sV
     |ok y=>
      rw[hx]at sV;cases sV
      intro z hz
      rw[List.mem_singleton.1 hz]
      exact JZ hH hG hR hV e y hx
    ·cases sV;simp
   ·exact iN sV λe _ y hy=>JZ hH hG hR hV e y hy
  have f0:∀nv ns,nO H (cE nv ns (kq ys)).2:=λnv ns=>by
   match ys,fe with
   |[],_=>
    have:cE nv ns (kq [])=(-1,eO ⟨13,-1,0,0,0,[]⟩):=by
     show cE nv ns (.mk 0 0 [] [] 0 [] 0 T0 0)=_
     rw[zz]
     show (if (0:Int)=4/\(0:Int)<=0 then _ else cK nv ns 0 0 0 T0 (mE nv ns []))=_
     rw[if_neg (by decide)]
     have e:mE nv ns []=([],O0):=by unfold mE;rfl
     rw[e]
     unfold cK
     rw[if_pos rfl]
     simp[JV]
    rw[this];exact .ins
   |y::_,fe=>exact fe y List.mem_cons_self nv ns
  have f1:∀nv ns,nO H (cE nv ns (Ri ys)).2:=λnv ns=>by
   match ys,fe with
   |_::y::_,fe=>exact fe y (by simp) nv ns
   |[],_=>
    have:cE nv ns (Ri [])=(-1,eO ⟨13,-1,0,0,0,[]⟩):=by
     show cE nv ns (.mk 0 0 [] [] 0 [] 0 T0 0)=_
     rw[zz]
     show (if (0:Int)=4/\(0:Int)<=0 then _ else cK nv ns 0 0 0 T0 (mE nv ns []))=_
     rw[if_neg (by decide)]
     have e:mE nv ns []=([],O0):=by unfold mE;rfl
     rw[e]
     unfold cK
     rw[if_pos rfl]
     simp[JV]
    rw[this];exact .ins
   |[z],_=>
    have:cE nv ns (Ri [z])=(-1,eO ⟨13,-1,0,0,0,[]⟩):=by
     show cE nv ns (.mk 0 0 [] [] 0 [] 0 T0 0)=_
     rw[zz]
     show (if (0:Int)=4/\(0:Int)<=0 then _ else cK nv ns 0 0 0 T0 (mE nv ns []))=_
     rw[if_neg (by decide)]
     have e:mE nv ns []=([],O0):=by unfold mE;rfl
     rw[e]
     unfold cK
     rw[if_pos rfl]
     simp[JV]
    rw[this];exact .ins
  have fk:∀nv ns,s.k=4->nO H (mE nv ns (kq ys).kids).2:=λnv ns c4=>by
   unfold dK at hf
   rw[if_neg (by omega),if_pos c4]at hf
   split at hf
   ·rename_i a b he
    rw[mj (by omega),he]at sV
    obtain⟨y,z,rfl,h1,h2,h3,h4⟩:=Lp sV
    obtain⟨ks,t,r,g1,g2,g3,rfl⟩:=pL h1
    exact FI ks nv ns (iN g2 λe _ y hy=>JZ hH hG hR hV e y hy)
   ·cases hf
  rcases hh with⟨c5,b,W1,c,hb,hc,rfl⟩|⟨c6,b,hb,rfl⟩|⟨c5,c6,rfl,rfl⟩
  ·rw[D7,if_neg (by omega),if_neg (by omega),if_pos c5]
   have g1:∀nv at_ ns,nO H (cB nv at_ ns b):=λnv at_ ns=>Cs b nv at_ ns λy hy=>by
    obtain⟨s',V',W',i1,i2,i3⟩:=rA hb h2 hy
    exact sW s' i1 V' y W' i2 i3
   have g2:∀nv at_ ns,nO H (cB nv at_ ns c):=λnv at_ ns=>Cs c nv at_ ns λy hy=>by
    obtain⟨s',V',W',i1,i2,i3⟩:=rA hc (Ru hb h2) hy
    exact uh s' i1 V' y W' i2 i3
   exact(((f0 nv ns).app (g1 _ _ _)).app (g2 _ _ _)).of _
  ·rw[D7,if_neg (by omega),if_neg (by omega),if_neg (by omega),if_pos c6]
   have g1:∀nv at_ ns,nO H (cB nv at_ ns b):=λnv at_ ns=>Cs b nv at_ ns λy hy=>by
    obtain⟨s',V',W',i1,i2,i3⟩:=rA hb h2 hy
    exact sW s' i1 V' y W' i2 i3
   exact((f0 nv ns).app (g1 _ _ _)).of _
  ·rw[D7]
   split
   ·exact(f0 nv ns).app .ins
   split
   ·rename_i c4
    exact((fk nv ns c4).app (f1 _ _)).app .ins
   split
   ·split
    ·exact .ins
    ·exact(fe _ List.mem_cons_self nv ns).app .ins
   split
   ·exact(f0 nv ns).app .ins
   split
   ·exact f0 nv ns
   ·exact .nil
end vC
namespace vC
open Ax Go V7 lP mV
variable {H:Hd}{f:Nat}{has:Bool}{res:T3}{V X:List Vd}
structure Hd.Ct (H:Hd):Prop where
 ok:H.ok
 gd:Hd.gd H
 rt:Hd.rt H
 yes:∀s∈H.sigs,s.has=true->MT H s.res
 no:∀s∈H.sigs,s.has=false->s.res=T0
 bQ:∀s∈H.bQ,s.2.length<=8
 pn:∀s∈H.sigs,s.ps.length<=6
 nr:H.bQ.length<=12
 ng:H.globals.length<=8
 nf:H.sigs.length<=16
structure Il (H:Hd)(f:Nat)(s:Sg)(ss:List Sd)(c:Cd):Prop where
 params:c.params=s.ps.length
 has:c.has=s.has
 res:c.res=s.res
 pre:Cq s.ps c.vars
 vt:∀t∈c.vars,MT H t
 nv:c.vars.length<=4000
 fit:∀i∈c.is,sI H f s.has s.res c.vars ss (c.is.length-1) i
 last:∃i,c.is.getLast? = some i/\i.op=18
theorem Il.kC {s:Sg}{ss ts:List Sd}{c:Cd}(h:Il H f s ss c):Il H f s (ss++ts) c:=
 ⟨h.params,h.has,h.res,h.pre,h.vt,h.nv,λi hi=>by
  have:=(h.fit i hi).mono (ws:=[]) (ts:=ts) (Nat.le_refl _)
  simpa using this,h.last⟩
theorem Lr (V:List Vd)(l:List T3):Cq V (V.map (·.ty)++l):=λk v hk=>by
 apply sM
 rw[List.getElem?_map,hk];rfl
theorem adP (hF:Hd.Ct H){s:Sg}(hs:s∈H.sigs):Mv H s.ps:=λv hv=>⟨(hF.ok.sigs s hs).2 v hv,hF.gd.ps s hs v hv,hF.rt.ps s hs v hv⟩
theorem Zp {t:T3}(hm:MT H t)(hr:kX t=false):t=tI\/t=tB:=by
 unfold kX at hr
 rw[Bool.or_eq_false_iff,decide_eq_false_iff_not,decide_eq_false_iff_not]at hr
 obtain⟨h1,h2⟩:=hr
 have h3:=hm.rt h1
 have h4:=hm.wt.1
 have h5:=hm.bt
 obtain⟨b,r,d⟩:=t
 simp only at h1 h2 h3 h4
 obtain⟨h6,h7⟩:=h5
 simp only at h6 h7
 have hd:d=0:=by omega
 subst hd;subst h3
 have:b=1\/b=2:=by omega
 rcases this with rfl|rfl
 ·exact .inl rfl
 ·exact .inr rfl
theorem Rv (hF:Hd.Ct H){s:Sg}{fn:Fc}{l:List Sm}{W:List Vd}(hs:s∈H.sigs)(hc:kQ H s.has s.res s.ps fn.body=.ok (l,W))(a:Int)(f:Nat)(ss:List Sd)(hn:(ct ss.length s ⟨W,l,a⟩).vars.length<=4000) :
  Il H f s (ss++(hY ss.length ⟨W,l,a⟩).ss.map (Sd.mk f)) (ct ss.length s ⟨W,l,a⟩)/\nO H (hY ss.length ⟨W,l,a⟩):=by
 have hM:=adP hF hs
 have hMW:=Ru hc hM
 have hX:=(qp hc hM.gv).1
 have ov:nO H (hY ss.length ⟨W,l,a⟩):=Cs l _ _ _ λy hy=>by
  obtain⟨s',V',W',i1,i2,i3⟩:=rA hc hM hy
  exact Zo hF.ok hF.gd hF.rt s' V' y W' i2 i3
 have bn:=Cr (f:=f) (X:=W) l (λy hy=>by
  obtain⟨s',V',W',i1,i2,i3,i4,i5⟩:=ux hc hM.gv hy
  exact Zl hF.ok hF.gd s' V' y W' i2 i3 i5) (W.map (·.ty)) ss 0 (by simpa using Lr W [])
 have e0:(W.map (·.ty)).length=W.length:=by simp
 rw[e0]at bn
 refine⟨?_,ov⟩
 have hb:hY ss.length ⟨W,l,a⟩=cB W.length 0 ss.length l:=rfl
 rw[<-hb]at bn
 unfold ct at hn ⊢
 generalize hY ss.length ⟨W,l,a⟩=o at *
 simp only at hn ⊢
 have OJ:∀ts,Cq s.ps (W.map (·.ty)++ts):=λts=>hX.pre (Lr W ts)
 cases hh:s.has with
 |false=>
  rw[hh]at hn
  simp only[Bool.false_eq_true,if_false,List.append_nil]at hn ⊢
  refine⟨rfl,hh.symm,rfl,OJ _,λt ht=>?_,hn,λi hi=>?_,⟨18,-1,0,0,0,[]⟩,by simp[vD,hh],rfl⟩
  ·rcases List.mem_append.1 ht with ht|ht
   ·obtain⟨v,hv,rfl⟩:=List.mem_map.1 ht
    exact hMW v hv
   ·exact ov.vs t ht
  ·rcases List.mem_append.1 hi with hi|hi
   ·have:=(bn.is i hi).mono (ws:=[]) (ts:=[]) (m':=(o.is++vD s (W.length+o.vs.length)).length-1) (by simp[vD,hh])
    simpa using this
   ·have:i=⟨18,-1,0,0,0,[]⟩:=by simpa [vD,hh] using hi
    subst this
    exact .Zf (by rw[if_neg (by rw[hh];simp)])
 |true=>
  rw[hh]at hn
  simp only[if_true]at hn ⊢
  have hm:=hF.yes s hs hh
  have jU:mB (W.map (·.ty)++o.vs++[s.res]) s.res ((W.length+o.vs.length:Nat):Int):=⟨W.length+o.vs.length,rfl,by rw[List.getElem?_append_right (by simp)];simp⟩
  refine⟨rfl,hh.symm,rfl,by simpa using OJ (o.vs++[s.res]),λt ht=>?_,hn,λi hi=>?_,⟨18,((W.length+o.vs.length:Nat):Int),0,0,0,[]⟩,by simp[vD,hh],rfl⟩
  ·rcases List.mem_append.1 ht with ht|ht
   ·rcases List.mem_append.1 ht with ht|ht
    ·obtain⟨v,hv,rfl⟩:=List.mem_map.1 ht
     exact hMW v hv
    ·exact ov.vs t ht
   ·rw[List.mem_singleton.1 ht];exact hm
  ·rcases List.mem_append.1 hi with hi|hi
   ·have:=(bn.is i hi).mono (ws:=[s.res]) (ts:=[]) (m':=(o.is++vD s (W.length+o.vs.length)).length-1) (by simp[vD,hh])
    simpa using this
   ·have:i=⟨if kX s.res then 2 else 1,((W.length+o.vs.length:Nat):Int),0,0,0,[]⟩\/i=⟨18,((W.length+o.vs.length:Nat):Int),0,0,0,[]⟩:=by simpa [vD,hh] using hi
    rcases this with rfl|rfl
    ·cases hr:kX s.res with
     |true=>exact .c2 jU hr
     |false=>
      rcases Zp hm hr with q|q
      ·rw[q]at jU
       have:(if (false:Bool)=true then (2:Int) else 1)=1:=rfl
       rw[this,q]
       exact .c1 jU
      ·rw[q]at jU
       have:(if (false:Bool)=true then (2:Int) else 1)=1:=rfl
       rw[this,q]
       exact .c1b jU (.inl rfl)
    ·exact .Zf (by rw[if_pos hh];exact jU)
structure Made (H:Hd)(cs:List Cd)(ss:List Sd)(all:Nat):Prop where
 code:∀(j:Nat) (c:Cd),cs[j]?=some c->∃s,H.sigs[j]?=some s/\Il H j s ss c
 site:∀s∈ss,MT H s.ty/\kX s.ty=true/\s.fn<cs.length
 ns:ss.length<=60
 sum:(cs.map (·.is.length)).sum=all
 Wj:all<=2500
theorem Im (hF:Hd.Ct H):∀{sg:List Sg}{fs:List Fc}{bs:List Bd}{cs G4:List Cd}{ss NL:List Sd}{all:Nat},sg.length=fs.length->qk H sg fs=.ok bs->H.sigs.drop cs.length=sg->Made H cs ss all->wL cs ss all sg bs=.ok (G4,NL)->
  ∃aiv,Made H G4 NL aiv/\G4.length=H.sigs.length
 |[],fs,bs,cs,G4,ss,NL,all,hl,hk,hd,hM,h=>by
  unfold qk at hk
  cases hk
  unfold wL at h
  cases h
  refine⟨all,hM,?_⟩
  have h1:=List.drop_eq_nil_iff.1 hd
  have h2:cs.length<=H.sigs.length:=by
   refine Nat.le_of_not_lt λq=>?_
   have hc:cs.length-1<cs.length:=by omega
   obtain⟨s,hs,_⟩:=hM.code (cs.length-1) cs[cs.length-1] (List.getElem?_eq_getElem hc)
   have:=(List.getElem?_eq_some_iff.1 hs).1
   omega
  omega
 |_::_,[],_,_,_,_,_,_,hl,_,_,_,_=>by simp at hl
 |s::sg,fn::fs,bs,cs,G4,ss,NL,all,hl,hk,hd,hM,h=>by
  unfold qk at hk
  split at hk
  ·cases hk
  rename_i c W hc
  split at hk
  ·cases hk
  rename_i bs' Z3
  cases hk
  have aV:cs.length<H.sigs.length:=by
   refine Nat.lt_of_not_le λq=>?_
   rw[List.drop_eq_nil_iff.2 q]at hd;cases hd
  have hsg:H.sigs[cs.length]?=some s:=by
   have:=congrArg (·[0]?) hd
   simpa using this
  have nU:s∈H.sigs:=mem_of hsg
  unfold wL at h
  split at h
  ·cases h
  rename_i Xk
  have q1:(ct ss.length s ⟨W,c,fn.a⟩).vars.length<=4000:=by omega
  obtain⟨g1,g2⟩:=Rv hF nU hc fn.a cs.length ss q1
  refine Im hF (by simpa using hl) Z3 ?_ ?_ h
  ·rw[List.length_append,List.length_singleton,<-List.drop_drop,hd];rfl
  ·refine⟨λj c' hj=>?_,λd hd=>?_,?_,?_,by omega⟩
   ·by_cases uP:j<cs.length
    ·rw[List.getElem?_append_left uP]at hj
     obtain⟨s',h1,h2⟩:=hM.code j c' hj
     exact⟨s',h1,h2.kC⟩
    ·rw[List.getElem?_append_right (by omega)]at hj
     have YN:j-cs.length=0:=by
      have:=(List.getElem?_eq_some_iff.1 hj).1
      simp at this;omega
     rw[YN]at hj
     have Tj:j=cs.length:=by omega
     simp only[List.getElem?_cons_zero,Option.some.injEq]at hj
     subst hj;subst Tj
     exact⟨s,hsg,g1⟩
   ·rcases List.mem_append.1 hd with hd|hd
    ·obtain⟨a,b,c⟩:=hM.site d hd
     exact⟨a,b,by simp;omega⟩
    ·obtain⟨t,ht,rfl⟩:=List.mem_map.1 hd
     obtain⟨a,b⟩:=g2.ss t ht
     exact⟨a,b,by simp⟩
   ·simp;omega
   ·simp[hM.sum]
end vC
namespace vC
open Ax Go V7 lP mV
variable {H:Hd}{V:List Vd}{has:Bool}{res:T3}
theorem Rw {k n:Int}{m:Nat}(h:hJ k n m=true):(k=5\/k=9\/k=10\/k=12\/k=13->m=1)/\(k=6\/14<=k->m=2)/\(0<k/\k<25):=by
 unfold hJ at h
 split at h
 ·rename_i c
  exact⟨λq=>by omega,λq=>by omega,by omega⟩
 split at h
 ·rename_i c
  exact⟨λq=>by omega,λq=>by omega,by omega⟩
 split at h
 ·rename_i c
  exact⟨λq=>by omega,λq=>by omega,by omega⟩
 split at h
 ·rename_i c1 c2 c3 c
  have hm:m=1:=by simpa using h
  exact⟨λ_=>hm,λq=>by omega,by omega⟩
 ·rename_i c1 c2 c3 c
  simp only[Bool.and_eq_true,Bool.or_eq_true,decide_eq_true_eq]at h
  exact⟨λq=>by omega,λq=>h.2,by omega⟩
theorem xM:∀{l:List Vd}{s:List UInt8}{i k:Nat}{t:T3},gK s i l=some (k,t)->k<i+l.length
 |[],_,_,_,_,h=>by cases h
 |f::l,s,i,k,t,h=>by
  unfold gK at h
  split at h
  ·cases h;simp
  ·have:=xM h
   simp only[List.length_cons];omega
theorem Ls {s:List UInt8}{t:T3}{r:Int}(hg:H.globals.length<100000000)(h:tf H V s=some (t,r)) : -1000000000<r:=by
 unfold tf at h
 split at h
 ·cases h;omega
 ·split at h
  ·rename_i k t' hk
   cases h
   have:=xM hk
   omega
  ·cases h
theorem Zq (hG:Hd.gd H)(hg:H.globals.length<100000000)(hV:∀v∈V,BT v.ty)(e:E):∀y,uf H V e=.ok y->LE y:=by
 induction e using E.ind with
 |_ e ih=>
  intro y h
  have VY:=(FA hG hV e y h).1
  obtain⟨ks,t,r,h1,h2,h3,rfl⟩:=pL h
  have hl:=oD h2
  rw[<-hl]at h1
  obtain⟨a,b,c⟩:=Rw h1
  rw[Rm]
  refine⟨VY,a,b,c,λk4=>?_,(qH _).2 (iN h2 ih)⟩
  have k4:e.k=4:=k4
  unfold oC at h3
  rw[if_neg (by omega),if_neg (by omega),if_neg (by omega),if_pos k4]at h3
  exact Ls hg h3
theorem Vh {k:Int}{es ys:List E}{P:E->Prop}(h:An H V k es=.ok ys)(hp:∀e∈es,∀y,uf H V e=.ok y->P y):∀y∈ys,P y:=by
 unfold An at h
 by_cases h9:k=9
 ·rw[if_pos h9]at h
  match es,h,hp with
  |[],h,_=>cases h;simp
  |e::l,h,hp=>
   cases hx:uf H V e with
   |error a=>simp only[hx]at h;cases h
   |ok y=>
    simp only[hx]at h;cases h
    intro z hz
    rw[List.mem_singleton.1 hz]
    exact hp e List.mem_cons_self y hx
 ·rw[if_neg h9]at h
  exact iN h hp
theorem xW:∀{l ys:List Sm}{V X:List Vd},(∀s∈l,∀V y W,wF H has res V s=.ok (y,W)->Gv H V->LS y)->kQ H has res V l=.ok (ys,X)->Gv H V->LB ys
 |[],ys,V,X,_,h,_=>by
  unfold kQ at h
  cases h
  simp[LB]
 |s::l,ys,V,X,hp,h,hV=>by
  obtain⟨y,W,zs,h1,h2,rfl⟩:=nL h
  unfold LB
  exact⟨hp s List.mem_cons_self V y W h1 hV,xW (λt ht=>hp t (List.mem_cons_of_mem _ ht)) h2 (FF s V y W h1 hV).2⟩
theorem Rx {k:Int}{es:List E}(h:dK has k es=true):(k=2\/k=3\/k=5\/k=6\/k=8\/k=9->es.length=1)/\(k=4->es.length=2/\((kq es).k=5\/(kq es).k=6)):=by
 unfold dK at h
 split at h
 ·exact⟨λq=>by omega,λq=>by omega⟩
 split at h
 ·rename_i c
  refine⟨λq=>by omega,λ_=>?_⟩
  match es,h with
  |[e,f],h=>exact⟨rfl,by simpa [kq] using h⟩
 split at h
 ·exact⟨λq=>by omega,λq=>by omega⟩
 split at h
 ·refine⟨λ_=>?_,λq=>by omega⟩
  match es,h with
  |[e],_=>rfl
 split at h
 ·rename_i c1 c2 c3 c4 c
  exact⟨λ_=>by simpa using h,λq=>absurd q c2⟩
 ·cases h
theorem Zr (hG:Hd.gd H)(hg:H.globals.length<100000000)(s:Sm):∀V y W,wF H has res V s=.ok (y,W)->Gv H V->LS y:=by
 induction s using Sm.ind with
 |_ s sW uh=>
  intro V y X h hV
  obtain⟨t,ys,r,W,hf,ht,sV,bn,hh⟩:=ug h
  have hW:=JY ht bn hV
  have a1:LL ys:=(qH _).2 (Vh sV λe _ y hy=>Zq hG hg (λv hv=>(hV v hv).2) e y hy)
  obtain⟨a2,a3⟩:=Rx (QF sV hf)
  have a4:s.k=2\/s.k=3→-1000000000<r:=λq=>by
   unfold jR at bn
   rw[if_neg (by omega)]at bn
   by_cases c2:s.k=2
   ·rw[if_pos c2]at bn
    split at bn
    ·split at bn
     ·cases bn
     ·cases bn;omega
    ·cases bn
   ·rw[if_neg c2,if_pos (by omega)]at bn
    split at bn
    ·rename_i u r' hv
     split at bn
     ·cases bn;exact Ls hg hv
     ·cases bn
    ·cases bn
  rcases hh with⟨_,b,W1,c,hb,hc,rfl⟩|⟨_,b,hb,rfl⟩|⟨_,_,rfl,rfl⟩
  ·rw[Ij];exact⟨a1,a2,a3,a4,xW sW hb hW,xW uh hc (qp hb hW).2⟩
  ·rw[Ij];exact⟨a1,a2,a3,a4,xW sW hb hW,by simp[Sm.el,LB]⟩
  ·rw[Ij];exact⟨a1,a2,a3,a4,by simp[Sm.bd,LB],by simp[Sm.el,LB]⟩
theorem Ry (hG:Hd.gd H)(hg:H.globals.length<100000000):∀{ss:List Sg}{fs:List Fc}{bs:List Bd},(∀s∈ss,Gv H s.ps)->qk H ss fs=.ok bs->∀b∈bs,LB b.code
 |[],fs,bs,_,h=>by unfold qk at h;cases h;simp
 |_::_,[],bs,_,h=>by unfold qk at h;cases h;simp
 |s::ss,f::fs,bs,hs,h=>by
  unfold qk at h
  split at h
  ·cases h
  ·rename_i c W hb
   split at h
   ·cases h
   ·rename_i l hl
    cases h
    intro b hbm
    rcases List.mem_cons.1 hbm with rfl|hbm
    ·exact xW (λs _=>Zr hG hg s) hb (hs s List.mem_cons_self)
    ·exact Ry hG hg (λs h=>hs s (List.mem_cons_of_mem _ h)) hl b hbm
end vC
namespace vC
open Ax Go aT V7 lP mV K9 N7 U7
theorem sN {a b:Option Int}(h:vz a b=none):a=none/\b=none:=by
 cases a with
 |none=>exact⟨rfl,h⟩
 |some x=>cases h
theorem zA {α:Type}{bad:List α->α->Option Int}{l:List α}:∀{m:Nat},gb bad l m=none->∀k (h:k<l.length),k<m->bad (l.take k) l[k]=none
 |0,_,k,_,hk=>absurd hk (by omega)
 |m+1,h,k,hl,hk=>by
  obtain⟨h1,h2⟩:=sN h
  by_cases e:k=m
  ·subst e
   rw[List.getElem?_eq_getElem hl]at h2
   exact h2
  ·exact zA h1 k hl (by omega)
theorem yK {α:Type}{bad:List α->α->Option Int}{l:List α}(h:gb bad l l.length=none):∀x∈l,∃b,bad b x=none:=λx hx=>by
 obtain⟨k,hk,rfl⟩:=List.getElem_of_mem hx
 exact⟨_,zA h k hk hk⟩
theorem J0 {rs:List (List UInt8)}{l:List PD}(h:gb (xE rs) l l.length=none):∀v∈lC rs l,BT v.ty/\RT v.ty:=by
 intro v hv
 obtain⟨q,hq,rfl⟩:=List.mem_map.1 hv
 obtain⟨b,h1⟩:=yK h q hq
 unfold xE at h1
 split at h1
 ·cases h1
 ·rename_i c
  simp only[Bool.or_eq_true,Bool.not_eq_true',not_or,Bool.not_eq_false]at c
  exact⟨u5 c.2,u6⟩
structure Few (p:Pg):Prop where
 r:p.aQ.length<=12
 g:p.globals.length<=8
 f:p.funcs.length<=16
 fl:∀x∈p.aQ,x.fields.length<=8
 ps:∀x∈p.funcs,x.params.length<=6
theorem Lt {p:Pg}(h:kj (jZ p)=none)(hf:Few p):Hd.Ct (aS p):=by
 have W9:=Lh p
 have h3:um (jZ p)=none:=by
  unfold kj at h
  split at h
  ·exact(sN h).1
  ·exact h
 unfold um at h3
 obtain⟨h4,hS⟩:=sN h3
 obtain⟨h5,hP⟩:=sN h4
 obtain⟨h6,Vi⟩:=sN h5
 rw[Au]at hS hP Vi
 rw[oH]at hS
 rw[Fm]at hP
 rw[qo]at Vi
 have hg:=J0 hP
 have hr:∀x∈p.aQ,∀v∈lC (bS p) x.fields,BT v.ty/\RT v.ty:=λx hx=>by
  obtain⟨b,h1⟩:=yK Vi (HW x) (List.mem_map_of_mem hx)
  unfold MP at h1
  rw[show (HW x).fields=aD 4 (x.fields.map PD.cells) from rfl,nw]at h1
  exact J0 h1
 have hs:∀x∈p.funcs,(∀v∈lC (bS p) x.params,BT v.ty/\RT v.ty)/\(x.has=true->(cM (bS p) x.on x.od).2=true):=λx hx=>by
  obtain⟨b,h1⟩:=yK hS (zW x) (List.mem_map_of_mem hx)
  unfold MQ at h1
  obtain⟨h2,h7⟩:=sN h1
  have h8:=(sN h2).2
  rw[show (zW x).params=aD 4 (x.params.map PD.cells) from rfl,nw]at h8
  refine⟨J0 h8,λhh=>?_⟩
  unfold HO at h7
  split at h7
  ·cases h7
  ·rename_i c
   show (cM (bS p) (zW x).on (zW x).od).2=true
   have hh':(zW x).has=true:=hh
   rw[hh']at c
   simpa using c
 have Zs:∀x∈p.funcs,(ud (bS p) x).has=true->MT (aS p) (ud (bS p) x).res:=λx hx hh=>by
  have hh:x.has=true:=hh
  have e:(ud (bS p) x).res=(cM (bS p) x.on x.od).1:=by
   show (if x.has then _ else T0)=_
   rw[if_pos hh]
  rw[e]
  exact⟨kH _ _ _,u5 ((hs x hx).2 hh),u6⟩
 have Rz:∀x∈p.funcs,(ud (bS p) x).has=false->(ud (bS p) x).res=T0:=λx hx hh=>by
  have hh:x.has=false:=hh
  show (if x.has then _ else T0)=_
  rw[hh];rfl
 refine⟨W9,⟨?_,?_,?_,?_⟩,⟨?_,?_,?_,?_⟩,?_,?_,?_,?_,?_,?_,?_⟩
 ·intro s nU v hv
  obtain⟨x,hx,rfl⟩:=List.mem_map.1 nU
  exact(hr x hx v hv).1
 ·exact λv hv=>(hg v hv).1
 ·intro s nU v hv
  obtain⟨x,hx,rfl⟩:=List.mem_map.1 nU
  exact((hs x hx).1 v hv).1
 ·intro s nU iQ
  obtain⟨x,hx,rfl⟩:=List.mem_map.1 nU
  cases hh:(ud (bS p) x).has with
  |true=>exact⟨(Zs x hx hh).bt,rfl⟩
  |false=>exact absurd (Rz x hx hh) iQ
 ·intro s nU v hv
  obtain⟨x,hx,rfl⟩:=List.mem_map.1 nU
  exact(hr x hx v hv).2
 ·exact λv hv=>(hg v hv).2
 ·intro s nU v hv
  obtain⟨x,hx,rfl⟩:=List.mem_map.1 nU
  exact((hs x hx).1 v hv).2
 ·intro s nU
  obtain⟨x,hx,rfl⟩:=List.mem_map.1 nU
  cases hh:(ud (bS p) x).has with
  |true=>exact(Zs x hx hh).rt
  |false=>rw[Rz x hx hh];intro _;rfl
 ·intro s nU hh
  obtain⟨x,hx,rfl⟩:=List.mem_map.1 nU
  exact Zs x hx hh
 ·intro s nU hh
  obtain⟨x,hx,rfl⟩:=List.mem_map.1 nU
  exact Rz x hx hh
 ·intro s nU
  obtain⟨x,hx,rfl⟩:=List.mem_map.1 nU
  have:=hf.fl x hx
  simpa [lC] using this
 ·intro s nU
  obtain⟨x,hx,rfl⟩:=List.mem_map.1 nU
  have:=hf.ps x hx
  simpa [ud,lC] using this
 ·have:=hf.r;simpa [aS] using this
 ·have:=hf.g;simpa [aS,lC] using this
 ·have:=hf.f;simpa [aS] using this
theorem Vj {p:Pg}(h:kj (jZ p)=none):∃k:Nat,fA p=k/\∃s,(aS p).sigs[k]?=some s/\s.ps=[]/\s.has=false:=by
 have hm:¬fA p<0:=by
  intro q
  unfold kj at h
  unfold fA at q
  rw[if_pos q]at h
  unfold vz at h
  split at h<;>cases h
 unfold fA at hm ⊢
 rw[oH]at hm ⊢
 unfold vU at hm ⊢
 split
 ·rename_i k hk
  obtain⟨h1,h2,_⟩:=List.findIdx?_eq_some_iff_getElem.1 hk
  refine⟨k,rfl,?_⟩
  rw[List.getElem_map]at h2
  have de:k<p.funcs.length:=by simpa using h1
  unfold qn at h2
  rw[Bool.and_eq_true,Bool.and_eq_true,decide_eq_true_eq,decide_eq_true_eq]at h2
  rw[show (zW p.funcs[k]).params=aD 4 (p.funcs[k].params.map PD.cells) from rfl,nw]at h2
  refine⟨ud (bS p) p.funcs[k],?_,?_,?_⟩
  ·show (p.funcs.map (ud (bS p)))[k]?=_
   rw[List.getElem?_map,List.getElem?_eq_getElem de];rfl
  ·show lC (bS p) p.funcs[k].params=[]
   rw[h2.1.2];rfl
  ·have:=h2.2
   show p.funcs[k].has=false
   simpa [zW] using this
 ·rename_i hk
  rw[hk]at hm
  exact absurd (by decide) hm
end vC
namespace yb
open Ax Go aT V7 lP mV K9 S9 N7 U7
theorem Io (s:List UInt8):∀f∈(mw s).1.funcs,Sm.dV f.body<=6001:=by
 unfold mw
 split
 ·rename_i hl
  generalize htp:U2.C6 s=z
  obtain⟨rows,e⟩:=z
  cases e with
  |some e=>intro f hf;cases hf
  |none=>
   obtain⟨iU,hlen⟩:=Fl htp
   obtain⟨x,hx⟩:=uc (pQ rows)
   simp only
   rw[hx,Option.getD_some]
   have Ld:(pQ rows).length=rows.length:=by simp[pQ]
   intro f hf
   have:=ML hx f hf
   omega
 ·intro f hf;cases hf
theorem Zt (p:Pg)(hp:Pg.In 6000 p):∀s∈(aS p).sigs,s.ps.length<=7:=by
 intro s hs
 obtain⟨f,hf,rfl⟩:=List.mem_map.1 hs
 have:=(hp.f.2 f hf).len
 simpa [ud,lC] using this
structure Vk (p:Pg):Prop where
 inn:Pg.In 6000 p
 small:∀f∈p.funcs,Sm.dV f.body<=12010
theorem J1 (s:List UInt8):Vk (mw s).1:=⟨(QY s).1,λf hf=>by have:=Io s f hf;omega⟩
theorem Vl {p:Pg}(h:Vk p):∀f∈p.funcs,f.params.length+Sm.dV f.body<1000000000:=λf hf=>by
 have:=h.small f hf
 have:=(h.inn.f.2 f hf).len
 omega
theorem J3 {p:Pg}(h:Vk p):∀bs,qk (aS p) (aS p).sigs p.funcs=.ok bs->∀b∈bs,Sm.dV b.code<=12010/\b.vars.length<=24020:=λbs hR b hb=>by
 have mI:=DY hR h.small b hb
 have CI:=HD (n:=12010) (Lh p) hR (λs hs=>((Lh p).sigs s hs).2) (λs hs=>by have:=Zt p h.inn s hs;omega) h.small b hb
 omega
theorem Nd {p:Pg}(h:Vk p):∀bs,qk (aS p) (aS p).sigs p.funcs=.ok bs->∀b∈bs,Sm.dV b.code<100000000/\b.vars.length<100000000:=λbs hR b hb=>by
 have:=J3 h bs hR b hb
 omega
end yb
