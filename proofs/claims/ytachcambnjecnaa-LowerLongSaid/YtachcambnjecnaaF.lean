/-
  A program as codes, in plain terms.
-/
import Derived.Test.YtachcambnjecnaaP
import Derived.Test.YtachcambnjecnaaA6
import Derived.Test.YtachcambnjecnaaD

set_option maxRecDepth 100000
set_option maxHeartbeats 4000000
namespace Low
open Ax Go V7 Par Chk
structure In where
 op:Int
 a:Int
 b:Int
 c:Int
 n:Int
 args:List Int
def argV (l:List Int):AV:=lstV 1 (ints l)
def In.row (i:In):List AV:=[.int .i64 i.op,.int .i64 i.a,.int .i64 i.b,.int .i64 i.c,.int .i64 i.n,argV i.args]
structure Out where
 vs:List T3
 is:List In
 ss:List T3
def O0:Out:=⟨[],[],[]⟩
def Out.app (x y:Out):Out:=⟨x.vs++y.vs,x.is++y.is,x.ss++y.ss⟩
def ins1 (i:In):Out:=⟨[],[i],[]⟩
def at0 (l:List Int):Int:=match l with|a::_=>a | []=>0
def at1 (l:List Int):Int:=match l with|_::a::_=>a|_=>0
def insOf (k n ref t site:Int)(l:List Int):In:=
 if k=1\/k=2 then ⟨1,t,0,0,n,[]⟩
 else if k=3 then ⟨2,t,0,0,0,[]⟩
 else if k=4 then ⟨19,t,0,0,-1-ref,[]⟩
 else if k=5 then ⟨6,t,at0 l,ref,0,[]⟩
 else if k=6 then ⟨8,t,at0 l,at1 l,0,[]⟩
 else if k=7 then ⟨13,t,0,ref,0,l⟩
 else if k=8 then ⟨11,t,0,0,site,[]⟩
 else if k=9 then ⟨12,t,at0 l,0,site,[]⟩
 else if k=10 then ⟨10,t,at0 l,0,0,[]⟩
 else if k=11 then ⟨14,t,0,0,0,[]⟩
 else if k=12\/k=13 then ⟨5,t,at0 l,0,k,[]⟩
 else ⟨4,t,at0 l,at1 l,k,[]⟩
def cK (nv ns:Nat)(k n ref:Int)(ty:T3)(x:List Int×Out):Int×Out:=
 if ty=T0 then (-1,x.2.app (ins1 ⟨13,-1,0,ref,0,x.1⟩))
 else (((nv+x.2.vs.length:Nat):Int),x.2.app ⟨[ty],[insOf k n ref ((nv+x.2.vs.length:Nat):Int) ((ns+x.2.ss.length:Nat):Int) x.1],if k=8\/k=9 then [ty] else []⟩)
mutual
def cE (nv ns:Nat):E->Int×Out
 |.mk k n _ _ _ kids _ ty ref=>if k=4/\0<=ref then (ref,O0) else cK nv ns k n ref ty (cEs nv ns kids)
def cEs (nv ns:Nat):List E->List Int×Out
 |[]=>([],O0)
 |e::l=>((cE nv ns e).1::(cEs (nv+(cE nv ns e).2.vs.length) (ns+(cE nv ns e).2.ss.length) l).1,(cE nv ns e).2.app (cEs (nv+(cE nv ns e).2.vs.length) (ns+(cE nv ns e).2.ss.length) l).2)
end
def E0:E:=.mk 0 0 [] [] 0 [] 0 T0 0
def es0 (es:List E):E:=match es with|e::_=>e | []=>E0
def es1 (es:List E):E:=match es with|_::e::_=>e|_=>E0
def then3 (nv at_ ns:Nat)(x:Out)(f:Nat->Nat->Nat->Out):Out:=x.app (f (nv+x.vs.length) (at_+x.is.length) (ns+x.ss.length))
def setI (ref v:Int):In:=if ref<0 then ⟨20,v,0,0,-1-ref,[]⟩ else ⟨3,ref,v,0,0,[]⟩
def putI (k ref v:Int)(l:List Int):In:=if k=5 then ⟨7,at0 l,v,ref,0,[]⟩ else ⟨9,at0 l,at1 l,v,0,[]⟩
def cIf (nv at_ ns:Nat)(x:Int×Out)(f g:Nat->Nat->Nat->Out):Out:=
 let i:=at_+x.2.is.length
 let b:=f (nv+x.2.vs.length) (i+1) (ns+x.2.ss.length)
 let j:=i+1+b.is.length
 let c:=g (nv+x.2.vs.length+b.vs.length) (j+1) (ns+x.2.ss.length+b.ss.length)
 ⟨x.2.vs++b.vs++c.vs,x.2.is++⟨17,x.1,0,((j+1:Nat):Int),((i+1:Nat):Int),[]⟩::(b.is++⟨16,0,0,0,((j+1+c.is.length:Nat):Int),[]⟩::c.is),x.2.ss++b.ss++c.ss⟩
def cWh (nv at_ ns:Nat)(x:Int×Out)(f:Nat->Nat->Nat->Out):Out:=
 let i:=at_+x.2.is.length
 let b:=f (nv+x.2.vs.length) (i+1) (ns+x.2.ss.length)
 let j:=i+1+b.is.length
 ⟨x.2.vs++b.vs,x.2.is++⟨17,x.1,0,((j+1:Nat):Int),((i+1:Nat):Int),[]⟩::(b.is++[⟨16,0,0,0,(at_:Int),[]⟩]),x.2.ss++b.ss⟩
def cPut (nv ns:Nat)(e:E)(x:List Int×Out)(f:Nat->Nat->Int×Out):Out:=
 let v:=f (nv+x.2.vs.length) (ns+x.2.ss.length)
 (x.2.app v.2).app (ins1 (putI e.k e.ref v.1 x.1))
mutual
def cS (nv at_ ns:Nat):Sm->Out
 |.mk k _ _ _ es bd el _ ref=>
  if k=2\/k=3 then (cE nv ns (es0 es)).2.app (ins1 (setI ref (cE nv ns (es0 es)).1))
  else if k=4 then cPut nv ns (es0 es) (cEs nv ns (es0 es).kids) (fun nv ns=>cE nv ns (es1 es))
  else if k=5 then cIf nv at_ ns (cE nv ns (es0 es)) (fun nv at_ ns=>cB nv at_ ns bd) (fun nv at_ ns=>cB nv at_ ns el)
  else if k=6 then cWh nv at_ ns (cE nv ns (es0 es)) (fun nv at_ ns=>cB nv at_ ns bd)
  else if k=7 then (match es with
   |[]=>ins1 ⟨18,-1,0,0,0,[]⟩
   |e::_=>(cE nv ns e).2.app (ins1 ⟨18,(cE nv ns e).1,0,0,0,[]⟩))
  else if k=8 then (cE nv ns (es0 es)).2.app (ins1 ⟨15,(cE nv ns (es0 es)).1,0,0,0,[]⟩)
  else if k=9 then (cE nv ns (es0 es)).2
  else O0
def cB (nv at_ ns:Nat):List Sm->Out
 |[]=>O0
 |s::l=>then3 nv at_ ns (cS nv at_ ns s) (fun nv at_ ns=>cB nv at_ ns l)
end
structure Cd where
 params:Nat
 vars:List T3
 has:Bool
 res:T3
 is:List In
def Cd.row (c:Cd):List AV:=[.int .i64 c.params,lstV 3 (c.vars.map T3.cells),.bool c.has,.int .i64 c.res.b,.int .i64 c.res.r,.int .i64 c.res.d,lstV 6 (c.is.map In.row)]
structure Sd where
 fn:Nat
 ty:T3
def Sd.row (s:Sd):List AV:=[.int .i64 s.fn,.int .i64 s.ty.b,.int .i64 s.ty.r,.int .i64 s.ty.d]
def endI (s:Sg)(t:Nat):List In:=if s.has then [⟨if refT s.res then 2 else 1,(t:Int),0,0,0,[]⟩,⟨18,(t:Int),0,0,0,[]⟩] else [⟨18,-1,0,0,0,[]⟩]
def bodyO (ns:Nat)(b:Bd):Out:=cB b.vars.length 0 ns b.code
def codeOf (ns:Nat)(s:Sg)(b:Bd):Cd:=
 ⟨s.ps.length,b.vars.map (·.ty)++(bodyO ns b).vs++(if s.has then [s.res] else []),s.has,s.res,(bodyO ns b).is++endI s (b.vars.length+(bodyO ns b).vs.length)⟩
def mkCs (cs:List Cd)(ss:List Sd)(all:Nat):List Sg->List Bd->Except Int (List Cd×List Sd)
 |s::sg,b::bs=>
  if 4000<(codeOf ss.length s b).vars.length\/2500<all+(codeOf ss.length s b).is.length\/60<ss.length+(bodyO ss.length b).ss.length then .error b.a
  else mkCs (cs++[codeOf ss.length s b]) (ss++(bodyO ss.length b).ss.map (fun t=>⟨cs.length,t⟩)) (all+(codeOf ss.length s b).is.length) sg bs
 |_,_=>.ok (cs,ss)
theorem cE_eq (nv ns:Nat)(e:E):cE nv ns e=if e.k=4/\0<=e.ref then (e.ref,O0) else cK nv ns e.k e.n e.ref e.ty (cEs nv ns e.kids):=by
 obtain⟨k,n,nm,on,od,kids,a,ty,ref⟩:=e
 (conv=>lhs;unfold cE)<;>rfl
theorem cEs_cons (nv ns:Nat)(e:E)(l:List E):cEs nv ns (e::l)=((cE nv ns e).1::(cEs (nv+(cE nv ns e).2.vs.length) (ns+(cE nv ns e).2.ss.length) l).1,(cE nv ns e).2.app (cEs (nv+(cE nv ns e).2.vs.length) (ns+(cE nv ns e).2.ss.length) l).2):=by
 (conv=>lhs;unfold cEs)<;>rfl
theorem cS_eq (nv at_ ns:Nat)(s:Sm):cS nv at_ ns s =
  if s.k=2\/s.k=3 then (cE nv ns (es0 s.es)).2.app (ins1 (setI s.ref (cE nv ns (es0 s.es)).1))
  else if s.k=4 then cPut nv ns (es0 s.es) (cEs nv ns (es0 s.es).kids) (fun nv ns=>cE nv ns (es1 s.es))
  else if s.k=5 then cIf nv at_ ns (cE nv ns (es0 s.es)) (fun nv at_ ns=>cB nv at_ ns s.bd) (fun nv at_ ns=>cB nv at_ ns s.el)
  else if s.k=6 then cWh nv at_ ns (cE nv ns (es0 s.es)) (fun nv at_ ns=>cB nv at_ ns s.bd)
  else if s.k=7 then (match s.es with
   |[]=>ins1 ⟨18,-1,0,0,0,[]⟩
   |e::_=>(cE nv ns e).2.app (ins1 ⟨18,(cE nv ns e).1,0,0,0,[]⟩))
  else if s.k=8 then (cE nv ns (es0 s.es)).2.app (ins1 ⟨15,(cE nv ns (es0 s.es)).1,0,0,0,[]⟩)
  else if s.k=9 then (cE nv ns (es0 s.es)).2
  else O0:=by
 obtain⟨k,nm,on,od,es,bd,el,a,ref⟩:=s
 (conv=>lhs;unfold cS)<;>rfl
theorem cB_nil (nv at_ ns:Nat):cB nv at_ ns []=O0:=by unfold cB;rfl
theorem cB_cons (nv at_ ns:Nat)(s:Sm)(l:List Sm):cB nv at_ ns (s::l)=then3 nv at_ ns (cS nv at_ ns s) (fun nv at_ ns=>cB nv at_ ns l):=by
 (conv=>lhs;unfold cB)<;>rfl
theorem app_app (x y z:Out):(x.app y).app z=x.app (y.app z):=by simp[Out.app]
end Low
namespace Low
open Ax Go V7 Par Chk
mutual
def LE:E->Prop
 |.mk k _ _ _ _ kids _ ty ref=>(ty=T0->k=7)/\(k=5\/k=9\/k=10\/k=12\/k=13->kids.length=1)/\(k=6\/14<=k->kids.length=2)/\(0<k/\k<25)/\(k=4→-1000000000<ref)/\LL kids
def LL:List E->Prop
 |[]=>True
 |e::l=>LE e/\LL l
end
theorem LE_eq (e:E):LE e↔(e.ty=T0->e.k=7)/\(e.k=5\/e.k=9\/e.k=10\/e.k=12\/e.k=13->e.kids.length=1)/\(e.k=6\/14<=e.k->e.kids.length=2)/\(0<e.k/\e.k<25)/\(e.k=4→-1000000000<e.ref)/\LL e.kids:=by
 cases e;unfold LE;exact Iff.rfl
theorem LL_iff:∀l:List E,LL l↔∀e∈l,LE e
 |[]=>by simp[LL]
 |e::l=>by simp[LL,LL_iff l]
theorem app_len (x y:Out):(x.app y).vs.length=x.vs.length+y.vs.length/\(x.app y).is.length=x.is.length+y.is.length/\(x.app y).ss.length=x.ss.length+y.ss.length:=by simp[Out.app]
def Lo (o:Out)(n:Nat):Prop:=o.vs.length<=n/\o.is.length<=n/\o.ss.length<=n
theorem Lo.app {x y:Out}{n m:Nat}(h:Lo x n)(g:Lo y m):Lo (x.app y) (n+m):=by
 obtain⟨a,b,c⟩:=app_len x y
 obtain⟨h1,h2,h3⟩:=h
 obtain⟨g1,g2,g3⟩:=g
 exact⟨by omega,by omega,by omega⟩
theorem Lo.le {x:Out}{n m:Nat}(h:Lo x n)(g:n<=m):Lo x m:=⟨by have:=h.1;omega,by have:=h.2.1;omega,by have:=h.2.2;omega⟩
theorem cEs_lo {l:List E}(ih:∀e∈l,∀nv ns,Lo (cE nv ns e).2 (E.sz e)):∀nv ns,Lo (cEs nv ns l).2 (E.szs l):=by
 induction l with
 |nil=>intro nv ns;simp[cEs,O0,Lo,E.szs]
 |cons e l ihl=>
  intro nv ns
  rw[cEs_cons]
  simp only[E.szs]
  exact(ih e List.mem_cons_self nv ns).app (ihl (fun x hx=>ih x (List.mem_cons_of_mem _ hx)) _ _)
theorem cE_lo (e:E):∀nv ns,Lo (cE nv ns e).2 (E.sz e):=by
 induction e using E.ind with
 |_ e ih=>
  intro nv ns
  have hk:=E.sz_kids e
  rw[cE_eq]
  split
  ·simp[Lo,O0]
  ·have h:=cEs_lo ih nv ns
   unfold cK
   split
   ·exact(h.app (y:=ins1 _) (m:=1) (by simp[Lo,ins1])).le (by omega)
   ·refine(h.app (m:=1) ?_).le (by omega)
    refine⟨by simp,by simp,?_⟩
    simp only
    split<;>simp
theorem Lo_cEs (l:List E)(nv ns:Nat):Lo (cEs nv ns l).2 (E.szs l):=cEs_lo (fun e _=>cE_lo e) nv ns
theorem E_get {l:List E}{k:Nat}(h:k<l.length):(E.rows l)[k]?=some l[k].row:=by simp[Erows_map,h]
theorem E_get' {l:List E}{k:Nat}(h:k<l.length)(h2:k<(E.rows l).length):(E.rows l)[k]=l[k].row:=by simp[Erows_map]
theorem zL {sz:Nat}{r:List (List AV)}(h:fits sz r=true):isSz sz (lstV sz r)=true:=by
 cases r with
 |nil=>rfl
 |cons a r=>simpa [isSz] using h
theorem zE {l:List E}:isSz 11 (esV l)=true:=zL (by simp[fits,Erows_map,E.row_eq])
theorem zI {l:List Int}:isSz 1 (lstV 1 (ints l))=true:=zL (by simp[fits,ints])
mutual
def LS:Sm->Prop
 |.mk k _ _ _ es bd el _ ref=>LL es/\(k=2\/k=3\/k=5\/k=6\/k=8\/k=9->es.length=1)/\(k=4->es.length=2/\((es0 es).k=5\/(es0 es).k=6))/\(k=2\/k=3→-1000000000<ref)/\LB bd/\LB el
def LB:List Sm->Prop
 |[]=>True
 |s::l=>LS s/\LB l
end
theorem LS_eq (s:Sm):LS s↔LL s.es/\(s.k=2\/s.k=3\/s.k=5\/s.k=6\/s.k=8\/s.k=9->s.es.length=1)/\(s.k=4->s.es.length=2/\((es0 s.es).k=5\/(es0 s.es).k=6))/\(s.k=2\/s.k=3→-1000000000<s.ref)/\LB s.bd/\LB s.el:=by
 cases s;unfold LS;exact Iff.rfl
theorem LB_iff:∀l:List Sm,LB l↔∀s∈l,LS s
 |[]=>by simp[LB]
 |s::l=>by simp[LB,LB_iff l]
theorem one_es {es:List E}(h:es.length=1):es=[es0 es]:=by
 match es,h with
 |[e],_=>rfl
theorem two_es {es:List E}(h:es.length=2):es=[es0 es,es1 es]:=by
 match es,h with
 |[e,f],_=>rfl
theorem ints_1 {l:List Int}(h:l.length=1):ints l=[[.int .i64 (at0 l)]]:=by
 match l,h with
 |[a],_=>rfl
theorem ints_2 {l:List Int}(h:l.length=2):ints l=[[.int .i64 (at0 l)],[.int .i64 (at1 l)]]:=by
 match l,h with
 |[a,b],_=>rfl
theorem cB_lo {l:List Sm}(ih:∀s∈l,∀nv a ns,Lo (cS nv a ns s) (2*Sm.sz s)):∀nv a ns,Lo (cB nv a ns l) (2*Sm.szs l):=by
 induction l with
 |nil=>intro nv a ns;rw[cB_nil];simp[Lo,O0]
 |cons s l ihl=>
  intro nv a ns
  rw[cB_cons]
  unfold then3
  exact((ih s List.mem_cons_self nv a ns).app (ihl (fun x hx=>ih x (List.mem_cons_of_mem _ hx)) _ _ _)).le (by simp only[Sm.szs];omega)
theorem es0_sz {es:List E}(h:es.length≠0):E.sz (es0 es)<=E.szs es:=by
 match es,h with
 |e::l,_=>simp[es0,E.szs]
theorem cS_lo (s:Sm):LS s->∀nv a ns,Lo (cS nv a ns s) (2*Sm.sz s):=by
 induction s using Sm.ind with
 |_ s ih1 ih2=>
  intro hL nv a ns
  rw[LS_eq]at hL
  obtain⟨h1,h2,h3,_,h5,h6⟩:=hL
  rw[LB_iff]at h5 h6
  have hsz:=Sm.sz_eq s
  have one:∀i,Lo (ins1 i) 1:=fun i=>by simp[Lo,ins1]
  have f:=fun nv a ns=>cB_lo (fun x hx=>ih1 x hx (h5 x hx)) nv a ns
  have g:=fun nv a ns=>cB_lo (fun x hx=>ih2 x hx (h6 x hx)) nv a ns
  rw[cS_eq]
  by_cases c:s.k=2\/s.k=3
  ·rw[if_pos c]
   have:=es0_sz (es:=s.es) (by rw[h2 (by omega)];decide)
   exact((cE_lo _ _ _).app (one _)).le (by omega)
  rw[if_neg c]
  by_cases c4:s.k=4
  ·rw[if_pos c4]
   obtain⟨e,f,he⟩:∃e f,s.es=[e,f]:=⟨_,_,two_es (h3 c4).1⟩
   have q1:es0 s.es=e:=by rw[he];rfl
   have q2:es1 s.es=f:=by rw[he];rfl
   have q3:E.szs s.es=E.sz e+E.sz f:=by rw[he];simp[E.szs]
   have q4:=E.sz_kids e
   rw[q1,q2]
   unfold cPut
   exact(((Lo_cEs _ _ _).app (cE_lo _ _ _)).app (one _)).le (by omega)
  rw[if_neg c4]
  by_cases c5:s.k=5
  ·rw[if_pos c5]
   have:=es0_sz (es:=s.es) (by rw[h2 (by omega)];decide)
   unfold cIf
   dsimp only
   obtain⟨a1,a2,a3⟩:=cE_lo (es0 s.es) nv ns
   have b1:=f (nv+(cE nv ns (es0 s.es)).2.vs.length) (a+(cE nv ns (es0 s.es)).2.is.length+1) (ns+(cE nv ns (es0 s.es)).2.ss.length)
   generalize cE nv ns (es0 s.es)=x at *
   generalize cB (nv+x.2.vs.length) (a+x.2.is.length+1) (ns+x.2.ss.length) s.bd=y at *
   have c1:=g (nv+x.2.vs.length+y.vs.length) (a+x.2.is.length+1+y.is.length+1) (ns+x.2.ss.length+y.ss.length)
   generalize cB (nv+x.2.vs.length+y.vs.length) (a+x.2.is.length+1+y.is.length+1) (ns+x.2.ss.length+y.ss.length) s.el=z at *
   obtain⟨b1,b2,b3⟩:=b1
   obtain⟨c1,c2,c3⟩:=c1
   refine⟨?_,?_,?_⟩<;>simp only[List.length_append,List.length_cons]<;>omega
  rw[if_neg c5]
  by_cases c6:s.k=6
  ·rw[if_pos c6]
   have:=es0_sz (es:=s.es) (by rw[h2 (by omega)];decide)
   unfold cWh
   dsimp only
   obtain⟨a1,a2,a3⟩:=cE_lo (es0 s.es) nv ns
   have b1:=f (nv+(cE nv ns (es0 s.es)).2.vs.length) (a+(cE nv ns (es0 s.es)).2.is.length+1) (ns+(cE nv ns (es0 s.es)).2.ss.length)
   generalize cE nv ns (es0 s.es)=x at *
   generalize cB (nv+x.2.vs.length) (a+x.2.is.length+1) (ns+x.2.ss.length) s.bd=y at *
   obtain⟨b1,b2,b3⟩:=b1
   refine⟨?_,?_,?_⟩<;>simp only[List.length_append,List.length_cons,List.length_nil]<;>omega
  rw[if_neg c6]
  by_cases c7:s.k=7
  ·rw[if_pos c7]
   match hes:s.es with
   |[]=>exact(one _).le (by omega)
   |e::l=>
    have:E.szs s.es=E.sz e+E.szs l:=by rw[hes];rfl
    exact((cE_lo _ _ _).app (one _)).le (by omega)
  rw[if_neg c7]
  by_cases c8:s.k=8
  ·rw[if_pos c8]
   have:=es0_sz (es:=s.es) (by rw[h2 (by omega)];decide)
   exact((cE_lo _ _ _).app (one _)).le (by omega)
  rw[if_neg c8]
  by_cases c9:s.k=9
  ·rw[if_pos c9]
   have:=es0_sz (es:=s.es) (by rw[h2 (by omega)];decide)
   exact(cE_lo _ _ _).le (by omega)
  rw[if_neg c9]
  simp[Lo,O0]
theorem Lo_cB {l:List Sm}(h:LB l)(nv a ns:Nat):Lo (cB nv a ns l) (2*Sm.szs l):=cB_lo (fun s hs=>cS_lo s ((LB_iff _).1 h s hs)) nv a ns
theorem Sm_get {l:List Sm}{k:Nat}(h:k<l.length):(Sm.rows l)[k]?=some l[k].row:=by simp[Smrows_map,h]
theorem Sm_get' {l:List Sm}{k:Nat}(h:k<l.length)(h2:k<(Sm.rows l).length):(Sm.rows l)[k]=l[k].row:=by simp[Smrows_map]
end Low
namespace Low
open Ax Go V7 Par Chk
def isV (vs:List T3)(t:T3)(a:Int):Prop:=∃k:Nat,a=k/\vs[k]?=some t
theorem isV.app {vs ws:List T3}{t:T3}{a:Int}(h:isV vs t a):isV (vs++ws) t a:=by
 obtain⟨k,h1,h2⟩:=h
 exact⟨k,h1,by rw[List.getElem?_append_left (List.getElem?_eq_some_iff.1 h2).1];exact h2⟩
def argsOk (vs:List T3):List Vd->List Int->Prop
 |[],[]=>True
 |p::ps,a::l=>isV vs p.ty a/\argsOk vs ps l
 |_,_=>False
theorem argsOk.app {vs ws:List T3}:∀{ps:List Vd}{l:List Int},argsOk vs ps l->argsOk (vs++ws) ps l
 |[],[],_=>trivial
 |_::_,_::_,h=>⟨h.1.app,argsOk.app h.2⟩
 |[],_::_,h=>h.elim
 |_::_,[],h=>h.elim
inductive OkI (H:Hd) (f:Nat) (has:Bool) (res:T3) (vs:List T3) (ss:List Sd) (m:Nat):In->Prop
 |c1 {a n:Int}:isV vs tI a->OkI H f has res vs ss m ⟨1,a,0,0,n,[]⟩
 |c1b {a n:Int}:isV vs tB a->n=0\/n=1->OkI H f has res vs ss m ⟨1,a,0,0,n,[]⟩
 |c2 {a:Int} {t:T3}:isV vs t a->refT t=true->OkI H f has res vs ss m ⟨2,a,0,0,0,[]⟩
 |c3 {a b:Int} {t:T3}:isV vs t a->isV vs t b->OkI H f has res vs ss m ⟨3,a,b,0,0,[]⟩
 |c4 {a b c k:Int} {ta tb t:T3} {r:Int}:isV vs ta b->isV vs tb c->Chk.twoT k ta tb=some (t,r)->14<=k/\k<=24->isV vs t a->OkI H f has res vs ss m ⟨4,a,b,c,k,[]⟩
 |c5i {a b:Int}:isV vs tI a->isV vs tI b->OkI H f has res vs ss m ⟨5,a,b,0,12,[]⟩
 |c5b {a b:Int}:isV vs tB a->isV vs tB b->OkI H f has res vs ss m ⟨5,a,b,0,13,[]⟩
 |c6 {a b:Int} {r j:Nat} {s:List UInt8×List Vd} {v:Vd}:isV vs ⟨3,r,0⟩ b->H.shapes[r]?=some s->s.2[j]?=some v->isV vs v.ty a->OkI H f has res vs ss m ⟨6,a,b,j,0,[]⟩
 |c7 {a b:Int} {r j:Nat} {s:List UInt8×List Vd} {v:Vd}:isV vs ⟨3,r,0⟩ a->H.shapes[r]?=some s->s.2[j]?=some v->isV vs v.ty b->OkI H f has res vs ss m ⟨7,a,b,j,0,[]⟩
 |c8 {a b c:Int} {t:T3}:isV vs t b->0<t.d->isV vs ⟨t.b,t.r,t.d-1⟩ a->isV vs tI c->OkI H f has res vs ss m ⟨8,a,b,c,0,[]⟩
 |c9 {a b c:Int} {t:T3}:isV vs t a->0<t.d->isV vs ⟨t.b,t.r,t.d-1⟩ c->isV vs tI b->OkI H f has res vs ss m ⟨9,a,b,c,0,[]⟩
 |c10 {a b:Int} {t:T3}:isV vs tI a->isV vs t b->0<t.d->OkI H f has res vs ss m ⟨10,a,b,0,0,[]⟩
 |c11 {a:Int} {n:Nat} {t:T3}:isV vs t a->t.b=3->t.d=0->ss[n]?=some ⟨f,t⟩->OkI H f has res vs ss m ⟨11,a,0,0,n,[]⟩
 |c12 {a b:Int} {n:Nat} {t:T3}:isV vs t a->0<t.d->ss[n]?=some ⟨f,t⟩->isV vs tI b->OkI H f has res vs ss m ⟨12,a,b,0,n,[]⟩
 |c13 {a:Int} {j:Nat} {s:Sg} {l:List Int}:H.sigs[j]?=some s->argsOk vs s.ps l->(a = -1\/s.has=true/\isV vs s.res a)->OkI H f has res vs ss m ⟨13,a,0,j,0,l⟩
 |c14 {a:Int}:isV vs tI a->OkI H f has res vs ss m ⟨14,a,0,0,0,[]⟩
 |c15 {a:Int}:isV vs tI a->OkI H f has res vs ss m ⟨15,a,0,0,0,[]⟩
 |c16 {n:Nat}:n<=m->OkI H f has res vs ss m ⟨16,0,0,0,n,[]⟩
 |c17 {a:Int} {n c:Nat}:isV vs tB a->n<=m->c<=m->OkI H f has res vs ss m ⟨17,a,0,c,n,[]⟩
 |c18 {a:Int}:(if has=true then isV vs res a else a = -1)->OkI H f has res vs ss m ⟨18,a,0,0,0,[]⟩
 |c19 {a:Int} {j:Nat} {v:Vd}:H.globals[j]?=some v->isV vs v.ty a->OkI H f has res vs ss m ⟨19,a,0,0,j,[]⟩
 |c20 {a:Int} {j:Nat} {v:Vd}:H.globals[j]?=some v->isV vs v.ty a->OkI H f has res vs ss m ⟨20,a,0,0,j,[]⟩
variable {H:Hd}{f:Nat}{has:Bool}{res:T3}
theorem get_app {α:Type}{l r:List α}{k:Nat}{x:α}(h:l[k]?=some x):(l++r)[k]?=some x:=by
 rw[List.getElem?_append_left (List.getElem?_eq_some_iff.1 h).1];exact h
theorem OkI.mono {vs ws:List T3}{ss ts:List Sd}{m m':Nat}{i:In}(h:OkI H f has res vs ss m i)(hm:m<=m'):OkI H f has res (vs++ws) (ss++ts) m' i:=by
 cases h with
 |c1 a=>exact .c1 a.app
 |c1b a b=>exact .c1b a.app b
 |c2 a b=>exact .c2 a.app b
 |c3 a b=>exact .c3 a.app b.app
 |c4 a b c d e=>exact .c4 a.app b.app c d e.app
 |c5i a b=>exact .c5i a.app b.app
 |c5b a b=>exact .c5b a.app b.app
 |c6 a b c d=>exact .c6 a.app b c d.app
 |c7 a b c d=>exact .c7 a.app b c d.app
 |c8 a b c d=>exact .c8 a.app b c.app d.app
 |c9 a b c d=>exact .c9 a.app b c.app d.app
 |c10 a b c=>exact .c10 a.app b.app c
 |c11 a b c d=>exact .c11 a.app b c (get_app d)
 |c12 a b c d=>exact .c12 a.app b (get_app c) d.app
 |c13 a b c=>exact .c13 a b.app (c.imp id fun h=>⟨h.1,h.2.app⟩)
 |c14 a=>exact .c14 a.app
 |c15 a=>exact .c15 a.app
 |c16 a=>exact .c16 (by omega)
 |c17 a b c=>exact .c17 a.app (by omega) (by omega)
 |c18 a=>
  refine .c18 ?_
  split
  ·rename_i q;rw[if_pos q]at a;exact a.app
  ·rename_i q;rw[if_neg q]at a;exact a
 |c19 a b=>exact .c19 a b.app
 |c20 a b=>exact .c20 a b.app
def Pre (V:List Vd)(vs:List T3):Prop:=∀(k:Nat)(v:Vd),V[k]?=some v->vs[k]?=some v.ty
theorem Pre.app {V:List Vd}{vs ws:List T3}(h:Pre V vs):Pre V (vs++ws):=fun k v hk=>get_app (h k v hk)
structure New (H:Hd)(f:Nat)(has:Bool)(res:T3)(vs:List T3)(ss:List Sd)(m:Nat)(o:Out):Prop where
 is:∀i∈o.is,OkI H f has res (vs++o.vs) (ss++o.ss.map (Sd.mk f)) m i
theorem New.nil {vs:List T3}{ss:List Sd}{m:Nat}:New H f has res vs ss m O0:=⟨by simp[O0]⟩
theorem New.app {vs:List T3}{ss:List Sd}{m m1 m2:Nat}{x y:Out}(h:New H f has res vs ss m1 x)(k:New H f has res (vs++x.vs) (ss++x.ss.map (Sd.mk f)) m2 y)(h1:m1<=m)(h2:m2<=m):New H f has res vs ss m (x.app y):=by
 refine⟨fun i hi=>?_⟩
 simp only[Out.app,List.map_append,<-List.append_assoc]
 rcases List.mem_append.1 hi with hi|hi
 ·exact(h.is i hi).mono h1
 ·have:=(k.is i hi).mono (ws:=[]) (ts:=[]) h2
  simpa using this
theorem look_get {s:List UInt8}:∀{l:List Vd}{i k:Nat}{t:T3},lookF s i l=some (k,t)->i<=k/\∃v,l[k-i]?=some v/\v.ty=t
 |[],_,_,_,h=>by cases h
 |f::l,i,k,t,h=>by
  unfold lookF at h
  split at h
  ·cases h;exact⟨Nat.le_refl _,f,by simp,rfl⟩
  ·obtain⟨h1,v,h2,h3⟩:=look_get h
   have e:k-i=(k-(i+1))+1:=by omega
   exact⟨by omega,v,by rw[e,List.getElem?_cons_succ];exact h2,h3⟩
theorem looks_get {s:List UInt8}:∀{l:List Sg}{i k:Nat}{t:Sg},lookS s i l=some (k,t)->i<=k/\l[k-i]?=some t
 |[],_,_,_,h=>by cases h
 |g::l,i,k,t,h=>by
  unfold lookS at h
  split at h
  ·cases h;exact⟨Nat.le_refl _,by simp⟩
  ·obtain⟨h1,h2⟩:=looks_get h
   have e:k-i=(k-(i+1))+1:=by omega
   exact⟨by omega,by rw[e,List.getElem?_cons_succ];exact h2⟩
end Low
namespace Low
open Ax Go V7 Par Chk
variable {H:Hd}{f:Nat}{has:Bool}{res:T3}{V:List Vd}
def BT (t:T3):Prop:=1<=t.b/\t.b<=3
theorem BT.ne {t:T3}(h:BT t):t≠T0:=fun e=>by rw[e]at h;exact absurd h.1 (by decide)
structure Hd.gd (H:Hd):Prop where
 shapes:∀s∈H.shapes,∀f∈s.2,BT f.ty
 globals:∀f∈H.globals,BT f.ty
 ps:∀s∈H.sigs,∀f∈s.ps,BT f.ty
 res:∀s∈H.sigs,s.res≠T0->BT s.res/\s.has=true
theorem bt_type {l:List (List UInt8)}{s:List UInt8}{d:Int}(h:(typeT l s d).2=true):BT (typeT l s d).1:=by
 unfold typeT at h ⊢
 split
 ·rename_i c;rw[if_pos c]at h;cases h
 rename_i c
 rw[if_neg c]at h
 split
 ·exact⟨by show (1:Int)<=1;decide,by show (1:Int)<=3;decide⟩
 rename_i c2
 rw[if_neg c2]at h
 split
 ·exact⟨by show (1:Int)<=2;decide,by show (2:Int)<=3;decide⟩
 rename_i c3
 rw[if_neg c3]at h
 split
 ·rename_i c4;rw[if_pos c4]at h;cases h
 ·exact⟨by show (1:Int)<=3;decide,by show (3:Int)<=3;decide⟩
theorem okT_some {b:Bool}{t u:T3}{r:Int}(h:okT b t=some (u,r)):b=true/\u=t/\r=0:=by
 unfold okT at h
 cases b with
 |false=>cases h
 |true=>cases h;exact⟨rfl,rfl,rfl⟩
theorem mem_of {α:Type}{l:List α}{k:Nat}{x:α}(h:l[k]?=some x):x∈l:=List.mem_of_getElem? h
theorem kid2 {ks:List E}(h:ks.length=2):∃a b,ks=[a,b]:=by
 match ks,h with
 |[a,b],_=>exact⟨a,b,rfl⟩
theorem typ_bt (hG:Hd.gd H)(hV:∀v∈V,BT v.ty){k n:Int}{nm on:List UInt8}{od:Int}{ks:List E}{t:T3}{r:Int}(hk:kindsT k n ks.length=true)(hks:∀e∈ks,BT e.ty)(h:typE H V k nm on od ks=some (t,r)):(t=T0->k=7)/\(t≠T0->BT t):=by
 have bI:BT tI:=⟨by decide,by decide⟩
 have bB:BT tB:=⟨by decide,by decide⟩
 have of:BT t->(t=T0->k=7)/\(t≠T0->BT t):=fun h=>⟨fun e=>absurd e h.ne,fun _=>h⟩
 unfold typE at h
 by_cases c1:k=1\/k=11
 ·rw[if_pos c1]at h;cases h;exact of bI
 rw[if_neg c1]at h
 by_cases c2:k=2
 ·rw[if_pos c2]at h;cases h;exact of bB
 rw[if_neg c2]at h
 by_cases c3:k=3
 ·rw[if_pos c3]at h
  obtain⟨h1,rfl,_⟩:=okT_some h
  rw[Bool.and_eq_true]at h1
  exact of (bt_type h1.1)
 rw[if_neg c3]at h
 by_cases c4:k=4
 ·rw[if_pos c4]at h
  unfold varT at h
  split at h
  ·rename_i j u e
   cases h
   obtain⟨_,v,h1,h2⟩:=look_get e
   exact of (h2 ▸ hV v (mem_of h1))
  ·split at h
   ·rename_i j u e
    cases h
    obtain⟨_,v,h1,h2⟩:=look_get e
    exact of (h2 ▸ hG.globals v (mem_of h1))
   ·cases h
 rw[if_neg c4]at h
 by_cases c5:k=5
 ·rw[if_pos c5]at h
  unfold fieldT at h
  split at h
  ·split at h
   ·rename_i s hs
    split at h
    ·rename_i i u e
     cases h
     obtain⟨_,v,h1,h2⟩:=look_get e
     exact of (h2 ▸ hG.shapes s (mem_of hs) v (mem_of h1))
    ·cases h
   ·cases h
  ·cases h
 rw[if_neg c5]at h
 by_cases c6:k=6
 ·rw[if_pos c6]at h
  obtain⟨h1,rfl,_⟩:=okT_some h
  have hl:ks.length=2:=by
   unfold kindsT at hk
   rw[if_neg (by omega),if_neg (by omega),if_neg (by omega),if_neg (by omega)]at hk
   simp only[Bool.and_eq_true,decide_eq_true_eq]at hk
   exact hk.2
  obtain⟨a,b,rfl⟩:=kid2 hl
  exact of (hks a (by simp))
 rw[if_neg c6]at h
 by_cases c7:k=7
 ·rw[if_pos c7]at h
  refine⟨fun _=>c7,fun hne=>?_⟩
  unfold callT at h
  split at h
  ·rename_i i s hs
   split at h
   ·cases h
    obtain⟨_,h2⟩:=looks_get hs
    exact(hG.res s (mem_of h2) hne).1
   ·cases h
  ·cases h
 rw[if_neg c7]at h
 by_cases c8:k=8
 ·rw[if_pos c8]at h
  obtain⟨h1,rfl,_⟩:=okT_some h
  simp only[Bool.and_eq_true]at h1
  exact of (bt_type h1.1.1)
 rw[if_neg c8]at h
 by_cases c9:k=9
 ·rw[if_pos c9]at h
  obtain⟨h1,rfl,_⟩:=okT_some h
  simp only[Bool.and_eq_true]at h1
  exact of (bt_type h1.1.1)
 rw[if_neg c9]at h
 by_cases c10:k=10
 ·rw[if_pos c10]at h
  obtain⟨_,rfl,_⟩:=okT_some h
  exact of bI
 rw[if_neg c10]at h
 by_cases c12:k=12
 ·rw[if_pos c12]at h
  obtain⟨_,rfl,_⟩:=okT_some h
  exact of bI
 rw[if_neg c12]at h
 by_cases c13:k=13
 ·rw[if_pos c13]at h
  obtain⟨_,rfl,_⟩:=okT_some h
  exact of bB
 rw[if_neg c13]at h
 unfold Chk.twoT at h
 split at h
 ·obtain⟨_,rfl,_⟩:=okT_some h;exact of bI
 split at h
 ·obtain⟨_,rfl,_⟩:=okT_some h;exact of bB
 split at h
 ·obtain⟨_,rfl,_⟩:=okT_some h;exact of bB
 ·obtain⟨_,rfl,_⟩:=okT_some h;exact of bB
theorem ckV_ne:∀{l ys:List E},ckV H V l=.ok ys->∀y∈ys,y.ty≠T0
 |[],ys,h=>by unfold ckV at h;cases h;simp
 |e::l,ys,h=>by
  obtain⟨y,zs,_,h1,h2,rfl⟩:=ckV_cons h
  intro z hz
  rcases List.mem_cons.1 hz with rfl|hz
  ·exact h1
  ·exact ckV_ne h2 z hz
theorem ckE_bt (hG:Hd.gd H)(hV:∀v∈V,BT v.ty)(e:E):∀y,ckE H V e=.ok y->(y.ty=T0->y.k=7)/\(y.ty≠T0->BT y.ty):=by
 induction e using E.ind with
 |_ e ih=>
  intro y h
  obtain⟨ks,t,r,h1,h2,h3,rfl⟩:=ckE_ok h
  have hb:=ckV_mem h2 ih
  have hn:=ckV_ne h2
  exact typ_bt hG hV (by rw[ckV_len h2];exact h1) (fun e he=>(hb e he).2 (hn e he)) h3
end Low
namespace Low
open Ax Go V7 Par Chk
variable {H:Hd}{f:Nat}{has:Bool}{res:T3}{V X:List Vd}
theorem fit_ext {k:Int}{nm:List UInt8}{es:List E}{t:T3}{r:Int}{W:List Vd}(h:fitT H res V k nm es t=some (r,W)):∃l,W=V++l/\∀v∈l,v.ty=t/\(k=1\/k=2):=by
 have nil:∀{W:List Vd},W=V->∃l,W=V++l/\∀v∈l,v.ty=t/\(k=1\/k=2):=fun e=>⟨[],by simp[e],by simp⟩
 unfold fitT at h
 split at h
 ·rename_i c
  split at h
  ·cases h
  ·cases h;exact⟨_,rfl,by simp[c]⟩
 split at h
 ·rename_i c
  split at h
  ·split at h
   ·cases h
   ·cases h;exact⟨_,rfl,by simp[c]⟩
  ·cases h
 split at h
 ·split at h
  ·split at h
   ·cases h;exact nil rfl
   ·cases h
  ·cases h
 split at h
 ·split at h
  ·cases h;exact nil rfl
  ·cases h
 split at h
 ·split at h
  ·cases h;exact nil rfl
  ·cases h
 split at h
 ·split at h
  ·cases h;exact nil rfl
  ·cases h
 split at h
 ·split at h
  ·cases h;exact nil rfl
  ·cases h
 ·cases h;exact nil rfl
def Gv (H:Hd)(V:List Vd):Prop:=∀v∈V,WT H.rs.length v.ty/\BT v.ty
theorem decl_gv {k:Int}{on:List UInt8}{od:Int}{t:T3}(h:declT H k on od=some t)(hk:k=1\/k=2):WT H.rs.length t/\BT t:=by
 unfold declT at h
 rw[if_pos hk]at h
 split at h
 ·rename_i c;cases h;exact⟨type_wt _ _ _,bt_type c⟩
 ·cases h
theorem fit_gv {k:Int}{nm on:List UInt8}{od:Int}{es:List E}{t:T3}{r:Int}{W:List Vd}(hd:declT H k on od=some t)(h:fitT H res V k nm es t=some (r,W))(hV:Gv H V):Gv H W:=by
 obtain⟨l,rfl,h1⟩:=fit_ext h
 intro v hv
 rcases List.mem_append.1 hv with hv|hv
 ·exact hV v hv
 ·obtain⟨e,hk⟩:=h1 v hv
  rw[e];exact decl_gv hd hk
def Ext (V X:List Vd):Prop:=∃l,X=V++l
theorem Ext.rfl':Ext V V:=⟨[],by simp⟩
theorem Ext.trans {A B C:List Vd}(h:Ext A B)(k:Ext B C):Ext A C:=by
 obtain⟨l,rfl⟩:=h
 obtain⟨m,rfl⟩:=k
 exact⟨l++m,by simp⟩
theorem Ext.pre {A B:List Vd}{vs:List T3}(h:Ext A B)(hp:Pre B vs):Pre A vs:=by
 obtain⟨l,rfl⟩:=h
 exact fun k v hk=>hp k v (get_app hk)
theorem ckB_ext0:∀{l ys:List Sm}{V X:List Vd},(∀s∈l,∀V y W,ckS H has res V s=.ok (y,W)->Gv H V->Ext V W/\Gv H W)->ckB H has res V l=.ok (ys,X)->Gv H V->Ext V X/\Gv H X
 |[],ys,V,X,_,h,hV=>by
  unfold ckB at h
  cases h
  exact⟨.rfl',hV⟩
 |s::l,ys,V,X,hp,h,hV=>by
  obtain⟨y,W,zs,h1,h2,rfl⟩:=ckB_cons h
  obtain⟨a,b⟩:=hp s List.mem_cons_self V y W h1 hV
  obtain⟨c,d⟩:=ckB_ext0 (fun t ht=>hp t (List.mem_cons_of_mem _ ht)) h2 b
  exact⟨a.trans c,d⟩
theorem ckS_ext (s:Sm):∀V y W,ckS H has res V s=.ok (y,W)->Gv H V->Ext V W/\Gv H W:=by
 induction s using Sm.ind with
 |_ s ih1 ih2=>
  intro V y X h hV
  obtain⟨t,ys,r,W,hf,ht,hys,hfit,hh⟩:=ckS_ok h
  obtain⟨l,e,_⟩:=fit_ext hfit
  have h1:Ext V W:=⟨l,e⟩
  have h2:=fit_gv ht hfit hV
  rcases hh with⟨_,b,W1,c,hb,hc,rfl⟩|⟨_,b,hb,rfl⟩|⟨_,_,rfl,rfl⟩
  ·obtain⟨a1,a2⟩:=ckB_ext0 ih1 hb h2
   obtain⟨b1,b2⟩:=ckB_ext0 ih2 hc a2
   exact⟨h1.trans (a1.trans b1),b2⟩
  ·obtain⟨a1,a2⟩:=ckB_ext0 ih1 hb h2
   exact⟨h1.trans a1,a2⟩
  ·exact⟨h1,h2⟩
theorem ckB_ext {l ys:List Sm}{V X:List Vd}(h:ckB H has res V l=.ok (ys,X))(hV:Gv H V):Ext V X/\Gv H X:=ckB_ext0 (fun s _=>ckS_ext s) h hV
def FS (H:Hd)(f:Nat)(has:Bool)(res:T3)(X:List Vd)(y:Sm):Prop:=∀(vs:List T3)(ss:List Sd)(at_:Nat),Pre X vs->New H f has res vs ss (at_+(cS vs.length at_ ss.length y).is.length) (cS vs.length at_ ss.length y)
theorem New.more {vs:List T3}{ss:List Sd}{m m':Nat}{o:Out}(h:New H f has res vs ss m o)(hm:m<=m'):New H f has res vs ss m' o:=⟨fun i hi=>by
 have:=(h.is i hi).mono (ws:=[]) (ts:=[]) hm
 simpa using this⟩
end Low
namespace Low
open Ax Go V7 Par Chk
variable {H:Hd}{f:Nat}{has:Bool}{res:T3}{V X:List Vd}
structure MT (H:Hd)(t:T3):Prop where
 wt:WT H.rs.length t
 bt:BT t
 rt:t.b≠3->t.r=0
def RT (t:T3):Prop:=t.b≠3->t.r=0
structure Hd.rt (H:Hd):Prop where
 shapes:∀s∈H.shapes,∀f∈s.2,RT f.ty
 globals:∀f∈H.globals,RT f.ty
 ps:∀s∈H.sigs,∀f∈s.ps,RT f.ty
 res:∀s∈H.sigs,RT s.res
theorem rt_type {l:List (List UInt8)}{s:List UInt8}{d:Int}:RT (typeT l s d).1:=by
 unfold typeT RT
 split
 ·intro _;rfl
 split
 ·intro _;rfl
 split
 ·intro _;rfl
 split
 ·intro _;rfl
 ·intro h;exact absurd rfl h
structure NewT (H:Hd)(o:Out):Prop where
 vs:∀t∈o.vs,MT H t
 ss:∀t∈o.ss,MT H t/\refT t=true
theorem NewT.nil:NewT H O0:=⟨by simp[O0],by simp[O0]⟩
theorem NewT.app {x y:Out}(h:NewT H x)(k:NewT H y):NewT H (x.app y):=by
 refine⟨fun t ht=>?_,fun t ht=>?_⟩
 ·rcases List.mem_append.1 ht with ht|ht
  ·exact h.vs t ht
  ·exact k.vs t ht
 ·rcases List.mem_append.1 ht with ht|ht
  ·exact h.ss t ht
  ·exact k.ss t ht
def Mv (H:Hd)(V:List Vd):Prop:=∀v∈V,MT H v.ty
theorem NewT.of {x:Out}(h:NewT H x)(l:List In):NewT H ⟨x.vs,l,x.ss⟩:=⟨h.vs,h.ss⟩
end Low
namespace Low
open Ax Go V7 Par Chk
variable {H:Hd}{f:Nat}{has:Bool}{res:T3}{V X:List Vd}
structure Hd.fine (H:Hd):Prop where
 ok:H.ok
 gd:Hd.gd H
 rt:Hd.rt H
 yes:∀s∈H.sigs,s.has=true->MT H s.res
 no:∀s∈H.sigs,s.has=false->s.res=T0
 shapes:∀s∈H.shapes,s.2.length<=8
 pn:∀s∈H.sigs,s.ps.length<=6
 nr:H.shapes.length<=12
 ng:H.globals.length<=8
 nf:H.sigs.length<=16
structure GoodC (H:Hd)(f:Nat)(s:Sg)(ss:List Sd)(c:Cd):Prop where
 params:c.params=s.ps.length
 has:c.has=s.has
 res:c.res=s.res
 pre:Pre s.ps c.vars
 vt:∀t∈c.vars,MT H t
 nv:c.vars.length<=4000
 fit:∀i∈c.is,OkI H f s.has s.res c.vars ss (c.is.length-1) i
 last:∃i,c.is.getLast? = some i/\i.op=18
theorem GoodC.more {s:Sg}{ss ts:List Sd}{c:Cd}(h:GoodC H f s ss c):GoodC H f s (ss++ts) c:=
 ⟨h.params,h.has,h.res,h.pre,h.vt,h.nv,fun i hi=>by
  have:=(h.fit i hi).mono (ws:=[]) (ts:=ts) (Nat.le_refl _)
  simpa using this,h.last⟩
structure Made (H:Hd)(cs:List Cd)(ss:List Sd)(all:Nat):Prop where
 code:∀(j:Nat) (c:Cd),cs[j]?=some c->∃s,H.sigs[j]?=some s/\GoodC H j s ss c
 site:∀s∈ss,MT H s.ty/\refT s.ty=true/\s.fn<cs.length
 ns:ss.length<=60
 sum:(cs.map (·.is.length)).sum=all
 few:all<=2500
end Low
namespace Low
open Ax Go V7 Par Chk
variable {H:Hd}{V:List Vd}{has:Bool}{res:T3}
theorem kinds_le {k n:Int}{m:Nat}(h:kindsT k n m=true):(k=5\/k=9\/k=10\/k=12\/k=13->m=1)/\(k=6\/14<=k->m=2)/\(0<k/\k<25):=by
 unfold kindsT at h
 split at h
 ·rename_i c
  exact⟨fun q=>by omega,fun q=>by omega,by omega⟩
 split at h
 ·rename_i c
  exact⟨fun q=>by omega,fun q=>by omega,by omega⟩
 split at h
 ·rename_i c
  exact⟨fun q=>by omega,fun q=>by omega,by omega⟩
 split at h
 ·rename_i c1 c2 c3 c
  have hm:m=1:=by simpa using h
  exact⟨fun _=>hm,fun q=>by omega,by omega⟩
 ·rename_i c1 c2 c3 c
  simp only[Bool.and_eq_true,Bool.or_eq_true,decide_eq_true_eq]at h
  exact⟨fun q=>by omega,fun q=>h.2,by omega⟩
theorem look_lt:∀{l:List Vd}{s:List UInt8}{i k:Nat}{t:T3},lookF s i l=some (k,t)->k<i+l.length
 |[],_,_,_,_,h=>by cases h
 |f::l,s,i,k,t,h=>by
  unfold lookF at h
  split at h
  ·cases h;simp
  ·have:=look_lt h
   simp only[List.length_cons];omega
theorem var_ref {s:List UInt8}{t:T3}{r:Int}(hg:H.globals.length<100000000)(h:varT H V s=some (t,r)) : -1000000000<r:=by
 unfold varT at h
 split at h
 ·cases h;omega
 ·split at h
  ·rename_i k t' hk
   cases h
   have:=look_lt hk
   omega
  ·cases h
theorem ckE_le (hG:Hd.gd H)(hg:H.globals.length<100000000)(hV:∀v∈V,BT v.ty)(e:E):∀y,ckE H V e=.ok y->LE y:=by
 induction e using E.ind with
 |_ e ih=>
  intro y h
  have hbt:=(ckE_bt hG hV e y h).1
  obtain⟨ks,t,r,h1,h2,h3,rfl⟩:=ckE_ok h
  have hl:=ckV_len h2
  rw[<-hl]at h1
  obtain⟨a,b,c⟩:=kinds_le h1
  rw[LE_eq]
  refine⟨hbt,a,b,c,fun k4=>?_,(LL_iff _).2 (ckV_mem h2 ih)⟩
  have k4:e.k=4:=k4
  unfold typE at h3
  rw[if_neg (by omega),if_neg (by omega),if_neg (by omega),if_pos k4]at h3
  exact var_ref hg h3
theorem esT_mem {k:Int}{es ys:List E}{P:E->Prop}(h:esT H V k es=.ok ys)(hp:∀e∈es,∀y,ckE H V e=.ok y->P y):∀y∈ys,P y:=by
 unfold esT at h
 by_cases h9:k=9
 ·rw[if_pos h9]at h
  match es,h,hp with
  |[],h,_=>cases h;simp
  |e::l,h,hp=>
   cases hx:ckE H V e with
   |error a=>simp only[hx]at h;cases h
   |ok y=>
    simp only[hx]at h;cases h
    intro z hz
    rw[List.mem_singleton.1 hz]
    exact hp e List.mem_cons_self y hx
 ·rw[if_neg h9]at h
  exact ckV_mem h hp
theorem ckB_lb0:∀{l ys:List Sm}{V X:List Vd},(∀s∈l,∀V y W,ckS H has res V s=.ok (y,W)->Gv H V->LS y)->ckB H has res V l=.ok (ys,X)->Gv H V->LB ys
 |[],ys,V,X,_,h,_=>by
  unfold ckB at h
  cases h
  simp[LB]
 |s::l,ys,V,X,hp,h,hV=>by
  obtain⟨y,W,zs,h1,h2,rfl⟩:=ckB_cons h
  unfold LB
  exact⟨hp s List.mem_cons_self V y W h1 hV,ckB_lb0 (fun t ht=>hp t (List.mem_cons_of_mem _ ht)) h2 (ckS_ext s V y W h1 hV).2⟩
theorem form_len {k:Int}{es:List E}(h:formT has k es=true):(k=2\/k=3\/k=5\/k=6\/k=8\/k=9->es.length=1)/\(k=4->es.length=2/\((es0 es).k=5\/(es0 es).k=6)):=by
 unfold formT at h
 split at h
 ·exact⟨fun q=>by omega,fun q=>by omega⟩
 split at h
 ·rename_i c
  refine⟨fun q=>by omega,fun _=>?_⟩
  match es,h with
  |[e,f],h=>exact⟨rfl,by simpa [es0] using h⟩
 split at h
 ·exact⟨fun q=>by omega,fun q=>by omega⟩
 split at h
 ·refine⟨fun _=>?_,fun q=>by omega⟩
  match es,h with
  |[e],_=>rfl
 split at h
 ·rename_i c1 c2 c3 c4 c
  exact⟨fun _=>by simpa using h,fun q=>absurd q c2⟩
 ·cases h
theorem ckS_ls (hG:Hd.gd H)(hg:H.globals.length<100000000)(s:Sm):∀V y W,ckS H has res V s=.ok (y,W)->Gv H V->LS y:=by
 induction s using Sm.ind with
 |_ s ih1 ih2=>
  intro V y X h hV
  obtain⟨t,ys,r,W,hf,ht,hys,hfit,hh⟩:=ckS_ok h
  have hW:=fit_gv ht hfit hV
  have a1:LL ys:=(LL_iff _).2 (esT_mem hys fun e _ y hy=>ckE_le hG hg (fun v hv=>(hV v hv).2) e y hy)
  obtain⟨a2,a3⟩:=form_len (esT_form hys hf)
  have a4:s.k=2\/s.k=3→-1000000000<r:=fun q=>by
   unfold fitT at hfit
   rw[if_neg (by omega)]at hfit
   by_cases c2:s.k=2
   ·rw[if_pos c2]at hfit
    split at hfit
    ·split at hfit
     ·cases hfit
     ·cases hfit;omega
    ·cases hfit
   ·rw[if_neg c2,if_pos (by omega)]at hfit
    split at hfit
    ·rename_i u r' hv
     split at hfit
     ·cases hfit;exact var_ref hg hv
     ·cases hfit
    ·cases hfit
  rcases hh with⟨_,b,W1,c,hb,hc,rfl⟩|⟨_,b,hb,rfl⟩|⟨_,_,rfl,rfl⟩
  ·rw[LS_eq];exact⟨a1,a2,a3,a4,ckB_lb0 ih1 hb hW,ckB_lb0 ih2 hc (ckB_ext hb hW).2⟩
  ·rw[LS_eq];exact⟨a1,a2,a3,a4,ckB_lb0 ih1 hb hW,by simp[Sm.el,LB]⟩
  ·rw[LS_eq];exact⟨a1,a2,a3,a4,by simp[Sm.bd,LB],by simp[Sm.el,LB]⟩
theorem ckF_lb (hG:Hd.gd H)(hg:H.globals.length<100000000):∀{ss:List Sg}{fs:List Fc}{bs:List Bd},(∀s∈ss,Gv H s.ps)->ckF H ss fs=.ok bs->∀b∈bs,LB b.code
 |[],fs,bs,_,h=>by unfold ckF at h;cases h;simp
 |_::_,[],bs,_,h=>by unfold ckF at h;cases h;simp
 |s::ss,f::fs,bs,hs,h=>by
  unfold ckF at h
  split at h
  ·cases h
  ·rename_i c W hb
   split at h
   ·cases h
   ·rename_i l hl
    cases h
    intro b hbm
    rcases List.mem_cons.1 hbm with rfl|hbm
    ·exact ckB_lb0 (fun s _=>ckS_ls hG hg s) hb (hs s List.mem_cons_self)
    ·exact ckF_lb hG hg (fun s h=>hs s (List.mem_cons_of_mem _ h)) hl b hbm
end Low
namespace Low
open Ax Go Code13 V7 Par Chk K9 N7 U7
theorem orF_nn2 {a b:Option Int}(h:orF a b=none):a=none/\b=none:=by
 cases a with
 |none=>exact⟨rfl,h⟩
 |some x=>cases h
theorem firstB_all2 {α:Type}{bad:List α->α->Option Int}{l:List α}:∀{m:Nat},firstB bad l m=none->∀k (h:k<l.length),k<m->bad (l.take k) l[k]=none
 |0,_,k,_,hk=>absurd hk (by omega)
 |m+1,h,k,hl,hk=>by
  obtain⟨h1,h2⟩:=orF_nn2 h
  by_cases e:k=m
  ·subst e
   rw[List.getElem?_eq_getElem hl]at h2
   exact h2
  ·exact firstB_all2 h1 k hl (by omega)
theorem first_mem {α:Type}{bad:List α->α->Option Int}{l:List α}(h:firstB bad l l.length=none):∀x∈l,∃b,bad b x=none:=fun x hx=>by
 obtain⟨k,hk,rfl⟩:=List.getElem_of_mem hx
 exact⟨_,firstB_all2 h k hk hk⟩
theorem fds_bt {rs:List (List UInt8)}{l:List PD}(h:firstB (badP rs) l l.length=none):∀v∈fdsOf rs l,BT v.ty/\RT v.ty:=by
 intro v hv
 obtain⟨q,hq,rfl⟩:=List.mem_map.1 hv
 obtain⟨b,h1⟩:=first_mem h q hq
 unfold badP at h1
 split at h1
 ·cases h1
 ·rename_i c
  simp only[Bool.or_eq_true,Bool.not_eq_true',not_or,Bool.not_eq_false]at c
  exact⟨bt_type c.2,rt_type⟩
structure Few (p:Pg):Prop where
 r:p.recs.length<=12
 g:p.globals.length<=8
 f:p.funcs.length<=16
 fl:∀x∈p.recs,x.fields.length<=8
 ps:∀x∈p.funcs,x.params.length<=6
theorem fine_of {p:Pg}(h:faultH (gdOf p)=none)(hf:Few p):Hd.fine (hdOf p):=by
 have hok:=hd_ok p
 have h3:fault3 (gdOf p)=none:=by
  unfold faultH at h
  split at h
  ·exact(orF_nn2 h).1
  ·exact h
 unfold fault3 at h3
 obtain⟨h4,hS⟩:=orF_nn2 h3
 obtain⟨h5,hP⟩:=orF_nn2 h4
 obtain⟨h6,hFl⟩:=orF_nn2 h5
 rw[recN_gd]at hS hP hFl
 rw[dFNs_gd]at hS
 rw[dPs_gd]at hP
 rw[dCRs_gd]at hFl
 have hg:=fds_bt hP
 have hr:∀x∈p.recs,∀v∈fdsOf (namesOf p) x.fields,BT v.ty/\RT v.ty:=fun x hx=>by
  obtain⟨b,h1⟩:=first_mem hFl (crOf x) (List.mem_map_of_mem hx)
  unfold badF at h1
  rw[show (crOf x).fields=lstV 4 (x.fields.map PD.cells) from rfl,dPs_lst]at h1
  exact fds_bt h1
 have hs:∀x∈p.funcs,(∀v∈fdsOf (namesOf p) x.params,BT v.ty/\RT v.ty)/\(x.has=true->(typeT (namesOf p) x.on x.od).2=true):=fun x hx=>by
  obtain⟨b,h1⟩:=first_mem hS (fnOf x) (List.mem_map_of_mem hx)
  unfold badS at h1
  obtain⟨h2,h7⟩:=orF_nn2 h1
  have h8:=(orF_nn2 h2).2
  rw[show (fnOf x).params=lstV 4 (x.params.map PD.cells) from rfl,dPs_lst]at h8
  refine⟨fds_bt h8,fun hh=>?_⟩
  unfold badT at h7
  split at h7
  ·cases h7
  ·rename_i c
   show (typeT (namesOf p) (fnOf x).on (fnOf x).od).2=true
   have hh':(fnOf x).has=true:=hh
   rw[hh']at c
   simpa using c
 have sres:∀x∈p.funcs,(sgOf (namesOf p) x).has=true->MT (hdOf p) (sgOf (namesOf p) x).res:=fun x hx hh=>by
  have hh:x.has=true:=hh
  have e:(sgOf (namesOf p) x).res=(typeT (namesOf p) x.on x.od).1:=by
   show (if x.has then _ else T0)=_
   rw[if_pos hh]
  rw[e]
  exact⟨type_wt _ _ _,bt_type ((hs x hx).2 hh),rt_type⟩
 have nores:∀x∈p.funcs,(sgOf (namesOf p) x).has=false->(sgOf (namesOf p) x).res=T0:=fun x hx hh=>by
  have hh:x.has=false:=hh
  show (if x.has then _ else T0)=_
  rw[hh];rfl
 refine⟨hok,⟨?_,?_,?_,?_⟩,⟨?_,?_,?_,?_⟩,?_,?_,?_,?_,?_,?_,?_⟩
 ·intro s hsm v hv
  obtain⟨x,hx,rfl⟩:=List.mem_map.1 hsm
  exact(hr x hx v hv).1
 ·exact fun v hv=>(hg v hv).1
 ·intro s hsm v hv
  obtain⟨x,hx,rfl⟩:=List.mem_map.1 hsm
  exact((hs x hx).1 v hv).1
 ·intro s hsm hne
  obtain⟨x,hx,rfl⟩:=List.mem_map.1 hsm
  cases hh:(sgOf (namesOf p) x).has with
  |true=>exact⟨(sres x hx hh).bt,rfl⟩
  |false=>exact absurd (nores x hx hh) hne
 ·intro s hsm v hv
  obtain⟨x,hx,rfl⟩:=List.mem_map.1 hsm
  exact(hr x hx v hv).2
 ·exact fun v hv=>(hg v hv).2
 ·intro s hsm v hv
  obtain⟨x,hx,rfl⟩:=List.mem_map.1 hsm
  exact((hs x hx).1 v hv).2
 ·intro s hsm
  obtain⟨x,hx,rfl⟩:=List.mem_map.1 hsm
  cases hh:(sgOf (namesOf p) x).has with
  |true=>exact(sres x hx hh).rt
  |false=>rw[nores x hx hh];intro _;rfl
 ·intro s hsm hh
  obtain⟨x,hx,rfl⟩:=List.mem_map.1 hsm
  exact sres x hx hh
 ·intro s hsm hh
  obtain⟨x,hx,rfl⟩:=List.mem_map.1 hsm
  exact nores x hx hh
 ·intro s hsm
  obtain⟨x,hx,rfl⟩:=List.mem_map.1 hsm
  have:=hf.fl x hx
  simpa [fdsOf] using this
 ·intro s hsm
  obtain⟨x,hx,rfl⟩:=List.mem_map.1 hsm
  have:=hf.ps x hx
  simpa [sgOf,fdsOf] using this
 ·have:=hf.r;simpa [hdOf] using this
 ·have:=hf.g;simpa [hdOf,fdsOf] using this
 ·have:=hf.f;simpa [hdOf] using this
end Low
