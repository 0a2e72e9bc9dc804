/- Part of a proof. -/
import Derived.Test.YtachcambnjecnaaGreatP
import Derived.Test.YtachcambnjecnaaGreatA6
import Derived.Test.YtachcambnjecnaaGreatD
import Derived.Test.YtachcambnjecnaaGreatN
import Derived.Test.YtachcambnjecnaaGreatS

set_option maxRecDepth 100000
set_option maxHeartbeats 4000000
namespace tf
open Ax Go V7 jG ke
structure In where
 op:Int
 a:Int
 b:Int
 c:Int
 n:Int
 args:List Int
def jE(l:List Int):AV:=aA 1 (bQ l)
def In.row(i:In):List AV:=[.int .i64 i.op,.int .i64 i.a,.int .i64 i.b,.int .i64 i.c,.int .i64 i.n,jE i.args]
structure l9 where
 vs:List T3
 is:List In
 ss:List T3
def O0:l9:=⟨[],[],[]⟩
def l9.eK(x y:l9):l9:=⟨x.vs++y.vs,x.is++y.is,x.ss++y.ss⟩
def dO(i:In):l9:=⟨[],[i],[]⟩
def zf(l:List Int):Int:=match l with|a::_=>a | []=>0
def Wl(l:List Int):Int:=match l with|_::a::_=>a|_=>0
def dh(k n cH t O5:Int)(l:List Int):In:=
 if k=1\/k=2 then ⟨1,t,0,0,n,[]⟩
 else if k=3 then ⟨2,t,0,0,0,[]⟩
 else if k=4 then ⟨19,t,0,0,-1-cH,[]⟩
 else if k=5 then ⟨6,t,zf l,cH,0,[]⟩
 else if k=6 then ⟨8,t,zf l,Wl l,0,[]⟩
 else if k=7 then ⟨13,t,0,cH,0,l⟩
 else if k=8 then ⟨11,t,0,0,O5,[]⟩
 else if k=9 then ⟨12,t,zf l,0,O5,[]⟩
 else if k=10 then ⟨10,t,zf l,0,0,[]⟩
 else if k=11 then ⟨14,t,0,0,0,[]⟩
 else if k=12\/k=13 then ⟨5,t,zf l,0,k,[]⟩
 else ⟨4,t,zf l,Wl l,k,[]⟩
def cK(nv ns:Nat)(k n cH:Int)(ty:T3)(x:List Int×l9):Int×l9:=
 if ty=T0 then (-1,x.2.eK (dO ⟨13,-1,0,cH,0,x.1⟩))
 else (((nv+x.2.vs.length:Nat):Int),x.2.eK ⟨[ty],[dh k n cH ((nv+x.2.vs.length:Nat):Int) ((ns+x.2.ss.length:Nat):Int) x.1],if k=8\/k=9 then [ty] else []⟩)
mutual
def cE(nv ns:Nat):E->Int×l9
 |.mk k n _ _ _ aC _ ty cH=>if k=4/\0<=cH then (cH,O0) else cK nv ns k n cH ty (pE nv ns aC)
def pE(nv ns:Nat):List E->List Int×l9
 |[]=>([],O0)
 |e::l=>((cE nv ns e).1::(pE (nv+(cE nv ns e).2.vs.length) (ns+(cE nv ns e).2.ss.length) l).1,(cE nv ns e).2.eK (pE (nv+(cE nv ns e).2.vs.length) (ns+(cE nv ns e).2.ss.length) l).2)
end
def E0:E:=.mk 0 0 [] [] 0 [] 0 T0 0
def ld(es:List E):E:=match es with|e::_=>e | []=>E0
def PK(es:List E):E:=match es with|_::e::_=>e|_=>E0
def J8(nv at_ ns:Nat)(x:l9)(f:Nat->Nat->Nat->l9):l9:=x.eK (f (nv+x.vs.length) (at_+x.is.length) (ns+x.ss.length))
def Au(cH v:Int):In:=if cH<0 then ⟨20,v,0,0,-1-cH,[]⟩ else ⟨3,cH,v,0,0,[]⟩
def FA(k cH v:Int)(l:List Int):In:=if k=5 then ⟨7,zf l,v,cH,0,[]⟩ else ⟨9,zf l,Wl l,v,0,[]⟩
def XZ(nv at_ ns:Nat)(x:Int×l9)(f g:Nat->Nat->Nat->l9):l9:=
 let i:=at_+x.2.is.length
 let b:=f (nv+x.2.vs.length) (i+1) (ns+x.2.ss.length)
 let j:=i+1+b.is.length
 let c:=g (nv+x.2.vs.length+b.vs.length) (j+1) (ns+x.2.ss.length+b.ss.length)
 ⟨x.2.vs++b.vs++c.vs,x.2.is++⟨17,x.1,0,((j+1:Nat):Int),((i+1:Nat):Int),[]⟩::(b.is++⟨16,0,0,0,((j+1+c.is.length:Nat):Int),[]⟩::c.is),x.2.ss++b.ss++c.ss⟩
def X1(nv at_ ns:Nat)(x:Int×l9)(f:Nat->Nat->Nat->l9):l9:=
 let i:=at_+x.2.is.length
 let b:=f (nv+x.2.vs.length) (i+1) (ns+x.2.ss.length)
 let j:=i+1+b.is.length
 ⟨x.2.vs++b.vs,x.2.is++⟨17,x.1,0,((j+1:Nat):Int),((i+1:Nat):Int),[]⟩::(b.is++[⟨16,0,0,0,(at_:Int),[]⟩]),x.2.ss++b.ss⟩
def J9(nv ns:Nat)(e:E)(x:List Int×l9)(f:Nat->Nat->Int×l9):l9:=
 let v:=f (nv+x.2.vs.length) (ns+x.2.ss.length)
 (x.2.eK v.2).eK (dO (FA e.k e.cH v.1 x.1))
mutual
def cS(nv at_ ns:Nat):Sm->l9
 |.mk k _ _ _ es bd el _ cH=>
  if k=2\/k=3 then (cE nv ns (ld es)).2.eK (dO (Au cH (cE nv ns (ld es)).1))
  else if k=4 then J9 nv ns (ld es) (pE nv ns (ld es).aC) (λnv ns=>cE nv ns (PK es))
  else if k=5 then XZ nv at_ ns (cE nv ns (ld es)) (λnv at_ ns=>cB nv at_ ns bd) (λnv at_ ns=>cB nv at_ ns el)
  else if k=6 then X1 nv at_ ns (cE nv ns (ld es)) (λnv at_ ns=>cB nv at_ ns bd)
  else if k=7 then (match es with
   |[]=>dO ⟨18,-1,0,0,0,[]⟩|e::_=>(cE nv ns e).2.eK (dO ⟨18,(cE nv ns e).1,0,0,0,[]⟩))
  else if k=8 then (cE nv ns (ld es)).2.eK (dO ⟨15,(cE nv ns (ld es)).1,0,0,0,[]⟩)
  else if k=9 then (cE nv ns (ld es)).2
  else O0
def cB(nv at_ ns:Nat):List Sm->l9
 |[]=>O0|s::l=>J8 nv at_ ns (cS nv at_ ns s) (λnv at_ ns=>cB nv at_ ns l)
end
structure Cd where
 params:Nat
 vars:List T3
 bP:Bool
 bz:T3
 is:List In
def Cd.row(c:Cd):List AV:=[.int .i64 c.params,aA 3 (c.vars.map T3.cells),.bool c.bP,.int .i64 c.bz.b,.int .i64 c.bz.r,.int .i64 c.bz.d,aA 6 (c.is.map In.row)]
structure Sd where
 fn:Nat
 ty:T3
def Sd.row(s:Sd):List AV:=[.int .i64 s.fn,.int .i64 s.ty.b,.int .i64 s.ty.r,.int .i64 s.ty.d]
def wQ(s:Sg)(t:Nat):List In:=if s.bP then [⟨if nK s.bz then 2 else 1,(t:Int),0,0,0,[]⟩,⟨18,(t:Int),0,0,0,[]⟩] else [⟨18,-1,0,0,0,[]⟩]
def gj(ns:Nat)(b:Bd):l9:=cB b.vars.length 0 ns b.code
def cp(ns:Nat)(s:Sg)(b:Bd):Cd:=
 ⟨s.ps.length,b.vars.map (·.ty)++(gj ns b).vs++(if s.bP then [s.bz] else []),s.bP,s.bz,(gj ns b).is++wQ s (b.vars.length+(gj ns b).vs.length)⟩
def vr(cs:List Cd)(ss:List Sd)(all:Nat):List Sg->List Bd->Except Int (List Cd×List Sd)
 |s::sg,b::bs=>
  if 4000<(cp ss.length s b).vars.length\/2500<all+(cp ss.length s b).is.length\/60<ss.length+(gj ss.length b).ss.length then .error b.a
  else vr (cs++[cp ss.length s b]) (ss++(gj ss.length b).ss.map (λt=>⟨cs.length,t⟩)) (all+(cp ss.length s b).is.length) sg bs
 |_,_=>.ok (cs,ss)
theorem GH(nv ns:Nat)(e:E):cE nv ns e=if e.k=4/\0<=e.cH then (e.cH,O0) else cK nv ns e.k e.n e.cH e.ty (pE nv ns e.aC):=by
 obtain⟨k,n,nm,on,od,aC,a,ty,cH⟩:=e
 (conv=>lhs;unfold cE)<;>rfl
theorem wR(nv ns:Nat)(e:E)(l:List E):pE nv ns (e::l)=((cE nv ns e).1::(pE (nv+(cE nv ns e).2.vs.length) (ns+(cE nv ns e).2.ss.length) l).1,(cE nv ns e).2.eK (pE (nv+(cE nv ns e).2.vs.length) (ns+(cE nv ns e).2.ss.length) l).2):=by
 (conv=>lhs;unfold pE)<;>rfl
theorem Nz(nv at_ ns:Nat)(s:Sm):cS nv at_ ns s =
  if s.k=2\/s.k=3 then (cE nv ns (ld s.es)).2.eK (dO (Au s.cH (cE nv ns (ld s.es)).1))
  else if s.k=4 then J9 nv ns (ld s.es) (pE nv ns (ld s.es).aC) (λnv ns=>cE nv ns (PK s.es))
  else if s.k=5 then XZ nv at_ ns (cE nv ns (ld s.es)) (λnv at_ ns=>cB nv at_ ns s.bd) (λnv at_ ns=>cB nv at_ ns s.el)
  else if s.k=6 then X1 nv at_ ns (cE nv ns (ld s.es)) (λnv at_ ns=>cB nv at_ ns s.bd)
  else if s.k=7 then (match s.es with
   |[]=>dO ⟨18,-1,0,0,0,[]⟩|e::_=>(cE nv ns e).2.eK (dO ⟨18,(cE nv ns e).1,0,0,0,[]⟩))
  else if s.k=8 then (cE nv ns (ld s.es)).2.eK (dO ⟨15,(cE nv ns (ld s.es)).1,0,0,0,[]⟩)
  else if s.k=9 then (cE nv ns (ld s.es)).2
  else O0:=by
 obtain⟨k,nm,on,od,es,bd,el,a,cH⟩:=s
 (conv=>lhs;unfold cS)<;>rfl
theorem Ie(nv at_ ns:Nat):cB nv at_ ns []=O0:=by unfold cB;rfl
theorem CS(nv at_ ns:Nat)(s:Sm)(l:List Sm):cB nv at_ ns (s::l)=J8 nv at_ ns (cS nv at_ ns s) (λnv at_ ns=>cB nv at_ ns l):=by
 (conv=>lhs;unfold cB)<;>rfl
theorem CT(x y z:l9):(x.eK y).eK z=x.eK (y.eK z):=by simp[l9.eK]
end tf
namespace tf
open Ax Go V7 jG ke
mutual
def LE:E->Prop
 |.mk k _ _ _ _ aC _ ty cH=>(ty=T0->k=7)/\(k=5\/k=9\/k=10\/k=12\/k=13->aC.length=1)/\(k=6\/14<=k->aC.length=2)/\(0<k/\k<25)/\(k=4→-1000000000<cH)/\LL aC
def LL:List E->Prop
 |[]=>True|e::l=>LE e/\LL l
end
theorem Ka(e:E):LE e↔(e.ty=T0->e.k=7)/\(e.k=5\/e.k=9\/e.k=10\/e.k=12\/e.k=13->e.aC.length=1)/\(e.k=6\/14<=e.k->e.aC.length=2)/\(0<e.k/\e.k<25)/\(e.k=4→-1000000000<e.cH)/\LL e.aC:=by
 cases e;unfold LE;exact Iff.rfl
theorem l5:∀l:List E,LL l↔∀e∈l,LE e
 |[]=>by simp[LL]|e::l=>by simp[LL,l5 l]
theorem Wm(x y:l9):(x.eK y).vs.length=x.vs.length+y.vs.length/\(x.eK y).is.length=x.is.length+y.is.length/\(x.eK y).ss.length=x.ss.length+y.ss.length:=by simp[l9.eK]
def Lo(o:l9)(n:Nat):Prop:=o.vs.length<=n/\o.is.length<=n/\o.ss.length<=n
theorem Lo.eK{x y:l9}{n m:Nat}(h:Lo x n)(g:Lo y m):Lo (x.eK y) (n+m):=by
 obtain⟨a,b,c⟩:=Wm x y;obtain⟨h1,h2,h3⟩:=h;obtain⟨g1,g2,g3⟩:=g;exact⟨by omega,by omega,by omega⟩
theorem Lo.le{x:l9}{n m:Nat}(h:Lo x n)(g:n<=m):Lo x m:=⟨by have:=h.1;omega,by have:=h.2.1;omega,by have:=h.2.2;omega⟩
theorem Ti{l:List E}(ih:∀e∈l,∀nv ns,Lo (cE nv ns e).2 (E.sz e)):∀nv ns,Lo (pE nv ns l).2 (E.cR l):=by
 induction l with
 |nil=>intro nv ns;simp[pE,O0,Lo,E.cR]|cons e l Gy=>
  intro nv ns;rw[wR];simp only[E.cR];exact(ih e List.mem_cons_self nv ns).eK (Gy (λx hx=>ih x (List.mem_cons_of_mem _ hx)) _ _)
theorem l7(e:E):∀nv ns,Lo (cE nv ns e).2 (E.sz e):=by
 induction e using E.yx with
 |_ e ih=>
  intro nv ns;have hk:=E.mz e;rw[GH];split;simp[Lo,O0];have h:=Ti ih nv ns;unfold cK;split;exact(h.eK (y:=dO _) (m:=1) (by simp[Lo,dO])).le (by omega);refine(h.eK (m:=1) ?_).le (by omega);refine⟨by simp,by simp,?_⟩;simp only;split<;>simp
theorem EJ(l:List E)(nv ns:Nat):Lo (pE nv ns l).2 (E.cR l):=Ti (λe _=>l7 e) nv ns
theorem u5{l:List E}{k:Nat}(h:k<l.length):(E.rows l)[k]?=some l[k].row:=by simp[gh,h]
theorem oY{l:List E}{k:Nat}(h:k<l.length)(h2:k<(E.rows l).length):(E.rows l)[k]=l[k].row:=by simp[gh]
theorem zL{sz:Nat}{r:List (List AV)}(h:bL sz r=true):bX sz (aA sz r)=true:=by
 cases r with
 |nil=>rfl|cons a r=>simpa [bX] using h
theorem zE{l:List E}:bX 11 (aI l)=true:=zL (by simp[bL,gh,E.az])
theorem zI{l:List Int}:bX 1 (aA 1 (bQ l))=true:=zL (by simp[bL,bQ])
mutual
def LS:Sm->Prop
 |.mk k _ _ _ es bd el _ cH=>LL es/\(k=2\/k=3\/k=5\/k=6\/k=8\/k=9->es.length=1)/\(k=4->es.length=2/\((ld es).k=5\/(ld es).k=6))/\(k=2\/k=3→-1000000000<cH)/\LB bd/\LB el
def LB:List Sm->Prop
 |[]=>True|s::l=>LS s/\LB l
end
theorem GI(s:Sm):LS s↔LL s.es/\(s.k=2\/s.k=3\/s.k=5\/s.k=6\/s.k=8\/s.k=9->s.es.length=1)/\(s.k=4->s.es.length=2/\((ld s.es).k=5\/(ld s.es).k=6))/\(s.k=2\/s.k=3→-1000000000<s.cH)/\LB s.bd/\LB s.el:=by
 cases s;unfold LS;exact Iff.rfl
theorem EK:∀l:List Sm,LB l↔∀s∈l,LS s
 |[]=>by simp[LB]|s::l=>by simp[LB,EK l]
theorem uP{es:List E}(h:es.length=1):es=[ld es]:=by
 match es,h with
 |[e],_=>rfl
theorem L2{es:List E}(h:es.length=2):es=[ld es,PK es]:=by
 match es,h with
 |[e,f],_=>rfl
theorem L3{l:List Int}(h:l.length=1):bQ l=[[.int .i64 (zf l)]]:=by
 match l,h with
 |[a],_=>rfl
theorem L4{l:List Int}(h:l.length=2):bQ l=[[.int .i64 (zf l)],[.int .i64 (Wl l)]]:=by
 match l,h with
 |[a,b],_=>rfl
theorem Tj{l:List Sm}(ih:∀s∈l,∀nv a ns,Lo (cS nv a ns s) (2*Sm.sz s)):∀nv a ns,Lo (cB nv a ns l) (2*Sm.cR l):=by
 induction l with
 |nil=>intro nv a ns;rw[Ie];simp[Lo,O0]|cons s l Gy=>
  intro nv a ns;rw[CS];unfold J8;exact((ih s List.mem_cons_self nv a ns).eK (Gy (λx hx=>ih x (List.mem_cons_of_mem _ hx)) _ _ _)).le (by simp only[Sm.cR];omega)
theorem EL{es:List E}(h:es.length≠0):E.sz (ld es)<=E.cR es:=by
 match es,h with
 |e::l,_=>simp[ld,E.cR]
theorem Tl(s:Sm):LS s->∀nv a ns,Lo (cS nv a ns s) (2*Sm.sz s):=by
 induction s using Sm.yx with
 |_ s sY k8=>
  intro hL nv a ns;rw[GI]at hL;obtain⟨h1,h2,h3,_,h5,h6⟩:=hL;rw[EK]at h5 h6;have dH:=Sm.jM s;have one:∀i,Lo (dO i) 1:=λi=>by simp[Lo,dO]
  have f:=λnv a ns=>Tj (λx hx=>sY x hx (h5 x hx)) nv a ns;have g:=λnv a ns=>Tj (λx hx=>k8 x hx (h6 x hx)) nv a ns;rw[Nz];by_cases c:s.k=2\/s.k=3;rw[if_pos c];have:=EL (es:=s.es) (by rw[h2 (by omega)];decide);exact((l7 _ _ _).eK (one _)).le (by omega);rw[if_neg c];by_cases c4:s.k=4;rw[if_pos c4];obtain⟨e,f,he⟩:∃e f,s.es=[e,f]:=⟨_,_,L2 (h3 c4).1⟩;have q1:ld s.es=e:=by rw[he];rfl
  have q2:PK s.es=f:=by rw[he];rfl
  have q3:E.cR s.es=E.sz e+E.sz f:=by rw[he];simp[E.cR]
  have q4:=E.mz e;rw[q1,q2];unfold J9;exact(((EJ _ _ _).eK (l7 _ _ _)).eK (one _)).le (by omega);rw[if_neg c4];by_cases c5:s.k=5;rw[if_pos c5];have:=EL (es:=s.es) (by rw[h2 (by omega)];decide);unfold XZ;dsimp only;obtain⟨a1,a2,a3⟩:=l7 (ld s.es) nv ns;have b1:=f (nv+(cE nv ns (ld s.es)).2.vs.length) (a+(cE nv ns (ld s.es)).2.is.length+1) (ns+(cE nv ns (ld s.es)).2.ss.length);generalize cE nv ns (ld s.es)=x at *;generalize cB (nv+x.2.vs.length) (a+x.2.is.length+1) (ns+x.2.ss.length) s.bd=y at *;have c1:=g (nv+x.2.vs.length+y.vs.length) (a+x.2.is.length+1+y.is.length+1) (ns+x.2.ss.length+y.ss.length);generalize cB (nv+x.2.vs.length+y.vs.length) (a+x.2.is.length+1+y.is.length+1) (ns+x.2.ss.length+y.ss.length) s.el=z at *;obtain⟨b1,b2,b3⟩:=b1;obtain⟨c1,c2,c3⟩:=c1;refine⟨?_,?_,?_⟩<;>simp only[List.length_append,List.length_cons]<;>omega;rw[if_neg c5];by_cases c6:s.k=6;rw[if_pos c6];have:=EL (es:=s.es) (by rw[h2 (by omega)];decide);unfold X1;dsimp only;obtain⟨a1,a2,a3⟩:=l7 (ld s.es) nv ns;have b1:=f (nv+(cE nv ns (ld s.es)).2.vs.length) (a+(cE nv ns (ld s.es)).2.is.length+1) (ns+(cE nv ns (ld s.es)).2.ss.length);generalize cE nv ns (ld s.es)=x at *;generalize cB (nv+x.2.vs.length) (a+x.2.is.length+1) (ns+x.2.ss.length) s.bd=y at *;obtain⟨b1,b2,b3⟩:=b1;refine⟨?_,?_,?_⟩<;>simp only[List.length_append,List.length_cons,List.length_nil]<;>omega;rw[if_neg c6];by_cases c7:s.k=7;rw[if_pos c7];match jR:s.es with
  |[]=>exact(one _).le (by omega)|e::l=>
   have:E.cR s.es=E.sz e+E.cR l:=by rw[jR];rfl
   exact((l7 _ _ _).eK (one _)).le (by omega)
  rw[if_neg c7];by_cases c8:s.k=8;rw[if_pos c8];have:=EL (es:=s.es) (by rw[h2 (by omega)];decide);exact((l7 _ _ _).eK (one _)).le (by omega);rw[if_neg c8];by_cases c9:s.k=9;rw[if_pos c9];have:=EL (es:=s.es) (by rw[h2 (by omega)];decide);exact(l7 _ _ _).le (by omega);rw[if_neg c9];simp[Lo,O0]
theorem Av{l:List Sm}(h:LB l)(nv a ns:Nat):Lo (cB nv a ns l) (2*Sm.cR l):=Tj (λs hs=>Tl s ((EK _).1 h s hs)) nv a ns
theorem wN{l:List Sm}{k:Nat}(h:k<l.length):(Sm.rows l)[k]?=some l[k].row:=by simp[fY,h]
theorem qJ{l:List Sm}{k:Nat}(h:k<l.length)(h2:k<(Sm.rows l).length):(Sm.rows l)[k]=l[k].row:=by simp[fY]
end tf
namespace tf
open Ax Go V7 jG ke
def u7(vs:List T3)(t:T3)(a:Int):Prop:=∃k:Nat,a=k/\vs[k]?=some t
theorem u7.eK{vs ws:List T3}{t:T3}{a:Int}(h:u7 vs t a):u7 (vs++ws) t a:=by
 obtain⟨k,h1,h2⟩:=h;exact⟨k,h1,by rw[List.getElem?_append_left (List.getElem?_eq_some_iff.1 h2).1];exact h2⟩
def Bk(vs:List T3):List Vd->List Int->Prop
 |[],[]=>True|p::ps,a::l=>u7 vs p.ty a/\Bk vs ps l|_,_=>False
theorem Bk.eK{vs ws:List T3}:∀{ps:List Vd}{l:List Int},Bk vs ps l->Bk (vs++ws) ps l
 |[],[],_=>trivial|_::_,_::_,h=>⟨h.1.eK,Bk.eK h.2⟩
 |[],_::_,h=>h.elim|_::_,[],h=>h.elim
inductive xY (H:Hd) (f:Nat) (bP:Bool) (bz:T3) (vs:List T3) (ss:List Sd) (m:Nat):In->Prop
 |c1 {a n:Int}:u7 vs tI a->xY H f bP bz vs ss m ⟨1,a,0,0,n,[]⟩
 |c1b {a n:Int}:u7 vs tB a->n=0\/n=1->xY H f bP bz vs ss m ⟨1,a,0,0,n,[]⟩
 |c2 {a:Int} {t:T3}:u7 vs t a->nK t=true->xY H f bP bz vs ss m ⟨2,a,0,0,0,[]⟩
 |c3 {a b:Int} {t:T3}:u7 vs t a->u7 vs t b->xY H f bP bz vs ss m ⟨3,a,b,0,0,[]⟩
 |c4 {a b c k:Int} {ta tb t:T3} {r:Int}:u7 vs ta b->u7 vs tb c->ke.Fv k ta tb=some (t,r)->14<=k/\k<=24->u7 vs t a->xY H f bP bz vs ss m ⟨4,a,b,c,k,[]⟩
 |c5i {a b:Int}:u7 vs tI a->u7 vs tI b->xY H f bP bz vs ss m ⟨5,a,b,0,12,[]⟩
 |c5b {a b:Int}:u7 vs tB a->u7 vs tB b->xY H f bP bz vs ss m ⟨5,a,b,0,13,[]⟩
 |c6 {a b:Int} {r j:Nat} {s:List UInt8×List Vd} {v:Vd}:u7 vs ⟨3,r,0⟩ b->H.bK[r]?=some s->s.2[j]?=some v->u7 vs v.ty a->xY H f bP bz vs ss m ⟨6,a,b,j,0,[]⟩
 |c7 {a b:Int} {r j:Nat} {s:List UInt8×List Vd} {v:Vd}:u7 vs ⟨3,r,0⟩ a->H.bK[r]?=some s->s.2[j]?=some v->u7 vs v.ty b->xY H f bP bz vs ss m ⟨7,a,b,j,0,[]⟩
 |c8 {a b c:Int} {t:T3}:u7 vs t b->0<t.d->u7 vs ⟨t.b,t.r,t.d-1⟩ a->u7 vs tI c->xY H f bP bz vs ss m ⟨8,a,b,c,0,[]⟩
 |c9 {a b c:Int} {t:T3}:u7 vs t a->0<t.d->u7 vs ⟨t.b,t.r,t.d-1⟩ c->u7 vs tI b->xY H f bP bz vs ss m ⟨9,a,b,c,0,[]⟩
 |HT {a b:Int} {t:T3}:u7 vs tI a->u7 vs t b->0<t.d->xY H f bP bz vs ss m ⟨10,a,b,0,0,[]⟩
 |O6 {a:Int} {n:Nat} {t:T3}:u7 vs t a->t.b=3->t.d=0->ss[n]?=some ⟨f,t⟩->xY H f bP bz vs ss m ⟨11,a,0,0,n,[]⟩
 |HU {a b:Int} {n:Nat} {t:T3}:u7 vs t a->0<t.d->ss[n]?=some ⟨f,t⟩->u7 vs tI b->xY H f bP bz vs ss m ⟨12,a,b,0,n,[]⟩
 |Kv {a:Int} {j:Nat} {s:Sg} {l:List Int}:H.sigs[j]?=some s->Bk vs s.ps l->(a = -1\/s.bP=true/\u7 vs s.bz a)->xY H f bP bz vs ss m ⟨13,a,0,j,0,l⟩
 |c14 {a:Int}:u7 vs tI a->xY H f bP bz vs ss m ⟨14,a,0,0,0,[]⟩
 |c15 {a:Int}:u7 vs tI a->xY H f bP bz vs ss m ⟨15,a,0,0,0,[]⟩
 |c16 {n:Nat}:n<=m->xY H f bP bz vs ss m ⟨16,0,0,0,n,[]⟩
 |c17 {a:Int} {n c:Nat}:u7 vs tB a->n<=m->c<=m->xY H f bP bz vs ss m ⟨17,a,0,c,n,[]⟩
 |c18 {a:Int}:(if bP=true then u7 vs bz a else a = -1)->xY H f bP bz vs ss m ⟨18,a,0,0,0,[]⟩
 |c19 {a:Int} {j:Nat} {v:Vd}:H.globals[j]?=some v->u7 vs v.ty a->xY H f bP bz vs ss m ⟨19,a,0,0,j,[]⟩
 |c20 {a:Int} {j:Nat} {v:Vd}:H.globals[j]?=some v->u7 vs v.ty a->xY H f bP bz vs ss m ⟨20,a,0,0,j,[]⟩
variable {H:Hd}{f:Nat}{bP:Bool}{bz:T3}
theorem CU{α:Type}{l r:List α}{k:Nat}{x:α}(h:l[k]?=some x):(l++r)[k]?=some x:=by
 rw[List.getElem?_append_left (List.getElem?_eq_some_iff.1 h).1];exact h
theorem xY.mono{vs ws:List T3}{ss ts:List Sd}{m m':Nat}{i:In}(h:xY H f bP bz vs ss m i)(hm:m<=m'):xY H f bP bz (vs++ws) (ss++ts) m' i:=by
 cases h with
 |c1 a=>exact .c1 a.eK|c1b a b=>exact .c1b a.eK b|c2 a b=>exact .c2 a.eK b|c3 a b=>exact .c3 a.eK b.eK|c4 a b c d e=>exact .c4 a.eK b.eK c d e.eK|c5i a b=>exact .c5i a.eK b.eK|c5b a b=>exact .c5b a.eK b.eK|c6 a b c d=>exact .c6 a.eK b c d.eK|c7 a b c d=>exact .c7 a.eK b c d.eK|c8 a b c d=>exact .c8 a.eK b c.eK d.eK|c9 a b c d=>exact .c9 a.eK b c.eK d.eK|HT a b c=>exact .HT a.eK b.eK c|O6 a b c d=>exact .O6 a.eK b c (CU d)|HU a b c d=>exact .HU a.eK b (CU c) d.eK|Kv a b c=>exact .Kv a b.eK (c.imp id λh=>⟨h.1,h.2.eK⟩)|c14 a=>exact .c14 a.eK|c15 a=>exact .c15 a.eK|c16 a=>exact .c16 (by omega)|c17 a b c=>exact .c17 a.eK (by omega) (by omega)|c18 a=>
  refine .c18 ?_;split;rename_i q;rw[if_pos q]at a;exact a.eK;rename_i q;rw[if_neg q]at a;exact a
 |c19 a b=>exact .c19 a b.eK|c20 a b=>exact .c20 a b.eK
def Pre(V:List Vd)(vs:List T3):Prop:=∀(k:Nat)(v:Vd),V[k]?=some v->vs[k]?=some v.ty
theorem Pre.eK{V:List Vd}{vs ws:List T3}(h:Pre V vs):Pre V (vs++ws):=λk v hk=>CU (h k v hk)
structure PL (H:Hd)(f:Nat)(bP:Bool)(bz:T3)(vs:List T3)(ss:List Sd)(m:Nat)(o:l9):Prop where
 is:∀i∈o.is,xY H f bP bz (vs++o.vs) (ss++o.ss.map (Sd.mk f)) m i
theorem PL.nil{vs:List T3}{ss:List Sd}{m:Nat}:PL H f bP bz vs ss m O0:=⟨by simp[O0]⟩
theorem PL.eK{vs:List T3}{ss:List Sd}{m m1 m2:Nat}{x y:l9}(h:PL H f bP bz vs ss m1 x)(k:PL H f bP bz (vs++x.vs) (ss++x.ss.map (Sd.mk f)) m2 y)(h1:m1<=m)(h2:m2<=m):PL H f bP bz vs ss m (x.eK y):=by
 refine⟨λi hi=>?_⟩;simp only[l9.eK,List.map_append,<-List.append_assoc];rcases List.mem_append.1 hi with hi|hi;exact(h.is i hi).mono h1;have:=(k.is i hi).mono (ws:=[]) (ts:=[]) h2;simpa using this
theorem PL.ins{vs:List T3}{ss:List Sd}{m:Nat}{i:In}(h:xY H f bP bz vs ss m i):PL H f bP bz vs ss m (dO i):=by
 refine⟨λj hj=>?_⟩;simp only[dO,List.mem_singleton]at hj;subst hj;simpa [dO] using h
theorem rR{s:List UInt8}:∀{l:List Vd}{i k:Nat}{t:T3},eJ s i l=some (k,t)->i<=k/\∃v,l[k-i]?=some v/\v.ty=t
 |[],_,_,_,h=>by cases h|f::l,i,k,t,h=>by
  unfold eJ at h;split at h;cases h;exact⟨Nat.le_refl _,f,by simp,rfl⟩;obtain⟨h1,v,h2,h3⟩:=rR h;have e:k-i=(k-(i+1))+1:=by omega
  exact⟨by omega,v,by rw[e,List.getElem?_cons_succ];exact h2,h3⟩
theorem GJ{s:List UInt8}:∀{l:List Sg}{i k:Nat}{t:Sg},mH s i l=some (k,t)->i<=k/\l[k-i]?=some t
 |[],_,_,_,h=>by cases h|g::l,i,k,t,h=>by
  unfold mH at h;split at h;cases h;exact⟨Nat.le_refl _,by simp⟩;obtain⟨h1,h2⟩:=GJ h;have e:k-i=(k-(i+1))+1:=by omega
  exact⟨by omega,by rw[e,List.getElem?_cons_succ];exact h2⟩
end tf
namespace tf
open Ax Go V7 jG ke
variable {H:Hd}{f:Nat}{bP:Bool}{bz:T3}{V:List Vd}
def BT(t:T3):Prop:=1<=t.b/\t.b<=3
theorem BT.ne{t:T3}(h:BT t):t≠T0:=λe=>by rw[e]at h;exact absurd h.1 (by decide)
structure Hd.gd (H:Hd):Prop where
 bK:∀s∈H.bK,∀f∈s.2,BT f.ty
 globals:∀f∈H.globals,BT f.ty
 ps:∀s∈H.sigs,∀f∈s.ps,BT f.ty
 bz:∀s∈H.sigs,s.bz≠T0->BT s.bz/\s.bP=true
theorem xN{l:List (List UInt8)}{s:List UInt8}{d:Int}(h:(bZ l s d).2=true):BT (bZ l s d).1:=by
 unfold bZ at h ⊢;split;rename_i c;rw[if_pos c]at h;cases h;rename_i c;rw[if_neg c]at h;split;exact⟨by show (1:Int)<=1;decide,by show (1:Int)<=3;decide⟩;rename_i c2;rw[if_neg c2]at h;split;exact⟨by show (1:Int)<=2;decide,by show (2:Int)<=3;decide⟩;rename_i c3;rw[if_neg c3]at h;split;rename_i c4;rw[if_pos c4]at h;cases h;exact⟨by show (1:Int)<=3;decide,by show (3:Int)<=3;decide⟩
theorem jD{b:Bool}{t u:T3}{r:Int}(h:Cp b t=some (u,r)):b=true/\u=t/\r=0:=by
 unfold Cp at h;cases b with
 |false=>cases h|true=>cases h;exact⟨rfl,rfl,rfl⟩
theorem mem_of{α:Type}{l:List α}{k:Nat}{x:α}(h:l[k]?=some x):x∈l:=List.mem_of_getElem? h
theorem aju{ks:List E}(h:ks.length=2):∃a b,ks=[a,b]:=by
 match ks,h with
 |[a,b],_=>exact⟨a,b,rfl⟩
theorem aaK(hG:Hd.gd H)(hV:∀v∈V,BT v.ty){k n:Int}{nm on:List UInt8}{od:Int}{ks:List E}{t:T3}{r:Int}(hk:gq k n ks.length=true)(nk:∀e∈ks,BT e.ty)(h:lV H V k nm on od ks=some (t,r)):(t=T0->k=7)/\(t≠T0->BT t):=by
 have bI:BT tI:=⟨by decide,by decide⟩;have bB:BT tB:=⟨by decide,by decide⟩;have of:BT t->(t=T0->k=7)/\(t≠T0->BT t):=λh=>⟨λe=>absurd e h.ne,λ_=>h⟩;unfold lV at h;by_cases c1:k=1\/k=11;rw[if_pos c1]at h;cases h;exact of bI;rw[if_neg c1]at h;by_cases c2:k=2;rw[if_pos c2]at h;cases h;exact of bB;rw[if_neg c2]at h;by_cases c3:k=3;rw[if_pos c3]at h;obtain⟨h1,rfl,_⟩:=jD h;rw[Bool.and_eq_true]at h1;exact of (xN h1.1);rw[if_neg c3]at h;by_cases c4:k=4;rw[if_pos c4]at h;unfold rZ at h;split at h;rename_i j u e;cases h;obtain⟨_,v,h1,h2⟩:=rR e;exact of (h2 ▸ hV v (mem_of h1));split at h;rename_i j u e;cases h;obtain⟨_,v,h1,h2⟩:=rR e;exact of (h2 ▸ hG.globals v (mem_of h1));cases h;rw[if_neg c4]at h;by_cases c5:k=5;rw[if_pos c5]at h;unfold wE at h;split at h;split at h;rename_i s hs;split at h;rename_i i u e;cases h;obtain⟨_,v,h1,h2⟩:=rR e;exact of (h2 ▸ hG.bK s (mem_of hs) v (mem_of h1));cases h;cases h;cases h;rw[if_neg c5]at h;by_cases c6:k=6;rw[if_pos c6]at h;obtain⟨h1,rfl,_⟩:=jD h;have hl:ks.length=2:=by
  unfold gq at hk;rw[if_neg (by omega),if_neg (by omega),if_neg (by omega),if_neg (by omega)]at hk;simp only[Bool.and_eq_true,decide_eq_true_eq]at hk;exact hk.2
 obtain⟨a,b,rfl⟩:=aju hl;exact of (nk a (by simp));rw[if_neg c6]at h;by_cases c7:k=7;rw[if_pos c7]at h;refine⟨λ_=>c7,λjn=>?_⟩;unfold oD at h;split at h;rename_i i s hs;split at h;cases h;obtain⟨_,h2⟩:=GJ hs;exact(hG.bz s (mem_of h2) jn).1;cases h;cases h;rw[if_neg c7]at h;by_cases c8:k=8;rw[if_pos c8]at h;obtain⟨h1,rfl,_⟩:=jD h;simp only[Bool.and_eq_true]at h1;exact of (xN h1.1.1);rw[if_neg c8]at h;by_cases c9:k=9;rw[if_pos c9]at h;obtain⟨h1,rfl,_⟩:=jD h;simp only[Bool.and_eq_true]at h1;exact of (xN h1.1.1);rw[if_neg c9]at h;by_cases HT:k=10;rw[if_pos HT]at h;obtain⟨_,rfl,_⟩:=jD h;exact of bI;rw[if_neg HT]at h;by_cases HU:k=12;rw[if_pos HU]at h;obtain⟨_,rfl,_⟩:=jD h;exact of bI;rw[if_neg HU]at h;by_cases Kv:k=13;rw[if_pos Kv]at h;obtain⟨_,rfl,_⟩:=jD h;exact of bB;rw[if_neg Kv]at h;unfold ke.Fv at h;split at h;obtain⟨_,rfl,_⟩:=jD h;exact of bI;split at h;obtain⟨_,rfl,_⟩:=jD h;exact of bB;split at h;obtain⟨_,rfl,_⟩:=jD h;exact of bB;obtain⟨_,rfl,_⟩:=jD h;exact of bB
theorem Tm:∀{l ys:List E},kN H V l=.ok ys->∀y∈ys,y.ty≠T0
 |[],ys,h=>by unfold kN at h;cases h;simp|e::l,ys,h=>by
  obtain⟨y,zs,_,h1,h2,rfl⟩:=mP h;intro z hz;rcases List.mem_cons.1 hz with rfl|hz;exact h1;exact Tm h2 z hz
theorem aaL(hG:Hd.gd H)(hV:∀v∈V,BT v.ty)(e:E):∀y,xE H V e=.ok y->(y.ty=T0->y.k=7)/\(y.ty≠T0->BT y.ty):=by
 induction e using E.yx with
 |_ e ih=>
  intro y h;obtain⟨ks,t,r,h1,h2,h3,rfl⟩:=yU h;have hb:=qE h2 ih;have hn:=Tm h2;exact aaK hG hV (by rw[nY h2];exact h1) (λe he=>(hb e he).2 (hn e he)) h3
theorem oA{l:List Int}{n:Nat}(h:l.length=n+1):l[0]?=some (zf l):=by
 match l,h with
 |a::_,_=>rfl
theorem L5{l:List Int}{n:Nat}(h:l.length=n+2):l[1]?=some (Wl l):=by
 match l,h with
 |_::a::_,_=>rfl
end tf
namespace tf
open Ax Go V7 jG ke
variable {H:Hd}{f:Nat}{bP:Bool}{bz:T3}{V X:List Vd}
theorem NA{k:Int}{nm:List UInt8}{es:List E}{t:T3}{r:Int}{W:List Vd}(h:j6 H bz V k nm es t=some (r,W)):∃l,W=V++l/\∀v∈l,v.ty=t/\(k=1\/k=2):=by
 have nil:∀{W:List Vd},W=V->∃l,W=V++l/\∀v∈l,v.ty=t/\(k=1\/k=2):=λe=>⟨[],by simp[e],by simp⟩;unfold j6 at h;split at h;rename_i c;split at h;cases h;cases h;exact⟨_,rfl,by simp[c]⟩;split at h;rename_i c;split at h;split at h;cases h;cases h;exact⟨_,rfl,by simp[c]⟩;cases h;split at h;split at h;split at h;cases h;exact nil rfl;cases h;cases h;split at h;split at h;cases h;exact nil rfl;cases h;split at h;split at h;cases h;exact nil rfl;cases h;split at h;split at h;cases h;exact nil rfl;cases h;split at h;split at h;cases h;exact nil rfl;cases h;cases h;exact nil rfl
def Gv(H:Hd)(V:List Vd):Prop:=∀v∈V,WT H.rs.length v.ty/\BT v.ty
theorem Wn{k:Int}{on:List UInt8}{od:Int}{t:T3}(h:kT H k on od=some t)(hk:k=1\/k=2):WT H.rs.length t/\BT t:=by
 unfold kT at h;rw[if_pos hk]at h;split at h;rename_i c;cases h;exact⟨mY _ _ _,xN c⟩;cases h
theorem Tn{k:Int}{nm on:List UInt8}{od:Int}{es:List E}{t:T3}{r:Int}{W:List Vd}(hd:kT H k on od=some t)(h:j6 H bz V k nm es t=some (r,W))(hV:Gv H V):Gv H W:=by
 obtain⟨l,rfl,h1⟩:=NA h;intro v hv;rcases List.mem_append.1 hv with hv|hv;exact hV v hv;obtain⟨e,hk⟩:=h1 v hv;rw[e];exact Wn hd hk
def O7(V X:List Vd):Prop:=∃l,X=V++l
theorem O7.rfl':O7 V V:=⟨[],by simp⟩
theorem O7.trans{A B C:List Vd}(h:O7 A B)(k:O7 B C):O7 A C:=by
 obtain⟨l,rfl⟩:=h;obtain⟨m,rfl⟩:=k;exact⟨l++m,by simp⟩
theorem O7.pre{A B:List Vd}{vs:List T3}(h:O7 A B)(hp:Pre B vs):Pre A vs:=by
 obtain⟨l,rfl⟩:=h;exact λk v hk=>hp k v (CU hk)
theorem wS:∀{l ys:List Sm}{V X:List Vd},(∀s∈l,∀V y W,xW H bP bz V s=.ok (y,W)->Gv H V->O7 V W/\Gv H W)->kj H bP bz V l=.ok (ys,X)->Gv H V->O7 V X/\Gv H X
 |[],ys,V,X,_,h,hV=>by
  unfold kj at h;cases h;exact⟨.rfl',hV⟩
 |s::l,ys,V,X,hp,h,hV=>by
  obtain⟨y,W,zs,h1,h2,rfl⟩:=wF h;obtain⟨a,b⟩:=hp s List.mem_cons_self V y W h1 hV;obtain⟨c,d⟩:=wS (λt ht=>hp t (List.mem_cons_of_mem _ ht)) h2 b;exact⟨a.trans c,d⟩
theorem NB(s:Sm):∀V y W,xW H bP bz V s=.ok (y,W)->Gv H V->O7 V W/\Gv H W:=by
 induction s using Sm.yx with
 |_ s sY k8=>
  intro V y X h hV;obtain⟨t,ys,r,W,hf,ht,rL,cL,hh⟩:=Eg h;obtain⟨l,e,_⟩:=NA cL;have h1:O7 V W:=⟨l,e⟩;have h2:=Tn ht cL hV;rcases hh with⟨_,b,W1,c,hb,hc,rfl⟩|⟨_,b,hb,rfl⟩|⟨_,_,rfl,rfl⟩;obtain⟨a1,a2⟩:=wS sY hb h2;obtain⟨b1,b2⟩:=wS k8 hc a2;exact⟨h1.trans (a1.trans b1),b2⟩;obtain⟨a1,a2⟩:=wS sY hb h2;exact⟨h1.trans a1,a2⟩;exact⟨h1,h2⟩
theorem Wo{l ys:List Sm}{V X:List Vd}(h:kj H bP bz V l=.ok (ys,X))(hV:Gv H V):O7 V X/\Gv H X:=wS (λs _=>NB s) h hV
def FS(H:Hd)(f:Nat)(bP:Bool)(bz:T3)(X:List Vd)(y:Sm):Prop:=∀(vs:List T3)(ss:List Sd)(at_:Nat),Pre X vs->PL H f bP bz vs ss (at_+(cS vs.length at_ ss.length y).is.length) (cS vs.length at_ ss.length y)
theorem PL.nH{vs:List T3}{ss:List Sd}{m m':Nat}{o:l9}(h:PL H f bP bz vs ss m o)(hm:m<=m'):PL H f bP bz vs ss m' o:=⟨λi hi=>by
 have:=(h.is i hi).mono (ws:=[]) (ts:=[]) hm;simpa using this⟩
end tf
namespace tf
open Ax Go V7 jG ke
variable {H:Hd}{f:Nat}{bP:Bool}{bz:T3}{V X:List Vd}
structure MT (H:Hd)(t:T3):Prop where
 wt:WT H.rs.length t
 bt:BT t
 rt:t.b≠3->t.r=0
def RT(t:T3):Prop:=t.b≠3->t.r=0
structure Hd.rt (H:Hd):Prop where
 bK:∀s∈H.bK,∀f∈s.2,RT f.ty
 globals:∀f∈H.globals,RT f.ty
 ps:∀s∈H.sigs,∀f∈s.ps,RT f.ty
 bz:∀s∈H.sigs,RT s.bz
theorem NC{l:List (List UInt8)}{s:List UInt8}{d:Int}:RT (bZ l s d).1:=by
 unfold bZ RT;split;intro _;rfl;split;intro _;rfl;split;intro _;rfl;split;intro _;rfl;intro h;exact absurd rfl h
structure EM (H:Hd)(o:l9):Prop where
 vs:∀t∈o.vs,MT H t
 ss:∀t∈o.ss,MT H t/\nK t=true
theorem EM.nil:EM H O0:=⟨by simp[O0],by simp[O0]⟩
theorem EM.eK{x y:l9}(h:EM H x)(k:EM H y):EM H (x.eK y):=by
 refine⟨λt ht=>?_,λt ht=>?_⟩;rcases List.mem_append.1 ht with ht|ht;exact h.vs t ht;exact k.vs t ht;rcases List.mem_append.1 ht with ht|ht;exact h.ss t ht;exact k.ss t ht
theorem EM.ins{i:In}:EM H (dO i):=⟨by simp[dO],by simp[dO]⟩
def Mv(H:Hd)(V:List Vd):Prop:=∀v∈V,MT H v.ty
theorem EM.of{x:l9}(h:EM H x)(l:List In):EM H ⟨x.vs,l,x.ss⟩:=⟨h.vs,h.ss⟩
end tf
namespace tf
open Ax Go V7 jG ke
variable {H:Hd}{f:Nat}{bP:Bool}{bz:T3}{V X:List Vd}
structure Hd.ajv (H:Hd):Prop where
 ok:H.ok
 gd:Hd.gd H
 rt:Hd.rt H
 yes:∀s∈H.sigs,s.bP=true->MT H s.bz
 no:∀s∈H.sigs,s.bP=false->s.bz=T0
 bK:∀s∈H.bK,s.2.length<=8
 pn:∀s∈H.sigs,s.ps.length<=6
 nr:H.bK.length<=12
 ng:H.globals.length<=8
 nf:H.sigs.length<=16
structure ND (H:Hd)(f:Nat)(s:Sg)(ss:List Sd)(c:Cd):Prop where
 params:c.params=s.ps.length
 bP:c.bP=s.bP
 bz:c.bz=s.bz
 pre:Pre s.ps c.vars
 vt:∀t∈c.vars,MT H t
 nv:c.vars.length<=4000
 FJ:∀i∈c.is,xY H f s.bP s.bz c.vars ss (c.is.length-1) i
 ajw:∃i,c.is.getLast? = some i/\i.op=18
theorem ND.nH{s:Sg}{ss ts:List Sd}{c:Cd}(h:ND H f s ss c):ND H f s (ss++ts) c:=
 ⟨h.params,h.bP,h.bz,h.pre,h.vt,h.nv,λi hi=>by
  have:=(h.FJ i hi).mono (ws:=[]) (ts:=ts) (Nat.le_refl _);simpa using this,h.ajw⟩
structure Made (H:Hd)(cs:List Cd)(ss:List Sd)(all:Nat):Prop where
 code:∀(j:Nat) (c:Cd),cs[j]?=some c->∃s,H.sigs[j]?=some s/\ND H j s ss c
 O5:∀s∈ss,MT H s.ty/\nK s.ty=true/\s.fn<cs.length
 ns:ss.length<=60
 sum:(cs.map (·.is.length)).sum=all
 few:all<=2500
end tf
namespace tf
open Ax Go V7 jG ke
variable {H:Hd}{V:List Vd}{bP:Bool}{bz:T3}
theorem To{k n:Int}{m:Nat}(h:gq k n m=true):(k=5\/k=9\/k=10\/k=12\/k=13->m=1)/\(k=6\/14<=k->m=2)/\(0<k/\k<25):=by
 unfold gq at h;split at h;rename_i c;exact⟨λq=>by omega,λq=>by omega,by omega⟩;split at h;rename_i c;exact⟨λq=>by omega,λq=>by omega,by omega⟩;split at h;rename_i c;exact⟨λq=>by omega,λq=>by omega,by omega⟩;split at h;rename_i c1 c2 c3 c;have hm:m=1:=by simpa using h
 exact⟨λ_=>hm,λq=>by omega,by omega⟩;rename_i c1 c2 c3 c;simp only[Bool.and_eq_true,Bool.or_eq_true,decide_eq_true_eq]at h;exact⟨λq=>by omega,λq=>h.2,by omega⟩
theorem Ad:∀{l:List Vd}{s:List UInt8}{i k:Nat}{t:T3},eJ s i l=some (k,t)->k<i+l.length
 |[],_,_,_,_,h=>by cases h|f::l,s,i,k,t,h=>by
  unfold eJ at h;split at h;cases h;simp;have:=Ad h;simp only[List.length_cons];omega
theorem NF{s:List UInt8}{t:T3}{r:Int}(hg:H.globals.length<100000000)(h:rZ H V s=some (t,r)) : -1000000000<r:=by
 unfold rZ at h;split at h;cases h;omega;split at h;rename_i k t' hk;cases h;have:=Ad hk;omega;cases h
theorem aaM(hG:Hd.gd H)(hg:H.globals.length<100000000)(hV:∀v∈V,BT v.ty)(e:E):∀y,xE H V e=.ok y->LE y:=by
 induction e using E.yx with
 |_ e ih=>
  intro y h;have hbt:=(aaL hG hV e y h).1;obtain⟨ks,t,r,h1,h2,h3,rfl⟩:=yU h;have hl:=nY h2;rw[<-hl]at h1;obtain⟨a,b,c⟩:=To h1;rw[Ka];refine⟨hbt,a,b,c,λk4=>?_,(l5 _).2 (qE h2 ih)⟩;have k4:e.k=4:=k4;unfold lV at h3;rw[if_neg (by omega),if_neg (by omega),if_neg (by omega),if_pos k4]at h3;exact NF hg h3
theorem Wp{k:Int}{es ys:List E}{P:E->Prop}(h:tg H V k es=.ok ys)(hp:∀e∈es,∀y,xE H V e=.ok y->P y):∀y∈ys,P y:=by
 unfold tg at h;by_cases h9:k=9;rw[if_pos h9]at h;match es,h,hp with
 |[],h,_=>cases h;simp|e::l,h,hp=>
  cases hx:xE H V e with
  |error a=>simp only[hx]at h;cases h|ok y=>
   simp only[hx]at h;cases h;intro z hz;rw[List.mem_singleton.1 hz];exact hp e List.mem_cons_self y hx
 rw[if_neg h9]at h;exact qE h hp
theorem Aw:∀{l ys:List Sm}{V X:List Vd},(∀s∈l,∀V y W,xW H bP bz V s=.ok (y,W)->Gv H V->LS y)->kj H bP bz V l=.ok (ys,X)->Gv H V->LB ys
 |[],ys,V,X,_,h,_=>by
  unfold kj at h;cases h;simp[LB]
 |s::l,ys,V,X,hp,h,hV=>by
  obtain⟨y,W,zs,h1,h2,rfl⟩:=wF h;unfold LB;exact⟨hp s List.mem_cons_self V y W h1 hV,Aw (λt ht=>hp t (List.mem_cons_of_mem _ ht)) h2 (NB s V y W h1 hV).2⟩
theorem Tp{k:Int}{es:List E}(h:cJ bP k es=true):(k=2\/k=3\/k=5\/k=6\/k=8\/k=9->es.length=1)/\(k=4->es.length=2/\((ld es).k=5\/(ld es).k=6)):=by
 unfold cJ at h;split at h;exact⟨λq=>by omega,λq=>by omega⟩;split at h;rename_i c;refine⟨λq=>by omega,λ_=>?_⟩;match es,h with
 |[e,f],h=>exact⟨rfl,by simpa [ld] using h⟩
 split at h;exact⟨λq=>by omega,λq=>by omega⟩;split at h;refine⟨λ_=>?_,λq=>by omega⟩;match es,h with
 |[e],_=>rfl
 split at h;rename_i c1 c2 c3 c4 c;exact⟨λ_=>by simpa using h,λq=>absurd q c2⟩;cases h
theorem aaN(hG:Hd.gd H)(hg:H.globals.length<100000000)(s:Sm):∀V y W,xW H bP bz V s=.ok (y,W)->Gv H V->LS y:=by
 induction s using Sm.yx with
 |_ s sY k8=>
  intro V y X h hV;obtain⟨t,ys,r,W,hf,ht,rL,cL,hh⟩:=Eg h;have hW:=Tn ht cL hV;have a1:LL ys:=(l5 _).2 (Wp rL λe _ y hy=>aaM hG hg (λv hv=>(hV v hv).2) e y hy);obtain⟨a2,a3⟩:=Tp (SG rL hf);have a4:s.k=2\/s.k=3→-1000000000<r:=λq=>by
   unfold j6 at cL;rw[if_neg (by omega)]at cL;by_cases c2:s.k=2;rw[if_pos c2]at cL;split at cL;split at cL;cases cL;cases cL;omega;cases cL;rw[if_neg c2,if_pos (by omega)]at cL;split at cL;rename_i u r' hv;split at cL;cases cL;exact NF hg hv;cases cL;cases cL
  rcases hh with⟨_,b,W1,c,hb,hc,rfl⟩|⟨_,b,hb,rfl⟩|⟨_,_,rfl,rfl⟩;rw[GI];exact⟨a1,a2,a3,a4,Aw sY hb hW,Aw k8 hc (Wo hb hW).2⟩;rw[GI];exact⟨a1,a2,a3,a4,Aw sY hb hW,by simp[Sm.el,LB]⟩;rw[GI];exact⟨a1,a2,a3,a4,by simp[Sm.bd,LB],by simp[Sm.el,LB]⟩
theorem L6(hG:Hd.gd H)(hg:H.globals.length<100000000):∀{ss:List Sg}{fs:List Fc}{bs:List Bd},(∀s∈ss,Gv H s.ps)->qk H ss fs=.ok bs->∀b∈bs,LB b.code
 |[],fs,bs,_,h=>by unfold qk at h;cases h;simp|_::_,[],bs,_,h=>by unfold qk at h;cases h;simp|s::ss,f::fs,bs,hs,h=>by
  unfold qk at h;split at h;cases h;rename_i c W hb;split at h;cases h;rename_i l hl;cases h;intro b hbm;rcases List.mem_cons.1 hbm with rfl|hbm;exact Aw (λs _=>aaN hG hg s) hb (hs s List.mem_cons_self);exact L6 hG hg (λs h=>hs s (List.mem_cons_of_mem _ h)) hl b hbm
end tf
namespace tf
open Ax Go bu V7 jG ke K9 N7 U7
theorem uR{a b:Option Int}(h:wu a b=none):a=none/\b=none:=by
 cases a with
 |none=>exact⟨rfl,h⟩|some x=>cases h
theorem B6{α:Type}{vC:List α->α->Option Int}{l:List α}:∀{m:Nat},cI vC l m=none->∀k (h:k<l.length),k<m->vC (l.take k) l[k]=none
 |0,_,k,_,hk=>absurd hk (by omega)|m+1,h,k,hl,hk=>by
  obtain⟨h1,h2⟩:=uR h;by_cases e:k=m;subst e;rw[List.getElem?_eq_getElem hl]at h2;exact h2;exact B6 h1 k hl (by omega)
theorem Bm{α:Type}{vC:List α->α->Option Int}{l:List α}(h:cI vC l l.length=none):∀x∈l,∃b,vC b x=none:=λx hx=>by
 obtain⟨k,hk,rfl⟩:=List.getElem_of_mem hx;exact⟨_,B6 h k hk hk⟩
theorem L7{rs:List (List UInt8)}{l:List PD}(h:cI (nU rs) l l.length=none):∀v∈kS rs l,BT v.ty/\RT v.ty:=by
 intro v hv;obtain⟨q,hq,rfl⟩:=List.mem_map.1 hv;obtain⟨b,h1⟩:=Bm h q hq;unfold nU at h1;split at h1;cases h1;rename_i c;simp only[Bool.or_eq_true,Bool.not_eq_true',not_or,Bool.not_eq_false]at c;exact⟨xN c.2,NC⟩
structure Few (p:Pg):Prop where
 r:p.aS.length<=12
 g:p.globals.length<=8
 f:p.funcs.length<=16
 fl:∀x∈p.aS,x.cQ.length<=8
 ps:∀x∈p.funcs,x.params.length<=6
theorem NG{p:Pg}(h:iS (iY p)=none)(hf:Few p):Hd.ajv (aG p):=by
 have Gc:=J5 p;have h3:lY (iY p)=none:=by
  unfold iS at h;split at h;exact(uR h).1;exact h
 unfold lY at h3;obtain⟨h4,hS⟩:=uR h3;obtain⟨h5,hP⟩:=uR h4;obtain⟨h6,hFl⟩:=uR h5;rw[Ar]at hS hP hFl;rw[mZ]at hS;rw[Et]at hP;rw[og]at hFl;have hg:=L7 hP;have hr:∀x∈p.aS,∀v∈kS (cx p) x.cQ,BT v.ty/\RT v.ty:=λx hx=>by
  obtain⟨b,h1⟩:=Bm hFl (Fx x) (List.mem_map_of_mem hx);unfold yX at h1;rw[show (Fx x).cQ=aA 4 (x.cQ.map PD.cells) from rfl,oe]at h1;exact L7 h1
 have hs:∀x∈p.funcs,(∀v∈kS (cx p) x.params,BT v.ty/\RT v.ty)/\(x.bP=true->(bZ (cx p) x.on x.od).2=true):=λx hx=>by
  obtain⟨b,h1⟩:=Bm hS (Cs x) (List.mem_map_of_mem hx);unfold xX at h1;obtain⟨h2,h7⟩:=uR h1;have h8:=(uR h2).2;rw[show (Cs x).params=aA 4 (x.params.map PD.cells) from rfl,oe]at h8;refine⟨L7 h8,λhh=>?_⟩;unfold yY at h7;split at h7;cases h7;rename_i c;show (bZ (cx p) (Cs x).on (Cs x).od).2=true;have hh':(Cs x).bP=true:=hh;rw[hh']at c;simpa using c
 have aaO:∀x∈p.funcs,(wD (cx p) x).bP=true->MT (aG p) (wD (cx p) x).bz:=λx hx hh=>by
  have hh:x.bP=true:=hh;have e:(wD (cx p) x).bz=(bZ (cx p) x.on x.od).1:=by
   show (if x.bP then _ else T0)=_;rw[if_pos hh]
  rw[e];exact⟨mY _ _ _,xN ((hs x hx).2 hh),NC⟩
 have Tq:∀x∈p.funcs,(wD (cx p) x).bP=false->(wD (cx p) x).bz=T0:=λx hx hh=>by
  have hh:x.bP=false:=hh;show (if x.bP then _ else T0)=_;rw[hh];rfl
 refine⟨Gc,⟨?_,?_,?_,?_⟩,⟨?_,?_,?_,?_⟩,?_,?_,?_,?_,?_,?_,?_⟩;intro s pg v hv;obtain⟨x,hx,rfl⟩:=List.mem_map.1 pg;exact(hr x hx v hv).1;exact λv hv=>(hg v hv).1;intro s pg v hv;obtain⟨x,hx,rfl⟩:=List.mem_map.1 pg;exact((hs x hx).1 v hv).1;intro s pg jn;obtain⟨x,hx,rfl⟩:=List.mem_map.1 pg;cases hh:(wD (cx p) x).bP with
 |true=>exact⟨(aaO x hx hh).bt,rfl⟩|false=>exact absurd (Tq x hx hh) jn
 intro s pg v hv;obtain⟨x,hx,rfl⟩:=List.mem_map.1 pg;exact(hr x hx v hv).2;exact λv hv=>(hg v hv).2;intro s pg v hv;obtain⟨x,hx,rfl⟩:=List.mem_map.1 pg;exact((hs x hx).1 v hv).2;intro s pg;obtain⟨x,hx,rfl⟩:=List.mem_map.1 pg;cases hh:(wD (cx p) x).bP with
 |true=>exact(aaO x hx hh).rt|false=>rw[Tq x hx hh];intro _;rfl
 intro s pg hh;obtain⟨x,hx,rfl⟩:=List.mem_map.1 pg;exact aaO x hx hh;intro s pg hh;obtain⟨x,hx,rfl⟩:=List.mem_map.1 pg;exact Tq x hx hh;intro s pg;obtain⟨x,hx,rfl⟩:=List.mem_map.1 pg;have:=hf.fl x hx;simpa [kS] using this;intro s pg;obtain⟨x,hx,rfl⟩:=List.mem_map.1 pg;have:=hf.ps x hx;simpa [wD,kS] using this;have:=hf.r;simpa [aG] using this;have:=hf.g;simpa [aG,kS] using this;have:=hf.f;simpa [aG] using this
end tf
namespace pX
open Ax Go bu V7 jG ke K9 S9 N7 U7
theorem Kb(s:List UInt8):∀f∈(lB s).1.funcs,Sm.cR f.body<=6001:=by
 unfold lB;split;rename_i hl;generalize htp:U2.Fu s=z;obtain⟨rows,e⟩:=z;cases e with
 |some e=>intro f hf;cases hf|none=>
  obtain⟨kA,hlen⟩:=H6 htp;obtain⟨x,hx⟩:=wC (rQ rows);simp only;rw[hx,Option.getD_some];have hTl:(rQ rows).length=rows.length:=by simp[rQ]
  intro f hf;have:=OP hx f hf;omega
 intro f hf;cases hf
theorem aaP(p:Pg)(hp:Pg.In 6000 p):∀s∈(aG p).sigs,s.ps.length<=7:=by
 intro s hs;obtain⟨f,hf,rfl⟩:=List.mem_map.1 hs;have:=(hp.f.2 f hf).len;simpa [wD,kS] using this
structure Wq (p:Pg):Prop where
 X2:Pg.In 6000 p
 Gb:∀f∈p.funcs,Sm.cR f.body<=12010
theorem EN(s:List UInt8):Wq (lB s).1:=⟨(SY s).1,λf hf=>by have:=Kb s f hf;omega⟩
theorem Ig{p:Pg}(h:Wq p):∀f∈p.funcs,f.params.length+Sm.cR f.body<1000000000:=λf hf=>by
 have:=h.Gb f hf;have:=(h.X2.f.2 f hf).len;omega
theorem L8{p:Pg}(h:Wq p):∀bs,qk (aG p) (aG p).sigs p.funcs=.ok bs->∀b∈bs,Sm.cR b.code<=12010/\b.vars.length<=24020:=λbs hR b hb=>by
 have jO:=Gt hR h.Gb b hb;have Cb:=JM (n:=12010) (J5 p) hR (λs hs=>((J5 p).sigs s hs).2) (λs hs=>by have:=aaP p h.X2 s hs;omega) h.Gb b hb;omega
theorem xO{p:Pg}(h:Wq p):∀bs,qk (aG p) (aG p).sigs p.funcs=.ok bs->∀b∈bs,Sm.cR b.code<100000000/\b.vars.length<100000000:=λbs hR b hb=>by
 have:=L8 h bs hR b hb;omega
end pX
