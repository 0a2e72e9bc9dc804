/- Part of a proof. -/
import Derived.Test.YtachcambnjecnaaGreatP
import Derived.Test.YtachcambnjecnaaGreatA6
import Derived.Test.YtachcambnjecnaaGreatD
import Derived.Test.YtachcambnjecnaaGreatN
import Derived.Test.YtachcambnjecnaaGreatS

set_option maxRecDepth 100000
set_option maxHeartbeats 4000000
namespace tc
open Ax Go V7 jG j9
structure In where
 op:Int
 a:Int
 b:Int
 c:Int
 n:Int
 args:List Int
def jE(l:List Int):AV:=aA 1 (bQ l)
def In.row(i:In):List AV:=[.int .i64 i.op,.int .i64 i.a,.int .i64 i.b,.int .i64 i.c,.int .i64 i.n,jE i.args]
structure l9 where
 vs:List T3
 is:List In
 ss:List T3
def O0:l9:=⟨[],[],[]⟩
def l9.eJ(x y:l9):l9:=⟨x.vs++y.vs,x.is++y.is,x.ss++y.ss⟩
def dO(i:In):l9:=⟨[],[i],[]⟩
def zd(l:List Int):Int:=match l with|a::_=>a | []=>0
def XU(l:List Int):Int:=match l with|_::a::_=>a|_=>0
def dh(k n cG t OZ:Int)(l:List Int):In:=
 if k=1\/k=2 then ⟨1,t,0,0,n,[]⟩
 else if k=3 then ⟨2,t,0,0,0,[]⟩
 else if k=4 then ⟨19,t,0,0,-1-cG,[]⟩
 else if k=5 then ⟨6,t,zd l,cG,0,[]⟩
 else if k=6 then ⟨8,t,zd l,XU l,0,[]⟩
 else if k=7 then ⟨13,t,0,cG,0,l⟩
 else if k=8 then ⟨11,t,0,0,OZ,[]⟩
 else if k=9 then ⟨12,t,zd l,0,OZ,[]⟩
 else if k=10 then ⟨10,t,zd l,0,0,[]⟩
 else if k=11 then ⟨14,t,0,0,0,[]⟩
 else if k=12\/k=13 then ⟨5,t,zd l,0,k,[]⟩
 else ⟨4,t,zd l,XU l,k,[]⟩
def cK(nv ns:Nat)(k n cG:Int)(ty:T3)(x:List Int×l9):Int×l9:=
 if ty=T0 then (-1,x.2.eJ (dO ⟨13,-1,0,cG,0,x.1⟩))
 else (((nv+x.2.vs.length:Nat):Int),x.2.eJ ⟨[ty],[dh k n cG ((nv+x.2.vs.length:Nat):Int) ((ns+x.2.ss.length:Nat):Int) x.1],if k=8\/k=9 then [ty] else []⟩)
mutual
def cE(nv ns:Nat):E->Int×l9
 |.mk k n _ _ _ aC _ ty cG=>if k=4/\0<=cG then (cG,O0) else cK nv ns k n cG ty (pC nv ns aC)
def pC(nv ns:Nat):List E->List Int×l9
 |[]=>([],O0)
 |e::l=>((cE nv ns e).1::(pC (nv+(cE nv ns e).2.vs.length) (ns+(cE nv ns e).2.ss.length) l).1,(cE nv ns e).2.eJ (pC (nv+(cE nv ns e).2.vs.length) (ns+(cE nv ns e).2.ss.length) l).2)
end
def E0:E:=.mk 0 0 [] [] 0 [] 0 T0 0
def k9(es:List E):E:=match es with|e::_=>e | []=>E0
def Pz(es:List E):E:=match es with|_::e::_=>e|_=>E0
def J4(nv at_ ns:Nat)(x:l9)(f:Nat->Nat->Nat->l9):l9:=x.eJ (f (nv+x.vs.length) (at_+x.is.length) (ns+x.ss.length))
def Ar(cG v:Int):In:=if cG<0 then ⟨20,v,0,0,-1-cG,[]⟩ else ⟨3,cG,v,0,0,[]⟩
def Fv(k cG v:Int)(l:List Int):In:=if k=5 then ⟨7,zd l,v,cG,0,[]⟩ else ⟨9,zd l,XU l,v,0,[]⟩
def XW(nv at_ ns:Nat)(x:Int×l9)(f g:Nat->Nat->Nat->l9):l9:=
 let i:=at_+x.2.is.length
 let b:=f (nv+x.2.vs.length) (i+1) (ns+x.2.ss.length)
 let j:=i+1+b.is.length
 let c:=g (nv+x.2.vs.length+b.vs.length) (j+1) (ns+x.2.ss.length+b.ss.length)
 ⟨x.2.vs++b.vs++c.vs,x.2.is++⟨17,x.1,0,((j+1:Nat):Int),((i+1:Nat):Int),[]⟩::(b.is++⟨16,0,0,0,((j+1+c.is.length:Nat):Int),[]⟩::c.is),x.2.ss++b.ss++c.ss⟩
def XX(nv at_ ns:Nat)(x:Int×l9)(f:Nat->Nat->Nat->l9):l9:=
 let i:=at_+x.2.is.length
 let b:=f (nv+x.2.vs.length) (i+1) (ns+x.2.ss.length)
 let j:=i+1+b.is.length
 ⟨x.2.vs++b.vs,x.2.is++⟨17,x.1,0,((j+1:Nat):Int),((i+1:Nat):Int),[]⟩::(b.is++[⟨16,0,0,0,(at_:Int),[]⟩]),x.2.ss++b.ss⟩
def J5(nv ns:Nat)(e:E)(x:List Int×l9)(f:Nat->Nat->Int×l9):l9:=
 let v:=f (nv+x.2.vs.length) (ns+x.2.ss.length)
 (x.2.eJ v.2).eJ (dO (Fv e.k e.cG v.1 x.1))
mutual
def cS(nv at_ ns:Nat):Sm->l9
 |.mk k _ _ _ es bd el _ cG=>
  if k=2\/k=3 then (cE nv ns (k9 es)).2.eJ (dO (Ar cG (cE nv ns (k9 es)).1))
  else if k=4 then J5 nv ns (k9 es) (pC nv ns (k9 es).aC) (λnv ns=>cE nv ns (Pz es))
  else if k=5 then XW nv at_ ns (cE nv ns (k9 es)) (λnv at_ ns=>cB nv at_ ns bd) (λnv at_ ns=>cB nv at_ ns el)
  else if k=6 then XX nv at_ ns (cE nv ns (k9 es)) (λnv at_ ns=>cB nv at_ ns bd)
  else if k=7 then (match es with
   |[]=>dO ⟨18,-1,0,0,0,[]⟩|e::_=>(cE nv ns e).2.eJ (dO ⟨18,(cE nv ns e).1,0,0,0,[]⟩))
  else if k=8 then (cE nv ns (k9 es)).2.eJ (dO ⟨15,(cE nv ns (k9 es)).1,0,0,0,[]⟩)
  else if k=9 then (cE nv ns (k9 es)).2
  else O0
def cB(nv at_ ns:Nat):List Sm->l9
 |[]=>O0|s::l=>J4 nv at_ ns (cS nv at_ ns s) (λnv at_ ns=>cB nv at_ ns l)
end
structure Cd where
 params:Nat
 vars:List T3
 bO:Bool
 bz:T3
 is:List In
def Cd.row(c:Cd):List AV:=[.int .i64 c.params,aA 3 (c.vars.map T3.cells),.bool c.bO,.int .i64 c.bz.b,.int .i64 c.bz.r,.int .i64 c.bz.d,aA 6 (c.is.map In.row)]
structure Sd where
 fn:Nat
 ty:T3
def Sd.row(s:Sd):List AV:=[.int .i64 s.fn,.int .i64 s.ty.b,.int .i64 s.ty.r,.int .i64 s.ty.d]
def wO(s:Sg)(t:Nat):List In:=if s.bO then [⟨if nJ s.bz then 2 else 1,(t:Int),0,0,0,[]⟩,⟨18,(t:Int),0,0,0,[]⟩] else [⟨18,-1,0,0,0,[]⟩]
def gj(ns:Nat)(b:Bd):l9:=cB b.vars.length 0 ns b.code
def cp(ns:Nat)(s:Sg)(b:Bd):Cd:=
 ⟨s.ps.length,b.vars.map (·.ty)++(gj ns b).vs++(if s.bO then [s.bz] else []),s.bO,s.bz,(gj ns b).is++wO s (b.vars.length+(gj ns b).vs.length)⟩
def vp(cs:List Cd)(ss:List Sd)(all:Nat):List Sg->List Bd->Except Int (List Cd×List Sd)
 |s::sg,b::bs=>
  if 4000<(cp ss.length s b).vars.length\/2500<all+(cp ss.length s b).is.length\/60<ss.length+(gj ss.length b).ss.length then .error b.a
  else vp (cs++[cp ss.length s b]) (ss++(gj ss.length b).ss.map (λt=>⟨cs.length,t⟩)) (all+(cp ss.length s b).is.length) sg bs
 |_,_=>.ok (cs,ss)
theorem Gz(nv ns:Nat)(e:E):cE nv ns e=if e.k=4/\0<=e.cG then (e.cG,O0) else cK nv ns e.k e.n e.cG e.ty (pC nv ns e.aC):=by
 obtain⟨k,n,nm,on,od,aC,a,ty,cG⟩:=e
 (conv=>lhs;unfold cE)<;>rfl
theorem wP(nv ns:Nat)(e:E)(l:List E):pC nv ns (e::l)=((cE nv ns e).1::(pC (nv+(cE nv ns e).2.vs.length) (ns+(cE nv ns e).2.ss.length) l).1,(cE nv ns e).2.eJ (pC (nv+(cE nv ns e).2.vs.length) (ns+(cE nv ns e).2.ss.length) l).2):=by
 (conv=>lhs;unfold pC)<;>rfl
theorem Nt(nv at_ ns:Nat)(s:Sm):cS nv at_ ns s =
  if s.k=2\/s.k=3 then (cE nv ns (k9 s.es)).2.eJ (dO (Ar s.cG (cE nv ns (k9 s.es)).1))
  else if s.k=4 then J5 nv ns (k9 s.es) (pC nv ns (k9 s.es).aC) (λnv ns=>cE nv ns (Pz s.es))
  else if s.k=5 then XW nv at_ ns (cE nv ns (k9 s.es)) (λnv at_ ns=>cB nv at_ ns s.bd) (λnv at_ ns=>cB nv at_ ns s.el)
  else if s.k=6 then XX nv at_ ns (cE nv ns (k9 s.es)) (λnv at_ ns=>cB nv at_ ns s.bd)
  else if s.k=7 then (match s.es with
   |[]=>dO ⟨18,-1,0,0,0,[]⟩|e::_=>(cE nv ns e).2.eJ (dO ⟨18,(cE nv ns e).1,0,0,0,[]⟩))
  else if s.k=8 then (cE nv ns (k9 s.es)).2.eJ (dO ⟨15,(cE nv ns (k9 s.es)).1,0,0,0,[]⟩)
  else if s.k=9 then (cE nv ns (k9 s.es)).2
  else O0:=by
 obtain⟨k,nm,on,od,es,bd,el,a,cG⟩:=s
 (conv=>lhs;unfold cS)<;>rfl
theorem H9(nv at_ ns:Nat):cB nv at_ ns []=O0:=by unfold cB;rfl
theorem CO(nv at_ ns:Nat)(s:Sm)(l:List Sm):cB nv at_ ns (s::l)=J4 nv at_ ns (cS nv at_ ns s) (λnv at_ ns=>cB nv at_ ns l):=by
 (conv=>lhs;unfold cB)<;>rfl
theorem CP(x y z:l9):(x.eJ y).eJ z=x.eJ (y.eJ z):=by simp[l9.eJ]
end tc
namespace tc
open Ax Go V7 jG j9
mutual
def LE:E->Prop
 |.mk k _ _ _ _ aC _ ty cG=>(ty=T0->k=7)/\(k=5\/k=9\/k=10\/k=12\/k=13->aC.length=1)/\(k=6\/14<=k->aC.length=2)/\(0<k/\k<25)/\(k=4→-1000000000<cG)/\LL aC
def LL:List E->Prop
 |[]=>True|e::l=>LE e/\LL l
end
theorem J6(e:E):LE e↔(e.ty=T0->e.k=7)/\(e.k=5\/e.k=9\/e.k=10\/e.k=12\/e.k=13->e.aC.length=1)/\(e.k=6\/14<=e.k->e.aC.length=2)/\(0<e.k/\e.k<25)/\(e.k=4→-1000000000<e.cG)/\LL e.aC:=by
 cases e;unfold LE;exact Iff.rfl
theorem l5:∀l:List E,LL l↔∀e∈l,LE e
 |[]=>by simp[LL]|e::l=>by simp[LL,l5 l]
theorem Wh(x y:l9):(x.eJ y).vs.length=x.vs.length+y.vs.length/\(x.eJ y).is.length=x.is.length+y.is.length/\(x.eJ y).ss.length=x.ss.length+y.ss.length:=by simp[l9.eJ]
def Lo(o:l9)(n:Nat):Prop:=o.vs.length<=n/\o.is.length<=n/\o.ss.length<=n
theorem Lo.eJ{x y:l9}{n m:Nat}(h:Lo x n)(g:Lo y m):Lo (x.eJ y) (n+m):=by
 obtain⟨a,b,c⟩:=Wh x y;obtain⟨h1,h2,h3⟩:=h;obtain⟨g1,g2,g3⟩:=g;exact⟨by omega,by omega,by omega⟩
theorem Lo.le{x:l9}{n m:Nat}(h:Lo x n)(g:n<=m):Lo x m:=⟨by have:=h.1;omega,by have:=h.2.1;omega,by have:=h.2.2;omega⟩
theorem Td{l:List E}(ih:∀e∈l,∀nv ns,Lo (cE nv ns e).2 (E.sz e)):∀nv ns,Lo (pC nv ns l).2 (E.cQ l):=by
 induction l with
 |nil=>intro nv ns;simp[pC,O0,Lo,E.cQ]|cons e l Gs=>
  intro nv ns;rw[wP];simp only[E.cQ];exact(ih e List.mem_cons_self nv ns).eJ (Gs (λx hx=>ih x (List.mem_cons_of_mem _ hx)) _ _)
theorem l7(e:E):∀nv ns,Lo (cE nv ns e).2 (E.sz e):=by
 induction e using E.yu with
 |_ e ih=>
  intro nv ns;have hk:=E.mz e;rw[Gz];split;simp[Lo,O0];have h:=Td ih nv ns;unfold cK;split;exact(h.eJ (y:=dO _) (m:=1) (by simp[Lo,dO])).le (by omega);refine(h.eJ (m:=1) ?_).le (by omega);refine⟨by simp,by simp,?_⟩;simp only;split<;>simp
theorem EF(l:List E)(nv ns:Nat):Lo (pC nv ns l).2 (E.cQ l):=Td (λe _=>l7 e) nv ns
theorem uZ{l:List E}{k:Nat}(h:k<l.length):(E.rows l)[k]?=some l[k].row:=by simp[gh,h]
theorem oW{l:List E}{k:Nat}(h:k<l.length)(h2:k<(E.rows l).length):(E.rows l)[k]=l[k].row:=by simp[gh]
theorem zL{sz:Nat}{r:List (List AV)}(h:bN sz r=true):bX sz (aA sz r)=true:=by
 cases r with
 |nil=>rfl|cons a r=>simpa [bX] using h
theorem zE{l:List E}:bX 11 (aI l)=true:=zL (by simp[bN,gh,E.az])
theorem zI{l:List Int}:bX 1 (aA 1 (bQ l))=true:=zL (by simp[bN,bQ])
mutual
def LS:Sm->Prop
 |.mk k _ _ _ es bd el _ cG=>LL es/\(k=2\/k=3\/k=5\/k=6\/k=8\/k=9->es.length=1)/\(k=4->es.length=2/\((k9 es).k=5\/(k9 es).k=6))/\(k=2\/k=3→-1000000000<cG)/\LB bd/\LB el
def LB:List Sm->Prop
 |[]=>True|s::l=>LS s/\LB l
end
theorem GA(s:Sm):LS s↔LL s.es/\(s.k=2\/s.k=3\/s.k=5\/s.k=6\/s.k=8\/s.k=9->s.es.length=1)/\(s.k=4->s.es.length=2/\((k9 s.es).k=5\/(k9 s.es).k=6))/\(s.k=2\/s.k=3→-1000000000<s.cG)/\LB s.bd/\LB s.el:=by
 cases s;unfold LS;exact Iff.rfl
theorem EG:∀l:List Sm,LB l↔∀s∈l,LS s
 |[]=>by simp[LB]|s::l=>by simp[LB,EG l]
theorem uM{es:List E}(h:es.length=1):es=[k9 es]:=by
 match es,h with
 |[e],_=>rfl
theorem LX{es:List E}(h:es.length=2):es=[k9 es,Pz es]:=by
 match es,h with
 |[e,f],_=>rfl
theorem LY{l:List Int}(h:l.length=1):bQ l=[[.int .i64 (zd l)]]:=by
 match l,h with
 |[a],_=>rfl
theorem LZ{l:List Int}(h:l.length=2):bQ l=[[.int .i64 (zd l)],[.int .i64 (XU l)]]:=by
 match l,h with
 |[a,b],_=>rfl
theorem Te{l:List Sm}(ih:∀s∈l,∀nv a ns,Lo (cS nv a ns s) (2*Sm.sz s)):∀nv a ns,Lo (cB nv a ns l) (2*Sm.cQ l):=by
 induction l with
 |nil=>intro nv a ns;rw[H9];simp[Lo,O0]|cons s l Gs=>
  intro nv a ns;rw[CO];unfold J4;exact((ih s List.mem_cons_self nv a ns).eJ (Gs (λx hx=>ih x (List.mem_cons_of_mem _ hx)) _ _ _)).le (by simp only[Sm.cQ];omega)
theorem EH{es:List E}(h:es.length≠0):E.sz (k9 es)<=E.cQ es:=by
 match es,h with
 |e::l,_=>simp[k9,E.cQ]
theorem Tf(s:Sm):LS s->∀nv a ns,Lo (cS nv a ns s) (2*Sm.sz s):=by
 induction s using Sm.yu with
 |_ s sW k7=>
  intro hL nv a ns;rw[GA]at hL;obtain⟨h1,h2,h3,_,h5,h6⟩:=hL;rw[EG]at h5 h6;have dF:=Sm.jM s;have one:∀i,Lo (dO i) 1:=λi=>by simp[Lo,dO]
  have f:=λnv a ns=>Te (λx hx=>sW x hx (h5 x hx)) nv a ns;have g:=λnv a ns=>Te (λx hx=>k7 x hx (h6 x hx)) nv a ns;rw[Nt];by_cases c:s.k=2\/s.k=3;rw[if_pos c];have:=EH (es:=s.es) (by rw[h2 (by omega)];decide);exact((l7 _ _ _).eJ (one _)).le (by omega);rw[if_neg c];by_cases c4:s.k=4;rw[if_pos c4];obtain⟨e,f,he⟩:∃e f,s.es=[e,f]:=⟨_,_,LX (h3 c4).1⟩;have q1:k9 s.es=e:=by rw[he];rfl
  have q2:Pz s.es=f:=by rw[he];rfl
  have q3:E.cQ s.es=E.sz e+E.sz f:=by rw[he];simp[E.cQ]
  have q4:=E.mz e;rw[q1,q2];unfold J5;exact(((EF _ _ _).eJ (l7 _ _ _)).eJ (one _)).le (by omega);rw[if_neg c4];by_cases c5:s.k=5;rw[if_pos c5];have:=EH (es:=s.es) (by rw[h2 (by omega)];decide);unfold XW;dsimp only;obtain⟨a1,a2,a3⟩:=l7 (k9 s.es) nv ns;have b1:=f (nv+(cE nv ns (k9 s.es)).2.vs.length) (a+(cE nv ns (k9 s.es)).2.is.length+1) (ns+(cE nv ns (k9 s.es)).2.ss.length);generalize cE nv ns (k9 s.es)=x at *;generalize cB (nv+x.2.vs.length) (a+x.2.is.length+1) (ns+x.2.ss.length) s.bd=y at *;have c1:=g (nv+x.2.vs.length+y.vs.length) (a+x.2.is.length+1+y.is.length+1) (ns+x.2.ss.length+y.ss.length);generalize cB (nv+x.2.vs.length+y.vs.length) (a+x.2.is.length+1+y.is.length+1) (ns+x.2.ss.length+y.ss.length) s.el=z at *;obtain⟨b1,b2,b3⟩:=b1;obtain⟨c1,c2,c3⟩:=c1;refine⟨?_,?_,?_⟩<;>simp only[List.length_append,List.length_cons]<;>omega;rw[if_neg c5];by_cases c6:s.k=6;rw[if_pos c6];have:=EH (es:=s.es) (by rw[h2 (by omega)];decide);unfold XX;dsimp only;obtain⟨a1,a2,a3⟩:=l7 (k9 s.es) nv ns;have b1:=f (nv+(cE nv ns (k9 s.es)).2.vs.length) (a+(cE nv ns (k9 s.es)).2.is.length+1) (ns+(cE nv ns (k9 s.es)).2.ss.length);generalize cE nv ns (k9 s.es)=x at *;generalize cB (nv+x.2.vs.length) (a+x.2.is.length+1) (ns+x.2.ss.length) s.bd=y at *;obtain⟨b1,b2,b3⟩:=b1;refine⟨?_,?_,?_⟩<;>simp only[List.length_append,List.length_cons,List.length_nil]<;>omega;rw[if_neg c6];by_cases c7:s.k=7;rw[if_pos c7];match jR:s.es with
  |[]=>exact(one _).le (by omega)|e::l=>
   have:E.cQ s.es=E.sz e+E.cQ l:=by rw[jR];rfl
   exact((l7 _ _ _).eJ (one _)).le (by omega)
  rw[if_neg c7];by_cases c8:s.k=8;rw[if_pos c8];have:=EH (es:=s.es) (by rw[h2 (by omega)];decide);exact((l7 _ _ _).eJ (one _)).le (by omega);rw[if_neg c8];by_cases c9:s.k=9;rw[if_pos c9];have:=EH (es:=s.es) (by rw[h2 (by omega)];decide);exact(l7 _ _ _).le (by omega);rw[if_neg c9];simp[Lo,O0]
theorem As{l:List Sm}(h:LB l)(nv a ns:Nat):Lo (cB nv a ns l) (2*Sm.cQ l):=Te (λs hs=>Tf s ((EG _).1 h s hs)) nv a ns
theorem wL{l:List Sm}{k:Nat}(h:k<l.length):(Sm.rows l)[k]?=some l[k].row:=by simp[fY,h]
theorem qG{l:List Sm}{k:Nat}(h:k<l.length)(h2:k<(Sm.rows l).length):(Sm.rows l)[k]=l[k].row:=by simp[fY]
end tc
namespace tc
open Ax Go V7 jG j9
def u5(vs:List T3)(t:T3)(a:Int):Prop:=∃k:Nat,a=k/\vs[k]?=some t
theorem u5.eJ{vs ws:List T3}{t:T3}{a:Int}(h:u5 vs t a):u5 (vs++ws) t a:=by
 obtain⟨k,h1,h2⟩:=h;exact⟨k,h1,by rw[List.getElem?_append_left (List.getElem?_eq_some_iff.1 h2).1];exact h2⟩
def Bi(vs:List T3):List Vd->List Int->Prop
 |[],[]=>True|p::ps,a::l=>u5 vs p.ty a/\Bi vs ps l|_,_=>False
theorem Bi.eJ{vs ws:List T3}:∀{ps:List Vd}{l:List Int},Bi vs ps l->Bi (vs++ws) ps l
 |[],[],_=>trivial|_::_,_::_,h=>⟨h.1.eJ,Bi.eJ h.2⟩
 |[],_::_,h=>h.elim|_::_,[],h=>h.elim
inductive xW (H:Hd) (f:Nat) (bO:Bool) (bz:T3) (vs:List T3) (ss:List Sd) (m:Nat):In->Prop
 |c1 {a n:Int}:u5 vs tI a->xW H f bO bz vs ss m ⟨1,a,0,0,n,[]⟩
 |c1b {a n:Int}:u5 vs tB a->n=0\/n=1->xW H f bO bz vs ss m ⟨1,a,0,0,n,[]⟩
 |c2 {a:Int} {t:T3}:u5 vs t a->nJ t=true->xW H f bO bz vs ss m ⟨2,a,0,0,0,[]⟩
 |c3 {a b:Int} {t:T3}:u5 vs t a->u5 vs t b->xW H f bO bz vs ss m ⟨3,a,b,0,0,[]⟩
 |c4 {a b c k:Int} {ta tb t:T3} {r:Int}:u5 vs ta b->u5 vs tb c->j9.Fp k ta tb=some (t,r)->14<=k/\k<=24->u5 vs t a->xW H f bO bz vs ss m ⟨4,a,b,c,k,[]⟩
 |c5i {a b:Int}:u5 vs tI a->u5 vs tI b->xW H f bO bz vs ss m ⟨5,a,b,0,12,[]⟩
 |c5b {a b:Int}:u5 vs tB a->u5 vs tB b->xW H f bO bz vs ss m ⟨5,a,b,0,13,[]⟩
 |c6 {a b:Int} {r j:Nat} {s:List UInt8×List Vd} {v:Vd}:u5 vs ⟨3,r,0⟩ b->H.bK[r]?=some s->s.2[j]?=some v->u5 vs v.ty a->xW H f bO bz vs ss m ⟨6,a,b,j,0,[]⟩
 |c7 {a b:Int} {r j:Nat} {s:List UInt8×List Vd} {v:Vd}:u5 vs ⟨3,r,0⟩ a->H.bK[r]?=some s->s.2[j]?=some v->u5 vs v.ty b->xW H f bO bz vs ss m ⟨7,a,b,j,0,[]⟩
 |c8 {a b c:Int} {t:T3}:u5 vs t b->0<t.d->u5 vs ⟨t.b,t.r,t.d-1⟩ a->u5 vs tI c->xW H f bO bz vs ss m ⟨8,a,b,c,0,[]⟩
 |c9 {a b c:Int} {t:T3}:u5 vs t a->0<t.d->u5 vs ⟨t.b,t.r,t.d-1⟩ c->u5 vs tI b->xW H f bO bz vs ss m ⟨9,a,b,c,0,[]⟩
 |HO {a b:Int} {t:T3}:u5 vs tI a->u5 vs t b->0<t.d->xW H f bO bz vs ss m ⟨10,a,b,0,0,[]⟩
 |O1 {a:Int} {n:Nat} {t:T3}:u5 vs t a->t.b=3->t.d=0->ss[n]?=some ⟨f,t⟩->xW H f bO bz vs ss m ⟨11,a,0,0,n,[]⟩
 |HP {a b:Int} {n:Nat} {t:T3}:u5 vs t a->0<t.d->ss[n]?=some ⟨f,t⟩->u5 vs tI b->xW H f bO bz vs ss m ⟨12,a,b,0,n,[]⟩
 |Kr {a:Int} {j:Nat} {s:Sg} {l:List Int}:H.sigs[j]?=some s->Bi vs s.ps l->(a = -1\/s.bO=true/\u5 vs s.bz a)->xW H f bO bz vs ss m ⟨13,a,0,j,0,l⟩
 |c14 {a:Int}:u5 vs tI a->xW H f bO bz vs ss m ⟨14,a,0,0,0,[]⟩
 |c15 {a:Int}:u5 vs tI a->xW H f bO bz vs ss m ⟨15,a,0,0,0,[]⟩
 |c16 {n:Nat}:n<=m->xW H f bO bz vs ss m ⟨16,0,0,0,n,[]⟩
 |c17 {a:Int} {n c:Nat}:u5 vs tB a->n<=m->c<=m->xW H f bO bz vs ss m ⟨17,a,0,c,n,[]⟩
 |c18 {a:Int}:(if bO=true then u5 vs bz a else a = -1)->xW H f bO bz vs ss m ⟨18,a,0,0,0,[]⟩
 |c19 {a:Int} {j:Nat} {v:Vd}:H.globals[j]?=some v->u5 vs v.ty a->xW H f bO bz vs ss m ⟨19,a,0,0,j,[]⟩
 |c20 {a:Int} {j:Nat} {v:Vd}:H.globals[j]?=some v->u5 vs v.ty a->xW H f bO bz vs ss m ⟨20,a,0,0,j,[]⟩
variable {H:Hd}{f:Nat}{bO:Bool}{bz:T3}
theorem CQ{α:Type}{l r:List α}{k:Nat}{x:α}(h:l[k]?=some x):(l++r)[k]?=some x:=by
 rw[List.getElem?_append_left (List.getElem?_eq_some_iff.1 h).1];exact h
theorem xW.mono{vs ws:List T3}{ss ts:List Sd}{m m':Nat}{i:In}(h:xW H f bO bz vs ss m i)(hm:m<=m'):xW H f bO bz (vs++ws) (ss++ts) m' i:=by
 cases h with
 |c1 a=>exact .c1 a.eJ|c1b a b=>exact .c1b a.eJ b|c2 a b=>exact .c2 a.eJ b|c3 a b=>exact .c3 a.eJ b.eJ|c4 a b c d e=>exact .c4 a.eJ b.eJ c d e.eJ|c5i a b=>exact .c5i a.eJ b.eJ|c5b a b=>exact .c5b a.eJ b.eJ|c6 a b c d=>exact .c6 a.eJ b c d.eJ|c7 a b c d=>exact .c7 a.eJ b c d.eJ|c8 a b c d=>exact .c8 a.eJ b c.eJ d.eJ|c9 a b c d=>exact .c9 a.eJ b c.eJ d.eJ|HO a b c=>exact .HO a.eJ b.eJ c|O1 a b c d=>exact .O1 a.eJ b c (CQ d)|HP a b c d=>exact .HP a.eJ b (CQ c) d.eJ|Kr a b c=>exact .Kr a b.eJ (c.imp id λh=>⟨h.1,h.2.eJ⟩)|c14 a=>exact .c14 a.eJ|c15 a=>exact .c15 a.eJ|c16 a=>exact .c16 (by omega)|c17 a b c=>exact .c17 a.eJ (by omega) (by omega)|c18 a=>
  refine .c18 ?_;split;rename_i q;rw[if_pos q]at a;exact a.eJ;rename_i q;rw[if_neg q]at a;exact a
 |c19 a b=>exact .c19 a b.eJ|c20 a b=>exact .c20 a b.eJ
def Pre(V:List Vd)(vs:List T3):Prop:=∀(k:Nat)(v:Vd),V[k]?=some v->vs[k]?=some v.ty
theorem Pre.eJ{V:List Vd}{vs ws:List T3}(h:Pre V vs):Pre V (vs++ws):=λk v hk=>CQ (h k v hk)
structure PA (H:Hd)(f:Nat)(bO:Bool)(bz:T3)(vs:List T3)(ss:List Sd)(m:Nat)(o:l9):Prop where
 is:∀i∈o.is,xW H f bO bz (vs++o.vs) (ss++o.ss.map (Sd.mk f)) m i
theorem PA.nil{vs:List T3}{ss:List Sd}{m:Nat}:PA H f bO bz vs ss m O0:=⟨by simp[O0]⟩
theorem PA.eJ{vs:List T3}{ss:List Sd}{m m1 m2:Nat}{x y:l9}(h:PA H f bO bz vs ss m1 x)(k:PA H f bO bz (vs++x.vs) (ss++x.ss.map (Sd.mk f)) m2 y)(h1:m1<=m)(h2:m2<=m):PA H f bO bz vs ss m (x.eJ y):=by
 refine⟨λi hi=>?_⟩;simp only[l9.eJ,List.map_append,<-List.append_assoc];rcases List.mem_append.1 hi with hi|hi;exact(h.is i hi).mono h1;have:=(k.is i hi).mono (ws:=[]) (ts:=[]) h2;simpa using this
theorem PA.ins{vs:List T3}{ss:List Sd}{m:Nat}{i:In}(h:xW H f bO bz vs ss m i):PA H f bO bz vs ss m (dO i):=by
 refine⟨λj hj=>?_⟩;simp only[dO,List.mem_singleton]at hj;subst hj;simpa [dO] using h
theorem rQ{s:List UInt8}:∀{l:List Vd}{i k:Nat}{t:T3},eH s i l=some (k,t)->i<=k/\∃v,l[k-i]?=some v/\v.ty=t
 |[],_,_,_,h=>by cases h|f::l,i,k,t,h=>by
  unfold eH at h;split at h;cases h;exact⟨Nat.le_refl _,f,by simp,rfl⟩;obtain⟨h1,v,h2,h3⟩:=rQ h;have e:k-i=(k-(i+1))+1:=by omega
  exact⟨by omega,v,by rw[e,List.getElem?_cons_succ];exact h2,h3⟩
theorem GB{s:List UInt8}:∀{l:List Sg}{i k:Nat}{t:Sg},mH s i l=some (k,t)->i<=k/\l[k-i]?=some t
 |[],_,_,_,h=>by cases h|g::l,i,k,t,h=>by
  unfold mH at h;split at h;cases h;exact⟨Nat.le_refl _,by simp⟩;obtain⟨h1,h2⟩:=GB h;have e:k-i=(k-(i+1))+1:=by omega
  exact⟨by omega,by rw[e,List.getElem?_cons_succ];exact h2⟩
end tc
namespace tc
open Ax Go V7 jG j9
variable {H:Hd}{f:Nat}{bO:Bool}{bz:T3}{V:List Vd}
def BT(t:T3):Prop:=1<=t.b/\t.b<=3
theorem BT.ne{t:T3}(h:BT t):t≠T0:=λe=>by rw[e]at h;exact absurd h.1 (by decide)
structure Hd.gd (H:Hd):Prop where
 bK:∀s∈H.bK,∀f∈s.2,BT f.ty
 globals:∀f∈H.globals,BT f.ty
 ps:∀s∈H.sigs,∀f∈s.ps,BT f.ty
 bz:∀s∈H.sigs,s.bz≠T0->BT s.bz/\s.bO=true
theorem xL{l:List (List UInt8)}{s:List UInt8}{d:Int}(h:(bZ l s d).2=true):BT (bZ l s d).1:=by
 unfold bZ at h ⊢;split;rename_i c;rw[if_pos c]at h;cases h;rename_i c;rw[if_neg c]at h;split;exact⟨by show (1:Int)<=1;decide,by show (1:Int)<=3;decide⟩;rename_i c2;rw[if_neg c2]at h;split;exact⟨by show (1:Int)<=2;decide,by show (2:Int)<=3;decide⟩;rename_i c3;rw[if_neg c3]at h;split;rename_i c4;rw[if_pos c4]at h;cases h;exact⟨by show (1:Int)<=3;decide,by show (3:Int)<=3;decide⟩
theorem jD{b:Bool}{t u:T3}{r:Int}(h:Cm b t=some (u,r)):b=true/\u=t/\r=0:=by
 unfold Cm at h;cases b with
 |false=>cases h|true=>cases h;exact⟨rfl,rfl,rfl⟩
theorem mem_of{α:Type}{l:List α}{k:Nat}{x:α}(h:l[k]?=some x):x∈l:=List.mem_of_getElem? h
theorem ajq{ks:List E}(h:ks.length=2):∃a b,ks=[a,b]:=by
 match ks,h with
 |[a,b],_=>exact⟨a,b,rfl⟩
theorem aaE(hG:Hd.gd H)(hV:∀v∈V,BT v.ty){k n:Int}{nm on:List UInt8}{od:Int}{ks:List E}{t:T3}{r:Int}(hk:gq k n ks.length=true)(nj:∀e∈ks,BT e.ty)(h:lV H V k nm on od ks=some (t,r)):(t=T0->k=7)/\(t≠T0->BT t):=by
 have bI:BT tI:=⟨by decide,by decide⟩;have bB:BT tB:=⟨by decide,by decide⟩;have of:BT t->(t=T0->k=7)/\(t≠T0->BT t):=λh=>⟨λe=>absurd e h.ne,λ_=>h⟩;unfold lV at h;by_cases c1:k=1\/k=11;rw[if_pos c1]at h;cases h;exact of bI;rw[if_neg c1]at h;by_cases c2:k=2;rw[if_pos c2]at h;cases h;exact of bB;rw[if_neg c2]at h;by_cases c3:k=3;rw[if_pos c3]at h;obtain⟨h1,rfl,_⟩:=jD h;rw[Bool.and_eq_true]at h1;exact of (xL h1.1);rw[if_neg c3]at h;by_cases c4:k=4;rw[if_pos c4]at h;unfold rX at h;split at h;rename_i j u e;cases h;obtain⟨_,v,h1,h2⟩:=rQ e;exact of (h2 ▸ hV v (mem_of h1));split at h;rename_i j u e;cases h;obtain⟨_,v,h1,h2⟩:=rQ e;exact of (h2 ▸ hG.globals v (mem_of h1));cases h;rw[if_neg c4]at h;by_cases c5:k=5;rw[if_pos c5]at h;unfold wC at h;split at h;split at h;rename_i s hs;split at h;rename_i i u e;cases h;obtain⟨_,v,h1,h2⟩:=rQ e;exact of (h2 ▸ hG.bK s (mem_of hs) v (mem_of h1));cases h;cases h;cases h;rw[if_neg c5]at h;by_cases c6:k=6;rw[if_pos c6]at h;obtain⟨h1,rfl,_⟩:=jD h;have hl:ks.length=2:=by
  unfold gq at hk;rw[if_neg (by omega),if_neg (by omega),if_neg (by omega),if_neg (by omega)]at hk;simp only[Bool.and_eq_true,decide_eq_true_eq]at hk;exact hk.2
 obtain⟨a,b,rfl⟩:=ajq hl;exact of (nj a (by simp));rw[if_neg c6]at h;by_cases c7:k=7;rw[if_pos c7]at h;refine⟨λ_=>c7,λjn=>?_⟩;unfold oC at h;split at h;rename_i i s hs;split at h;cases h;obtain⟨_,h2⟩:=GB hs;exact(hG.bz s (mem_of h2) jn).1;cases h;cases h;rw[if_neg c7]at h;by_cases c8:k=8;rw[if_pos c8]at h;obtain⟨h1,rfl,_⟩:=jD h;simp only[Bool.and_eq_true]at h1;exact of (xL h1.1.1);rw[if_neg c8]at h;by_cases c9:k=9;rw[if_pos c9]at h;obtain⟨h1,rfl,_⟩:=jD h;simp only[Bool.and_eq_true]at h1;exact of (xL h1.1.1);rw[if_neg c9]at h;by_cases HO:k=10;rw[if_pos HO]at h;obtain⟨_,rfl,_⟩:=jD h;exact of bI;rw[if_neg HO]at h;by_cases HP:k=12;rw[if_pos HP]at h;obtain⟨_,rfl,_⟩:=jD h;exact of bI;rw[if_neg HP]at h;by_cases Kr:k=13;rw[if_pos Kr]at h;obtain⟨_,rfl,_⟩:=jD h;exact of bB;rw[if_neg Kr]at h;unfold j9.Fp at h;split at h;obtain⟨_,rfl,_⟩:=jD h;exact of bI;split at h;obtain⟨_,rfl,_⟩:=jD h;exact of bB;split at h;obtain⟨_,rfl,_⟩:=jD h;exact of bB;obtain⟨_,rfl,_⟩:=jD h;exact of bB
theorem Tg:∀{l ys:List E},kM H V l=.ok ys->∀y∈ys,y.ty≠T0
 |[],ys,h=>by unfold kM at h;cases h;simp|e::l,ys,h=>by
  obtain⟨y,zs,_,h1,h2,rfl⟩:=mO h;intro z hz;rcases List.mem_cons.1 hz with rfl|hz;exact h1;exact Tg h2 z hz
theorem aaF(hG:Hd.gd H)(hV:∀v∈V,BT v.ty)(e:E):∀y,xC H V e=.ok y->(y.ty=T0->y.k=7)/\(y.ty≠T0->BT y.ty):=by
 induction e using E.yu with
 |_ e ih=>
  intro y h;obtain⟨ks,t,r,h1,h2,h3,rfl⟩:=yS h;have hb:=qB h2 ih;have hn:=Tg h2;exact aaE hG hV (by rw[nY h2];exact h1) (λe he=>(hb e he).2 (hn e he)) h3
theorem Wi{l:List Int}{n:Nat}(h:l.length=n+1):l[0]?=some (zd l):=by
 match l,h with
 |a::_,_=>rfl
end tc
namespace tc
open Ax Go V7 jG j9
variable {H:Hd}{f:Nat}{bO:Bool}{bz:T3}{V X:List Vd}
theorem Nu{k:Int}{nm:List UInt8}{es:List E}{t:T3}{r:Int}{W:List Vd}(h:j6 H bz V k nm es t=some (r,W)):∃l,W=V++l/\∀v∈l,v.ty=t/\(k=1\/k=2):=by
 have nil:∀{W:List Vd},W=V->∃l,W=V++l/\∀v∈l,v.ty=t/\(k=1\/k=2):=λe=>⟨[],by simp[e],by simp⟩;unfold j6 at h;split at h;rename_i c;split at h;cases h;cases h;exact⟨_,rfl,by simp[c]⟩;split at h;rename_i c;split at h;split at h;cases h;cases h;exact⟨_,rfl,by simp[c]⟩;cases h;split at h;split at h;split at h;cases h;exact nil rfl;cases h;cases h;split at h;split at h;cases h;exact nil rfl;cases h;split at h;split at h;cases h;exact nil rfl;cases h;split at h;split at h;cases h;exact nil rfl;cases h;split at h;split at h;cases h;exact nil rfl;cases h;cases h;exact nil rfl
def Gv(H:Hd)(V:List Vd):Prop:=∀v∈V,WT H.rs.length v.ty/\BT v.ty
theorem Wj{k:Int}{on:List UInt8}{od:Int}{t:T3}(h:kS H k on od=some t)(hk:k=1\/k=2):WT H.rs.length t/\BT t:=by
 unfold kS at h;rw[if_pos hk]at h;split at h;rename_i c;cases h;exact⟨mX _ _ _,xL c⟩;cases h
theorem Th{k:Int}{nm on:List UInt8}{od:Int}{es:List E}{t:T3}{r:Int}{W:List Vd}(hd:kS H k on od=some t)(h:j6 H bz V k nm es t=some (r,W))(hV:Gv H V):Gv H W:=by
 obtain⟨l,rfl,h1⟩:=Nu h;intro v hv;rcases List.mem_append.1 hv with hv|hv;exact hV v hv;obtain⟨e,hk⟩:=h1 v hv;rw[e];exact Wj hd hk
def O2(V X:List Vd):Prop:=∃l,X=V++l
theorem O2.rfl':O2 V V:=⟨[],by simp⟩
theorem O2.trans{A B C:List Vd}(h:O2 A B)(k:O2 B C):O2 A C:=by
 obtain⟨l,rfl⟩:=h;obtain⟨m,rfl⟩:=k;exact⟨l++m,by simp⟩
theorem O2.pre{A B:List Vd}{vs:List T3}(h:O2 A B)(hp:Pre B vs):Pre A vs:=by
 obtain⟨l,rfl⟩:=h;exact λk v hk=>hp k v (CQ hk)
theorem wQ:∀{l ys:List Sm}{V X:List Vd},(∀s∈l,∀V y W,xU H bO bz V s=.ok (y,W)->Gv H V->O2 V W/\Gv H W)->ki H bO bz V l=.ok (ys,X)->Gv H V->O2 V X/\Gv H X
 |[],ys,V,X,_,h,hV=>by
  unfold ki at h;cases h;exact⟨.rfl',hV⟩
 |s::l,ys,V,X,hp,h,hV=>by
  obtain⟨y,W,zs,h1,h2,rfl⟩:=wD h;obtain⟨a,b⟩:=hp s List.mem_cons_self V y W h1 hV;obtain⟨c,d⟩:=wQ (λt ht=>hp t (List.mem_cons_of_mem _ ht)) h2 b;exact⟨a.trans c,d⟩
theorem Nv(s:Sm):∀V y W,xU H bO bz V s=.ok (y,W)->Gv H V->O2 V W/\Gv H W:=by
 induction s using Sm.yu with
 |_ s sW k7=>
  intro V y X h hV;obtain⟨t,ys,r,W,hf,ht,rK,cJ,hh⟩:=Ec h;obtain⟨l,e,_⟩:=Nu cJ;have h1:O2 V W:=⟨l,e⟩;have h2:=Th ht cJ hV;rcases hh with⟨_,b,W1,c,hb,hc,rfl⟩|⟨_,b,hb,rfl⟩|⟨_,_,rfl,rfl⟩;obtain⟨a1,a2⟩:=wQ sW hb h2;obtain⟨b1,b2⟩:=wQ k7 hc a2;exact⟨h1.trans (a1.trans b1),b2⟩;obtain⟨a1,a2⟩:=wQ sW hb h2;exact⟨h1.trans a1,a2⟩;exact⟨h1,h2⟩
theorem Wk{l ys:List Sm}{V X:List Vd}(h:ki H bO bz V l=.ok (ys,X))(hV:Gv H V):O2 V X/\Gv H X:=wQ (λs _=>Nv s) h hV
def FS(H:Hd)(f:Nat)(bO:Bool)(bz:T3)(X:List Vd)(y:Sm):Prop:=∀(vs:List T3)(ss:List Sd)(at_:Nat),Pre X vs->PA H f bO bz vs ss (at_+(cS vs.length at_ ss.length y).is.length) (cS vs.length at_ ss.length y)
theorem PA.nG{vs:List T3}{ss:List Sd}{m m':Nat}{o:l9}(h:PA H f bO bz vs ss m o)(hm:m<=m'):PA H f bO bz vs ss m' o:=⟨λi hi=>by
 have:=(h.is i hi).mono (ws:=[]) (ts:=[]) hm;simpa using this⟩
end tc
namespace tc
open Ax Go V7 jG j9
variable {H:Hd}{f:Nat}{bO:Bool}{bz:T3}{V X:List Vd}
structure MT (H:Hd)(t:T3):Prop where
 wt:WT H.rs.length t
 bt:BT t
 rt:t.b≠3->t.r=0
def RT(t:T3):Prop:=t.b≠3->t.r=0
structure Hd.rt (H:Hd):Prop where
 bK:∀s∈H.bK,∀f∈s.2,RT f.ty
 globals:∀f∈H.globals,RT f.ty
 ps:∀s∈H.sigs,∀f∈s.ps,RT f.ty
 bz:∀s∈H.sigs,RT s.bz
theorem Nw{l:List (List UInt8)}{s:List UInt8}{d:Int}:RT (bZ l s d).1:=by
 unfold bZ RT;split;intro _;rfl;split;intro _;rfl;split;intro _;rfl;split;intro _;rfl;intro h;exact absurd rfl h
structure EI (H:Hd)(o:l9):Prop where
 vs:∀t∈o.vs,MT H t
 ss:∀t∈o.ss,MT H t/\nJ t=true
theorem EI.nil:EI H O0:=⟨by simp[O0],by simp[O0]⟩
theorem EI.eJ{x y:l9}(h:EI H x)(k:EI H y):EI H (x.eJ y):=by
 refine⟨λt ht=>?_,λt ht=>?_⟩;rcases List.mem_append.1 ht with ht|ht;exact h.vs t ht;exact k.vs t ht;rcases List.mem_append.1 ht with ht|ht;exact h.ss t ht;exact k.ss t ht
theorem EI.ins{i:In}:EI H (dO i):=⟨by simp[dO],by simp[dO]⟩
def Mv(H:Hd)(V:List Vd):Prop:=∀v∈V,MT H v.ty
theorem EI.of{x:l9}(h:EI H x)(l:List In):EI H ⟨x.vs,l,x.ss⟩:=⟨h.vs,h.ss⟩
end tc
namespace tc
open Ax Go V7 jG j9
variable {H:Hd}{f:Nat}{bO:Bool}{bz:T3}{V X:List Vd}
structure Hd.ajr (H:Hd):Prop where
 ok:H.ok
 gd:Hd.gd H
 rt:Hd.rt H
 yes:∀s∈H.sigs,s.bO=true->MT H s.bz
 no:∀s∈H.sigs,s.bO=false->s.bz=T0
 bK:∀s∈H.bK,s.2.length<=8
 pn:∀s∈H.sigs,s.ps.length<=6
 nr:H.bK.length<=12
 ng:H.globals.length<=8
 nf:H.sigs.length<=16
structure Nx (H:Hd)(f:Nat)(s:Sg)(ss:List Sd)(c:Cd):Prop where
 params:c.params=s.ps.length
 bO:c.bO=s.bO
 bz:c.bz=s.bz
 pre:Pre s.ps c.vars
 vt:∀t∈c.vars,MT H t
 nv:c.vars.length<=4000
 FE:∀i∈c.is,xW H f s.bO s.bz c.vars ss (c.is.length-1) i
 ajs:∃i,c.is.getLast? = some i/\i.op=18
theorem Nx.nG{s:Sg}{ss ts:List Sd}{c:Cd}(h:Nx H f s ss c):Nx H f s (ss++ts) c:=
 ⟨h.params,h.bO,h.bz,h.pre,h.vt,h.nv,λi hi=>by
  have:=(h.FE i hi).mono (ws:=[]) (ts:=ts) (Nat.le_refl _);simpa using this,h.ajs⟩
structure Made (H:Hd)(cs:List Cd)(ss:List Sd)(all:Nat):Prop where
 code:∀(j:Nat) (c:Cd),cs[j]?=some c->∃s,H.sigs[j]?=some s/\Nx H j s ss c
 OZ:∀s∈ss,MT H s.ty/\nJ s.ty=true/\s.fn<cs.length
 ns:ss.length<=60
 sum:(cs.map (·.is.length)).sum=all
 few:all<=2500
end tc
namespace tc
open Ax Go V7 jG j9
variable {H:Hd}{V:List Vd}{bO:Bool}{bz:T3}
theorem Ti{k n:Int}{m:Nat}(h:gq k n m=true):(k=5\/k=9\/k=10\/k=12\/k=13->m=1)/\(k=6\/14<=k->m=2)/\(0<k/\k<25):=by
 unfold gq at h;split at h;rename_i c;exact⟨λq=>by omega,λq=>by omega,by omega⟩;split at h;rename_i c;exact⟨λq=>by omega,λq=>by omega,by omega⟩;split at h;rename_i c;exact⟨λq=>by omega,λq=>by omega,by omega⟩;split at h;rename_i c1 c2 c3 c;have hm:m=1:=by simpa using h
 exact⟨λ_=>hm,λq=>by omega,by omega⟩;rename_i c1 c2 c3 c;simp only[Bool.and_eq_true,Bool.or_eq_true,decide_eq_true_eq]at h;exact⟨λq=>by omega,λq=>h.2,by omega⟩
theorem Ab:∀{l:List Vd}{s:List UInt8}{i k:Nat}{t:T3},eH s i l=some (k,t)->k<i+l.length
 |[],_,_,_,_,h=>by cases h|f::l,s,i,k,t,h=>by
  unfold eH at h;split at h;cases h;simp;have:=Ab h;simp only[List.length_cons];omega
theorem Ny{s:List UInt8}{t:T3}{r:Int}(hg:H.globals.length<100000000)(h:rX H V s=some (t,r)) : -1000000000<r:=by
 unfold rX at h;split at h;cases h;omega;split at h;rename_i k t' hk;cases h;have:=Ab hk;omega;cases h
theorem aaG(hG:Hd.gd H)(hg:H.globals.length<100000000)(hV:∀v∈V,BT v.ty)(e:E):∀y,xC H V e=.ok y->LE y:=by
 induction e using E.yu with
 |_ e ih=>
  intro y h;have hbt:=(aaF hG hV e y h).1;obtain⟨ks,t,r,h1,h2,h3,rfl⟩:=yS h;have hl:=nY h2;rw[<-hl]at h1;obtain⟨a,b,c⟩:=Ti h1;rw[J6];refine⟨hbt,a,b,c,λk4=>?_,(l5 _).2 (qB h2 ih)⟩;have k4:e.k=4:=k4;unfold lV at h3;rw[if_neg (by omega),if_neg (by omega),if_neg (by omega),if_pos k4]at h3;exact Ny hg h3
theorem Wl{k:Int}{es ys:List E}{P:E->Prop}(h:td H V k es=.ok ys)(hp:∀e∈es,∀y,xC H V e=.ok y->P y):∀y∈ys,P y:=by
 unfold td at h;by_cases h9:k=9;rw[if_pos h9]at h;match es,h,hp with
 |[],h,_=>cases h;simp|e::l,h,hp=>
  cases hx:xC H V e with
  |error a=>simp only[hx]at h;cases h|ok y=>
   simp only[hx]at h;cases h;intro z hz;rw[List.mem_singleton.1 hz];exact hp e List.mem_cons_self y hx
 rw[if_neg h9]at h;exact qB h hp
theorem Au:∀{l ys:List Sm}{V X:List Vd},(∀s∈l,∀V y W,xU H bO bz V s=.ok (y,W)->Gv H V->LS y)->ki H bO bz V l=.ok (ys,X)->Gv H V->LB ys
 |[],ys,V,X,_,h,_=>by
  unfold ki at h;cases h;simp[LB]
 |s::l,ys,V,X,hp,h,hV=>by
  obtain⟨y,W,zs,h1,h2,rfl⟩:=wD h;unfold LB;exact⟨hp s List.mem_cons_self V y W h1 hV,Au (λt ht=>hp t (List.mem_cons_of_mem _ ht)) h2 (Nv s V y W h1 hV).2⟩
theorem Tj{k:Int}{es:List E}(h:cI bO k es=true):(k=2\/k=3\/k=5\/k=6\/k=8\/k=9->es.length=1)/\(k=4->es.length=2/\((k9 es).k=5\/(k9 es).k=6)):=by
 unfold cI at h;split at h;exact⟨λq=>by omega,λq=>by omega⟩;split at h;rename_i c;refine⟨λq=>by omega,λ_=>?_⟩;match es,h with
 |[e,f],h=>exact⟨rfl,by simpa [k9] using h⟩
 split at h;exact⟨λq=>by omega,λq=>by omega⟩;split at h;refine⟨λ_=>?_,λq=>by omega⟩;match es,h with
 |[e],_=>rfl
 split at h;rename_i c1 c2 c3 c4 c;exact⟨λ_=>by simpa using h,λq=>absurd q c2⟩;cases h
theorem aaH(hG:Hd.gd H)(hg:H.globals.length<100000000)(s:Sm):∀V y W,xU H bO bz V s=.ok (y,W)->Gv H V->LS y:=by
 induction s using Sm.yu with
 |_ s sW k7=>
  intro V y X h hV;obtain⟨t,ys,r,W,hf,ht,rK,cJ,hh⟩:=Ec h;have hW:=Th ht cJ hV;have a1:LL ys:=(l5 _).2 (Wl rK λe _ y hy=>aaG hG hg (λv hv=>(hV v hv).2) e y hy);obtain⟨a2,a3⟩:=Tj (SA rK hf);have a4:s.k=2\/s.k=3→-1000000000<r:=λq=>by
   unfold j6 at cJ;rw[if_neg (by omega)]at cJ;by_cases c2:s.k=2;rw[if_pos c2]at cJ;split at cJ;split at cJ;cases cJ;cases cJ;omega;cases cJ;rw[if_neg c2,if_pos (by omega)]at cJ;split at cJ;rename_i u r' hv;split at cJ;cases cJ;exact Ny hg hv;cases cJ;cases cJ
  rcases hh with⟨_,b,W1,c,hb,hc,rfl⟩|⟨_,b,hb,rfl⟩|⟨_,_,rfl,rfl⟩;rw[GA];exact⟨a1,a2,a3,a4,Au sW hb hW,Au k7 hc (Wk hb hW).2⟩;rw[GA];exact⟨a1,a2,a3,a4,Au sW hb hW,by simp[Sm.el,LB]⟩;rw[GA];exact⟨a1,a2,a3,a4,by simp[Sm.bd,LB],by simp[Sm.el,LB]⟩
theorem L0(hG:Hd.gd H)(hg:H.globals.length<100000000):∀{ss:List Sg}{fs:List Fc}{bs:List Bd},(∀s∈ss,Gv H s.ps)->qh H ss fs=.ok bs->∀b∈bs,LB b.code
 |[],fs,bs,_,h=>by unfold qh at h;cases h;simp|_::_,[],bs,_,h=>by unfold qh at h;cases h;simp|s::ss,f::fs,bs,hs,h=>by
  unfold qh at h;split at h;cases h;rename_i c W hb;split at h;cases h;rename_i l hl;cases h;intro b hbm;rcases List.mem_cons.1 hbm with rfl|hbm;exact Au (λs _=>aaH hG hg s) hb (hs s List.mem_cons_self);exact L0 hG hg (λs h=>hs s (List.mem_cons_of_mem _ h)) hl b hbm
end tc
namespace tc
open Ax Go bu V7 jG j9 K9 N7 U7
theorem uP{a b:Option Int}(h:wm a b=none):a=none/\b=none:=by
 cases a with
 |none=>exact⟨rfl,h⟩|some x=>cases h
theorem B4{α:Type}{vu:List α->α->Option Int}{l:List α}:∀{m:Nat},cH vu l m=none->∀k (h:k<l.length),k<m->vu (l.take k) l[k]=none
 |0,_,k,_,hk=>absurd hk (by omega)|m+1,h,k,hl,hk=>by
  obtain⟨h1,h2⟩:=uP h;by_cases e:k=m;subst e;rw[List.getElem?_eq_getElem hl]at h2;exact h2;exact B4 h1 k hl (by omega)
theorem Bj{α:Type}{vu:List α->α->Option Int}{l:List α}(h:cH vu l l.length=none):∀x∈l,∃b,vu b x=none:=λx hx=>by
 obtain⟨k,hk,rfl⟩:=List.getElem_of_mem hx;exact⟨_,B4 h k hk hk⟩
theorem L1{rs:List (List UInt8)}{l:List PD}(h:cH (nU rs) l l.length=none):∀v∈kR rs l,BT v.ty/\RT v.ty:=by
 intro v hv;obtain⟨q,hq,rfl⟩:=List.mem_map.1 hv;obtain⟨b,h1⟩:=Bj h q hq;unfold nU at h1;split at h1;cases h1;rename_i c;simp only[Bool.or_eq_true,Bool.not_eq_true',not_or,Bool.not_eq_false]at c;exact⟨xL c.2,Nw⟩
structure Few (p:Pg):Prop where
 r:p.aR.length<=12
 g:p.globals.length<=8
 f:p.funcs.length<=16
 fl:∀x∈p.aR,x.cP.length<=8
 ps:∀x∈p.funcs,x.params.length<=6
theorem Nz{p:Pg}(h:iS (iY p)=none)(hf:Few p):Hd.ajr (aG p):=by
 have F7:=J0 p;have h3:lY (iY p)=none:=by
  unfold iS at h;split at h;exact(uP h).1;exact h
 unfold lY at h3;obtain⟨h4,hS⟩:=uP h3;obtain⟨h5,hP⟩:=uP h4;obtain⟨h6,hFl⟩:=uP h5;rw[Ap]at hS hP hFl;rw[mY]at hS;rw[Eo]at hP;rw[og]at hFl;have hg:=L1 hP;have hr:∀x∈p.aR,∀v∈kR (cw p) x.cP,BT v.ty/\RT v.ty:=λx hx=>by
  obtain⟨b,h1⟩:=Bj hFl (Fs x) (List.mem_map_of_mem hx);unfold yV at h1;rw[show (Fs x).cP=aA 4 (x.cP.map PD.cells) from rfl,oe]at h1;exact L1 h1
 have hs:∀x∈p.funcs,(∀v∈kR (cw p) x.params,BT v.ty/\RT v.ty)/\(x.bO=true->(bZ (cw p) x.on x.od).2=true):=λx hx=>by
  obtain⟨b,h1⟩:=Bj hS (Cp x) (List.mem_map_of_mem hx);unfold xV at h1;obtain⟨h2,h7⟩:=uP h1;have h8:=(uP h2).2;rw[show (Cp x).params=aA 4 (x.params.map PD.cells) from rfl,oe]at h8;refine⟨L1 h8,λhh=>?_⟩;unfold yW at h7;split at h7;cases h7;rename_i c;show (bZ (cw p) (Cp x).on (Cp x).od).2=true;have hh':(Cp x).bO=true:=hh;rw[hh']at c;simpa using c
 have aaI:∀x∈p.funcs,(wB (cw p) x).bO=true->MT (aG p) (wB (cw p) x).bz:=λx hx hh=>by
  have hh:x.bO=true:=hh;have e:(wB (cw p) x).bz=(bZ (cw p) x.on x.od).1:=by
   show (if x.bO then _ else T0)=_;rw[if_pos hh]
  rw[e];exact⟨mX _ _ _,xL ((hs x hx).2 hh),Nw⟩
 have Tl:∀x∈p.funcs,(wB (cw p) x).bO=false->(wB (cw p) x).bz=T0:=λx hx hh=>by
  have hh:x.bO=false:=hh;show (if x.bO then _ else T0)=_;rw[hh];rfl
 refine⟨F7,⟨?_,?_,?_,?_⟩,⟨?_,?_,?_,?_⟩,?_,?_,?_,?_,?_,?_,?_⟩;intro s o9 v hv;obtain⟨x,hx,rfl⟩:=List.mem_map.1 o9;exact(hr x hx v hv).1;exact λv hv=>(hg v hv).1;intro s o9 v hv;obtain⟨x,hx,rfl⟩:=List.mem_map.1 o9;exact((hs x hx).1 v hv).1;intro s o9 jn;obtain⟨x,hx,rfl⟩:=List.mem_map.1 o9;cases hh:(wB (cw p) x).bO with
 |true=>exact⟨(aaI x hx hh).bt,rfl⟩|false=>exact absurd (Tl x hx hh) jn
 intro s o9 v hv;obtain⟨x,hx,rfl⟩:=List.mem_map.1 o9;exact(hr x hx v hv).2;exact λv hv=>(hg v hv).2;intro s o9 v hv;obtain⟨x,hx,rfl⟩:=List.mem_map.1 o9;exact((hs x hx).1 v hv).2;intro s o9;obtain⟨x,hx,rfl⟩:=List.mem_map.1 o9;cases hh:(wB (cw p) x).bO with
 |true=>exact(aaI x hx hh).rt|false=>rw[Tl x hx hh];intro _;rfl
 intro s o9 hh;obtain⟨x,hx,rfl⟩:=List.mem_map.1 o9;exact aaI x hx hh;intro s o9 hh;obtain⟨x,hx,rfl⟩:=List.mem_map.1 o9;exact Tl x hx hh;intro s o9;obtain⟨x,hx,rfl⟩:=List.mem_map.1 o9;have:=hf.fl x hx;simpa [kR] using this;intro s o9;obtain⟨x,hx,rfl⟩:=List.mem_map.1 o9;have:=hf.ps x hx;simpa [wB,kR] using this;have:=hf.r;simpa [aG] using this;have:=hf.g;simpa [aG,kR] using this;have:=hf.f;simpa [aG] using this
end tc
namespace pU
open Ax Go bu V7 jG j9 K9 S9 N7 U7
theorem J7(s:List UInt8):∀f∈(lB s).1.funcs,Sm.cQ f.body<=6001:=by
 unfold lB;split;rename_i hl;generalize htp:U2.Fo s=z;obtain⟨rows,e⟩:=z;cases e with
 |some e=>intro f hf;cases hf|none=>
  obtain⟨ku,hlen⟩:=HW htp;obtain⟨x,hx⟩:=wA (rP rows);simp only;rw[hx,Option.getD_some];have hTl:(rP rows).length=rows.length:=by simp[rP]
  intro f hf;have:=OK hx f hf;omega
 intro f hf;cases hf
theorem aaJ(p:Pg)(hp:Pg.In 6000 p):∀s∈(aG p).sigs,s.ps.length<=7:=by
 intro s hs;obtain⟨f,hf,rfl⟩:=List.mem_map.1 hs;have:=(hp.f.2 f hf).len;simpa [wB,kR] using this
structure Wm (p:Pg):Prop where
 XY:Pg.In 6000 p
 F6:∀f∈p.funcs,Sm.cQ f.body<=12010
theorem EJ(s:List UInt8):Wm (lB s).1:=⟨(SQ s).1,λf hf=>by have:=J7 s f hf;omega⟩
theorem Ia{p:Pg}(h:Wm p):∀f∈p.funcs,f.params.length+Sm.cQ f.body<1000000000:=λf hf=>by
 have:=h.F6 f hf;have:=(h.XY.f.2 f hf).len;omega
theorem L2{p:Pg}(h:Wm p):∀bs,qh (aG p) (aG p).sigs p.funcs=.ok bs->∀b∈bs,Sm.cQ b.code<=12010/\b.vars.length<=24020:=λbs hR b hb=>by
 have jO:=Gn hR h.F6 b hb;have B8:=JI (n:=12010) (J0 p) hR (λs hs=>((J0 p).sigs s hs).2) (λs hs=>by have:=aaJ p h.XY s hs;omega) h.F6 b hb;omega
theorem xM{p:Pg}(h:Wm p):∀bs,qh (aG p) (aG p).sigs p.funcs=.ok bs->∀b∈bs,Sm.cQ b.code<100000000/\b.vars.length<100000000:=λbs hR b hb=>by
 have:=L2 h bs hR b hb;omega
end pU
