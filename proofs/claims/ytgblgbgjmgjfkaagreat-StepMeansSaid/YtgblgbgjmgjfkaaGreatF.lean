/- Part of a proof. -/
import Derived.Test.YtgblgbgjmgjfkaaGreatS

open List renaming mem_cons_self->aeb,mem_cons_of_mem->aee,map_append->ae6,append_assoc->afd,mem_append->aed,mem_singleton->agx,mem_cons->aev,getElem?_append_right->acP,length_append->adV,length_cons->aeo,append_nil->afe,mem_map->ad7,getElem?_eq_getElem->aas,mem_map_of_mem->al5
open Nat renaming le_refl->acO,zero_le->ah7
open Bool renaming and_eq_true->Ee,or_eq_true->aet,not_eq_true'->afh
set_option maxRecDepth 100000
set_option maxHeartbeats 4000000
namespace qb
open Ax Go V7 iQ iZ
structure In where
 op:Int
 a:Int
 b:Int
 c:Int
 n:Int
 args:List Int
def sB(l:List Int):AV:=aM 1 (aP l)
def In.aI(i:In):List AV:=[.int .i64 i.op,.int .i64 i.a,.int .i64 i.b,.int .i64 i.c,.int .i64 i.n,sB i.args]
structure jt where
 vs:List T3
 is:List In
 ss:List T3
def O0:jt:=⟨[],[],[]⟩
def jt.dO(x y:jt):jt:=⟨x.vs++y.vs,x.is++y.is,x.ss++y.ss⟩
def fW(i:In):jt:=⟨[],[i],[]⟩
def qD(l:List Int):Int:=match l with|a::_=>a | []=>0
def Lt(l:List Int):Int:=match l with|_::a::_=>a|_=>0
def lJ(k n ref t r:Int)(l:List Int):In:=
 if k=1\/k=2 then ⟨1,t,0,0,n,[]⟩
 else if k=3 then ⟨2,t,0,0,0,[]⟩
 else if k=4 then ⟨19,t,0,0,-1-ref,[]⟩
 else if k=5 then ⟨6,t,qD l,ref,0,[]⟩
 else if k=6 then ⟨8,t,qD l,Lt l,0,[]⟩
 else if k=7 then ⟨13,t,0,ref,0,l⟩
 else if k=8 then ⟨11,t,0,0,r,[]⟩
 else if k=9 then ⟨12,t,qD l,0,r,[]⟩
 else if k=10 then ⟨10,t,qD l,0,0,[]⟩
 else if k=11 then ⟨14,t,0,0,0,[]⟩
 else if k=12\/k=13 then ⟨5,t,qD l,0,k,[]⟩
 else ⟨4,t,qD l,Lt l,k,[]⟩
def cK(nv ns:Nat)(k n ref:Int)(ty:T3)(x:List Int×jt):Int×jt:=
 if ty=T0 then (-1,x.2.dO (fW ⟨13,-1,0,ref,0,x.1⟩))
 else (((nv+x.2.vs.length:Nat):Int),x.2.dO ⟨[ty],[lJ k n ref ((nv+x.2.vs.length:Nat):Int) ((ns+x.2.ss.length:Nat):Int) x.1],if k=8\/k=9 then [ty] else []⟩)
mutual
def cE(g N:Nat):E->Int×jt
 |.mk k n _ _ _ h _ T ref=>if k=4/\0<=ref then (ref,O0) else cK g N k n ref T (kT g N h)
def kT(nv ns:Nat):List E->List Int×jt
 |[]=>([],O0)
 |e::l=>((cE nv ns e).1::(kT (nv+(cE nv ns e).2.vs.length) (ns+(cE nv ns e).2.ss.length) l).1,(cE nv ns e).2.dO (kT (nv+(cE nv ns e).2.vs.length) (ns+(cE nv ns e).2.ss.length) l).2)
end
def E0:E:=.mk 0 0 [] [] 0 [] 0 T0 0
def jk(es:List E):E:=match es with|e::_=>e | []=>E0
def es1(es:List E):E:=match es with|_::e::_=>e|_=>E0
def Ko(g at_ N:Nat)(x:jt)(f:Nat->Nat->Nat->jt):jt:=x.dO (f (g+x.vs.length) (at_+x.is.length) (N+x.ss.length))
def HQ(ref v:Int):In:=if ref<0 then ⟨20,v,0,0,-1-ref,[]⟩ else ⟨3,ref,v,0,0,[]⟩
def HR(k ref v:Int)(l:List Int):In:=if k=5 then ⟨7,qD l,v,ref,0,[]⟩ else ⟨9,qD l,Lt l,v,0,[]⟩
def Ph(n at_ N:Nat)(x:Int×jt)(f g:Nat->Nat->Nat->jt):jt:=
 let i:=at_+x.2.is.length
 let b:=f (n+x.2.vs.length) (i+1) (N+x.2.ss.length)
 let j:=i+1+b.is.length
 let c:=g (n+x.2.vs.length+b.vs.length) (j+1) (N+x.2.ss.length+b.ss.length)
 ⟨x.2.vs++b.vs++c.vs,x.2.is++⟨17,x.1,0,((j+1:Nat):Int),((i+1:Nat):Int),[]⟩::(b.is++⟨16,0,0,0,((j+1+c.is.length:Nat):Int),[]⟩::c.is),x.2.ss++b.ss++c.ss⟩
def So(g at_ N:Nat)(x:Int×jt)(f:Nat->Nat->Nat->jt):jt:=
 let i:=at_+x.2.is.length
 let b:=f (g+x.2.vs.length) (i+1) (N+x.2.ss.length)
 let j:=i+1+b.is.length
 ⟨x.2.vs++b.vs,x.2.is++⟨17,x.1,0,((j+1:Nat):Int),((i+1:Nat):Int),[]⟩::(b.is++[⟨16,0,0,0,(at_:Int),[]⟩]),x.2.ss++b.ss⟩
def Og(g N:Nat)(e:E)(x:List Int×jt)(f:Nat->Nat->Int×jt):jt:=
 let v:=f (g+x.2.vs.length) (N+x.2.ss.length)
 (x.2.dO v.2).dO (fW (HR e.k e.ref v.1 x.1))
mutual
def cS(g at_ N:Nat):Sm->jt
 |.mk k _ _ _ es B l _ ref=>
  if k=2\/k=3 then (cE g N (jk es)).2.dO (fW (HQ ref (cE g N (jk es)).1))
  else if k=4 then Og g N (jk es) (kT g N (jk es).aN) (λg N=>cE g N (es1 es))
  else if k=5 then Ph g at_ N (cE g N (jk es)) (λg at_ N=>cB g at_ N B) (λg at_ N=>cB g at_ N l)
  else if k=6 then So g at_ N (cE g N (jk es)) (λg at_ N=>cB g at_ N B)
  else if k=7 then (match es with
   |[]=>fW ⟨18,-1,0,0,0,[]⟩|e::_=>(cE g N e).2.dO (fW ⟨18,(cE g N e).1,0,0,0,[]⟩))
  else if k=8 then (cE g N (jk es)).2.dO (fW ⟨15,(cE g N (jk es)).1,0,0,0,[]⟩)
  else if k=9 then (cE g N (jk es)).2
  else O0
def cB(g at_ N:Nat):List Sm->jt
 |[]=>O0|s::l=>Ko g at_ N (cS g at_ N s) (λg at_ N=>cB g at_ N l)
end
structure Cd where
 params:Nat
 vars:List T3
 bR:Bool
 res:T3
 is:List In
def Cd.aI(c:Cd):List AV:=[.int .i64 c.params,aM 3 (c.vars.map T3.cells),.bool c.bR,.int .i64 c.res.b,.int .i64 c.res.r,.int .i64 c.res.d,aM 6 (c.is.map In.aI)]
structure Sd where
 fn:Nat
 ty:T3
def Sd.aI(s:Sd):List AV:=[.int .i64 s.fn,.int .i64 s.ty.b,.int .i64 s.ty.r,.int .i64 s.ty.d]
def wG(s:Sg)(t:Nat):List In:=if s.bR then [⟨if mh s.res then 2 else 1,(t:Int),0,0,0,[]⟩,⟨18,(t:Int),0,0,0,[]⟩] else [⟨18,-1,0,0,0,[]⟩]
def eG(N:Nat)(b:Bd):jt:=cB b.vars.length 0 N b.code
def eJ(N:Nat)(s:Sg)(b:Bd):Cd:=
 ⟨s.ps.length,b.vars.map (·.ty)++(eG N b).vs++(if s.bR then [s.res] else []),s.bR,s.res,(eG N b).is++wG s (b.vars.length+(eG N b).vs.length)⟩
def yJ(cs:List Cd)(ss:List Sd)(all:Nat):List Sg->List Bd->Except Int (List Cd×List Sd)
 |s::S,b::bs=>
  if 4000<(eJ ss.length s b).vars.length\/2500<all+(eJ ss.length s b).is.length\/60<ss.length+(eG ss.length b).ss.length then .error b.a
  else yJ (cs++[eJ ss.length s b]) (ss++(eG ss.length b).ss.map (λt=>⟨cs.length,t⟩)) (all+(eJ ss.length s b).is.length) S bs
 |_,_=>.ok (cs,ss)
theorem Dg(nv ns:Nat)(e:E):cE nv ns e=if e.k=4/\0<=e.ref then (e.ref,O0) else cK nv ns e.k e.n e.ref e.ty (kT nv ns e.aN):=by
 obtain⟨k,n,N,O,o,g,a,ty,ref⟩:=e
 (conv=>lhs;unfold cE)<;>rfl
theorem pN(g N:Nat)(e:E)(l:List E):kT g N (e::l)=((cE g N e).1::(kT (g+(cE g N e).2.vs.length) (N+(cE g N e).2.ss.length) l).1,(cE g N e).2.dO (kT (g+(cE g N e).2.vs.length) (N+(cE g N e).2.ss.length) l).2):=by
 grind [kT]
theorem Rd(g at_ N:Nat)(s:Sm):cS g at_ N s =
  if s.k=2\/s.k=3 then (cE g N (jk s.es)).2.dO (fW (HQ s.ref (cE g N (jk s.es)).1))
  else if s.k=4 then Og g N (jk s.es) (kT g N (jk s.es).aN) (λg N=>cE g N (es1 s.es))
  else if s.k=5 then Ph g at_ N (cE g N (jk s.es)) (λg at_ N=>cB g at_ N s.bd) (λg at_ N=>cB g at_ N s.el)
  else if s.k=6 then So g at_ N (cE g N (jk s.es)) (λg at_ N=>cB g at_ N s.bd)
  else if s.k=7 then (match s.es with
   |[]=>fW ⟨18,-1,0,0,0,[]⟩|e::_=>(cE g N e).2.dO (fW ⟨18,(cE g N e).1,0,0,0,[]⟩))
  else if s.k=8 then (cE g N (jk s.es)).2.dO (fW ⟨15,(cE g N (jk s.es)).1,0,0,0,[]⟩)
  else if s.k=9 then (cE g N (jk s.es)).2
  else O0:=by
 obtain⟨k,n,O,o,es,B,l,a,ref⟩:=s
 (conv=>lhs;unfold cS)<;>rfl
theorem Kp(g at_ N:Nat):cB g at_ N []=O0:=by unfold cB;rfl
theorem EG(g at_ N:Nat)(s:Sm)(l:List Sm):cB g at_ N (s::l)=Ko g at_ N (cS g at_ N s) (λg at_ N=>cB g at_ N l):=by
 grind [cB]
theorem TS(x:jt):x.dO O0=x:=by simp[jt.dO,O0]
theorem TT(x:jt):O0.dO x=x:=by simp[jt.dO,O0]
theorem V5(x y z:jt):(x.dO y).dO z=x.dO (y.dO z):=by simp[jt.dO]
end qb
namespace qb
open Ax Go V7 iQ iZ
mutual
def LE:E->Prop
 |.mk k _ _ _ _ g _ T ref=>(T=T0->k=7)/\(k=5\/k=9\/k=10\/k=12\/k=13->g.length=1)/\(k=6\/14<=k->g.length=2)/\(0<k/\k<25)/\(k=4→-1000000000<ref)/\LL g
def LL:List E->Prop
 |[]=>True|e::l=>LE e/\LL l
end
theorem acq(e:E):LE e↔(e.ty=T0->e.k=7)/\(e.k=5\/e.k=9\/e.k=10\/e.k=12\/e.k=13->e.aN.length=1)/\(e.k=6\/14<=e.k->e.aN.length=2)/\(0<e.k/\e.k<25)/\(e.k=4→-1000000000<e.ref)/\LL e.aN:=by
 cases e;unfold LE;exact Iff.rfl
theorem ya:∀l:List E,LL l↔∀e∈l,LE e
 |[]=>by simp[LL]|e::l=>by simp[LL,ya l]
theorem agF(x y:jt):(x.dO y).vs.length=x.vs.length+y.vs.length/\(x.dO y).is.length=x.is.length+y.is.length/\(x.dO y).ss.length=x.ss.length+y.ss.length:=by simp[jt.dO]
def Lo(o:jt)(n:Nat):Prop:=o.vs.length<=n/\o.is.length<=n/\o.ss.length<=n
theorem Lo.dO{x y:jt}{n m:Nat}(h:Lo x n)(g:Lo y m):Lo (x.dO y) (n+m):=by
 obtain⟨a,b,c⟩:=agF x y;obtain⟨j,k,l⟩:=h;obtain⟨G,W,Y⟩:=g;exact⟨by omega,by omega,by omega⟩
theorem Lo.le{x:jt}{n m:Nat}(h:Lo x n)(g:n<=m):Lo x m:=⟨by have:=h.1;omega,by have:=h.2.1;omega,by have:=h.2.2;omega⟩
theorem acr{l:List E}(I:∀e∈l,∀g N,Lo (cE g N e).2 (E.sz e)):∀g N,Lo (kT g N l).2 (E.eD l):=by
 induction l with
 |nil=>intro g N;simp[kT,O0,Lo,E.eD]|cons e l C=>
  intro g N;rw[pN];simp only[E.eD];exact(I e aeb g N).dO (C (λx h=>I x (aee _ h)) _ _)
theorem wH(e:E):∀g N,Lo (cE g N e).2 (E.sz e):=by
 induction e using E.Cf with
 |_ e I=>
  intro g N;have j:=E.rj e;rw[Dg];split;simp[Lo,O0];have h:=acr I g N;unfold cK;split;exact(h.dO (y:=fW _) (m:=1) (by simp[Lo,fW])).le (by omega);refine(h.dO (m:=1) ?_).le (by omega);refine⟨by simp,by simp,?_⟩
  grind
theorem TU(l:List E)(g N:Nat):Lo (kT g N l).2 (E.eD l):=by grind [acr,wH]
variable{l:List Sm}{k:Nat}{es:List E}
theorem Mu{l:List E}(h:k<l.length):(E.rows l)[k]?=some l[k].aI:=by simp[jq,h]
theorem Bo{l:List E}(h:k<l.length)(g:k<(E.rows l).length):(E.rows l)[k]=l[k].aI:=by simp[jq]
theorem zL{s:Nat}{r:List (List AV)}(h:cr s r=true):cN s (aM s r)=true:=by
 cases r with
 |nil=>rfl|cons a r=>simp_all
theorem zE{l:List E}:cN 11 (bG l)=true:=zL (by simp[cr,jq,E.aQ])
theorem zI{l:List Int}:cN 1 (aM 1 (aP l))=true:=zL (by simp_all)
mutual
def LS:Sm->Prop
 |.mk k _ _ _ es B l _ ref=>LL es/\(k=2\/k=3\/k=5\/k=6\/k=8\/k=9->es.length=1)/\(k=4->es.length=2/\((jk es).k=5\/(jk es).k=6))/\(k=2\/k=3→-1000000000<ref)/\LB B/\LB l
def LB:List Sm->Prop
 |[]=>True|s::l=>LS s/\LB l
end
theorem Re(s:Sm):LS s↔LL s.es/\(s.k=2\/s.k=3\/s.k=5\/s.k=6\/s.k=8\/s.k=9->s.es.length=1)/\(s.k=4->s.es.length=2/\((jk s.es).k=5\/(jk s.es).k=6))/\(s.k=2\/s.k=3→-1000000000<s.ref)/\LB s.bd/\LB s.el:=by
 cases s;unfold LS;exact Iff.rfl
theorem Oh:∀l:List Sm,LB l↔∀s∈l,LS s
 |[]=>by simp[LB]|s::l=>by simp[LB,Oh l]
theorem Kn{g:List E}(h:g.length=1):g=[jk g]:=by
 match g,h with
 |[e],_=>rfl
theorem acs(h:es.length=2):es=[jk es,es1 es]:=by
 match es,h with
 |[e,f],_=>rfl
theorem acu{l:List Int}(h:l.length=1):aP l=[[.int .i64 (qD l)]]:=by
 match l,h with
 |[a],_=>rfl
theorem acv{l:List Int}(h:l.length=2):aP l=[[.int .i64 (qD l)],[.int .i64 (Lt l)]]:=by
 match l,h with
 |[a,b],_=>rfl
theorem acw(I:∀s∈l,∀g a N,Lo (cS g a N s) (2*Sm.sz s)):∀g a N,Lo (cB g a N l) (2*Sm.eD l):=by
 induction l with
 |nil=>grind [Kp,Lo,O0]|cons s l C=>
  intro g a N;rw[EG];unfold Ko;exact((I s aeb g a N).dO (C (λx h=>I x (aee _ h)) _ _ _)).le (by simp only[Sm.eD];omega)
theorem Kq(h:es.length≠0):E.sz (jk es)<=E.eD es:=by
 match es,h with
 |e::l,_=>simp[jk,E.eD]
theorem aiQ(s:Sm):LS s->∀n a N,Lo (cS n a N s) (2*Sm.sz s):=by
 induction s using Sm.Cf with
 |_ s w T=>
  intro R n a N;rw[Re]at R;obtain⟨D,F,v,_,m,o⟩:=R;rw[Oh]at m o;have K:=Sm.wz s;have one:∀i,Lo (fW i) 1:=λi=>by simp[Lo,fW]
  have f:=λn a N=>acw (λx h=>w x h (m x h)) n a N;have g:=λn a N=>acw (λx h=>T x h (o x h)) n a N;rw[Rd];by_cases c:s.k=2\/s.k=3;rw[af c];have:=Kq (es:=s.es) (by grind);exact((wH _ _ _).dO (one _)).le (by omega);rw[U c];by_cases c4:s.k=4;rw[af c4];obtain⟨e,f,j⟩:∃e f,s.es=[e,f]:=⟨_,_,acs (v c4).1⟩;have q1:jk s.es=e:=by rw[j];rfl
  have q2:es1 s.es=f:=by rw[j];rfl
  have Q:E.eD s.es=E.sz e+E.sz f:=by rw[j];simp[E.eD]
  have G:=E.rj e;rw[q1,q2];unfold Og;exact(((TU _ _ _).dO (wH _ _ _)).dO (one _)).le (by omega);rw[U c4];by_cases C:s.k=5;rw[af C];have:=Kq (es:=s.es) (by grind);unfold Ph;dsimp only;obtain⟨p,S,q⟩:=wH (jk s.es) n N;have B:=f (n+(cE n N (jk s.es)).2.vs.length) (a+(cE n N (jk s.es)).2.is.length+1) (N+(cE n N (jk s.es)).2.ss.length);generalize cE n N (jk s.es)=x at *;generalize cB (n+x.2.vs.length) (a+x.2.is.length+1) (N+x.2.ss.length) s.bd=y at *;have c1:=g (n+x.2.vs.length+y.vs.length) (a+x.2.is.length+1+y.is.length+1) (N+x.2.ss.length+y.ss.length);generalize cB (n+x.2.vs.length+y.vs.length) (a+x.2.is.length+1+y.is.length+1) (N+x.2.ss.length+y.ss.length) s.el=z at *;obtain⟨B,r,t⟩:=B;obtain⟨c1,c2,c3⟩:=c1;refine⟨?_,?_,?_⟩<;>grind<;>omega;rw[U C];by_cases c6:s.k=6;rw[af c6];have:=Kq (es:=s.es) (by grind);unfold So;dsimp only;obtain⟨p,S,q⟩:=wH (jk s.es) n N;have B:=f (n+(cE n N (jk s.es)).2.vs.length) (a+(cE n N (jk s.es)).2.is.length+1) (N+(cE n N (jk s.es)).2.ss.length);generalize cE n N (jk s.es)=x at *;generalize cB (n+x.2.vs.length) (a+x.2.is.length+1) (N+x.2.ss.length) s.bd=y at *;obtain⟨B,r,t⟩:=B;refine⟨?_,?_,?_⟩<;>grind<;>omega;rw[U c6];by_cases c7:s.k=7;rw[af c7];match M:s.es with
  |[]=>exact(one _).le (by omega)|e::l=>
   have:E.eD s.es=E.sz e+E.eD l:=by rw[M];rfl
   exact((wH _ _ _).dO (one _)).le (by omega)
  rw[U c7];by_cases c8:s.k=8;rw[af c8];have:=Kq (es:=s.es) (by grind);exact((wH _ _ _).dO (one _)).le (by omega);rw[U c8];by_cases c9:s.k=9;rw[af c9];have:=Kq (es:=s.es) (by grind);exact(wH _ _ _).le (by omega);rw[U c9];simp[Lo,O0]
theorem Rf(h:LB l)(g a N:Nat):Lo (cB g a N l) (2*Sm.eD l):=by grind [acw,aiQ,Oh]
theorem Oe(h:k<l.length):(Sm.rows l)[k]?=some l[k].aI:=by simp[jQ,h]
theorem Cl(h:k<l.length)(g:k<(Sm.rows l).length):(Sm.rows l)[k]=l[k].aI:=by simp[jQ]
end qb
namespace qb
open Ax Go V7 iQ iZ
def ry(vs:List T3)(t:T3)(a:Int):Prop:=∃k:Nat,a=k/\vs[k]?=some t
variable{vs ws:List T3}{m:Nat}
theorem ry.dO{t:T3}{a:Int}(h:ry vs t a):ry (vs++ws) t a:=by
 obtain⟨k,g,j⟩:=h;exact⟨k,g,by grind⟩
def zM(vs:List T3):List Vd->List Int->Prop
 |[],[]=>True|p::ps,a::l=>ry vs p.ty a/\zM vs ps l|_,_=>False
theorem zM.dO{vs ws:List T3}:∀{ps:List Vd}{l:List Int},zM vs ps l->zM (vs++ws) ps l
 |[],[],_=>trivial|_::_,_::_,h=>⟨h.1.dO,zM.dO h.2⟩
 |[],_::_,h=>h.elim|_::_,[],h=>h.elim
inductive zK (H:Hd) (f:Nat) (bR:Bool) (res:T3) (vs:List T3) (ss:List Sd) (m:Nat):In->Prop
 |c1 {a n:Int}:ry vs tI a->zK H f bR res vs ss m ⟨1,a,0,0,n,[]⟩
 |c1b {a n:Int}:ry vs tB a->n=0\/n=1->zK H f bR res vs ss m ⟨1,a,0,0,n,[]⟩
 |c2 {a:Int} {t:T3}:ry vs t a->mh t=true->zK H f bR res vs ss m ⟨2,a,0,0,0,[]⟩
 |c3 {a b:Int} {t:T3}:ry vs t a->ry vs t b->zK H f bR res vs ss m ⟨3,a,b,0,0,[]⟩
 |c4 {a b c k:Int} {ta tb t:T3} {r:Int}:ry vs ta b->ry vs tb c->iZ.pJ k ta tb=some (t,r)->14<=k/\k<=24->ry vs t a->zK H f bR res vs ss m ⟨4,a,b,c,k,[]⟩
 |c5i {a b:Int}:ry vs tI a->ry vs tI b->zK H f bR res vs ss m ⟨5,a,b,0,12,[]⟩
 |c5b {a b:Int}:ry vs tB a->ry vs tB b->zK H f bR res vs ss m ⟨5,a,b,0,13,[]⟩
 |c6 {a b:Int} {r j:Nat} {s:List UInt8×List Vd} {v:Vd}:ry vs ⟨3,r,0⟩ b->H.bJ[r]?=some s->s.2[j]?=some v->ry vs v.ty a->zK H f bR res vs ss m ⟨6,a,b,j,0,[]⟩
 |c7 {a b:Int} {r j:Nat} {s:List UInt8×List Vd} {v:Vd}:ry vs ⟨3,r,0⟩ a->H.bJ[r]?=some s->s.2[j]?=some v->ry vs v.ty b->zK H f bR res vs ss m ⟨7,a,b,j,0,[]⟩
 |c8 {a b c:Int} {t:T3}:ry vs t b->0<t.d->ry vs ⟨t.b,t.r,t.d-1⟩ a->ry vs tI c->zK H f bR res vs ss m ⟨8,a,b,c,0,[]⟩
 |c9 {a b c:Int} {t:T3}:ry vs t a->0<t.d->ry vs ⟨t.b,t.r,t.d-1⟩ c->ry vs tI b->zK H f bR res vs ss m ⟨9,a,b,c,0,[]⟩
 |Df {a b:Int} {t:T3}:ry vs tI a->ry vs t b->0<t.d->zK H f bR res vs ss m ⟨10,a,b,0,0,[]⟩
 |Lu {a:Int} {n:Nat} {t:T3}:ry vs t a->t.b=3->t.d=0->ss[n]?=some ⟨f,t⟩->zK H f bR res vs ss m ⟨11,a,0,0,n,[]⟩
 |DJ {a b:Int} {n:Nat} {t:T3}:ry vs t a->0<t.d->ss[n]?=some ⟨f,t⟩->ry vs tI b->zK H f bR res vs ss m ⟨12,a,b,0,n,[]⟩
 |Fo {a:Int} {j:Nat} {s:Sg} {l:List Int}:H.aW[j]?=some s->zM vs s.ps l->(a = -1\/s.bR=true/\ry vs s.res a)->zK H f bR res vs ss m ⟨13,a,0,j,0,l⟩
 |c14 {a:Int}:ry vs tI a->zK H f bR res vs ss m ⟨14,a,0,0,0,[]⟩
 |c15 {a:Int}:ry vs tI a->zK H f bR res vs ss m ⟨15,a,0,0,0,[]⟩
 |c16 {n:Nat}:n<=m->zK H f bR res vs ss m ⟨16,0,0,0,n,[]⟩
 |c17 {a:Int} {n c:Nat}:ry vs tB a->n<=m->c<=m->zK H f bR res vs ss m ⟨17,a,0,c,n,[]⟩
 |c18 {a:Int}:(if bR=true then ry vs res a else a = -1)->zK H f bR res vs ss m ⟨18,a,0,0,0,[]⟩
 |c19 {a:Int} {j:Nat} {v:Vd}:H.az[j]?=some v->ry vs v.ty a->zK H f bR res vs ss m ⟨19,a,0,0,j,[]⟩
 |c20 {a:Int} {j:Nat} {v:Vd}:H.az[j]?=some v->ry vs v.ty a->zK H f bR res vs ss m ⟨20,a,0,0,j,[]⟩
variable {H:Hd}{f:Nat}{bR:Bool}{res:T3}
theorem lZ{g:Type}{l r:List g}{k:Nat}{x:g}(h:l[k]?=some x):(l++r)[k]?=some x:=by
 grind
theorem zK.mono{S ts:List Sd}{m':Nat}{i:In}(h:zK H f bR res vs S m i)(g:m<=m'):zK H f bR res (vs++ws) (S++ts) m' i:=by
 cases h with
 |c1 a=>exact .c1 a.dO|c1b a b=>exact .c1b a.dO b|c2 a b=>exact .c2 a.dO b|c3 a b=>exact .c3 a.dO b.dO|c4 a b c d e=>exact .c4 a.dO b.dO c d e.dO|c5i a b=>exact .c5i a.dO b.dO|c5b a b=>exact .c5b a.dO b.dO|c6 a b c d=>exact .c6 a.dO b c d.dO|c7 a b c d=>exact .c7 a.dO b c d.dO|c8 a b c d=>exact .c8 a.dO b c.dO d.dO|c9 a b c d=>exact .c9 a.dO b c.dO d.dO|Df a b c=>exact .Df a.dO b.dO c|Lu a b c d=>exact .Lu a.dO b c (lZ d)|DJ a b c d=>exact .DJ a.dO b (lZ c) d.dO|Fo a b c=>exact .Fo a b.dO (c.imp id λh=>⟨h.1,h.2.dO⟩)|c14 a=>exact .c14 a.dO|c15 a=>exact .c15 a.dO|c16 a=>exact .c16 (by omega)|c17 a b c=>exact .c17 a.dO (by omega) (by omega)|c18 a=>
  refine .c18 ?_;split;rename_i q;rw[af q]at a;exact a.dO
  grind
 |c19 a b=>exact .c19 a b.dO|c20 a b=>exact .c20 a b.dO
def Hi(V:List Vd)(vs:List T3):Prop:=∀(k:Nat)(v:Vd),V[k]?=some v->vs[k]?=some v.ty
theorem Hi.dO{V:List Vd}(h:Hi V vs):Hi V (vs++ws):=λk v j=>lZ (h k v j)
structure DW (H:Hd)(f:Nat)(bR:Bool)(res:T3)(vs:List T3)(ss:List Sd)(m:Nat)(o:jt):Prop where
 is:∀i∈o.is,zK H f bR res (vs++o.vs) (ss++o.ss.map (Sd.mk f)) m i
theorem DW.nil{S:List Sd}:DW H f bR res vs S m O0:=⟨by simp[O0]⟩
theorem DW.dO{vs:List T3}{S:List Sd}{m M m2:Nat}{x y:jt}(h:DW H f bR res vs S M x)(k:DW H f bR res (vs++x.vs) (S++x.ss.map (Sd.mk f)) m2 y)(j:M<=m)(l:m2<=m):DW H f bR res vs S m (x.dO y):=by
 refine⟨λi g=>?_⟩;simp only[jt.dO,ae6,<-afd];rcases aed.1 g with g|g;exact(h.is i g).mono j;have:=(k.is i g).mono (ws:=[]) (ts:=[]) l
 grind
theorem DW.jr{S:List Sd}{i:In}(h:zK H f bR res vs S m i):DW H f bR res vs S m (fW i):=by
 refine⟨λj g=>?_⟩
 grind [fW,agx]
theorem mq{s:List UInt8}:∀{l:List Vd}{i k:Nat}{t:T3},jj s i l=some (k,t)->i<=k/\∃v,l[k-i]?=some v/\v.ty=t
 |[],_,_,_,h=>by cases h|f::l,i,k,t,h=>by
  unfold jj at h;split at h
  grind
  obtain⟨g,v,j,m⟩:=mq h
  grind
theorem qz{s:List UInt8}:∀{l:List Sg}{i k:Nat}{t:Sg},uC s i l=some (k,t)->i<=k/\l[k-i]?=some t
 |[],_,_,_,h=>by cases h|g::l,i,k,t,h=>by
  unfold uC at h;split at h
  grind
  obtain⟨j,m⟩:=qz h
  grind
theorem F5{vs:List T3}:∀{ps:List Vd}{K:List E}{l:List Int},jC ps K=true->l.length=K.length->(∀(j:Nat)(e:E)(a:Int),K[j]?=some e->l[j]?=some a->ry vs e.ty a)->zM vs ps l
 |[],[],[],_,_,_=>trivial|p::ps,k::K,a::l,h,g,m=>by
  simp only[jC,Ee,aA]at h;refine⟨?_,F5 h.2 (by grind) λj e b n o=>m (j+1) e b (by grind) (by grind)⟩;have:=m 0 k a rfl rfl
  grind
 |[],_::_,_,h,_,_=>by simp[jC]at h|_::_,[],_,h,_,_=>by simp[jC]at h|[],[],_::_,_,g,_=>by simp at g|_::_,_::_,[],_,g,_=>by simp at g
end qb
namespace qb
open Ax Go V7 iQ iZ
variable {H:Hd}{f:Nat}{bR:Bool}{res:T3}{V:List Vd}
def BT(t:T3):Prop:=1<=t.b/\t.b<=3
variable{t:T3}{l:List Int}{K:List E}{vs:List T3}
theorem BT.ne(h:BT t):t≠T0:=λe=>by rw[e]at h;exact au h.1 (by decide)
structure Hd.gd (H:Hd):Prop where
 bJ:∀s∈H.bJ,∀f∈s.2,BT f.ty
 az:∀f∈H.az,BT f.ty
 ps:∀s∈H.aW,∀f∈s.ps,BT f.ty
 res:∀s∈H.aW,s.res≠T0->BT s.res/\s.bR=true
theorem Cm{l:List (List UInt8)}{s:List UInt8}{d:Int}(h:(dw l s d).2=true):BT (dw l s d).1:=by
 unfold dw at h ⊢;split;rename_i c;rw[af c]at h;cases h;rename_i c;rw[U c]at h;split;exact⟨by show (1:Int)<=1;decide,by show (1:Int)<=3;decide⟩;rename_i c2;rw[U c2]at h;split;exact⟨by show (1:Int)<=2;decide,by show (2:Int)<=3;decide⟩;rename_i c3;rw[U c3]at h;split;rename_i c4;rw[af c4]at h;cases h;exact⟨by show (1:Int)<=3;decide,by show (3:Int)<=3;decide⟩
theorem dm{b:Bool}{u:T3}{r:Int}(h:Ka b t=some (u,r)):b=true/\u=t/\r=0:=by
 unfold Ka at h;cases b with
 |false=>cases h|true=>cases h;exact⟨rfl,rfl,rfl⟩
theorem mem_of{g:Type}{l:List g}{k:Nat}{x:g}(h:l[k]?=some x):x∈l:=List.mem_of_getElem? h
theorem Yt(h:K.length=1):∃a,K=[a]:=by
 match K,h with
 |[a],_=>exact⟨a,rfl⟩
theorem acy(h:K.length=2):∃a b,K=[a,b]:=by
 match K,h with
 |[a,b],_=>exact⟨a,b,rfl⟩
theorem alp(o:Hd.gd H)(I:∀v∈V,BT v.ty){k n:Int}{N w:List UInt8}{O:Int}{r:Int}(m:ir k n K.length=true)(Z:∀e∈K,BT e.ty)(h:mR H V k N w O K=some (t,r)):(t=T0->k=7)/\(t≠T0->BT t):=by
 have bI:BT tI:=⟨by decide,by decide⟩;have bB:BT tB:=⟨by decide,by decide⟩;have of:BT t->(t=T0->k=7)/\(t≠T0->BT t):=λh=>⟨λe=>au e h.ne,λ_=>h⟩;unfold mR at h;by_cases c1:k=1\/k=11;rw[af c1]at h;cases h;exact of bI;rw[U c1]at h;by_cases c2:k=2;rw[af c2]at h;cases h;exact of bB;rw[U c2]at h;by_cases c3:k=3;rw[af c3]at h;obtain⟨g,rfl,_⟩:=dm h;rw[Ee]at g;exact of (Cm g.1);rw[U c3]at h;by_cases c4:k=4;rw[af c4]at h;unfold ue at h;split at h;rename_i j u e;cases h;obtain⟨_,v,g,l⟩:=mq e;exact of (l ▸ I v (mem_of g));split at h;rename_i j u e;cases h;obtain⟨_,v,g,l⟩:=mq e;exact of (l ▸ o.az v (mem_of g));cases h;rw[U c4]at h;by_cases C:k=5;rw[af C]at h;unfold zG at h;split at h;split at h;rename_i s p;split at h;rename_i i u e;cases h;obtain⟨_,v,g,l⟩:=mq e;exact of (l ▸ o.bJ s (mem_of p) v (mem_of g));cases h;cases h;cases h;rw[U C]at h;by_cases c6:k=6;rw[af c6]at h;obtain⟨g,rfl,_⟩:=dm h;have q:K.length=2:=by
  unfold ir at m;rw[U (by omega),U (by omega),U (by omega),U (by omega)]at m;simp only[Ee,aA]at m;exact m.2
 obtain⟨a,b,rfl⟩:=acy q;exact of (Z a (by simp));rw[U c6]at h;by_cases c7:k=7;rw[af c7]at h;refine⟨λ_=>c7,λM=>?_⟩;unfold qZ at h;split at h;rename_i i s p;split at h;cases h;obtain⟨_,l⟩:=qz p;exact(o.res s (mem_of l) M).1;cases h;cases h;rw[U c7]at h;by_cases c8:k=8;rw[af c8]at h;obtain⟨g,rfl,_⟩:=dm h;simp only[Ee]at g;exact of (Cm g.1.1);rw[U c8]at h;by_cases c9:k=9;rw[af c9]at h;obtain⟨g,rfl,_⟩:=dm h;simp only[Ee]at g;exact of (Cm g.1.1);rw[U c9]at h;by_cases Df:k=10;rw[af Df]at h;obtain⟨_,rfl,_⟩:=dm h;exact of bI;rw[U Df]at h;by_cases DJ:k=12;rw[af DJ]at h;obtain⟨_,rfl,_⟩:=dm h;exact of bI;rw[U DJ]at h;by_cases Fo:k=13;rw[af Fo]at h;obtain⟨_,rfl,_⟩:=dm h;exact of bB;rw[U Fo]at h;unfold iZ.pJ at h;split at h;obtain⟨_,rfl,_⟩:=dm h;exact of bI;split at h;obtain⟨_,rfl,_⟩:=dm h;exact of bB;split at h;obtain⟨_,rfl,_⟩:=dm h;exact of bB;obtain⟨_,rfl,_⟩:=dm h;exact of bB
theorem F6:∀{l Y:List E},rF H V l=.ok Y->∀y∈Y,y.ty≠T0
 |[],Y,h=>by unfold rF at h;cases h;simp|e::l,Y,h=>by
  obtain⟨y,Z,_,j,k,rfl⟩:=nk h;intro z g;rcases aev.1 g with rfl|g;exact j;exact F6 k z g
theorem Kr(o:Hd.gd H)(I:∀v∈V,BT v.ty)(e:E):∀y,xX H V e=.ok y->(y.ty=T0->y.k=7)/\(y.ty≠T0->BT y.ty):=by
 induction e using E.Cf with
 |_ e p=>
  intro y h;obtain⟨K,t,r,j,g,l,rfl⟩:=qj h;have m:=jy g p;have n:=F6 g;exact alp o I (by rw[nH g];exact j) (λe U=>(m e U).2 (n e U)) l
def FE(H:Hd)(f:Nat)(bR:Bool)(res:T3)(V:List Vd)(y:E):Prop:=∀(vs:List T3)(S:List Sd),Hi V vs->DW H f bR res vs S 0 (cE vs.length S.length y).2/\(y.ty≠T0->ry (vs++(cE vs.length S.length y).2.vs) y.ty (cE vs.length S.length y).1)
theorem Oi:∀(Y:List E),(∀y∈Y,y.ty≠T0/\FE H f bR res V y)->∀(vs:List T3)(S:List Sd),Hi V vs->
  DW H f bR res vs S 0 (kT vs.length S.length Y).2/\(kT vs.length S.length Y).1.length=Y.length/\∀(j:Nat) (e:E) (a:Int),Y[j]?=some e->(kT vs.length S.length Y).1[j]?=some a->ry (vs++(kT vs.length S.length Y).2.vs) e.ty a
 |[],_,vs,S,_=>by
  have e:kT vs.length S.length []=([],O0):=by unfold kT;rfl
  rw[e];exact⟨DW.nil,rfl,λj e a h=>by simp at h⟩
 |y::Y,h,vs,S,g=>by
  rw[pN];obtain⟨l,m⟩:=h y aeb;obtain⟨n,o⟩:=m vs S g;generalize t:cE vs.length S.length y=x at *;have k:vs.length+x.2.vs.length=(vs++x.2.vs).length:=by simp
  have q:S.length+x.2.ss.length=(S++x.2.ss.map (Sd.mk f)).length:=by simp
  rw[k,q];obtain⟨K,r,s⟩:=Oi Y (λz p=>h z (aee _ p)) (vs++x.2.vs) (S++x.2.ss.map (Sd.mk f)) g.dO;generalize kT (vs++x.2.vs).length (S++x.2.ss.map (Sd.mk f)).length Y=z at *;refine⟨n.dO K (acO _) (acO _),by simp[r],λj e a q1 q2=>?_⟩;simp only[jt.dO,<-afd];cases j with
  |zero=>
   simp only[List.getElem?_cons_zero,bw]at q1 q2;subst q1;subst q2;exact(o l).dO
  |succ j=>
   simp only[List.getElem?_cons_succ]at q1 q2;exact s j e a q1 q2
theorem V6{ws:List T3}:ry (vs++(ws++[t])) t ((vs.length+ws.length:Nat):Int):=⟨vs.length+ws.length,rfl,by rw[<-afd,acP (by simp)];simp⟩
theorem alq{k n ref:Int}{T:T3}{S:List Sd}{x:List Int×jt}(l:DW H f bR res vs S 0 x.2)(_h0:T=T0->k=7)
  (Y:T=T0->zK H f bR res (vs++x.2.vs) (S++x.2.ss.map (Sd.mk f)) 0 ⟨13,-1,0,ref,0,x.1⟩)
  (h:T≠T0->∀st:List Sd,(k=8\/k=9->st=[⟨f,T⟩])->zK H f bR res (vs++(x.2.vs++[T])) (S++x.2.ss.map (Sd.mk f)++st) 0 (lJ k n ref ((vs.length+x.2.vs.length:Nat):Int) ((S.length+x.2.ss.length:Nat):Int) x.1)) :
  DW H f bR res vs S 0 (cK vs.length S.length k n ref T x).2/\(T≠T0->ry (vs++(cK vs.length S.length k n ref T x).2.vs) T (cK vs.length S.length k n ref T x).1):=by
 unfold cK;by_cases j:T=T0;rw[af j];exact⟨l.dO (.jr (Y j)) (acO _) (acO _),λq=>au j q⟩;rw[U j];refine⟨⟨λi g=>?_⟩,λ_=>V6⟩;rcases aed.1 g with g|g;have:=(l.is i g).mono (ws:=[T]) (ts:=((if k=8\/k=9 then [T] else []):List T3).map (Sd.mk f)) (acO 0);simpa [jt.dO] using this;have g:i=lJ k n ref ((vs.length+x.2.vs.length:Nat):Int) ((S.length+x.2.ss.length:Nat):Int) x.1:=by simpa using g
 subst g;have:=h j (((if k=8\/k=9 then [T] else []):List T3).map (Sd.mk f)) (λq=>by rw[af q];rfl);simpa [jt.dO] using this
theorem F7{n:Nat}(h:l.length=n+1):l[0]?=some (qD l):=by
 match l,h with
 |a::_,_=>rfl
theorem alr{n:Nat}(h:l.length=n+2):l[1]?=some (Lt l):=by
 match l,h with
 |_::a::_,_=>rfl
theorem TV(hH:H.ok)(G:Hd.gd H)(hW:∀v∈V,WT H.rs.length v.ty)(Q:∀v∈V,BT v.ty)(e:E):∀y,xX H V e=.ok y->FE H f bR res V y:=by
 induction e using E.Cf with
 |_ e ih=>
  intro y h;have D:=Kr G Q e y h;obtain⟨z,t,r,h1,B,g,rfl⟩:=qj h;have iO:=F6 B;have hb:=jy B λe _ y w=>Kr G Q e y w;have O:=jy B λe _ y w=>NT hH hW e y w;have hk:ir e.k e.n z.length=true:=by rw[nH B];exact h1
  intro vs S T;obtain⟨Z,K,P⟩:=Oi (f:=f) (bR:=bR) (res:=res) z (λy w=>⟨iO y w,jy B ih y w⟩) vs S T;have hE:cE vs.length S.length (.mk e.k (uD e.k e.n) (uf e.k e.nm) (uh e.k e.on) (uk e.k e.od) z e.a t r)=if e.k=4/\0<=r then (r,O0) else cK vs.length S.length e.k (uD e.k e.n) r t (kT vs.length S.length z):=Dg _ _ _
  rw[hE];generalize hx:kT vs.length S.length z=x at *;obtain⟨l,o⟩:=x;simp only at Z K P;by_cases c4:e.k=4/\0<=r;rw[af c4];refine⟨DW.nil,λ_=>?_⟩;have L:=g;unfold mR at L;rw[U (by omega),U (by omega),U (by omega),af c4.1]at L;unfold ue at L;split at L;rename_i j u p;cases L;obtain⟨_,v,q1,q2⟩:=mq p;refine⟨j,rfl,?_⟩;rw[<-q2];exact lZ (T j v (by simpa using q1));split at L;rename_i j u p;cases L;omega;cases L;rw[U c4];refine alq (x:=(l,o)) Z D.1 (λM=>?_) (λM st W=>?_);have c7:e.k=7:=D.1 M;unfold mR at g;rw[U (by omega),U (by omega),U (by omega),U (by omega),U (by omega),U (by omega),af c7]at g;unfold qZ at g;split at g;rename_i i s F;split at g;rename_i R;cases g;obtain⟨_,q⟩:=qz F;exact .Fo (by simpa using q) (F5 R K λj e a q1 q2=>P j e a q1 q2) (.inl rfl);cases g;cases g;have N:ry (vs++(o.vs++[t])) t ((vs.length+o.vs.length:Nat):Int):=V6;have kk:∀(j:Nat) (e:E) (a:Int),z[j]?=some e->l[j]?=some a->ry (vs++(o.vs++[t])) e.ty a:=λj e a q1 q2=>by
   have:=(P j e a q1 q2).dO (ws:=[t]);simpa using this
  generalize hA:((vs.length+o.vs.length:Nat):Int)=A at *;unfold lJ;have m:=hk;unfold ir at m;unfold mR at g;by_cases c1:e.k=1;rw[af (.inl c1)]at g ⊢;cases g;exact .c1 N;by_cases c2:e.k=2;rw[af (.inr c2)];rw[U (by omega),af c2]at g m;cases g;simp only[Ee,aet,aA]at m;have J:uD e.k e.n=e.n:=by unfold uD;rw[af (.inr c2)]
  rw[J];exact .c1b N m.2;rw[U (by omega)];by_cases c3:e.k=3;rw[af c3];rw[U (by omega),U c2,af c3]at g;obtain⟨q1,rfl,_⟩:=dm g;rw[Ee]at q1;exact .c2 N q1.2;rw[U c3];by_cases Y:e.k=4;rw[af Y];rw[U (by omega),U c2,U c3,af Y]at g;unfold ue at g;split at g;rename_i j u p;cases g;exact au ⟨Y,by omega⟩ c4;split at g;rename_i j u p;cases g;obtain⟨_,v,q1,q2⟩:=mq p;rw[show (-1-(-1-(j:Int)))=(j:Int) by omega];exact .c19 (by simpa using q1) (by rw[q2];exact N);cases g;rw[U Y];by_cases C:e.k=5;rw[af C];rw[U (by omega),U c2,U c3,U Y,af C]at g;rw[U (by omega),U c2,U (by omega),af (.inl C),aA]at m;obtain⟨a,rfl⟩:=Yt m;have q0:=kk 0 a _ rfl (F7 K);unfold zG at g;split at g;rename_i I;split at g;rename_i s F;split at g;rename_i i u p;cases g;obtain⟨_,v,q1,q2⟩:=mq p;have hr:=(O a (by simp)).2.2 I.1;have ha:a.ty=⟨3,((a.ty.r.toNat:Nat):Int),0⟩:=by
   have:a.ty=⟨a.ty.b,a.ty.r,a.ty.d⟩:=rfl;rw[this];have p:((a.ty.r.toNat:Nat):Int)=a.ty.r:=(by omega);rw[p];have q3:a.ty.b=3:=I.1;have q4:a.ty.d=0:=I.2;rw[q3,q4]
  rw[ha]at q0;exact .c6 q0 F (by simpa using q1) (by rw[q2];exact N);cases g;cases g;cases g;rw[U C];by_cases c6:e.k=6;rw[af c6];rw[U (by omega),U c2,U c3,U Y,U C,af c6]at g;rw[U (by omega),U c2,U (by omega),U (by omega)]at m;simp only[Ee,aA]at m;obtain⟨a,b,rfl⟩:=acy m.2;have q0:=kk 0 a _ rfl (F7 K);have q1:=kk 1 b _ rfl (alr K);obtain⟨q2,rfl,_⟩:=dm g;rw[Ee,aA,aA]at q2;rw[show b.ty=tI from q2.2]at q1;exact .c8 q0 q2.1 N q1;rw[U c6];by_cases c7:e.k=7;rw[af c7];rw[U (by omega),U c2,U c3,U Y,U C,U c6,af c7]at g;unfold qZ at g;split at g;rename_i i s F;split at g;rename_i R;cases g;obtain⟨_,q⟩:=qz F;have q':H.aW[i]?=some s:=by simpa using q
  exact .Fo q' (F5 R K λj e a q1 q2=>kk j e a q1 q2) (.inr ⟨(G.res s (mem_of q') M).2,N⟩);cases g;cases g;rw[U c7];by_cases c8:e.k=8;rw[af c8];rw[U (by omega),U c2,U c3,U Y,U C,U c6,U c7,af c8]at g;obtain⟨q2,rfl,_⟩:=dm g;simp only[Ee,aA]at q2;rw[W (.inl c8)];exact .Lu N q2.1.2 q2.2 (by rw[acP (by simp)];simp);rw[U c8];by_cases c9:e.k=9;rw[af c9];rw[U (by omega),U c2,U c3,U Y,U C,U c6,U c7,U c8,af c9]at g;rw[U (by omega),U c2,U (by omega),af (.inr (.inl c9)),aA]at m;obtain⟨a,rfl⟩:=Yt m;have q0:=kk 0 a _ rfl (F7 K);obtain⟨q2,rfl,_⟩:=dm g;rw[Ee,Ee,aA,aA]at q2;rw[W (.inr c9)];rw[show a.ty=tI from q2.2]at q0;have hd:=(p9 H.rs e.on e.od).1;exact .DJ N (by show 0<(dw H.rs e.on e.od).1.d+1;omega) (by rw[acP (by simp)];simp) q0;rw[U c9];by_cases Df:e.k=10;rw[af Df];rw[U (by omega),U c2,U c3,U Y,U C,U c6,U c7,U c8,U c9,af Df]at g;rw[U (by omega),U c2,U (by omega),af (by omega),aA]at m;obtain⟨a,rfl⟩:=Yt m;have q0:=kk 0 a _ rfl (F7 K);obtain⟨q2,rfl,_⟩:=dm g;rw[aA]at q2;exact .Df N q0 q2;rw[U Df];by_cases Lu:e.k=11;rw[af Lu];rw[af (.inr Lu)]at g;cases g;exact .c14 N;rw[U Lu];by_cases DJ:e.k=12;rw[af (.inl DJ)];rw[U (by omega),U c2,U c3,U Y,U C,U c6,U c7,U c8,U c9,U Df,af DJ]at g;rw[U (by omega),U c2,U (by omega),af (by omega),aA]at m;obtain⟨a,rfl⟩:=Yt m;have q0:=kk 0 a _ rfl (F7 K);obtain⟨q2,rfl,_⟩:=dm g;rw[aA]at q2;rw[show a.ty=tI from q2]at q0;rw[DJ];exact .c5i N q0;by_cases Fo:e.k=13;rw[af (.inr Fo)];rw[U (by omega),U c2,U c3,U Y,U C,U c6,U c7,U c8,U c9,U Df,U DJ,af Fo]at g;rw[U (by omega),U c2,U (by omega),af (by omega),aA]at m;obtain⟨a,rfl⟩:=Yt m;have q0:=kk 0 a _ rfl (F7 K);obtain⟨q2,rfl,_⟩:=dm g;rw[aA]at q2;rw[show a.ty=tB from q2]at q0;rw[Fo];exact .c5b N q0;rw[U (by omega)];rw[U (by omega),U c2,U c3,U Y,U C,U c6,U c7,U c8,U c9,U Df,U DJ,U Fo]at g;rw[U (by omega),U c2,U (by omega),U (by omega)]at m;simp only[Ee,aet,aA]at m;obtain⟨a,b,rfl⟩:=acy m.2;exact .c4 (kk 0 a _ rfl (F7 K)) (kk 1 b _ rfl (alr K)) g (by omega) N
end qb
namespace qb
open Ax Go V7 iQ iZ
variable {H:Hd}{f:Nat}{bR:Bool}{res:T3}{V X:List Vd}
variable{k r o:Int}{N O:List UInt8}{g:Nat->Nat->Nat->jt}{t:T3}{vs:List T3}{at_:Nat}{x:Int×jt}{Y:List E}
theorem Im{g:List E}{W:List Vd}(h:pA H res V k N g t=some (r,W)):∃l,W=V++l/\∀v∈l,v.ty=t/\(k=1\/k=2):=by
 have nil:∀{W:List Vd},W=V->∃l,W=V++l/\∀v∈l,v.ty=t/\(k=1\/k=2):=λe=>⟨[],by simp[e],by simp⟩;unfold pA at h;split at h;rename_i c;split at h;cases h;cases h;exact⟨_,rfl,by simp[c]⟩;split at h;rename_i c;split at h;split at h;cases h;cases h;exact⟨_,rfl,by simp[c]⟩;cases h;split at h;split at h;split at h;cases h;exact nil rfl;cases h;cases h;split at h;split at h;cases h;exact nil rfl;cases h;split at h;split at h;cases h;exact nil rfl;cases h;split at h;split at h;cases h;exact nil rfl;cases h;split at h;split at h;cases h;exact nil rfl;cases h;cases h;exact nil rfl
def Gv(H:Hd)(V:List Vd):Prop:=∀v∈V,WT H.rs.length v.ty/\BT v.ty
theorem V8(h:rH H k O o=some t)(j:k=1\/k=2):WT H.rs.length t/\BT t:=by
 unfold rH at h;rw[af j]at h;split at h;rename_i c;cases h;exact⟨p9 _ _ _,Cm c⟩;cases h
theorem Oj{g:List E}{W:List Vd}(m:rH H k O o=some t)(h:pA H res V k N g t=some (r,W))(I:Gv H V):Gv H W:=by
 obtain⟨l,rfl,j⟩:=Im h;intro v p;rcases aed.1 p with p|p;exact I v p;obtain⟨e,n⟩:=j v p;rw[e];exact V8 m n
def Pj(V X:List Vd):Prop:=∃l,X=V++l
theorem Pj.rfl':Pj V V:=⟨[],by simp⟩
theorem Pj.trans{A B C:List Vd}(h:Pj A B)(k:Pj B C):Pj A C:=by
 obtain⟨l,rfl⟩:=h;obtain⟨m,rfl⟩:=k;exact⟨l++m,by simp⟩
theorem Pj.pre{A B:List Vd}(h:Pj A B)(g:Hi B vs):Hi A vs:=by
 obtain⟨l,rfl⟩:=h;exact λk v j=>g k v (lZ j)
theorem Bq:∀{l Y:List Sm}{V X:List Vd},(∀s∈l,∀V y W,Au H bR res V s=.ok (y,W)->Gv H V->Pj V W/\Gv H W)->nN H bR res V l=.ok (Y,X)->Gv H V->Pj V X/\Gv H X
 |[],Y,V,X,_,h,I=>by
  unfold nN at h;cases h;exact⟨.rfl',I⟩
 |s::l,Y,V,X,j,h,I=>by
  obtain⟨y,W,z,g,k,rfl⟩:=pK h;obtain⟨a,b⟩:=j s aeb V y W g I;obtain⟨c,d⟩:=Bq (λt m=>j t (aee _ m)) k b;exact⟨a.trans c,d⟩
theorem Io(s:Sm):∀V y W,Au H bR res V s=.ok (y,W)->Gv H V->Pj V W/\Gv H W:=by
 induction s using Sm.Cf with
 |_ s x T=>
  intro V y X h I;obtain⟨t,Y,r,W,q,p,L,J,M⟩:=xY h;obtain⟨l,e,_⟩:=Im J;have g:Pj V W:=⟨l,e⟩;have k:=Oj p J I;rcases M with⟨_,b,w,c,m,o,rfl⟩|⟨_,b,m,rfl⟩|⟨_,_,rfl,rfl⟩;obtain⟨j,S⟩:=Bq x m k;obtain⟨B,n⟩:=Bq T o S;exact⟨g.trans (j.trans B),n⟩;obtain⟨j,S⟩:=Bq x m k;exact⟨g.trans j,S⟩;exact⟨g,k⟩
theorem uZ{l y:List Sm}{V X:List Vd}(h:nN H bR res V l=.ok (y,X))(I:Gv H V):Pj V X/\Gv H X:=Bq (λs _=>Io s) h I
def FS(H:Hd)(f:Nat)(bR:Bool)(res:T3)(X:List Vd)(y:Sm):Prop:=∀(vs:List T3)(S:List Sd)(at_:Nat),Hi X vs->DW H f bR res vs S (at_+(cS vs.length at_ S.length y).is.length) (cS vs.length at_ S.length y)
theorem Ks:∀(l:List Sm),(∀y∈l,FS H f bR res X y)->∀(vs:List T3)(S:List Sd)(at_:Nat),Hi X vs->DW H f bR res vs S (at_+(cB vs.length at_ S.length l).is.length) (cB vs.length at_ S.length l)
 |[],_,vs,S,at_,_=>by
  rw[Kp];exact .nil
 |y::l,h,vs,S,at_,j=>by
  rw[EG];unfold Ko;have g:=h y aeb vs S at_ j;generalize cS vs.length at_ S.length y=x at *;have E:vs.length+x.vs.length=(vs++x.vs).length:=by simp
  have q:S.length+x.ss.length=(S++x.ss.map (Sd.mk f)).length:=by simp
  rw[E,q];dsimp only;have k:=Ks l (λz m=>h z (aee _ m)) (vs++x.vs) (S++x.ss.map (Sd.mk f)) (at_+x.is.length) j.dO;generalize cB (vs++x.vs).length (at_+x.is.length) (S++x.ss.map (Sd.mk f)).length l=z at *;refine g.dO k ?_ ?_;simp only[jt.dO,adV];omega;simp only[jt.dO,adV];omega
theorem DW.nB{S:List Sd}{m U:Nat}{o:jt}(h:DW H f bR res vs S m o)(j:m<=U):DW H f bR res vs S U o:=⟨λi g=>by
 have:=(h.is i g).mono (ws:=[]) (ts:=[]) j;simpa using this⟩
theorem als{S:List Sd}{W:Nat->Nat->Nat->jt}(p:DW H f bR res vs S 0 x.2)(o:ry (vs++x.2.vs) tB x.1)(j:Hi X vs)
  (m:∀(vs:List T3)(S:List Sd)(at_:Nat),Hi X vs->DW H f bR res vs S (at_+(g vs.length at_ S.length).is.length) (g vs.length at_ S.length))
  (n:∀(vs:List T3) (S:List Sd) (at_:Nat),Hi X vs->DW H f bR res vs S (at_+(W vs.length at_ S.length).is.length) (W vs.length at_ S.length)) :
  DW H f bR res vs S (at_+(Ph vs.length at_ S.length x g W).is.length) (Ph vs.length at_ S.length x g W):=by
 unfold Ph;have E:vs.length+x.2.vs.length=(vs++x.2.vs).length:=by simp
 have q:S.length+x.2.ss.length=(S++x.2.ss.map (Sd.mk f)).length:=by simp
 rw[E,q];have K:=m (vs++x.2.vs) (S++x.2.ss.map (Sd.mk f)) (at_+x.2.is.length+1) j.dO;simp only;generalize g (vs++x.2.vs).length (at_+x.2.is.length+1) (S++x.2.ss.map (Sd.mk f)).length=b at *;have k:(vs++x.2.vs).length+b.vs.length=(vs++x.2.vs++b.vs).length:=by simp[Nat.add_assoc]
 have l:(S++x.2.ss.map (Sd.mk f)).length+b.ss.length=(S++x.2.ss.map (Sd.mk f)++b.ss.map (Sd.mk f)).length:=by simp[Nat.add_assoc]
 rw[k,l];have r:=n (vs++x.2.vs++b.vs) (S++x.2.ss.map (Sd.mk f)++b.ss.map (Sd.mk f)) (at_+x.2.is.length+1+b.is.length+1) j.dO.dO;generalize W (vs++x.2.vs++b.vs).length (at_+x.2.is.length+1+b.is.length+1) (S++x.2.ss.map (Sd.mk f)++b.ss.map (Sd.mk f)).length=c at *;refine⟨λi h=>?_⟩;simp only[ae6,<-afd];simp only[adV,aeo];simp only[aed,aev]at h;rcases h with h|rfl|h|rfl|h;have:=(p.is i h).mono (ws:=b.vs++c.vs) (ts:=b.ss.map (Sd.mk f)++c.ss.map (Sd.mk f)) (ah7 (at_+(x.2.is.length+(b.is.length+(c.is.length+1)+1))));simpa only [<-afd] using this;refine .c17 ?_ (by omega) (by omega);have:=o.dO (ws:=b.vs++c.vs);simpa only [<-afd] using this;have:=(K.is i h).mono (ws:=c.vs) (ts:=c.ss.map (Sd.mk f)) (m':=at_+(x.2.is.length+(b.is.length+(c.is.length+1)+1))) (by omega);simpa only [<-afd] using this;exact .c16 (by omega);have:=(r.is i h).mono (ws:=[]) (ts:=[]) (m':=at_+(x.2.is.length+(b.is.length+(c.is.length+1)+1))) (by omega);simpa only [afe] using this
theorem alu{S:List Sd}(m:DW H f bR res vs S 0 x.2)(l:ry (vs++x.2.vs) tB x.1)(k:Hi X vs)
  (j:∀(vs:List T3)(S:List Sd)(at_:Nat),Hi X vs->DW H f bR res vs S (at_+(g vs.length at_ S.length).is.length) (g vs.length at_ S.length)) :
  DW H f bR res vs S (at_+(So vs.length at_ S.length x g).is.length) (So vs.length at_ S.length x g):=by
 unfold So;have E:vs.length+x.2.vs.length=(vs++x.2.vs).length:=by simp
 have q:S.length+x.2.ss.length=(S++x.2.ss.map (Sd.mk f)).length:=by simp
 rw[E,q];have K:=j (vs++x.2.vs) (S++x.2.ss.map (Sd.mk f)) (at_+x.2.is.length+1) k.dO;simp only;generalize g (vs++x.2.vs).length (at_+x.2.is.length+1) (S++x.2.ss.map (Sd.mk f)).length=b at *;refine⟨λi h=>?_⟩;simp only[ae6,<-afd];simp only[adV,aeo,List.length_nil];simp only[aed,aev,List.not_mem_nil,or_false]at h;rcases h with h|rfl|h|rfl;exact(m.is i h).mono (ws:=b.vs) (ts:=b.ss.map (Sd.mk f)) (ah7 _);exact .c17 l.dO (by omega) (by omega);have:=(K.is i h).mono (ws:=[]) (ts:=[]) (m':=at_+(x.2.is.length+(b.is.length+(0+1)+1))) (by omega);simpa only [afe] using this;exact .c16 (by omega)
theorem agG{S:List Sd}{v ref:Int}(p:ry vs t v)(h:(∃k:Nat,ref=k/\vs[k]?=some t)\/(∃k:Nat,ref = -1-(k:Int)/\∃g,H.az[k]?=some g/\g.ty=t)):zK H f bR res vs S 0 (HQ ref v):=by
 unfold HQ;rcases h with⟨k,rfl,j⟩|⟨k,rfl,g,j,rfl⟩;rw[U (by omega)];exact .c3 ⟨k,rfl,j⟩ p;rw[af (by omega),show (-1-(-1-(k:Int)))=(k:Int) by omega];exact .c20 j p
theorem Ol{S:List Sd}{e:E}{i:In}(h:DW H f bR res vs S 0 (cE vs.length S.length e).2)(g:zK H f bR res (vs++(cE vs.length S.length e).2.vs) (S++(cE vs.length S.length e).2.ss.map (Sd.mk f)) 0 i)(m:Nat) :
  DW H f bR res vs S m ((cE vs.length S.length e).2.dO (fW i)):=(h.dO (.jr g) (acO _) (acO _)).nB (ah7 _)
theorem Om{e:E}(h:rF H V [e]=.ok Y):∃y,Y=[y]/\xX H V e=.ok y/\y.ty≠T0:=by
 obtain⟨y,z,g,k,j,rfl⟩:=nk h;unfold rF at j;cases j;exact⟨y,rfl,g,k⟩
theorem V9{a b:E}(h:rF H V [a,b]=.ok Y):∃y z,Y=[y,z]/\xX H V a=.ok y/\y.ty≠T0/\xX H V b=.ok z/\z.ty≠T0:=by
 obtain⟨y,Z,g,j,k,rfl⟩:=nk h;obtain⟨z,rfl,l,m⟩:=Om k;exact⟨y,z,rfl,g,j,l,m⟩
theorem Wa{g:List E}(h:g.length=1):∃e,g=[e]:=by
 match g,h with
 |[e],_=>exact⟨e,rfl⟩
theorem Mw{g N:Nat}{n:List UInt8}{h:List E}{B l:List Sm}{a:Int}:cS g at_ N (.mk k n O o h B l a r) =
  if k=2\/k=3 then (cE g N (jk h)).2.dO (fW (HQ r (cE g N (jk h)).1))
  else if k=4 then Og g N (jk h) (kT g N (jk h).aN) (λg N=>cE g N (es1 h))
  else if k=5 then Ph g at_ N (cE g N (jk h)) (λg at_ N=>cB g at_ N B) (λg at_ N=>cB g at_ N l)
  else if k=6 then So g at_ N (cE g N (jk h)) (λg at_ N=>cB g at_ N B)
  else if k=7 then (match h with
   |[]=>fW ⟨18,-1,0,0,0,[]⟩|e::_=>(cE g N e).2.dO (fW ⟨18,(cE g N e).1,0,0,0,[]⟩))
  else if k=8 then (cE g N (jk h)).2.dO (fW ⟨15,(cE g N (jk h)).1,0,0,0,[]⟩)
  else if k=9 then (cE g N (jk h)).2
  else O0:=Rd _ _ _ _
theorem agH{u:T3}(h:ue H V N=some (u,r))(j:Hi V vs):(∃k:Nat,r=k/\vs[k]?=some u)\/(∃k:Nat,r = -1-(k:Int)/\∃g,H.az[k]?=some g/\g.ty=u):=by
 unfold ue at h;split at h;rename_i k t e;cases h;obtain⟨_,v,q1,q2⟩:=mq e;exact .inl ⟨k,rfl,by rw[<-q2];exact j k v (by simpa using q1)⟩;split at h;rename_i k t e;cases h;obtain⟨_,v,q1,q2⟩:=mq e;exact .inr ⟨k,rfl,v,by simpa using q1,q2⟩;cases h
theorem agI(F:H.ok)(T:Hd.gd H)(W:Gv H V){a b:E}{y z:E}(J:xX H V a=.ok y)(hb:xX H V b=.ok z)(hk:a.k=5\/a.k=6)(DR:y.ty=z.ty)(hz:z.ty≠T0){S:List Sd}(Y:Hi V vs)(m:Nat) :
  DW H f bR res vs S m (Og vs.length S.length y (kT vs.length S.length y.aN) (λnv ns=>cE nv ns z)):=by
 have G:∀v∈V,WT H.rs.length v.ty:=λv M=>(W v M).1;have R:∀v∈V,BT v.ty:=λv M=>(W v M).2;obtain⟨K,t,r,h1,B,h,rfl⟩:=qj J;have iO:=F6 B;have O:=jy B λe _ y p=>NT F G e y p;have g:ir a.k a.n K.length=true:=by rw[nH B];exact h1
 have N:=TV (f:=f) (bR:=bR) (res:=res) F T G R b z hb;obtain⟨Z,C,k3⟩:=Oi (f:=f) (bR:=bR) (res:=res) K (λy p=>⟨iO y p,jy B (λe _ y p=>TV F T G R e y p) y p⟩) vs S Y;unfold Og;simp only;rw[show (E.mk a.k (uD a.k a.n) (uf a.k a.nm) (uh a.k a.on) (uk a.k a.od) K a.a t r).aN=K from rfl]at *;generalize hx:kT vs.length S.length K=x at *;obtain⟨l,o⟩:=x;simp only at Z C k3 ⊢;have q:vs.length+o.vs.length=(vs++o.vs).length:=by simp
 have e2:S.length+o.ss.length=(S++o.ss.map (Sd.mk f)).length:=by simp
 rw[q,e2];obtain⟨q1,q2⟩:=N (vs++o.vs) (S++o.ss.map (Sd.mk f)) Y.dO;have Q:=q2 hz;generalize cE (vs++o.vs).length (S++o.ss.map (Sd.mk f)).length z=w at *;have kk:∀(j:Nat) (e:E) (a:Int),K[j]?=some e->l[j]?=some a->ry (vs++o.vs++w.2.vs) e.ty a:=λj e a q1 q2=>(k3 j e a q1 q2).dO;have L:z.ty=t:=DR.symm;rw[L]at Q;have EH:zK H f bR res (vs++o.vs++w.2.vs) (S++o.ss.map (Sd.mk f)++w.2.ss.map (Sd.mk f)) 0 (HR a.k r w.1 l):=by
  unfold HR;unfold mR at h;unfold ir at g;rcases hk with D|c6;rw[af D];rw[U (by omega),U (by omega),U (by omega),U (by omega),af D]at h;rw[U (by omega),U (by omega),U (by omega),af (.inl D),aA]at g;obtain⟨a,rfl⟩:=Yt g;have q0:=kk 0 a _ rfl (F7 C);unfold zG at h;split at h;rename_i I;split at h;rename_i s hs;split at h;rename_i i u q;cases h;obtain⟨_,v,p1,P⟩:=mq q;have hr:=(O a (by simp)).2.2 I.1;have J:a.ty=⟨3,((a.ty.r.toNat:Nat):Int),0⟩:=by
   have:a.ty=⟨a.ty.b,a.ty.r,a.ty.d⟩:=rfl;rw[this];have q:((a.ty.r.toNat:Nat):Int)=a.ty.r:=(by omega);rw[q];have Q:a.ty.b=3:=I.1;have q4:a.ty.d=0:=I.2;rw[Q,q4]
  rw[J]at q0;exact .c7 q0 hs (by simpa using p1) (by rw[P];exact Q);cases h;cases h;cases h;rw[U (by omega)];rw[U (by omega),U (by omega),U (by omega),U (by omega),U (by omega),af c6]at h;rw[U (by omega),U (by omega),U (by omega),U (by omega)]at g;simp only[Ee,aA]at g;obtain⟨a,b,rfl⟩:=acy g.2;have q0:=kk 0 a _ rfl (F7 C);have q1:=kk 1 b _ rfl (alr C);obtain⟨P,rfl,_⟩:=dm h;rw[Ee,aA,aA]at P;rw[show b.ty=tI from P.2]at q1;exact .c9 q0 P.1 Q q1
 have hA:DW H f bR res vs S 0 (o.dO w.2):=Z.dO q1 (acO _) (acO _);refine(hA.dO (m2:=0) (m:=0) (.jr (i:=HR a.k r w.1 l) ?_) (acO _) (acO _)).nB (ah7 _);simpa only [jt.dO,ae6,<-afd] using EH
theorem Br:∀{l Y:List Sm}{V X:List Vd},nN H bR res V l=.ok (Y,X)->Gv H V->∀{y:Sm},y∈Y->∃s v w,s∈l/\Au H bR res v s=.ok (y,w)/\Gv H v/\Pj V v/\Pj w X
 |[],Y,V,X,h,_,y,k=>by
  unfold nN at h;cases h;simp at k
 |s::l,Y,V,X,h,I,y,k=>by
  obtain⟨z,W,Z,g,j,rfl⟩:=pK h;obtain⟨a,b⟩:=Io s V z W g I;rcases aev.1 k with rfl|k;exact⟨s,V,W,aeb,g,I,.rfl',(uZ j b).1⟩;obtain⟨S,v,w,C,m,n,o,p⟩:=Br j b k;exact⟨S,v,w,aee _ C,m,n,a.trans o,p⟩
theorem alv(hH:H.ok)(hG:Hd.gd H)(s:Sm):∀V y W,Au H bR res V s=.ok (y,W)->Gv H V->Pj W X->FS H f bR res X y:=by
 induction s using Sm.Cf with
 |_ s xZ tE=>
  intro V y W0 h Y Z;obtain⟨t,ys,r,W,j,ht,L,J,hh⟩:=xY h;have hVW:Pj V W:=by obtain⟨l,e,_⟩:=Im J;exact⟨l,e⟩
  have I:=Oj ht J Y;have hW1:∀v∈V,WT H.rs.length v.ty:=λv x=>(Y v x).1;have hW2:∀v∈V,BT v.ty:=λv x=>(Y v x).2;have awi:Pj W W0:=by
   rcases hh with⟨_,b,W1,c,w,hc,rfl⟩|⟨_,b,w,rfl⟩|⟨_,_,rfl,rfl⟩;obtain⟨a1,a2⟩:=uZ w I;exact a1.trans (uZ hc a2).1;exact(uZ w I).1;exact .rfl'
  have K:=awi.trans Z;have hVX:=hVW.trans K;intro vs S at_ p;have g:=hVX.pre p;have hpW:=K.pre p;have one:(s.k=2\/s.k=3\/s.k=5\/s.k=6\/s.k=8)->∃e z,s.es=[e]/\ys=[z]/\xX H V e=.ok z/\z.ty≠T0:=λhk=>by
   unfold fy at j;rw[U (by omega),U (by omega),U (by omega),U (by omega),af (by omega),aA]at j;obtain⟨e,o⟩:=Wa j;rw[DK (by omega),o]at L;obtain⟨z,m,n,G⟩:=Om L;exact⟨e,z,o,m,n,G⟩
  have F:∀e z,xX H V e=.ok z->FE H f bR res V z:=λe z h=>TV hH hG hW1 hW2 e z h;rcases hh with⟨T,b,W1,c,w,hc,rfl⟩|⟨c6,b,w,rfl⟩|⟨T,c6,rfl,rfl⟩;rw[Mw,U (by omega),U (by omega),af T];obtain⟨e,z,o,rfl,m,n⟩:=one (by omega);obtain⟨q1,q2⟩:=F e z m vs S g;have q:=q2 n;unfold pA at J;rw[U (by omega),U (by omega),U (by omega),U (by omega),af (.inl T)]at J;split at J;rename_i B;rw[show z.ty=tB from B]at q;have g1:=uZ w I;refine als q1 q p (λvs S at_ p=>?_) (λvs S at_ p=>?_);refine Ks b (λy M=>?_) vs S at_ p;obtain⟨R,C,E,N,O,P,i4,Q⟩:=Br w I M;exact xZ R N C y E O P (Q.trans ((uZ hc g1.2).1.trans Z));refine Ks c (λy M=>?_) vs S at_ p;obtain⟨R,C,E,N,O,P,i4,Q⟩:=Br hc g1.2 M;exact tE R N C y E O P (Q.trans Z);cases J;rw[Mw,U (by omega),U (by omega),U (by omega),af c6];obtain⟨e,z,o,rfl,m,n⟩:=one (by omega);obtain⟨q1,q2⟩:=F e z m vs S g;have q:=q2 n;unfold pA at J;rw[U (by omega),U (by omega),U (by omega),U (by omega),af (.inr c6)]at J;split at J;rename_i B;rw[show z.ty=tB from B]at q;refine alu q1 q p (λvs S at_ p=>?_);refine Ks b (λy M=>?_) vs S at_ p;obtain⟨R,C,E,N,O,P,i4,Q⟩:=Br w I M;exact xZ R N C y E O P (Q.trans Z);cases J;rw[Mw];by_cases c2:s.k=2\/s.k=3;rw[af c2];obtain⟨e,z,o,rfl,m,n⟩:=one (by omega);obtain⟨q1,q2⟩:=F e z m vs S g;refine Ol q1 (agG (q2 n) ?_) _;unfold pA at J;rw[U (by omega)]at J;rcases c2 with c2|c3;rw[af c2]at J;split at J;rename_i B;split at J;cases J;cases J;refine .inl ⟨V.length,rfl,?_⟩;have:=hpW V.length ⟨s.nm,t⟩ (by simp);rw[show z.ty=t from B];exact lZ this;cases J;rw[U (by omega),af c3]at J;split at J;rename_i u r' x;split at J;rename_i hu;cases J;rw[show u=z.ty from hu]at x;exact agH x g.dO;cases J;cases J;rw[U c2];by_cases c4:s.k=4;rw[af c4];unfold fy at j;rw[U (by omega),af c4]at j;split at j;rename_i a b o;rw[DK (by omega),o]at L;obtain⟨y,z,rfl,m,n,G,h4⟩:=V9 L;unfold pA at J;rw[U (by omega),U (by omega),U (by omega),af c4]at J;split at J;rename_i D;exact agI hH hG Y m G (by simpa using j) D h4 g _;cases J;cases j;rw[U c4,U T,U c6];by_cases c7:s.k=7;rw[af c7];rw[DK (by omega)]at L;unfold fy at j;rw[U (by omega),U (by omega),af c7]at j;simp only[aet,Ee,aA,afh]at j;rcases j with⟨m,n⟩|⟨m,n⟩;obtain⟨e,o⟩:=Wa m;rw[o]at L;obtain⟨z,rfl,G,h4⟩:=Om L;obtain⟨q1,q2⟩:=F e z G vs S g;unfold pA at J;rw[U (by omega),U (by omega),U (by omega),U (by omega),U (by omega),af c7]at J;split at J;rename_i D;have q:=q2 h4;rcases D with D|D;simp at D;rw[show z.ty=res from D]at q;exact Ol q1 (.c18 (by rw[af n];exact q)) _;cases J;have o:s.es=[]:=List.eq_nil_of_length_eq_zero m;rw[o]at L;unfold rF at L;cases L;exact .jr (.c18 (by rw[U (by rw[n];simp)]));rw[U c7];by_cases c8:s.k=8;rw[af c8];obtain⟨e,z,o,rfl,m,n⟩:=one (by omega);obtain⟨q1,q2⟩:=F e z m vs S g;have q:=q2 n;unfold pA at J;rw[U (by omega),U (by omega),U (by omega),U (by omega),U (by omega),U (by omega),af c8]at J;split at J;rename_i D;rw[show z.ty=tI from D]at q;exact Ol q1 (.c15 q) _;cases J;rw[U c8];by_cases c9:s.k=9;rw[af c9];unfold fy at j;rw[U (by omega),U (by omega),U (by omega),af c9]at j;split at j;rename_i e o;rw[c9,o,VT]at L;split at L;cases L;rename_i z hz;cases L;exact((F e z hz vs S g).1).nB (ah7 _);cases j;rw[U c9];exact .nil
end qb
namespace qb
open Ax Go V7 iQ iZ
variable {H:Hd}{V:List Vd}{bR:Bool}{res:T3}
variable{k:Int}
theorem acz{n:Int}{m:Nat}(h:ir k n m=true):(k=5\/k=9\/k=10\/k=12\/k=13->m=1)/\(k=6\/14<=k->m=2)/\(0<k/\k<25):=by
 unfold ir at h;split at h;all_goals grind
theorem Ch:∀{l:List Vd}{s:List UInt8}{i k:Nat}{t:T3},jj s i l=some (k,t)->k<i+l.length
 |[],_,_,_,_,h=>by cases h|f::l,s,i,k,t,h=>by
  unfold jj at h;split at h
  grind
  have:=Ch h
  grind
theorem Wb{s:List UInt8}{t:T3}{r:Int}(O:H.az.length<100000000)(h:ue H V s=some (t,r)) : -1000000000<r:=by
 unfold ue at h;split at h
 grind
 split at h;rename_i k T j;cases h;have:=Ch j;omega;cases h
theorem alw(o:Hd.gd H)(O:H.az.length<100000000)(I:∀v∈V,BT v.ty)(e:E):∀y,xX H V e=.ok y->LE y:=by
 induction e using E.Cf with
 |_ e p=>
  intro y h;have D:=(Kr o I e y h).1;obtain⟨K,t,r,g,m,j,rfl⟩:=qj h;have n:=nH m;rw[<-n]at g;obtain⟨a,b,c⟩:=acz g;rw[acq];refine⟨D,a,b,c,λl=>?_,(ya _).2 (jy m p)⟩;have l:e.k=4:=l;unfold mR at j;rw[U (by omega),U (by omega),U (by omega),af l]at j;exact Wb O j
theorem agJ{g Y:List E}{P:E->Prop}(h:As H V k g=.ok Y)(j:∀e∈g,∀y,xX H V e=.ok y->P y):∀y∈Y,P y:=by
 unfold As at h;by_cases p:k=9
 grind
 rw[U p]at h;exact jy h j
theorem EI:∀{l Y:List Sm}{V X:List Vd},(∀s∈l,∀V y W,Au H bR res V s=.ok (y,W)->Gv H V->LS y)->nN H bR res V l=.ok (Y,X)->Gv H V->LB Y
 |[],Y,V,X,_,h,_=>by
  grind [nN,LB]
 |s::l,Y,V,X,j,h,I=>by
  obtain⟨y,W,z,g,k,rfl⟩:=pK h;unfold LB;exact⟨j s aeb V y W g I,EI (λt m=>j t (aee _ m)) k (Io s V y W g I).2⟩
theorem acA{g:List E}(h:fy bR k g=true):(k=2\/k=3\/k=5\/k=6\/k=8\/k=9->g.length=1)/\(k=4->g.length=2/\((jk g).k=5\/(jk g).k=6)):=by
 unfold fy at h;split at h;exact⟨λq=>by omega,λq=>by omega⟩;split at h;rename_i c;refine⟨λq=>by omega,λ_=>?_⟩;match g,h with
 |[e,f],h=>exact⟨rfl,by simpa [jk] using h⟩
 split at h;exact⟨λq=>by omega,λq=>by omega⟩;split at h;refine⟨λ_=>?_,λq=>by omega⟩;match g,h with
 |[e],_=>rfl
 split at h;rename_i c1 c2 c3 c4 c;exact⟨λ_=>by simpa using h,λq=>au q c2⟩;cases h
theorem alx(o:Hd.gd H)(O:H.az.length<100000000)(s:Sm):∀V y W,Au H bR res V s=.ok (y,W)->Gv H V->LS y:=by
 induction s using Sm.Cf with
 |_ s x T=>
  intro V y X h I;obtain⟨t,Y,r,W,w,z,L,J,M⟩:=xY h;have D:=Oj z J I;have j:LL Y:=(ya _).2 (agJ L λe _ y B=>alw o O (λv p=>(I v p).2) e y B);obtain⟨S,m⟩:=acA (QV L w);have g:s.k=2\/s.k=3→-1000000000<r:=λq=>by
   unfold pA at J;rw[U (by omega)]at J;by_cases c2:s.k=2
   grind
   rw[U c2,af (by omega)]at J;split at J;rename_i u R p;split at J;cases J;exact Wb O p
   grind
   grind
  rcases M with⟨_,b,C,c,l,n,rfl⟩|⟨_,b,l,rfl⟩|⟨_,_,rfl,rfl⟩;rw[Re];exact⟨j,S,m,g,EI x l D,EI T n (uZ l D).2⟩;rw[Re];exact⟨j,S,m,g,EI x l D,by simp[Sm.el,LB]⟩;rw[Re];exact⟨j,S,m,g,by simp[Sm.bd,LB],by simp[Sm.el,LB]⟩
theorem acB(o:Hd.gd H)(O:H.az.length<100000000):∀{S:List Sg}{fs:List Fc}{bs:List Bd},(∀s∈S,Gv H s.ps)->qJ H S fs=.ok bs->∀b∈bs,LB b.code
 |[],fs,bs,_,h=>by grind [qJ]|_::_,[],bs,_,h=>by grind [qJ]|s::S,f::fs,bs,k,h=>by
  unfold qJ at h;split at h;cases h;rename_i c W m;split at h;cases h;rename_i l j;cases h;intro b g;rcases aev.1 g with rfl|g
  grind [EI,alx]
  exact acB o O (λs h=>k s (aee _ h)) j b g
end qb
namespace qb
open Ax Go V7 iQ iZ
variable {H:Hd}{f:Nat}{bR:Bool}{res:T3}{V X:List Vd}
structure MT (H:Hd)(t:T3):Prop where
 wt:WT H.rs.length t
 bt:BT t
 rt:t.b≠3->t.r=0
def RT(t:T3):Prop:=t.b≠3->t.r=0
structure Hd.rt (H:Hd):Prop where
 bJ:∀s∈H.bJ,∀f∈s.2,RT f.ty
 az:∀f∈H.az,RT f.ty
 ps:∀s∈H.aW,∀f∈s.ps,RT f.ty
 res:∀s∈H.aW,RT s.res
theorem Cn{l:List (List UInt8)}{s:List UInt8}{d:Int}:RT (dw l s d).1:=by
 unfold dw RT;split;intro _;rfl;split;intro _;rfl;split;intro _;rfl;split;intro _;rfl;intro h;exact au rfl h
theorem aly(z:Hd.rt H)(I:∀v∈V,RT v.ty){k n:Int}{N q:List UInt8}{O:Int}{K:List E}{t:T3}{r:Int}(o:ir k n K.length=true)(Z:∀e∈K,RT e.ty)(h:mR H V k N q O K=some (t,r)):RT t:=by
 have bI:RT tI:=λ_=>rfl;have bB:RT tB:=λ_=>rfl;unfold mR at h;by_cases c1:k=1\/k=11;rw[af c1]at h;cases h;exact bI;rw[U c1]at h;by_cases c2:k=2;rw[af c2]at h;cases h;exact bB;rw[U c2]at h;by_cases c3:k=3;rw[af c3]at h;obtain⟨g,rfl,_⟩:=dm h;exact Cn;rw[U c3]at h;by_cases c4:k=4;rw[af c4]at h;unfold ue at h;split at h;rename_i j u e;cases h;obtain⟨_,v,g,m⟩:=mq e;exact m ▸ I v (mem_of g);split at h;rename_i j u e;cases h;obtain⟨_,v,g,m⟩:=mq e;exact m ▸ z.az v (mem_of g);cases h;rw[U c4]at h;by_cases C:k=5;rw[af C]at h;unfold zG at h;split at h;split at h;rename_i s p;split at h;rename_i i u e;cases h;obtain⟨_,v,g,m⟩:=mq e;exact m ▸ z.bJ s (mem_of p) v (mem_of g);cases h;cases h;cases h;rw[U C]at h;by_cases c6:k=6;rw[af c6]at h;obtain⟨g,rfl,_⟩:=dm h;have w:K.length=2:=by
  unfold ir at o;rw[U (by omega),U (by omega),U (by omega),U (by omega)]at o;simp only[Ee,aA]at o;exact o.2
 obtain⟨a,b,rfl⟩:=acy w;exact Z a (by simp);rw[U c6]at h;by_cases c7:k=7;rw[af c7]at h;unfold qZ at h;split at h;rename_i i s p;split at h;cases h;obtain⟨_,m⟩:=qz p;exact z.res s (mem_of m);cases h;cases h;rw[U c7]at h;by_cases c8:k=8;rw[af c8]at h;obtain⟨g,rfl,_⟩:=dm h;exact Cn;rw[U c8]at h;by_cases c9:k=9;rw[af c9]at h;obtain⟨g,rfl,_⟩:=dm h;exact(Cn (l:=H.rs) (s:=q) (d:=O):RT _);rw[U c9]at h;by_cases Df:k=10;rw[af Df]at h;obtain⟨_,rfl,_⟩:=dm h;exact bI;rw[U Df]at h;by_cases DJ:k=12;rw[af DJ]at h;obtain⟨_,rfl,_⟩:=dm h;exact bI;rw[U DJ]at h;by_cases Fo:k=13;rw[af Fo]at h;obtain⟨_,rfl,_⟩:=dm h;exact bB;rw[U Fo]at h;unfold iZ.pJ at h;split at h;obtain⟨_,rfl,_⟩:=dm h;exact bI;split at h;obtain⟨_,rfl,_⟩:=dm h;exact bB;split at h;obtain⟨_,rfl,_⟩:=dm h;exact bB;obtain⟨_,rfl,_⟩:=dm h;exact bB
theorem alz(z:Hd.rt H)(I:∀v∈V,RT v.ty)(e:E):∀y,xX H V e=.ok y->RT y.ty:=by
 induction e using E.Cf with
 |_ e l=>
  intro y h;obtain⟨K,t,r,j,g,k,rfl⟩:=qj h;exact aly z I (by rw[nH g];exact j) (jy g l) k
structure tF (H:Hd)(o:jt):Prop where
 vs:∀t∈o.vs,MT H t
 ss:∀t∈o.ss,MT H t/\mh t=true
theorem tF.nil:tF H O0:=⟨by simp[O0],by simp[O0]⟩
theorem tF.dO{x y:jt}(h:tF H x)(k:tF H y):tF H (x.dO y):=by
 refine⟨λt g=>?_,λt g=>?_⟩;rcases aed.1 g with g|g;exact h.vs t g;exact k.vs t g;rcases aed.1 g with g|g;exact h.ss t g;exact k.ss t g
theorem tF.jr{i:In}:tF H (fW i):=⟨by simp[fW],by simp[fW]⟩
theorem Oo:∀(Y:List E)(g N:Nat),(∀y∈Y,∀g N,tF H (cE g N y).2)->tF H (kT g N Y).2
 |[],g,N,_=>by
  have e:kT g N []=([],O0):=by unfold kT;rfl
  rw[e];exact .nil
 |y::Y,g,N,h=>by
  rw[pN];exact(h y aeb g N).dO (Oo Y _ _ λz j=>h z (aee _ j))
def Mv(H:Hd)(V:List Vd):Prop:=∀v∈V,MT H v.ty
theorem Mv.gv(h:Mv H V):Gv H V:=λv p=>⟨(h v p).wt,(h v p).bt⟩
theorem TW(B:H.ok)(z:Hd.gd H)(C:Hd.rt H)(I:Mv H V)(e:E):∀y,xX H V e=.ok y->∀g N,tF H (cE g N y).2:=by
 induction e using E.Cf with
 |_ e G=>
  intro y h g N;have D:=Kr z (λv p=>(I v p).bt) e y h;have O:=NT B (λv p=>(I v p).wt) e y h;have J:=alz C (λv p=>(I v p).rt) e y h;obtain⟨K,t,r,L,w,j,rfl⟩:=qj h;have x:cE g N (.mk e.k (uD e.k e.n) (uf e.k e.nm) (uh e.k e.on) (uk e.k e.od) K e.a t r)=if e.k=4/\0<=r then (r,O0) else cK g N e.k (uD e.k e.n) r t (kT g N K):=Dg _ _ _
  rw[x];split;exact .nil;have m:=Oo K g N (jy w G);unfold cK;split;exact m.dO .jr;rename_i F;have o:MT H t:=⟨O,D.2 F,J⟩;refine m.dO ⟨by simpa using o,λu s=>?_⟩;by_cases q:e.k=8\/e.k=9;have l:u=t:=by simpa [q] using s
  subst l;refine⟨o,?_⟩;unfold mR at j;rw[U (by omega),U (by omega),U (by omega),U (by omega),U (by omega),U (by omega),U (by omega)]at j;rcases q with q|q;rw[af q]at j;obtain⟨q1,q2,_⟩:=dm j;simp only[Ee,aA]at q1;unfold mh;rw[q2,q1.1.2]
  rfl
  rw[U (by omega),af q]at j;obtain⟨q1,q2,_⟩:=dm j;have M:=(p9 H.rs e.on e.od).1;unfold mh;rw[q2];rw[aet,aA,aA];exact .inr (by show 0<(dw H.rs e.on e.od).1.d+1;omega);simp[q]at s
theorem acD{k:Int}{N O:List UInt8}{o:Int}{g:List E}{t:T3}{r:Int}{W:List Vd}(m:rH H k O o=some t)(h:pA H res V k N g t=some (r,W))(I:Mv H V):Mv H W:=by
 obtain⟨l,rfl,n⟩:=Im h;intro v p;rcases aed.1 p with p|p;exact I v p;obtain⟨e,j⟩:=n v p;rw[e];obtain⟨q1,q2⟩:=V8 m j;refine⟨q1,q2,?_⟩;unfold rH at m;rw[af j]at m;split at m;cases m;exact Cn;cases m
theorem EJ:∀{l Y:List Sm}{V X:List Vd},(∀s∈l,∀V y W,Au H bR res V s=.ok (y,W)->Mv H V->Mv H W)->nN H bR res V l=.ok (Y,X)->Mv H V->Mv H X
 |[],Y,V,X,_,h,I=>by
  unfold nN at h;cases h;exact I
 |s::l,Y,V,X,j,h,I=>by
  obtain⟨y,W,z,g,k,rfl⟩:=pK h;exact EJ (λt m=>j t (aee _ m)) k (j s aeb V y W g I)
theorem acE(s:Sm):∀V y W,Au H bR res V s=.ok (y,W)->Mv H V->Mv H W:=by
 induction s using Sm.Cf with
 |_ s x T=>
  intro V y X h I;obtain⟨t,Y,r,W,m,k,L,J,M⟩:=xY h;have g:=acD k J I;rcases M with⟨_,b,w,c,l,j,rfl⟩|⟨_,b,l,rfl⟩|⟨_,_,rfl,rfl⟩;exact EJ T j (EJ x l g);exact EJ x l g;exact g
theorem acF{l y:List Sm}(h:nN H bR res V l=.ok (y,X))(I:Mv H V):Mv H X:=EJ (λs _=>acE s) h I
theorem yK:∀{l Y:List Sm}{V X:List Vd},nN H bR res V l=.ok (Y,X)->Mv H V->∀{y:Sm},y∈Y->∃s v w,s∈l/\Au H bR res v s=.ok (y,w)/\Mv H v
 |[],Y,V,X,h,_,y,k=>by
  unfold nN at h;cases h;simp at k
 |s::l,Y,V,X,h,I,y,k=>by
  obtain⟨z,W,Z,g,j,rfl⟩:=pK h;rcases aev.1 k with rfl|k;exact⟨s,V,W,aeb,g,I⟩;obtain⟨S,v,w,C,m,n⟩:=yK j (acE s V z W g I) k;exact⟨S,v,w,aee _ C,m,n⟩
theorem Kt:∀(l:List Sm)(g at_ N:Nat),(∀y∈l,∀g at_ N,tF H (cS g at_ N y))->tF H (cB g at_ N l)
 |[],g,at_,N,_=>by rw[Kp];exact .nil|y::l,g,at_,N,h=>by
  rw[EG];unfold Ko;exact(h y aeb g at_ N).dO (Kt l _ _ _ λz j=>h z (aee _ j))
theorem tF.of{x:jt}(h:tF H x)(l:List In):tF H ⟨x.vs,l,x.ss⟩:=⟨h.vs,h.ss⟩
theorem alB(D:H.ok)(B:Hd.gd H)(E:Hd.rt H)(s:Sm):∀V y W,Au H bR res V s=.ok (y,W)->Mv H V->∀g at_ N,tF H (cS g at_ N y):=by
 induction s using Sm.Cf with
 |_ s M tE=>
  intro V y W0 h o g at_ N;obtain⟨t,Y,r,W,q,ht,L,O,hh⟩:=xY h;have n:=acD ht O o;have F:∀y∈Y,∀g N,tF H (cE g N y).2:=by
   unfold As at L;split at L;split at L;rename_i e l _;cases J:xX H V e with
   |error a=>rw[J]at L;cases L|ok y=>
    rw[J]at L;cases L;intro z hz;rw[agx.1 hz];exact TW D B E o e y J
   cases L;simp;exact jy L λe _ y j=>TW D B E o e y j
  have f0:∀g N,tF H (cE g N (jk Y)).2:=λg N=>by
   match Y,F with
   |[],_=>
    have:cE g N (jk [])=(-1,fW ⟨13,-1,0,0,0,[]⟩):=by
     show cE g N (.mk 0 0 [] [] 0 [] 0 T0 0)=_;rw[Dg];show (if (0:Int)=4/\(0:Int)<=0 then _ else cK g N 0 0 0 T0 (kT g N []))=_;rw[U (by decide)];have e:kT g N []=([],O0):=(by unfold kT;rfl);rw[e];unfold cK;rw[af rfl];simp[TT]
    rw[this];exact .jr
   |y::_,F=>exact F y aeb g N
  have P:∀g N,tF H (cE g N (es1 Y)).2:=λg N=>by
   match Y,F with
   |_::y::_,F=>exact F y (by simp) g N|[],_=>
    have:cE g N (es1 [])=(-1,fW ⟨13,-1,0,0,0,[]⟩):=by
     show cE g N (.mk 0 0 [] [] 0 [] 0 T0 0)=_;rw[Dg];show (if (0:Int)=4/\(0:Int)<=0 then _ else cK g N 0 0 0 T0 (kT g N []))=_;rw[U (by decide)];have e:kT g N []=([],O0):=(by unfold kT;rfl);rw[e];unfold cK;rw[af rfl];simp[TT]
    rw[this];exact .jr
   |[z],_=>
    have:cE g N (es1 [z])=(-1,fW ⟨13,-1,0,0,0,[]⟩):=by
     show cE g N (.mk 0 0 [] [] 0 [] 0 T0 0)=_;rw[Dg];show (if (0:Int)=4/\(0:Int)<=0 then _ else cK g N 0 0 0 T0 (kT g N []))=_;rw[U (by decide)];have e:kT g N []=([],O0):=(by unfold kT;rfl);rw[e];unfold cK;rw[af rfl];simp[TT]
    rw[this];exact .jr
  have Q:∀g N,s.k=4->tF H (kT g N (jk Y).aN).2:=λg N c4=>by
   unfold fy at q;rw[U (by omega),af c4]at q;split at q;rename_i a b Z;rw[DK (by omega),Z]at L;obtain⟨y,z,rfl,R,n,h3,h4⟩:=V9 L;obtain⟨ks,t,r,G,x,g3,rfl⟩:=qj R;exact Oo ks g N (jy x λe _ y j=>TW D B E o e y j);cases q
  rcases hh with⟨K,b,W1,c,p,T,rfl⟩|⟨c6,b,p,rfl⟩|⟨K,c6,rfl,rfl⟩;rw[Mw,U (by omega),U (by omega),af K];have G:∀g at_ N,tF H (cB g at_ N b):=λg at_ N=>Kt b g at_ N λy j=>by
   obtain⟨S,v,w,C,I,m⟩:=yK p n j;exact M S C v y w I m
  have x:∀g at_ N,tF H (cB g at_ N c):=λg at_ N=>Kt c g at_ N λy j=>by
   obtain⟨S,v,w,C,I,m⟩:=yK T (acF p n) j;exact tE S C v y w I m
  exact(((f0 g N).dO (G _ _ _)).dO (x _ _ _)).of _;rw[Mw,U (by omega),U (by omega),U (by omega),af c6];have G:∀g at_ N,tF H (cB g at_ N b):=λg at_ N=>Kt b g at_ N λy j=>by
   obtain⟨S,v,w,C,I,m⟩:=yK p n j;exact M S C v y w I m
  exact((f0 g N).dO (G _ _ _)).of _;rw[Mw];split;exact(f0 g N).dO .jr;split;rename_i c4;exact((Q g N c4).dO (P _ _)).dO .jr;split;split;exact .jr;exact(F _ aeb g N).dO .jr;split;exact(f0 g N).dO .jr;split;exact f0 g N;exact .nil
end qb
namespace qb
open Ax Go V7 iQ iZ
variable {H:Hd}{f:Nat}{bR:Bool}{res:T3}{V X:List Vd}
structure Hd.CQ (H:Hd):Prop where
 ok:H.ok
 gd:Hd.gd H
 rt:Hd.rt H
 yes:∀s∈H.aW,s.bR=true->MT H s.res
 no:∀s∈H.aW,s.bR=false->s.res=T0
 bJ:∀s∈H.bJ,s.2.length<=8
 pn:∀s∈H.aW,s.ps.length<=6
 nr:H.bJ.length<=12
 ng:H.az.length<=8
 nf:H.aW.length<=16
structure Rh (H:Hd)(f:Nat)(s:Sg)(ss:List Sd)(c:Cd):Prop where
 params:c.params=s.ps.length
 bR:c.bR=s.bR
 res:c.res=s.res
 pre:Hi s.ps c.vars
 vt:∀t∈c.vars,MT H t
 nv:c.vars.length<=4000
 yT:∀i∈c.is,zK H f s.bR s.res c.vars ss (c.is.length-1) i
 alC:∃i,c.is.getLast? = some i/\i.op=18
variable{s:Sg}
theorem Rh.nB{S ts:List Sd}{c:Cd}(h:Rh H f s S c):Rh H f s (S++ts) c:=
 ⟨h.params,h.bR,h.res,h.pre,h.vt,h.nv,λi g=>by
  have:=(h.yT i g).mono (ws:=[]) (ts:=ts) (acO _)
  grind,h.alC⟩
theorem Wc(V:List Vd)(l:List T3):Hi V (V.map (·.ty)++l):=λk v j=>by
 grind
theorem aiS(l:Hd.CQ H)(j:s∈H.aW):Mv H s.ps:=λv p=>⟨(l.ok.aW s j).2 v p,l.gd.ps s j v p,l.rt.ps s j v p⟩
theorem alD{t:T3}(h:MT H t)(g:mh t=false):t=tI\/t=tB:=by
 unfold mh at g;rw[Bool.or_eq_false_iff,decide_eq_false_iff_not,decide_eq_false_iff_not]at g;obtain⟨j,k⟩:=g;have l:=h.rt j;have m:=h.wt.1;have n:=h.bt;obtain⟨b,r,d⟩:=t;simp only at j k l m;obtain⟨z,Y⟩:=n
 grind
theorem acG(k:Hd.CQ H){fn:Fc}{l:List Sm}{W:List Vd}(F:s∈H.aW)(p:nN H s.bR s.res s.ps fn.body=.ok (l,W))(a:Int)(f:Nat)(S:List Sd)(j:(eJ S.length s ⟨W,l,a⟩).vars.length<=4000) :
  Rh H f s (S++(eG S.length ⟨W,l,a⟩).ss.map (Sd.mk f)) (eJ S.length s ⟨W,l,a⟩)/\tF H (eG S.length ⟨W,l,a⟩):=by
 have n:=aiS k F;have m:=acF p n;have K:=(uZ p n.gv).1;have U:tF H (eG S.length ⟨W,l,a⟩):=Kt l _ _ _ λy B=>by
  obtain⟨D,r,w,P,I,C⟩:=yK p n B;exact alB k.ok k.gd k.rt D r y w I C
 have J:=Ks (f:=f) (X:=W) l (λy B=>by
  obtain⟨D,r,w,P,I,C,R,Q⟩:=Br p n.gv B;exact alv k.ok k.gd D r y w I C Q) (W.map (·.ty)) S 0 (by simpa using Wc W [])
 have G:(W.map (·.ty)).length=W.length:=by simp
 rw[G]at J;refine⟨?_,U⟩;have L:eG S.length ⟨W,l,a⟩=cB W.length 0 S.length l:=rfl;rw[<-L]at J;unfold eJ at j ⊢;generalize eG S.length ⟨W,l,a⟩=o at *;simp only at j ⊢;have x:∀ts,Hi s.ps (W.map (·.ty)++ts):=λts=>K.pre (Wc W ts);cases M:s.bR with
 |false=>
  rw[M]at j;simp only[Bool.false_eq_true,br,afe]at j ⊢;refine⟨rfl,M.symm,rfl,x _,λt h=>?_,j,λi g=>?_,⟨18,-1,0,0,0,[]⟩,by simp[wG,M],rfl⟩;rcases aed.1 h with h|h;obtain⟨v,z,rfl⟩:=ad7.1 h;exact m v z;exact U.vs t h;rcases aed.1 g with g|g;have:=(J.is i g).mono (ws:=[]) (ts:=[]) (m':=(o.is++wG s (W.length+o.vs.length)).length-1) (by simp[wG,M])
  grind
  have:i=⟨18,-1,0,0,0,[]⟩:=by grind [wG]
  subst this;exact .c18 (by grind)
 |true=>
  rw[M]at j;simp only[bh]at j ⊢;have O:=k.yes s F M;have N:ry (W.map (·.ty)++o.vs++[s.res]) s.res ((W.length+o.vs.length:Nat):Int):=⟨W.length+o.vs.length,rfl,by grind⟩;refine⟨rfl,M.symm,rfl,by grind,λt h=>?_,j,λi g=>?_,⟨18,((W.length+o.vs.length:Nat):Int),0,0,0,[]⟩,by simp[wG,M],rfl⟩;rcases aed.1 h with h|h;rcases aed.1 h with h|h;obtain⟨v,z,rfl⟩:=ad7.1 h;exact m v z;exact U.vs t h
  grind
  rcases aed.1 g with g|g;have:=(J.is i g).mono (ws:=[s.res]) (ts:=[]) (m':=(o.is++wG s (W.length+o.vs.length)).length-1) (by simp[wG,M])
  grind
  have:i=⟨if mh s.res then 2 else 1,((W.length+o.vs.length:Nat):Int),0,0,0,[]⟩\/i=⟨18,((W.length+o.vs.length:Nat):Int),0,0,0,[]⟩:=by grind [wG]
  rcases this with rfl|rfl;cases E:mh s.res with
  |true=>exact .c2 N E|false=>
   rcases alD O E with q|q;rw[q]at N;have:(if (false:Bool)=true then (2:Int) else 1)=1:=rfl;rw[this,q];exact .c1 N;rw[q]at N;have:(if (false:Bool)=true then (2:Int) else 1)=1:=rfl;rw[this,q];exact .c1b N (.inl rfl)
  exact .c18 (by grind)
structure Made (H:Hd)(cs:List Cd)(ss:List Sd)(all:Nat):Prop where
 code:∀(j:Nat) (c:Cd),cs[j]?=some c->∃s,H.aW[j]?=some s/\Rh H j s ss c
 Rb:∀s∈ss,MT H s.ty/\mh s.ty=true/\s.fn<cs.length
 ns:ss.length<=60
 sum:(cs.map (·.is.length)).sum=all
 few:all<=2500
theorem Ri(y:Hd.CQ H):∀{k:List Sg}{fs:List Fc}{bs:List Bd}{cs J:List Cd}{ss S:List Sd}{all:Nat},k.length=fs.length->qJ H k fs=.ok bs->H.aW.drop cs.length=k->Made H cs ss all->yJ cs ss all k bs=.ok (J,S)->
  ∃l,Made H J S l/\J.length=H.aW.length
 |[],fs,bs,cs,J,ss,S,all,r,g,m,n,h=>by
  unfold qJ at g;cases g;unfold yJ at h;cases h;refine⟨all,n,?_⟩;have w:=List.drop_eq_nil_iff.1 m;have x:cs.length<=H.aW.length:=by
   refine Nat.le_of_not_lt λq=>?_;have p:cs.length-1<cs.length:=(by omega);obtain⟨s,L,_⟩:=n.code (cs.length-1) cs[cs.length-1] (aas p)
   grind
  omega
 |_::_,[],_,_,_,_,_,_,r,_,_,_,_=>by simp at r|s::k,fn::fs,bs,cs,J,ss,S,all,r,g,m,n,h=>by
  unfold qJ at g;split at g;cases g;rename_i c W p;split at g;cases g;rename_i C o;cases g;have I:cs.length<H.aW.length:=by
   grind
  have v:H.aW[cs.length]?=some s:=by
   have:=congrArg (·[0]?) m
   grind
  have R:s∈H.aW:=mem_of v;unfold yJ at h;split at h;cases h;rename_i B;have q1:(eJ ss.length s ⟨W,c,fn.a⟩).vars.length<=4000:=by omega
  obtain⟨K,G⟩:=acG y R p fn.a cs.length ss q1;refine Ri y (by grind) o ?_ ?_ h;rw[adV,List.length_singleton,<-List.drop_drop,m];rfl;refine⟨λj D z=>?_,λd m=>?_,?_,?_,by omega⟩;by_cases Y:j<cs.length;rw[List.getElem?_append_left Y]at z;obtain⟨F,w,x⟩:=n.code j D z;exact⟨F,w,x.nB⟩
  grind
  rcases aed.1 m with m|m;obtain⟨a,b,c⟩:=n.Rb d m
  grind
  obtain⟨t,E,rfl⟩:=ad7.1 m;obtain⟨a,b⟩:=G.ss t E
  grind
  simp;omega;simp[n.sum]
end qb
namespace qb
open Ax Go aO V7 iQ iZ K9 N7 U7
theorem zN{a b:Option Int}(h:TF a b=none):a=none/\b=none:=by
 cases a with
 |none=>exact⟨rfl,h⟩|some x=>cases h
theorem Hj{g:Type}{I:List g->g->Option Int}{l:List g}:∀{m:Nat},eL I l m=none->∀k (h:k<l.length),k<m->I (l.take k) l[k]=none
 |0,_,k,_,n=>au n (by omega)|m+1,h,k,o,n=>by
  obtain⟨p,j⟩:=zN h;by_cases e:k=m;subst e;rw[aas o]at j;exact j;exact Hj p k o (by omega)
theorem F8{g:Type}{I:List g->g->Option Int}{l:List g}(h:eL I l l.length=none):∀x∈l,∃b,I b x=none:=λx m=>by
 obtain⟨k,j,rfl⟩:=List.getElem_of_mem m;exact⟨_,Hj h k j j⟩
theorem TX{rs:List (List UInt8)}{l:List PD}(h:eL (yE rs) l l.length=none):∀v∈o9 rs l,BT v.ty/\RT v.ty:=by
 intro v p;obtain⟨q,j,rfl⟩:=ad7.1 p;obtain⟨b,g⟩:=F8 h q j;unfold yE at g;split at g;cases g;rename_i c;simp only[aet,afh,not_or,Bool.not_eq_false]at c;exact⟨Cm c.2,Cn⟩
structure Few (p:Pg):Prop where
 r:p.aU.length<=12
 g:p.az.length<=8
 f:p.funcs.length<=16
 fl:∀x∈p.aU,x.cF.length<=8
 ps:∀x∈p.funcs,x.params.length<=6
theorem Wd{p:Pg}(h:ke (lG p)=none)(q:Few p):Hd.CQ (aX p):=by
 have W:=V4 p;have B:sy (lG p)=none:=by
  unfold ke at h;split at h;exact(zN h).1;exact h
 unfold sy at B;obtain⟨F,w⟩:=zN B;obtain⟨G,t⟩:=zN F;obtain⟨J,n⟩:=zN G;rw[EE]at w t n;rw[sW]at w;rw[Oa]at t;rw[xF]at n;have O:=TX t;have D:∀x∈p.aU,∀v∈o9 (gR p) x.cF,BT v.ty/\RT v.ty:=λx l=>by
  obtain⟨b,o⟩:=F8 n (Q2 x) (al5 l);unfold Kh at o;rw[show (Q2 x).cF=aM 4 (x.cF.map PD.cells) from rfl,sV]at o;exact TX o
 have z:∀x∈p.funcs,(∀v∈o9 (gR p) x.params,BT v.ty/\RT v.ty)/\(x.bR=true->(dw (gR p) x.on x.od).2=true):=λx l=>by
  obtain⟨b,o⟩:=F8 w (HP x) (al5 l);unfold HL at o;obtain⟨E,Y⟩:=zN o;have C:=(zN E).2;rw[show (HP x).params=aM 4 (x.params.map PD.cells) from rfl,sV]at C;refine⟨TX C,λM=>?_⟩;unfold N0 at Y;split at Y;cases Y;rename_i c;show (dw (gR p) (HP x).on (HP x).od).2=true;have y:(HP x).bR=true:=M;rw[y]at c;simpa using c
 have m:∀x∈p.funcs,(Bh (gR p) x).bR=true->MT (aX p) (Bh (gR p) x).res:=λx l M=>by
  have M:x.bR=true:=M;have e:(Bh (gR p) x).res=(dw (gR p) x.on x.od).1:=by
   show (if x.bR then _ else T0)=_;rw[af M]
  rw[e];exact⟨p9 _ _ _,Cm ((z x l).2 M),Cn⟩
 have k:∀x∈p.funcs,(Bh (gR p) x).bR=false->(Bh (gR p) x).res=T0:=λx l M=>by
  have M:x.bR=false:=M;show (if x.bR then _ else T0)=_;rw[M];rfl
 refine⟨W,⟨?_,?_,?_,?_⟩,⟨?_,?_,?_,?_⟩,?_,?_,?_,?_,?_,?_,?_⟩;intro s R v j;obtain⟨x,l,rfl⟩:=ad7.1 R;exact(D x l v j).1;exact λv j=>(O v j).1;intro s R v j;obtain⟨x,l,rfl⟩:=ad7.1 R;exact((z x l).1 v j).1;intro s R I;obtain⟨x,l,rfl⟩:=ad7.1 R;cases M:(Bh (gR p) x).bR with
 |true=>exact⟨(m x l M).bt,rfl⟩|false=>exact au (k x l M) I
 intro s R v j;obtain⟨x,l,rfl⟩:=ad7.1 R;exact(D x l v j).2;exact λv j=>(O v j).2;intro s R v j;obtain⟨x,l,rfl⟩:=ad7.1 R;exact((z x l).1 v j).2;intro s R;obtain⟨x,l,rfl⟩:=ad7.1 R;cases M:(Bh (gR p) x).bR with
 |true=>exact(m x l M).rt|false=>rw[k x l M];intro _;rfl
 intro s R M;obtain⟨x,l,rfl⟩:=ad7.1 R;exact m x l M;intro s R M;obtain⟨x,l,rfl⟩:=ad7.1 R;exact k x l M;intro s R;obtain⟨x,l,rfl⟩:=ad7.1 R;have:=q.fl x l;simpa [o9] using this;intro s R;obtain⟨x,l,rfl⟩:=ad7.1 R;have:=q.ps x l;simpa [Bh,o9] using this;have:=q.r;simpa [aX] using this;have:=q.g;simpa [aX,o9] using this;have:=q.f;simpa [aX] using this
theorem agK{p:Pg}(h:ke (lG p)=none):∃k:Nat,eu p=k/\∃s,(aX p).aW[k]?=some s/\s.ps=[]/\s.bR=false:=by
 have j:¬eu p<0:=by
  intro q;unfold ke at h;unfold eu at q;rw[af q]at h;unfold TF at h;split at h<;>cases h
 unfold eu at j ⊢;rw[sW]at j ⊢;unfold yI at j ⊢;split;rename_i k l;obtain⟨m,g,_⟩:=List.findIdx?_eq_some_iff_getElem.1 l;refine⟨k,rfl,?_⟩;rw[List.getElem_map]at g;have G:k<p.funcs.length:=by simpa using m
 unfold ij at g;rw[Ee,Ee,aA,aA]at g;rw[show (HP p.funcs[k]).params=aM 4 (p.funcs[k].params.map PD.cells) from rfl,sV]at g;refine⟨Bh (gR p) p.funcs[k],?_,?_,?_⟩;show (p.funcs.map (Bh (gR p)))[k]?=_;rw[List.getElem?_map,aas G];rfl;show o9 (gR p) p.funcs[k].params=[];rw[g.1.2];rfl;have:=g.2;show p.funcs[k].bR=false;simpa [HP] using this;rename_i l;rw[l]at j;exact au (by decide) j
end qb
namespace tQ
open Ax Go aO V7 iQ iZ K9 S9 N7 U7
theorem Rj(s:List UInt8):∀f∈(rI s).1.funcs,Sm.eD f.body<=6001:=by
 unfold rI;split;rename_i g;generalize R:U2.Lp s=z;obtain⟨rows,e⟩:=z;cases e with
 |some e=>intro f h;cases h|none=>
  obtain⟨L,m⟩:=N9 R;obtain⟨x,l⟩:=Bg (wD rows);simp only;rw[l,Option.getD_some];have y:(wD rows).length=rows.length:=by simp[wD]
  intro f h;have:=Ya l f h;omega
 intro f h;cases h
theorem alF(p:Pg)(j:Pg.In 6000 p):∀s∈(aX p).aW,s.ps.length<=7:=by
 intro s g;obtain⟨f,h,rfl⟩:=ad7.1 g;have:=(j.f.2 f h).len;simpa [Bh,o9] using this
structure F9 (p:Pg):Prop where
 inn:Pg.In 6000 p
 Jx:∀f∈p.funcs,Sm.eD f.body<=12010
theorem DL(s:List UInt8):F9 (rI s).1:=⟨(acj s).1,λf h=>by have:=Rj s f h;omega⟩
variable{p:Pg}
theorem Ip(h:F9 p):∀f∈p.funcs,f.params.length+Sm.eD f.body<1000000000:=λf g=>by
 have:=h.Jx f g;have:=(h.inn.f.2 f g).len;omega
theorem wI(h:F9 p):∀bs,qJ (aX p) (aX p).aW p.funcs=.ok bs->∀b∈bs,Sm.eD b.code<=12010/\b.vars.length<=24020:=λbs z b l=>by
 have L:=FX z h.Jx b l;have D:=QW (n:=12010) (V4 p) z (λs j=>((V4 p).aW s j).2) (λs j=>by have:=alF p h.inn s j;omega) h.Jx b l;omega
theorem Ga(h:F9 p):∀bs,qJ (aX p) (aX p).aW p.funcs=.ok bs->∀b∈bs,Sm.eD b.code<100000000/\b.vars.length<100000000:=λbs z b l=>by
 have:=wI h bs z b l;omega
end tQ
