/- Part of a proof. -/
import Derived.Test.YtgblgbgjmgjfkaaGreatS

open List renaming length->Q
open Option renaming some->Z,none->K
open Bool renaming true->Y
open List renaming mem_cons_self->aat,mem_cons_of_mem->aax,map_append->afn,append_assoc->afG,mem_append->aaw,mem_singleton->afq,mem_cons->ac2,getElem?_append_right->aak,length_append->aaq,length_cons->aaK,mem_map->aap,getElem?_eq_getElem->aae,mem_map_of_mem->aki
open Nat renaming le_refl->aal,zero_le->afD
open Bool renaming and_eq_true->E6,or_eq_true->abh,not_eq_true'->afo
set_option maxRecDepth 100000
set_option maxHeartbeats 4000000
namespace qA
open Ax Go V7 jb jn
structure In where
 op:Int
 a:Int
 b:Int
 c:Int
 n:Int
 args:List Int
def tG(l:List Int):AV:=aN 1 (aT l)
def In.aK(i:In):List AV:=[.int .i64 i.op,.int .i64 i.a,.int .i64 i.b,.int .i64 i.c,.int .i64 i.n,tG i.args]
structure nj where
 vs:List T3
 is:List In
 ss:List T3
def O0:nj:=⟨[],[],[]⟩
def nj.eD(x y:nj):nj:=⟨x.vs++y.vs,x.is++y.is,x.ss++y.ss⟩
def gx(i:In):nj:=⟨[],[i],[]⟩
def rE(l:List Int):Int:=match l with|a::_=>a | []=>0
def Mf(l:List Int):Int:=match l with|_::a::_=>a|_=>0
def mB(k n ref t s:Int)(l:List Int):In:=
 if k=1\/k=2 then ⟨1,t,0,0,n,[]⟩
 else if k=3 then ⟨2,t,0,0,0,[]⟩
 else if k=4 then ⟨19,t,0,0,-1-ref,[]⟩
 else if k=5 then ⟨6,t,rE l,ref,0,[]⟩
 else if k=6 then ⟨8,t,rE l,Mf l,0,[]⟩
 else if k=7 then ⟨13,t,0,ref,0,l⟩
 else if k=8 then ⟨11,t,0,0,s,[]⟩
 else if k=9 then ⟨12,t,rE l,0,s,[]⟩
 else if k=10 then ⟨10,t,rE l,0,0,[]⟩
 else if k=11 then ⟨14,t,0,0,0,[]⟩
 else if k=12\/k=13 then ⟨5,t,rE l,0,k,[]⟩
 else ⟨4,t,rE l,Mf l,k,[]⟩
def cK(nv ns:Nat)(k n ref:Int)(ty:T3)(x:List Int×nj):Int×nj:=
 if ty=T0 then (-1,x.2.eD (gx ⟨13,-1,0,ref,0,x.1⟩))
 else (((nv+Q x.2.vs:Nat):Int),x.2.eD ⟨[ty],[mB k n ref ((nv+Q x.2.vs:Nat):Int) ((ns+Q x.2.ss:Nat):Int) x.1],if k=8\/k=9 then [ty] else []⟩)
mutual
def cE(g N:Nat):E->Int×nj
 |.mk k n _ _ _ h _ t ref=>if k=4/\0<=ref then (ref,O0) else cK g N k n ref t (lT g N h)
def lT(nv ns:Nat):List E->List Int×nj
 |[]=>([],O0)
 |e::l=>((cE nv ns e).1::(lT (nv+Q (cE nv ns e).2.vs) (ns+Q (cE nv ns e).2.ss) l).1,(cE nv ns e).2.eD (lT (nv+Q (cE nv ns e).2.vs) (ns+Q (cE nv ns e).2.ss) l).2)
end
def E0:E:=.mk 0 0 [] [] 0 [] 0 T0 0
def jR(es:List E):E:=match es with|e::_=>e | []=>E0
def es1(es:List E):E:=match es with|_::e::_=>e|_=>E0
def K5(g at_ N:Nat)(x:nj)(f:Nat->Nat->Nat->nj):nj:=x.eD (f (g+Q x.vs) (at_+Q x.is) (N+Q x.ss))
def IK(ref v:Int):In:=if ref<0 then ⟨20,v,0,0,-1-ref,[]⟩ else ⟨3,ref,v,0,0,[]⟩
def IL(k ref v:Int)(l:List Int):In:=if k=5 then ⟨7,rE l,v,ref,0,[]⟩ else ⟨9,rE l,Mf l,v,0,[]⟩
def Qg(n at_ N:Nat)(x:Int×nj)(f g:Nat->Nat->Nat->nj):nj:=
 let i:=at_+Q x.2.is
 let b:=f (n+Q x.2.vs) (i+1) (N+Q x.2.ss)
 let j:=i+1+Q b.is
 let c:=g (n+Q x.2.vs+Q b.vs) (j+1) (N+Q x.2.ss+Q b.ss)
 ⟨x.2.vs++b.vs++c.vs,x.2.is++⟨17,x.1,0,((j+1:Nat):Int),((i+1:Nat):Int),[]⟩::(b.is++⟨16,0,0,0,((j+1+Q c.is:Nat):Int),[]⟩::c.is),x.2.ss++b.ss++c.ss⟩
def Tn(g at_ N:Nat)(x:Int×nj)(f:Nat->Nat->Nat->nj):nj:=
 let i:=at_+Q x.2.is
 let b:=f (g+Q x.2.vs) (i+1) (N+Q x.2.ss)
 let j:=i+1+Q b.is
 ⟨x.2.vs++b.vs,x.2.is++⟨17,x.1,0,((j+1:Nat):Int),((i+1:Nat):Int),[]⟩::(b.is++[⟨16,0,0,0,(at_:Int),[]⟩]),x.2.ss++b.ss⟩
def O6(g N:Nat)(e:E)(x:List Int×nj)(f:Nat->Nat->Int×nj):nj:=
 let v:=f (g+Q x.2.vs) (N+Q x.2.ss)
 (x.2.eD v.2).eD (gx (IL e.k e.ref v.1 x.1))
mutual
def cS(g at_ N:Nat):Sm->nj
 |.mk k _ _ _ es B m _ ref=>
  if k=2\/k=3 then (cE g N (jR es)).2.eD (gx (IK ref (cE g N (jR es)).1))
  else if k=4 then O6 g N (jR es) (lT g N (jR es).aP) (λg N=>cE g N (es1 es))
  else if k=5 then Qg g at_ N (cE g N (jR es)) (λg at_ N=>cB g at_ N B) (λg at_ N=>cB g at_ N m)
  else if k=6 then Tn g at_ N (cE g N (jR es)) (λg at_ N=>cB g at_ N B)
  else if k=7 then (match es with
   |[]=>gx ⟨18,-1,0,0,0,[]⟩|e::_=>(cE g N e).2.eD (gx ⟨18,(cE g N e).1,0,0,0,[]⟩))
  else if k=8 then (cE g N (jR es)).2.eD (gx ⟨15,(cE g N (jR es)).1,0,0,0,[]⟩)
  else if k=9 then (cE g N (jR es)).2
  else O0
def cB(g at_ N:Nat):List Sm->nj
 |[]=>O0|s::l=>K5 g at_ N (cS g at_ N s) (λg at_ N=>cB g at_ N l)
end
structure Cd where
 params:Nat
 vars:List T3
 bY:Bool
 res:T3
 is:List In
def Cd.aK(c:Cd):List AV:=[.int .i64 c.params,aN 3 (c.vars.map T3.cells),.bool c.bY,.int .i64 c.res.b,.int .i64 c.res.r,.int .i64 c.res.d,aN 6 (c.is.map In.aK)]
structure Sd where
 fn:Nat
 ty:T3
def Sd.aK(s:Sd):List AV:=[.int .i64 s.fn,.int .i64 s.ty.b,.int .i64 s.ty.r,.int .i64 s.ty.d]
def xu(s:Sg)(t:Nat):List In:=if s.bY then [⟨if lS s.res then 2 else 1,(t:Int),0,0,0,[]⟩,⟨18,(t:Int),0,0,0,[]⟩] else [⟨18,-1,0,0,0,[]⟩]
def eO(N:Nat)(b:Bd):nj:=cB (Q b.vars) 0 N b.code
def eR(N:Nat)(s:Sg)(b:Bd):Cd:=
 ⟨Q s.ps,b.vars.map (·.ty)++(eO N b).vs++(if s.bY then [s.res] else []),s.bY,s.res,(eO N b).is++xu s (Q b.vars+Q (eO N b).vs)⟩
def zv(cs:List Cd)(ss:List Sd)(all:Nat):List Sg->List Bd->Except Int (List Cd×List Sd)
 |s::S,b::bs=>
  if 4000<Q (eR (Q ss) s b).vars\/2500<all+Q (eR (Q ss) s b).is\/60<Q ss+Q (eO (Q ss) b).ss then .error b.a
  else zv (cs++[eR (Q ss) s b]) (ss++(eO (Q ss) b).ss.map (λt=>⟨Q cs,t⟩)) (all+Q (eR (Q ss) s b).is) S bs
 |_,_=>.ok (cs,ss)
theorem D5(nv ns e):cE nv ns e=if e.k=4/\0<=e.ref then (e.ref,O0) else cK nv ns e.k e.n e.ref e.ty (lT nv ns e.aP):=by
 obtain⟨k,n,N,O,o,g,a,ty,ref⟩:=e
 (conv=>lhs;unfold cE)<;>rfl
theorem qB(g N e l):lT g N (e::l)=((cE g N e).1::(lT (g+Q (cE g N e).2.vs) (N+Q (cE g N e).2.ss) l).1,(cE g N e).2.eD (lT (g+Q (cE g N e).2.vs) (N+Q (cE g N e).2.ss) l).2):=by
 grind [lT]
theorem Sh(g at_ N s):cS g at_ N s =
  if s.k=2\/s.k=3 then (cE g N (jR s.es)).2.eD (gx (IK s.ref (cE g N (jR s.es)).1))
  else if s.k=4 then O6 g N (jR s.es) (lT g N (jR s.es).aP) (λg N=>cE g N (es1 s.es))
  else if s.k=5 then Qg g at_ N (cE g N (jR s.es)) (λg at_ N=>cB g at_ N s.bd) (λg at_ N=>cB g at_ N s.el)
  else if s.k=6 then Tn g at_ N (cE g N (jR s.es)) (λg at_ N=>cB g at_ N s.bd)
  else if s.k=7 then (match s.es with
   |[]=>gx ⟨18,-1,0,0,0,[]⟩|e::_=>(cE g N e).2.eD (gx ⟨18,(cE g N e).1,0,0,0,[]⟩))
  else if s.k=8 then (cE g N (jR s.es)).2.eD (gx ⟨15,(cE g N (jR s.es)).1,0,0,0,[]⟩)
  else if s.k=9 then (cE g N (jR s.es)).2
  else O0:=by
 obtain⟨k,n,O,o,es,B,m,a,ref⟩:=s
 (conv=>lhs;unfold cS)<;>rfl
theorem K6(g at_ N):cB g at_ N []=O0:=by unfold cB;rfl
theorem FF(g at_ N s l):cB g at_ N (s::l)=K5 g at_ N (cS g at_ N s) (λg at_ N=>cB g at_ N l):=by
 grind [cB]
theorem UF(x:nj):x.eD O0=x:=by simp[nj.eD,O0]
theorem UG(x):O0.eD x=x:=by simp[nj.eD,O0]
theorem W8(x y z:nj):(x.eD y).eD z=x.eD (y.eD z):=by simp[nj.eD]
mutual
def LE:E->Prop
 |.mk k _ _ _ _ g _ t ref=>(t=T0->k=7)/\(k=5\/k=9\/k=10\/k=12\/k=13->Q g=1)/\(k=6\/14<=k->Q g=2)/\(0<k/\k<25)/\(k=4→-1000000000<ref)/\LL g
def LL:List E->Prop
 |[]=>True|e::l=>LE e/\LL l
end
theorem adC(e):LE e↔(e.ty=T0->e.k=7)/\(e.k=5\/e.k=9\/e.k=10\/e.k=12\/e.k=13->Q e.aP=1)/\(e.k=6\/14<=e.k->Q e.aP=2)/\(0<e.k/\e.k<25)/\(e.k=4→-1000000000<e.ref)/\LL e.aP:=by
 cases e;unfold LE;exact Iff.rfl
theorem yQ:∀l:List E,LL l↔∀e∈l,LE e
 |[]=>by simp[LL]|e::l=>by simp[LL,yQ l]
theorem ahS(x y:nj):Q (x.eD y).vs=Q x.vs+Q y.vs/\Q (x.eD y).is=Q x.is+Q y.is/\Q (x.eD y).ss=Q x.ss+Q y.ss:=by simp[nj.eD]
def Lo(o:nj)(n:Nat):Prop:=Q o.vs<=n/\Q o.is<=n/\Q o.ss<=n
theorem Lo.eD{x y n m}(h:Lo x n)(g:Lo y m):Lo (x.eD y) (n+m):=by
 obtain⟨a,b,c⟩:=ahS x y;obtain⟨j,k,l⟩:=h;obtain⟨G,z,C⟩:=g;exact⟨by omega,by omega,by omega⟩
theorem Lo.le{x n m}(h:Lo x n)(g:n<=m):Lo x m:=⟨by have:=h.1;omega,by have:=h.2.1;omega,by have:=h.2.2;omega⟩
theorem adD{l}(I:∀e∈l,∀g N,Lo (cE g N e).2 (E.sz e)):∀g N,Lo (lT g N l).2 (E.eJ l):=by
 induction l with
 |nil=>intro g N;simp[lT,O0,Lo,E.eJ]|cons e l G=>
  intro g N;rw[qB];simp only[E.eJ];exact(I e aat g N).eD (G (λx h=>I x (aax _ h)) _ _)
theorem xx(e):∀g N,Lo (cE g N e).2 (E.sz e):=by
 induction e using E.C6 with
 |_ e I=>
  intro g N;have j:=E.sx e;rw[D5];split;simp[Lo,O0];have h:=adD I g N;unfold cK;split;exact(h.eD (y:=gx _) (m:=1) (by simp[Lo,gx])).le (by omega);refine(h.eD (m:=1) ?_).le (by omega);refine⟨by simp,by simp,?_⟩
  grind
theorem UH(l g N):Lo (lT g N l).2 (E.eJ l):=by grind [adD,xx]
variable{k:Nat}
theorem Nd{l}(h):(E.rows l)[k]?=Z l[k].aK:=by simp[jI,h]
theorem Ch{l}(h g):(E.rows l)[k]=l[k].aK:=by simp[jI]
theorem zL{s r}(h:cy s r=Y):cU s (aN s r)=Y:=by
 cases r with
 |nil=>rfl|cons a r=>simp_all
theorem zE{l}:cU 11 (bL l)=Y:=zL (by simp[cy,jI,E.aU])
theorem zI{l}:cU 1 (aN 1 (aT l))=Y:=zL (by simp_all)
mutual
def LS:Sm->Prop
 |.mk k _ _ _ es B m _ ref=>LL es/\(k=2\/k=3\/k=5\/k=6\/k=8\/k=9->Q es=1)/\(k=4->Q es=2/\((jR es).k=5\/(jR es).k=6))/\(k=2\/k=3→-1000000000<ref)/\LB B/\LB m
def LB:List Sm->Prop
 |[]=>True|s::l=>LS s/\LB l
end
theorem Si(s):LS s↔LL s.es/\(s.k=2\/s.k=3\/s.k=5\/s.k=6\/s.k=8\/s.k=9->Q s.es=1)/\(s.k=4->Q s.es=2/\((jR s.es).k=5\/(jR s.es).k=6))/\(s.k=2\/s.k=3→-1000000000<s.ref)/\LB s.bd/\LB s.el:=by
 cases s;unfold LS;exact Iff.rfl
theorem O7:∀l:List Sm,LB l↔∀s∈l,LS s
 |[]=>by simp[LB]|s::l=>by simp[LB,O7 l]
theorem K4{E}(h:Q E=1):E=[jR E]:=by
 match E,h with
 |[e],_=>rfl
theorem adE{es}(h:Q es=2):es=[jR es,es1 es]:=by
 match es,h with
 |[e,f],_=>rfl
theorem adF{l}(h:Q l=1):aT l=[[.int .i64 (rE l)]]:=by
 match l,h with
 |[a],_=>rfl
theorem adG{l}(h:Q l=2):aT l=[[.int .i64 (rE l)],[.int .i64 (Mf l)]]:=by
 match l,h with
 |[a,b],_=>rfl
theorem adH{l}(I:∀s∈l,∀g a N,Lo (cS g a N s) (2*Sm.sz s)):∀g a N,Lo (cB g a N l) (2*Sm.eJ l):=by
 induction l with
 |nil=>grind [K6,Lo,O0]|cons s l G=>
  intro g a N;rw[FF];unfold K5;exact((I s aat g a N).eD (G (λx h=>I x (aax _ h)) _ _ _)).le (by simp only[Sm.eJ];omega)
theorem K7{es}(h:Q es≠0):E.sz (jR es)<=E.eJ es:=by
 match es,h with
 |e::l,_=>simp[jR,E.eJ]
theorem akc(s):LS s->∀n a N,Lo (cS n a N s) (2*Sm.sz s):=by
 induction s using Sm.C6 with
 |_ s F D=>
  intro W n a N;rw[Si]at W;obtain⟨I,J,v,_,O,m⟩:=W;rw[O7]at O m;have G:=Sm.w9 s;have one:∀i,Lo (gx i) 1:=λi=>by simp[Lo,gx]
  have f:=λn a N=>adH (λx h=>F x h (O x h)) n a N;have g:=λn a N=>adH (λx h=>D x h (m x h)) n a N;rw[Sh];by_cases c:s.k=2\/s.k=3;rw[af c];have:=K7 (es:=s.es) (by grind);exact((xx _ _ _).eD (one _)).le (by omega);rw[U c];by_cases c4:s.k=4;rw[af c4];obtain⟨e,f,j⟩:∃e f,s.es=[e,f]:=⟨_,_,adE (v c4).1⟩;have q1:jR s.es=e:=by rw[j];rfl
  have q2:es1 s.es=f:=by rw[j];rfl
  have L:E.eJ s.es=E.sz e+E.sz f:=by rw[j];simp[E.eJ]
  have M:=E.sx e;rw[q1,q2];unfold O6;exact(((UH _ _ _).eD (xx _ _ _)).eD (one _)).le (by omega);rw[U c4];by_cases C:s.k=5;rw[af C];have:=K7 (es:=s.es) (by grind);unfold Qg;dsimp only;obtain⟨o,p,q⟩:=xx (jR s.es) n N;have B:=f (n+Q (cE n N (jR s.es)).2.vs) (a+Q (cE n N (jR s.es)).2.is+1) (N+Q (cE n N (jR s.es)).2.ss);generalize cE n N (jR s.es)=x at *;generalize cB (n+Q x.2.vs) (a+Q x.2.is+1) (N+Q x.2.ss) s.bd=y at *;have c1:=g (n+Q x.2.vs+Q y.vs) (a+Q x.2.is+1+Q y.is+1) (N+Q x.2.ss+Q y.ss);generalize cB (n+Q x.2.vs+Q y.vs) (a+Q x.2.is+1+Q y.is+1) (N+Q x.2.ss+Q y.ss) s.el=z at *;obtain⟨B,r,t⟩:=B;obtain⟨c1,c2,c3⟩:=c1;refine⟨?_,?_,?_⟩<;>grind<;>omega;rw[U C];by_cases c6:s.k=6;rw[af c6];have:=K7 (es:=s.es) (by grind);unfold Tn;dsimp only;obtain⟨o,p,q⟩:=xx (jR s.es) n N;have B:=f (n+Q (cE n N (jR s.es)).2.vs) (a+Q (cE n N (jR s.es)).2.is+1) (N+Q (cE n N (jR s.es)).2.ss);generalize cE n N (jR s.es)=x at *;generalize cB (n+Q x.2.vs) (a+Q x.2.is+1) (N+Q x.2.ss) s.bd=y at *;obtain⟨B,r,t⟩:=B;refine⟨?_,?_,?_⟩<;>grind<;>omega;rw[U c6];by_cases c7:s.k=7;rw[af c7];match w:s.es with
  |[]=>exact(one _).le (by omega)|e::l=>
   have:E.eJ s.es=E.sz e+E.eJ l:=by rw[w];rfl
   exact((xx _ _ _).eD (one _)).le (by omega)
  rw[U c7];by_cases c8:s.k=8;rw[af c8];have:=K7 (es:=s.es) (by grind);exact((xx _ _ _).eD (one _)).le (by omega);rw[U c8];by_cases c9:s.k=9;rw[af c9];have:=K7 (es:=s.es) (by grind);exact(xx _ _ _).le (by omega);rw[U c9];simp[Lo,O0]
theorem Sj{l}(h:LB l)(g a N):Lo (cB g a N l) (2*Sm.eJ l):=by grind [adH,akc,O7]
theorem O5{l}(h):(Sm.rows l)[k]?=Z l[k].aK:=by simp[kB,h]
theorem Dc{l}(h g):(Sm.rows l)[k]=l[k].aK:=by simp[kB]
end qA
namespace qA
open Ax Go V7 jb jn
def sB(vs:List T3)(t:T3)(a:Int):Prop:=∃k:Nat,a=k/\vs[k]?=Z t
theorem sB.eD{vs ws t a}(h:sB vs t a):sB (vs++ws) t a:=by
 obtain⟨k,g,j⟩:=h;exact⟨k,g,by grind⟩
def AI(vs:List T3):List Vd->List Int->Prop
 |[],[]=>True|p::ps,a::l=>sB vs p.ty a/\AI vs ps l|_,_=>False
theorem AI.eD{vs ws}:∀{ps:List Vd}{l:List Int},AI vs ps l->AI (vs++ws) ps l
 |[],[],_=>trivial|_::_,_::_,h=>⟨h.1.eD,AI.eD h.2⟩
 |[],_::_,h=>h.elim|_::_,[],h=>h.elim
inductive AH (H:Hd) (f:Nat) (bY:Bool) (res:T3) (vs:List T3) (ss:List Sd) (m:Nat):In->Prop
 |c1 {a n:Int}:sB vs tI a->AH H f bY res vs ss m ⟨1,a,0,0,n,[]⟩
 |c1b {a n:Int}:sB vs tB a->n=0\/n=1->AH H f bY res vs ss m ⟨1,a,0,0,n,[]⟩
 |c2 {a:Int} {t:T3}:sB vs t a->lS t=true->AH H f bY res vs ss m ⟨2,a,0,0,0,[]⟩
 |c3 {a b:Int} {t:T3}:sB vs t a->sB vs t b->AH H f bY res vs ss m ⟨3,a,b,0,0,[]⟩
 |c4 {a b c k:Int} {ta tb t:T3} {r:Int}:sB vs ta b->sB vs tb c->jn.pV k ta tb=some (t,r)->14<=k/\k<=24->sB vs t a->AH H f bY res vs ss m ⟨4,a,b,c,k,[]⟩
 |c5i {a b:Int}:sB vs tI a->sB vs tI b->AH H f bY res vs ss m ⟨5,a,b,0,12,[]⟩
 |c5b {a b:Int}:sB vs tB a->sB vs tB b->AH H f bY res vs ss m ⟨5,a,b,0,13,[]⟩
 |c6 {a b:Int} {r j:Nat} {s:List UInt8×List Vd} {v:Vd}:sB vs ⟨3,r,0⟩ b->H.bN[r]?=some s->s.2[j]?=some v->sB vs v.ty a->AH H f bY res vs ss m ⟨6,a,b,j,0,[]⟩
 |c7 {a b:Int} {r j:Nat} {s:List UInt8×List Vd} {v:Vd}:sB vs ⟨3,r,0⟩ a->H.bN[r]?=some s->s.2[j]?=some v->sB vs v.ty b->AH H f bY res vs ss m ⟨7,a,b,j,0,[]⟩
 |c8 {a b c:Int} {t:T3}:sB vs t b->0<t.d->sB vs ⟨t.b,t.r,t.d-1⟩ a->sB vs tI c->AH H f bY res vs ss m ⟨8,a,b,c,0,[]⟩
 |c9 {a b c:Int} {t:T3}:sB vs t a->0<t.d->sB vs ⟨t.b,t.r,t.d-1⟩ c->sB vs tI b->AH H f bY res vs ss m ⟨9,a,b,c,0,[]⟩
 |D4 {a b:Int} {t:T3}:sB vs tI a->sB vs t b->0<t.d->AH H f bY res vs ss m ⟨10,a,b,0,0,[]⟩
 |Mg {a:Int} {n:Nat} {t:T3}:sB vs t a->t.b=3->t.d=0->ss[n]?=some ⟨f,t⟩->AH H f bY res vs ss m ⟨11,a,0,0,n,[]⟩
 |Ew {a b:Int} {n:Nat} {t:T3}:sB vs t a->0<t.d->ss[n]?=some ⟨f,t⟩->sB vs tI b->AH H f bY res vs ss m ⟨12,a,b,0,n,[]⟩
 |Gs {a:Int} {j:Nat} {s:Sg} {l:List Int}:H.aZ[j]?=some s->AI vs s.ps l->(a = -1\/s.bY=true/\sB vs s.res a)->AH H f bY res vs ss m ⟨13,a,0,j,0,l⟩
 |c14 {a:Int}:sB vs tI a->AH H f bY res vs ss m ⟨14,a,0,0,0,[]⟩
 |c15 {a:Int}:sB vs tI a->AH H f bY res vs ss m ⟨15,a,0,0,0,[]⟩
 |c16 {n:Nat}:n<=m->AH H f bY res vs ss m ⟨16,0,0,0,n,[]⟩
 |c17 {a:Int} {n c:Nat}:sB vs tB a->n<=m->c<=m->AH H f bY res vs ss m ⟨17,a,0,c,n,[]⟩
 |c18 {a:Int}:(if bY=true then sB vs res a else a = -1)->AH H f bY res vs ss m ⟨18,a,0,0,0,[]⟩
 |c19 {a:Int} {j:Nat} {v:Vd}:H.ax[j]?=some v->sB vs v.ty a->AH H f bY res vs ss m ⟨19,a,0,0,j,[]⟩
 |c20 {a:Int} {j:Nat} {v:Vd}:H.ax[j]?=some v->sB vs v.ty a->AH H f bY res vs ss m ⟨20,a,0,0,j,[]⟩
variable {H:Hd}{f:Nat}{bY:Bool}{res:T3}
theorem nP{g:Type}{l r:List g}{k:Nat}{x}(h:l[k]?=Z x):(l++r)[k]?=Z x:=by
 grind
theorem AH.mono{vs ws S ts m m' i}(h:AH H f bY res vs S m i)(g:m<=m'):AH H f bY res (vs++ws) (S++ts) m' i:=by
 cases h with
 |c1 a=>exact .c1 a.eD|c1b a b=>exact .c1b a.eD b|c2 a b=>exact .c2 a.eD b|c3 a b=>exact .c3 a.eD b.eD|c4 a b c d e=>exact .c4 a.eD b.eD c d e.eD|c5i a b=>exact .c5i a.eD b.eD|c5b a b=>exact .c5b a.eD b.eD|c6 a b c d=>exact .c6 a.eD b c d.eD|c7 a b c d=>exact .c7 a.eD b c d.eD|c8 a b c d=>exact .c8 a.eD b c.eD d.eD|c9 a b c d=>exact .c9 a.eD b c.eD d.eD|D4 a b c=>exact .D4 a.eD b.eD c|Mg a b c d=>exact .Mg a.eD b c (nP d)|Ew a b c d=>exact .Ew a.eD b (nP c) d.eD|Gs a b c=>exact .Gs a b.eD (c.imp id λh=>⟨h.1,h.2.eD⟩)|c14 a=>exact .c14 a.eD|c15 a=>exact .c15 a.eD|c16 a=>exact .c16 (by omega)|c17 a b c=>exact .c17 a.eD (by omega) (by omega)|c18 a=>
  refine .c18 ?_;split;rename_i q;rw[af q]at a;exact a.eD
  grind
 |c19 a b=>exact .c19 a b.eD|c20 a b=>exact .c20 a b.eD
def Ii(V:List Vd)(vs:List T3):Prop:=∀(k:Nat)(v:Vd),V[k]?=Z v->vs[k]?=Z v.ty
theorem Ii.eD{V vs ws}(h:Ii V vs):Ii V (vs++ws):=λk v m=>nP (h k v m)
structure FG (H:Hd)(f:Nat)(bY:Bool)(res:T3)(vs:List T3)(ss:List Sd)(m:Nat)(o:nj):Prop where
 is:∀i∈o.is,AH H f bY res (vs++o.vs) (ss++o.ss.map (Sd.mk f)) m i
theorem FG.nil{vs S m}:FG H f bY res vs S m O0:=⟨by simp[O0]⟩
theorem FG.eD{vs S m M P x y}(h:FG H f bY res vs S M x)(k:FG H f bY res (vs++x.vs) (S++x.ss.map (Sd.mk f)) P y)(j:M<=m)(l:P<=m):FG H f bY res vs S m (x.eD y):=by
 refine⟨λi g=>?_⟩;simp only[nj.eD,afn,<-afG];rcases aaw.1 g with g|g;exact(h.is i g).mono j;have:=(k.is i g).mono (ws:=[]) (ts:=[]) l
 grind
theorem FG.fZ{vs S m i}(h:AH H f bY res vs S m i):FG H f bY res vs S m (gx i):=by
 refine⟨λj k=>?_⟩
 grind [gx,afq]
theorem nk{s}:∀{l:List Vd}{i k:Nat}{t:T3},jA s i l=Z (k,t)->i<=k/\∃v,l[k-i]?=Z v/\v.ty=t
 |[],_,_,_,h=>by cases h|f::l,i,k,t,h=>by
  unfold jA at h;split at h
  grind
  obtain⟨g,v,j,m⟩:=nk h
  grind
theorem ry{s}:∀{l:List Sg}{i k:Nat}{t:Sg},vq s i l=Z (k,t)->i<=k/\l[k-i]?=Z t
 |[],_,_,_,h=>by cases h|g::l,i,k,t,h=>by
  unfold vq at h;split at h
  grind
  obtain⟨j,m⟩:=ry h
  grind
theorem G9{vs}:∀{ps:List Vd}{m:List E}{l:List Int},jV ps m=Y->Q l=Q m->(∀(j:Nat) e a,m[j]?=Z e->l[j]?=Z a->sB vs e.ty a)->AI vs ps l
 |[],[],[],_,_,_=>trivial|p::ps,k::m,a::l,h,g,n=>by
  simp only[jV,E6,aC]at h;refine⟨?_,G9 h.2 (by grind) λj e b o q=>n (j+1) e b (by grind) (by grind)⟩;have:=n 0 k a rfl rfl
  grind
 |[],_::_,_,h,_,_=>by simp[jV]at h|_::_,[],_,h,_,_=>by simp[jV]at h|[],[],_::_,_,g,_=>by simp at g|_::_,_::_,[],_,g,_=>by simp at g
end qA
namespace qA
open Ax Go V7 jb jn
variable {H:Hd}{f:Nat}{bY:Bool}{res:T3}{V:List Vd}
def BT(t:T3):Prop:=1<=t.b/\t.b<=3
theorem BT.ne{t}(h:BT t):t≠T0:=λe=>by rw[e]at h;exact bH h.1 (by decide)
structure Hd.gd (H:Hd):Prop where
 bN:∀s∈H.bN,∀f∈s.2,BT f.ty
 ax:∀f∈H.ax,BT f.ty
 ps:∀s∈H.aZ,∀f∈s.ps,BT f.ty
 res:∀s∈H.aZ,s.res≠T0->BT s.res/\s.bY=true
theorem Dd{l s d}(h:(dz l s d).2=Y):BT (dz l s d).1:=by
 unfold dz at h ⊢;split;rename_i c;rw[af c]at h;cases h;rename_i c;rw[U c]at h;split;exact⟨by show (1:Int)<=1;decide,by show (1:Int)<=3;decide⟩;rename_i c2;rw[U c2]at h;split;exact⟨by show (1:Int)<=2;decide,by show (2:Int)<=3;decide⟩;rename_i c3;rw[U c3]at h;split;rename_i c4;rw[af c4]at h;cases h;exact⟨by show (1:Int)<=3;decide,by show (3:Int)<=3;decide⟩
theorem dy{b t u r}(h:KT b t=Z (u,r)):b=Y/\u=t/\r=0:=by
 unfold KT at h;cases b with
 |false=>cases h|true=>cases h;exact⟨rfl,rfl,rfl⟩
theorem mem_of{g:Type}{l:List g}{k:Nat}{x}(h:l[k]?=Z x):x∈l:=List.mem_of_getElem? h
variable{g:List E}
theorem Zm(h:Q g=1):∃a,g=[a]:=by
 match g,h with
 |[a],_=>exact⟨a,rfl⟩
theorem adI(h:Q g=2):∃a b,g=[a,b]:=by
 match g,h with
 |[a,b],_=>exact⟨a,b,rfl⟩
theorem amT(p:Hd.gd H)(y:∀v∈V,BT v.ty){k n N x O o t r}(m:iG k n (Q o)=Y)(B:∀e∈o,BT e.ty)(h:nN H V k N x O o=Z (t,r)):(t=T0->k=7)/\(t≠T0->BT t):=by
 have bI:BT tI:=⟨by decide,by decide⟩;have bB:BT tB:=⟨by decide,by decide⟩;have of:BT t->(t=T0->k=7)/\(t≠T0->BT t):=λh=>⟨λe=>bH e h.ne,λ_=>h⟩;unfold nN at h;by_cases c1:k=1\/k=11;rw[af c1]at h;cases h;exact of bI;rw[U c1]at h;by_cases c2:k=2;rw[af c2]at h;cases h;exact of bB;rw[U c2]at h;by_cases c3:k=3;rw[af c3]at h;obtain⟨g,rfl,_⟩:=dy h;rw[E6]at g;exact of (Dd g.1);rw[U c3]at h;by_cases c4:k=4;rw[af c4]at h;unfold vM at h;split at h;rename_i j u e;cases h;obtain⟨_,v,g,l⟩:=nk e;exact of (l ▸ y v (mem_of g));split at h;rename_i j u e;cases h;obtain⟨_,v,g,l⟩:=nk e;exact of (l ▸ p.ax v (mem_of g));cases h;rw[U c4]at h;by_cases C:k=5;rw[af C]at h;unfold AB at h;split at h;split at h;rename_i s q;split at h;rename_i i u e;cases h;obtain⟨_,v,g,l⟩:=nk e;exact of (l ▸ p.bN s (mem_of q) v (mem_of g));cases h;cases h;cases h;rw[U C]at h;by_cases c6:k=6;rw[af c6]at h;obtain⟨g,rfl,_⟩:=dy h;have w:Q o=2:=by
  unfold iG at m;rw[ah,ah,ah,ah]at m;simp only[E6,aC]at m;exact m.2
 obtain⟨a,b,rfl⟩:=adI w;exact of (B a (by simp));rw[U c6]at h;by_cases c7:k=7;rw[af c7]at h;refine⟨λ_=>c7,λI=>?_⟩;unfold sq at h;split at h;rename_i i s q;split at h;cases h;obtain⟨_,l⟩:=ry q;exact(p.res s (mem_of l) I).1;cases h;cases h;rw[U c7]at h;by_cases c8:k=8;rw[af c8]at h;obtain⟨g,rfl,_⟩:=dy h;simp only[E6]at g;exact of (Dd g.1.1);rw[U c8]at h;by_cases c9:k=9;rw[af c9]at h;obtain⟨g,rfl,_⟩:=dy h;simp only[E6]at g;exact of (Dd g.1.1);rw[U c9]at h;by_cases D4:k=10;rw[af D4]at h;obtain⟨_,rfl,_⟩:=dy h;exact of bI;rw[U D4]at h;by_cases Ew:k=12;rw[af Ew]at h;obtain⟨_,rfl,_⟩:=dy h;exact of bI;rw[U Ew]at h;by_cases Gs:k=13;rw[af Gs]at h;obtain⟨_,rfl,_⟩:=dy h;exact of bB;rw[U Gs]at h;unfold jn.pV at h;split at h;obtain⟨_,rfl,_⟩:=dy h;exact of bI;split at h;obtain⟨_,rfl,_⟩:=dy h;exact of bB;split at h;obtain⟨_,rfl,_⟩:=dy h;exact of bB;obtain⟨_,rfl,_⟩:=dy h;exact of bB
theorem He:∀{l g:List E},sK H V l=.ok g->∀y∈g,y.ty≠T0
 |[],g,h=>by unfold sK at h;cases h;simp|e::l,g,h=>by
  obtain⟨y,n,_,k,m,rfl⟩:=oe h;intro z j;rcases ac2.1 j with rfl|j;exact k;exact He m z j
theorem K8(p:Hd.gd H)(m:∀v∈V,BT v.ty)(e):∀y,yU H V e=.ok y->(y.ty=T0->y.k=7)/\(y.ty≠T0->BT y.ty):=by
 induction e using E.C6 with
 |_ e I=>
  intro y h;obtain⟨q,t,r,j,g,l,rfl⟩:=qU h;have n:=jP g I;have o:=He g;exact amT p m (by rw[oD g];exact j) (λe B=>(n e B).2 (o e B)) l
def FE(H:Hd)(f:Nat)(bY:Bool)(res:T3)(V:List Vd)(y:E):Prop:=∀(vs:List T3)(S:List Sd),Ii V vs->FG H f bY res vs S 0 (cE (Q vs) (Q S) y).2/\(y.ty≠T0->sB (vs++(cE (Q vs) (Q S) y).2.vs) y.ty (cE (Q vs) (Q S) y).1)
theorem O8:∀g,(∀y∈g,y.ty≠T0/\FE H f bY res V y)->∀vs S,Ii V vs->
  FG H f bY res vs S 0 (lT (Q vs) (Q S) g).2/\Q (lT (Q vs) (Q S) g).1=Q g/\∀(j:Nat) e a,g[j]?=Z e->(lT (Q vs) (Q S) g).1[j]?=Z a->sB (vs++(lT (Q vs) (Q S) g).2.vs) e.ty a
 |[],_,vs,S,_=>by
  have e:lT (Q vs) (Q S) []=([],O0):=by unfold lT;rfl
  rw[e];exact⟨FG.nil,rfl,λj e a h=>by simp at h⟩
 |y::g,h,vs,S,k=>by
  rw[qB];obtain⟨l,m⟩:=h y aat;obtain⟨n,o⟩:=m vs S k;generalize t:cE (Q vs) (Q S) y=x at *;have E:Q vs+Q x.2.vs=Q (vs++x.2.vs):=by simp
  have r:Q S+Q x.2.ss=Q (S++x.2.ss.map (Sd.mk f)):=by simp
  rw[E,r];obtain⟨q,v,s⟩:=O8 g (λz p=>h z (aax _ p)) (vs++x.2.vs) (S++x.2.ss.map (Sd.mk f)) k.eD;generalize lT (Q (vs++x.2.vs)) (Q (S++x.2.ss.map (Sd.mk f))) g=z at *;refine⟨n.eD q (aal _) (aal _),by simp[v],λj e a q1 q2=>?_⟩;simp only[nj.eD,<-afG];cases j with
  |zero=>
   simp only[List.getElem?_cons_zero,bE]at q1 q2;subst q1;subst q2;exact(o l).eD
  |succ j=>
   simp only[List.getElem?_cons_succ]at q1 q2;exact s j e a q1 q2
theorem W9{vs ws t}:sB (vs++(ws++[t])) t ((Q vs+Q ws:Nat)):=⟨Q vs+Q ws,rfl,by rw[<-afG,aak (by simp)];simp⟩
theorem amU{k n ref g vs S x}(m:FG H f bY res vs S 0 x.2)(_h0:g=T0->k=7)(N:g=T0->AH H f bY res (vs++x.2.vs) (S++x.2.ss.map (Sd.mk f)) 0 ⟨13,-1,0,ref,0,x.1⟩)(h:g≠T0->∀st:List Sd,(k=8\/k=9->st=[⟨f,g⟩])->AH H f bY res (vs++(x.2.vs++[g])) (S++x.2.ss.map (Sd.mk f)++st) 0 (mB k n ref ((Q vs+Q x.2.vs:Nat)) ((Q S+Q x.2.ss:Nat)) x.1)):
  FG H f bY res vs S 0 (cK (Q vs) (Q S) k n ref g x).2/\(g≠T0->sB (vs++(cK (Q vs) (Q S) k n ref g x).2.vs) g (cK (Q vs) (Q S) k n ref g x).1):=by
 unfold cK;by_cases l:g=T0;rw[af l];exact⟨m.eD (.fZ (N l)) (aal _) (aal _),λq=>bH l q⟩;rw[U l];refine⟨⟨λi j=>?_⟩,λ_=>W9⟩;rcases aaw.1 j with j|j;have:=(m.is i j).mono (ws:=[g]) (ts:=((if k=8\/k=9 then [g] else []):List T3).map (Sd.mk f)) (aal 0);simpa [nj.eD] using this;have j:i=mB k n ref ((Q vs+Q x.2.vs:Nat):Int) ((Q S+Q x.2.ss:Nat):Int) x.1:=by simpa using j
 subst j;have:=h l (((if k=8\/k=9 then [g] else []):List T3).map (Sd.mk f)) (λq=>by rw[af q];rfl);simpa [nj.eD] using this
theorem Hf{l n}(h:Q l=n+1):l[0]?=Z (rE l):=by
 match l,h with
 |a::_,_=>rfl
theorem amV{l n}(h:Q l=n+2):l[1]?=Z (Mf l):=by
 match l,h with
 |_::a::_,_=>rfl
theorem UI(hH:H.ok)(L:Hd.gd H)(hW:∀v∈V,WT (Q H.rs) v.ty)(hV:∀v∈V,BT v.ty)(e):∀y,yU H V e=.ok y->FE H f bY res V y:=by
 induction e using E.C6 with
 |_ e ih=>
  intro y h;have G:=K8 L hV e y h;obtain⟨D,t,r,h1,F,g,rfl⟩:=qU h;have iT:=He F;have hb:=jP F λe _ y B=>K8 L hV e y B;have R:=jP F λe _ y B=>OO hH hW e y B;have hk:iG e.k e.n (Q D)=Y:=by rw[oD F];exact h1
  intro vs S hp;obtain⟨k1,p,T⟩:=O8 (f:=f) (bY:=bY) (res:=res) D (λy B=>⟨iT y B,jP F ih y B⟩) vs S hp;have hE:cE (Q vs) (Q S) (.mk e.k (wZ e.k e.n) (w6 e.k e.nm) (w7 e.k e.on) (w8 e.k e.od) D e.a t r)=if e.k=4/\0<=r then (r,O0) else cK (Q vs) (Q S) e.k (wZ e.k e.n) r t (lT (Q vs) (Q S) D):=D5 _ _ _
  rw[hE];generalize hx:lT (Q vs) (Q S) D=x at *;obtain⟨l,o⟩:=x;simp only at k1 p T;by_cases c4:e.k=4/\0<=r;rw[af c4];refine⟨FG.nil,λ_=>?_⟩;have M:=g;unfold nN at M;rw[ah,ah,ah,af c4.1]at M;unfold vM at M;split at M;rename_i j u w;cases M;obtain⟨_,v,q1,q2⟩:=nk w;refine⟨j,rfl,?_⟩;rw[<-q2];exact nP (hp j v (by simpa using q1));split at M;rename_i j u w;cases M;omega;cases M;rw[U c4];refine amU (x:=(l,o)) k1 G.1 (λP=>?_) (λP st iX=>?_);have c7:e.k=7:=G.1 P;unfold nN at g;rw[ah,ah,ah,ah,ah,ah,af c7]at g;unfold sq at g;split at g;rename_i i s I;split at g;rename_i W;cases g;obtain⟨_,q⟩:=ry I;exact .Gs (by simpa using q) (G9 W p λj e a q1 q2=>T j e a q1 q2) (.inl rfl);cases g;cases g;have O:sB (vs++(o.vs++[t])) t ((Q vs+Q o.vs:Nat):Int):=W9;have kk:∀(j:Nat) (e:E) (a:Int),D[j]?=Z e->l[j]?=Z a->sB (vs++(o.vs++[t])) e.ty a:=λj e a q1 q2=>by
   have:=(T j e a q1 q2).eD (ws:=[t]);simpa using this
  generalize hA:((Q vs+Q o.vs:Nat):Int)=A at *;unfold mB;have m:=hk;unfold iG at m;unfold nN at g;by_cases c1:e.k=1;rw[af (.inl c1)]at g ⊢;cases g;exact .c1 O;by_cases c2:e.k=2;rw[af (.inr c2)];rw[ah,af c2]at g m;cases g;simp only[E6,abh,aC]at m;have N:wZ e.k e.n=e.n:=by unfold wZ;rw[af (.inr c2)]
  rw[N];exact .c1b O m.2;rw[ah];by_cases c3:e.k=3;rw[af c3];rw[ah,U c2,af c3]at g;obtain⟨q1,rfl,_⟩:=dy g;rw[E6]at q1;exact .c2 O q1.2;rw[U c3];by_cases z:e.k=4;rw[af z];rw[ah,U c2,U c3,af z]at g;unfold vM at g;split at g;rename_i j u w;cases g;exact bH ⟨z,by omega⟩ c4;split at g;rename_i j u w;cases g;obtain⟨_,v,q1,q2⟩:=nk w;rw[show (-1-(-1-(j:Int)))=(j:Int) by omega];exact .c19 (by simpa using q1) (by rw[q2];exact O);cases g;rw[U z];by_cases C:e.k=5;rw[af C];rw[ah,U c2,U c3,U z,af C]at g;rw[ah,U c2,ah,af (.inl C),aC]at m;obtain⟨a,rfl⟩:=Zm m;have q0:=kk 0 a _ rfl (Hf p);unfold AB at g;split at g;rename_i J;split at g;rename_i s I;split at g;rename_i i u w;cases g;obtain⟨_,v,q1,q2⟩:=nk w;have hr:=(R a (by simp)).2.2 J.1;have ha:a.ty=⟨3,((a.ty.r.toNat:Nat):Int),0⟩:=by
   have:a.ty=⟨a.ty.b,a.ty.r,a.ty.d⟩:=rfl;rw[this];have w:((a.ty.r.toNat:Nat):Int)=a.ty.r:=(by omega);rw[w];have q3:a.ty.b=3:=J.1;have q4:a.ty.d=0:=J.2;rw[q3,q4]
  rw[ha]at q0;exact .c6 q0 I (by simpa using q1) (by rw[q2];exact O);cases g;cases g;cases g;rw[U C];by_cases c6:e.k=6;rw[af c6];rw[ah,U c2,U c3,U z,U C,af c6]at g;rw[ah,U c2,ah,ah]at m;simp only[E6,aC]at m;obtain⟨a,b,rfl⟩:=adI m.2;have q0:=kk 0 a _ rfl (Hf p);have q1:=kk 1 b _ rfl (amV p);obtain⟨q2,rfl,_⟩:=dy g;rw[E6,aC,aC]at q2;rw[show b.ty=tI from q2.2]at q1;exact .c8 q0 q2.1 O q1;rw[U c6];by_cases c7:e.k=7;rw[af c7];rw[ah,U c2,U c3,U z,U C,U c6,af c7]at g;unfold sq at g;split at g;rename_i i s I;split at g;rename_i W;cases g;obtain⟨_,q⟩:=ry I;have q':H.aZ[i]?=Z s:=by simpa using q
  exact .Gs q' (G9 W p λj e a q1 q2=>kk j e a q1 q2) (.inr ⟨(L.res s (mem_of q') P).2,O⟩);cases g;cases g;rw[U c7];by_cases c8:e.k=8;rw[af c8];rw[ah,U c2,U c3,U z,U C,U c6,U c7,af c8]at g;obtain⟨q2,rfl,_⟩:=dy g;simp only[E6,aC]at q2;rw[iX (.inl c8)];exact .Mg O q2.1.2 q2.2 (by rw[aak (by simp)];simp);rw[U c8];by_cases c9:e.k=9;rw[af c9];rw[ah,U c2,U c3,U z,U C,U c6,U c7,U c8,af c9]at g;rw[ah,U c2,ah,af (.inr (.inl c9)),aC]at m;obtain⟨a,rfl⟩:=Zm m;have q0:=kk 0 a _ rfl (Hf p);obtain⟨q2,rfl,_⟩:=dy g;rw[E6,E6,aC,aC]at q2;rw[iX (.inr c9)];rw[show a.ty=tI from q2.2]at q0;have hd:=(qP H.rs e.on e.od).1;exact .Ew O (by show 0<(dz H.rs e.on e.od).1.d+1;omega) (by rw[aak (by simp)];simp) q0;rw[U c9];by_cases D4:e.k=10;rw[af D4];rw[ah,U c2,U c3,U z,U C,U c6,U c7,U c8,U c9,af D4]at g;rw[ah,U c2,ah,dM,aC]at m;obtain⟨a,rfl⟩:=Zm m;have q0:=kk 0 a _ rfl (Hf p);obtain⟨q2,rfl,_⟩:=dy g;rw[aC]at q2;exact .D4 O q0 q2;rw[U D4];by_cases Mg:e.k=11;rw[af Mg];rw[af (.inr Mg)]at g;cases g;exact .c14 O;rw[U Mg];by_cases Ew:e.k=12;rw[af (.inl Ew)];rw[ah,U c2,U c3,U z,U C,U c6,U c7,U c8,U c9,U D4,af Ew]at g;rw[ah,U c2,ah,dM,aC]at m;obtain⟨a,rfl⟩:=Zm m;have q0:=kk 0 a _ rfl (Hf p);obtain⟨q2,rfl,_⟩:=dy g;rw[aC]at q2;rw[show a.ty=tI from q2]at q0;rw[Ew];exact .c5i O q0;by_cases Gs:e.k=13;rw[af (.inr Gs)];rw[ah,U c2,U c3,U z,U C,U c6,U c7,U c8,U c9,U D4,U Ew,af Gs]at g;rw[ah,U c2,ah,dM,aC]at m;obtain⟨a,rfl⟩:=Zm m;have q0:=kk 0 a _ rfl (Hf p);obtain⟨q2,rfl,_⟩:=dy g;rw[aC]at q2;rw[show a.ty=tB from q2]at q0;rw[Gs];exact .c5b O q0;rw[ah];rw[ah,U c2,U c3,U z,U C,U c6,U c7,U c8,U c9,U D4,U Ew,U Gs]at g;rw[ah,U c2,ah,ah]at m;simp only[E6,abh,aC]at m;obtain⟨a,b,rfl⟩:=adI m.2;exact .c4 (kk 0 a _ rfl (Hf p)) (kk 1 b _ rfl (amV p)) g (by omega) O
end qA
namespace qA
open Ax Go V7 jb jn
variable {H:Hd}{f:Nat}{bY:Bool}{res:T3}{V X:List Vd}
theorem Jg{k N E t r W}(h:qk H res V k N E t=Z (r,W)):∃l,W=V++l/\∀v∈l,v.ty=t/\(k=1\/k=2):=by
 unfold qk at h;split at h;rename_i c;split at h;cases h;cases h;simp_all;split at h;rename_i c;split at h;split at h;cases h;cases h;simp_all;cases h;split at h
 ·split at h;all_goals simp_all
 split at h;simp_all;split at h;simp_all;split at h;simp_all;split at h;all_goals simp_all
def Gv(H:Hd)(V:List Vd):Prop:=∀v∈V,WT (Q H.rs) v.ty/\BT v.ty
theorem Xa{k O o t}(h:sR H k O o=Z t)(m:k=1\/k=2):WT (Q H.rs) t/\BT t:=by
 unfold sR at h;rw[af m]at h
 grind [qP,Dd]
theorem O9{k N O o E t r W}(n:sR H k O o=Z t)(h:qk H res V k N E t=Z (r,W))(y:Gv H V):Gv H W:=by
 obtain⟨l,rfl,g⟩:=Jg h;intro v p;rcases aaw.1 p with p|p;exact y v p
 grind [Xa]
def Qh(V X:List Vd):Prop:=∃l,X=V++l
theorem Qh.rfl':Qh V V:=⟨[],by simp⟩
theorem Qh.trans{A B C}(h:Qh A B)(k:Qh B C):Qh A C:=by
 obtain⟨l,rfl⟩:=h;obtain⟨m,rfl⟩:=k;exact⟨l++m,by simp⟩
theorem Qh.pre{A B vs}(h:Qh A B)(j:Ii B vs):Ii A vs:=by
 obtain⟨l,rfl⟩:=h;exact λk v m=>j k v (nP m)
theorem Cj:∀{l j:List Sm}{V X:List Vd},(∀s∈l,∀V y W,Br H bY res V s=.ok (y,W)->Gv H V->Qh V W/\Gv H W)->pe H bY res V l=.ok (j,X)->Gv H V->Qh V X/\Gv H X
 |[],j,V,X,_,h,g=>by
  cases h;exact⟨.rfl',g⟩
 |s::l,j,V,X,k,h,g=>by
  obtain⟨y,W,z,m,n,rfl⟩:=qy h;have ⟨a,b⟩:=k s aat V y W m g;have ⟨c,d⟩:=Cj (λt o=>k t (aax _ o)) n b;exact⟨a.trans c,d⟩
theorem Jh(s):∀V y W,Br H bY res V s=.ok (y,W)->Gv H V->Qh V W/\Gv H W:=by
 induction s using Sm.C6 with
 |_ s o U=>
  intro V y X h q;have ⟨t,C,r,W,z,w,O,F,N⟩:=yM h;have ⟨l,e,_⟩:=Jg F;have m:Qh V W:=⟨l,e⟩;have n:=O9 w F q;rcases N with⟨_,b,x,c,k,v,rfl⟩|⟨_,b,k,rfl⟩|⟨_,_,rfl,rfl⟩;have ⟨j,g⟩:=Cj o k n;have ⟨B,p⟩:=Cj U v g;exact⟨m.trans (j.trans B),p⟩;have ⟨j,g⟩:=Cj o k n;exact⟨m.trans j,g⟩
  grind
theorem vU{l g V X}(h:pe H bY res V l=.ok (g,X))(y:Gv H V):Qh V X/\Gv H X:=Cj (λs _=>Jh s) h y
def FS(H:Hd)(f:Nat)(bY:Bool)(res:T3)(X:List Vd)(y:Sm):Prop:=∀(vs:List T3)(S:List Sd)(at_:Nat),Ii X vs->FG H f bY res vs S (at_+Q (cS (Q vs) at_ (Q S) y).is) (cS (Q vs) at_ (Q S) y)
theorem La:∀l,(∀y∈l,FS H f bY res X y)->∀vs S at_,Ii X vs->FG H f bY res vs S (at_+Q (cB (Q vs) at_ (Q S) l).is) (cB (Q vs) at_ (Q S) l)
 |[],_,vs,S,at_,_=>by
  rw[K6];exact .nil
 |y::l,h,vs,S,at_,j=>by
  rw[FF];unfold K5;have g:=h y aat vs S at_ j;generalize cS (Q vs) at_ (Q S) y=x at *;have E:Q vs+Q x.vs=Q (vs++x.vs):=by simp
  have r:Q S+Q x.ss=Q (S++x.ss.map (Sd.mk f)):=by simp
  rw[E,r];dsimp only;have k:=La l (λz m=>h z (aax _ m)) (vs++x.vs) (S++x.ss.map (Sd.mk f)) (at_+Q x.is) j.eD;refine g.eD k ?_ ?_;all_goals grind [nj.eD]
theorem FG.ou{vs S m M o}(h:FG H f bY res vs S m o)(j:m<=M):FG H f bY res vs S M o:=⟨λi g=>by
 have:=(h.is i g).mono (ws:=[]) (ts:=[]) j
 grind⟩
theorem amW{vs S at_ x y z}(n:FG H f bY res vs S 0 x.2)(m:sB (vs++x.2.vs) tB x.1)(j:Ii X vs)(g:∀vs S at_,Ii X vs->FG H f bY res vs S (at_+Q (y (Q vs) at_ (Q S)).is) (y (Q vs) at_ (Q S)))(k:∀vs S at_,Ii X vs->FG H f bY res vs S (at_+Q (z (Q vs) at_ (Q S)).is) (z (Q vs) at_ (Q S))):
  FG H f bY res vs S (at_+Q (Qg (Q vs) at_ (Q S) x y z).is) (Qg (Q vs) at_ (Q S) x y z):=by
 unfold Qg;have E:Q vs+Q x.2.vs=Q (vs++x.2.vs):=by simp
 have r:Q S+Q x.2.ss=Q (S++x.2.ss.map (Sd.mk f)):=by simp
 rw[E,r];have o:=g (vs++x.2.vs) (S++x.2.ss.map (Sd.mk f)) (at_+Q x.2.is+1) j.eD;simp only;generalize y _ _ _=b at *;have l:Q (vs++x.2.vs)+Q b.vs=Q (vs++x.2.vs++b.vs):=by grind
 have p:Q (S++x.2.ss.map (Sd.mk f))+Q b.ss=Q (S++x.2.ss.map (Sd.mk f)++b.ss.map (Sd.mk f)):=by grind
 rw[l,p];have v:=k (vs++x.2.vs++b.vs) (S++x.2.ss.map (Sd.mk f)++b.ss.map (Sd.mk f)) (at_+Q x.2.is+1+Q b.is+1) j.eD.eD;generalize z _ _ _=c at *;refine⟨λi h=>?_⟩;simp only[afn,<-afG];simp only[aaq,aaK];simp only[aaw,ac2]at h;rcases h with h|rfl|h|rfl|h;have:=(n.is i h).mono (ws:=b.vs++c.vs) (ts:=b.ss.map (Sd.mk f)++c.ss.map (Sd.mk f)) (afD (at_+(Q x.2.is+(Q b.is+(Q c.is+1)+1))))
 grind
 refine .c17 ?_ (by omega) (by omega);have:=m.eD (ws:=b.vs++c.vs)
 grind
 have:=(o.is i h).mono (ws:=c.vs) (ts:=c.ss.map (Sd.mk f)) (m':=at_+(Q x.2.is+(Q b.is+(Q c.is+1)+1))) (by omega)
 grind
 exact .c16 (by omega);have:=(v.is i h).mono (ws:=[]) (ts:=[]) (m':=at_+(Q x.2.is+(Q b.is+(Q c.is+1)+1))) (by omega)
 grind
theorem amX{vs S at_ x y}(k:FG H f bY res vs S 0 x.2)(l:sB (vs++x.2.vs) tB x.1)(j:Ii X vs)(g:∀vs S at_,Ii X vs->FG H f bY res vs S (at_+Q (y (Q vs) at_ (Q S)).is) (y (Q vs) at_ (Q S))):
  FG H f bY res vs S (at_+Q (Tn (Q vs) at_ (Q S) x y).is) (Tn (Q vs) at_ (Q S) x y):=by
 unfold Tn;have E:Q vs+Q x.2.vs=Q (vs++x.2.vs):=by simp
 have r:Q S+Q x.2.ss=Q (S++x.2.ss.map (Sd.mk f)):=by simp
 rw[E,r];have n:=g (vs++x.2.vs) (S++x.2.ss.map (Sd.mk f)) (at_+Q x.2.is+1) j.eD;simp only;generalize y _ _ _=b at *;refine⟨λi h=>?_⟩;simp only[afn,<-afG];simp only[aaq,aaK,List.length_nil];simp only[aaw,ac2,List.not_mem_nil,or_false]at h;rcases h with h|rfl|h|rfl;exact(k.is i h).mono (afD _);exact .c17 l.eD (by omega) (by omega);have:=(n.is i h).mono (ws:=[]) (ts:=[]) (m':=at_+(Q x.2.is+(Q b.is+(0+1)+1))) (by omega)
 grind
 exact .c16 (by omega)
theorem ahT{vs S t}{v ref:Int}(p:sB vs t v)(h:(∃k:Nat,ref=k/\vs[k]?=Z t)\/(∃k:Nat,ref = -1-k/\∃g,H.ax[k]?=Z g/\g.ty=t)):AH H f bY res vs S 0 (IK ref v):=by
 unfold IK;rcases h with⟨k,rfl,m⟩|⟨k,rfl,g,m,rfl⟩;rw[ah];exact .c3 ⟨k,rfl,m⟩ p;rw[dM,show (-1-(-1-(k:Int)))=k by omega];exact .c20 m p
theorem Pa{vs S e i}(h:FG H f bY res vs S 0 (cE (Q vs) (Q S) e).2)(g:AH H f bY res (vs++(cE (Q vs) (Q S) e).2.vs) (S++(cE (Q vs) (Q S) e).2.ss.map (Sd.mk f)) 0 i)(m):
  FG H f bY res vs S m ((cE (Q vs) (Q S) e).2.eD (gx i)):=(h.eD (.fZ g) (aal _) (aal _)).ou (afD _)
theorem Pb{e g}(h:sK H V [e]=.ok g):∃y,g=[y]/\yU H V e=.ok y/\y.ty≠T0:=by
 obtain⟨y,z,j,k,l,rfl⟩:=oe h;simp_all [sK]
theorem Xb{a b g}(h:sK H V [a,b]=.ok g):∃y z,g=[y,z]/\yU H V a=.ok y/\y.ty≠T0/\yU H V b=.ok z/\z.ty≠T0:=by
 obtain⟨y,n,j,k,l,rfl⟩:=oe h;obtain⟨z,rfl,m,O⟩:=Pb l
 grind
theorem Xc{g:List E}(h:Q g=1):∃e,g=[e]:=by
 match g,h with
 |[e],_=>grind
theorem Nf{g at_ N k n O o E B m a r}:cS g at_ N (.mk k n O o E B m a r) =
  if k=2\/k=3 then (cE g N (jR E)).2.eD (gx (IK r (cE g N (jR E)).1))
  else if k=4 then O6 g N (jR E) (lT g N (jR E).aP) (λg N=>cE g N (es1 E))
  else if k=5 then Qg g at_ N (cE g N (jR E)) (λg at_ N=>cB g at_ N B) (λg at_ N=>cB g at_ N m)
  else if k=6 then Tn g at_ N (cE g N (jR E)) (λg at_ N=>cB g at_ N B)
  else if k=7 then (match E with
   |[]=>gx ⟨18,-1,0,0,0,[]⟩|e::_=>(cE g N e).2.eD (gx ⟨18,(cE g N e).1,0,0,0,[]⟩))
  else if k=8 then (cE g N (jR E)).2.eD (gx ⟨15,(cE g N (jR E)).1,0,0,0,[]⟩)
  else if k=9 then (cE g N (jR E)).2
  else O0:=Sh _ _ _ _
theorem ahU{N u r vs}(h:vM H V N=Z (u,r))(j:Ii V vs):(∃k:Nat,r=k/\vs[k]?=Z u)\/(∃k:Nat,r = -1-k/\∃g,H.ax[k]?=Z g/\g.ty=u):=by
 unfold vM at h;split at h;rename_i k t e;cases h;have ⟨_,v,q1,q2⟩:=nk e;exact .inl ⟨k,rfl,by rw[<-q2];exact j k v (by grind)⟩;split at h;rename_i k t e;cases h;have ⟨_,v,q1,q2⟩:=nk e
 grind
 cases h
theorem ahV(F:H.ok)(W:Hd.gd H)(hV:Gv H V){a b y z}(G:yU H V a=.ok y)(hb:yU H V b=.ok z)(hk:a.k=5\/a.k=6)(E1:y.ty=z.ty)(hz:z.ty≠T0){vs S}(hp:Ii V vs)(m):
  FG H f bY res vs S m (O6 (Q vs) (Q S) y (lT (Q vs) (Q S) y.aP) (λnv ns=>cE nv ns z)):=by
 have I:=λv M=>(hV v M).1;have U:=λv M=>(hV v M).2;obtain⟨p,t,r,h1,B,h,rfl⟩:=qU G;have iT:=He B;have R:=jP B λe _ y g=>OO F I e y g;have N:iG a.k a.n (Q p)=Y:=by rw[oD B];omega
 have O:=UI (f:=f) (bY:=bY) (res:=res) F W I U b z hb;have ⟨k1,T,k3⟩:=O8 (f:=f) (bY:=bY) (res:=res) p (λy g=>⟨iT y g,jP B (λe _ y g=>UI F W I U e y g) y g⟩) vs S hp;unfold O6;simp;rw[show (E.mk a.k _ _ _ _ p a.a t r).aP=p from rfl]at *;generalize hx:lT (Q vs) (Q S) p=x at *;have ⟨l,o⟩:=x;simp only at *;have q:Q vs+Q o.vs=Q (vs++o.vs):=by simp
 have e2:Q S+Q o.ss=Q (S++o.ss.map (Sd.mk f)):=by simp
 rw[q,e2];have ⟨q1,q2⟩:=O (vs++o.vs) (S++o.ss.map (Sd.mk f)) hp.eD;have C:=q2 hz;generalize cE _ _ z=w at *;have kk:∀j (e:E) a,p[j]?=Z e->l[j]?=Z a->sB (vs++o.vs++w.2.vs) e.ty a:=λj e a q1 q2=>(k3 j e a q1 q2).eD;have L:z.ty=t:=E1.symm;rw[L]at C;have Ij:AH H f bY res (vs++o.vs++w.2.vs) (S++o.ss.map (Sd.mk f)++w.2.ss.map (Sd.mk f)) 0 (IL a.k r w.1 l):=by
  unfold IL;unfold nN at h;unfold iG at N;rcases hk with D|c6;rw[af D];rw[ah,ah,ah,ah,af D]at h;rw[ah,ah,ah,af (.inl D),aC]at *;obtain⟨a,rfl⟩:=Zm N;have q0:=kk 0 a _ rfl (Hf T);unfold AB at h;split at h;rename_i J;split at h;rename_i s hs;split at h;rename_i i u q;cases h;have ⟨_,v,p1,P⟩:=nk q;have hr:=(R a (by simp)).2.2 J.1;have G:a.ty=⟨3,(a.ty.r.toNat:Int),0⟩:=by
   have:a.ty=⟨a.ty.b,a.ty.r,a.ty.d⟩:=rfl;rw[this];have q:(a.ty.r.toNat:Int)=a.ty.r:=(by omega);rw[q];have C:a.ty.b=3:=J.1;have q4:a.ty.d=0:=J.2;rw[C,q4]
  rw[G]at q0;exact .c7 q0 hs (by omega) (by grind);cases h;cases h;cases h;rw[ah];rw[ah,ah,ah,ah,ah,af c6]at h;rw[ah,ah,ah,ah]at *;simp only[E6,aC]at *;obtain⟨a,b,rfl⟩:=adI N.2;have q0:=kk 0 a _ rfl (Hf T);have q1:=kk 1 b _ rfl (amV T);obtain⟨P,rfl,_⟩:=dy h;rw[E6,aC,aC]at P;rw[show b.ty=tI from P.2]at q1;exact .c9 q0 P.1 C q1
 have hA:=k1.eD q1 (aal _) (aal _);refine(hA.eD (.fZ (i:=IL a.k r _ l) ?_) (aal _) (aal _)).ou (afD _)
 grind [nj.eD]
theorem Ck:∀{l j:List Sm}{V X:List Vd},pe H bY res V l=.ok (j,X)->Gv H V->∀{y:Sm},y∈j->∃s v g,s∈l/\Br H bY res v s=.ok (y,g)/\Gv H v/\Qh V v/\Qh g X
 |[],j,V,X,h,_,y,m=>by
  grind [pe]
 |s::l,j,V,X,h,o,y,m=>by
  obtain⟨z,W,t,k,n,rfl⟩:=qy h;have ⟨a,b⟩:=Jh s V z W k o;rcases ac2.1 m with rfl|m;exact⟨s,V,W,aat,k,o,.rfl',(vU n b).1⟩;have ⟨S,v,g,D,I,p,q,r⟩:=Ck n b m;exact⟨S,v,g,aax _ D,I,p,a.trans q,r⟩
theorem amY(hH:H.ok)(hG:Hd.gd H)(s):∀V y W,Br H bY res V s=.ok (y,W)->Gv H V->Qh W X->FS H f bY res X y:=by
 induction s using Sm.C6 with
 |_ s yN uC=>
  intro V y W0 h hV hX;have ⟨t,ys,r,W,j,ht,p,F,hh⟩:=yM h;have hVW:Qh V W:=by have ⟨l,e,_⟩:=Jg F;exact⟨l,e⟩
  have J:=O9 ht F hV;have hW1:=λv C=>(hV v C).1;have hW2:=λv C=>(hV v C).2;have axY:Qh W W0:=by
   rcases hh with⟨_,b,W1,c,w,hc,rfl⟩|⟨_,b,w,rfl⟩|⟨_,_,rfl,rfl⟩;have ⟨a1,a2⟩:=vU w J;exact a1.trans (vU hc a2).1;exact(vU w J).1;exact .rfl'
  have L:=axY.trans hX;have hVX:=hVW.trans L;intro vs S at_ o;have g:=hVX.pre o;have hpW:=L.pre o;have one:(s.k=2\/s.k=3\/s.k=5\/s.k=6\/s.k=8)->∃e z,s.es=[e]/\ys=[z]/\yU H V e=.ok z/\z.ty≠T0:=λhk=>by
   unfold fL at j;rw[ah,ah,ah,ah,dM,aC]at j
   grind [Xc,Ey,Pb]
  have x:∀e z,yU H V e=.ok z->FE H f bY res V z:=λe z h=>UI hH hG hW1 hW2 e z h;rcases hh with⟨c5,b,W1,c,w,hc,rfl⟩|⟨c6,b,w,rfl⟩|⟨c5,c6,rfl,rfl⟩;rw[Nf,ah,ah,af c5];obtain⟨e,z,B,rfl,m,n⟩:=one (by omega);have ⟨q1,q2⟩:=x e z m vs S g;have q:=q2 n;unfold qk at F;rw[ah,ah,ah,ah,af (.inl c5)]at *;split at F;rename_i D;rw[show z.ty=tB from D]at q;have g1:=vU w J;refine amW q1 q o (λvs S at_ o=>?_) (λvs S at_ o=>?_);refine La b (λy M=>?_) vs S at_ o;have ⟨T,G,I,N,O,P,i4,R⟩:=Ck w J M;exact yN T N G y I O P (R.trans ((vU hc g1.2).1.trans hX));refine La c (λy M=>?_) vs S at_ o;have ⟨T,G,I,N,O,P,i4,R⟩:=Ck hc g1.2 M;exact uC T N G y I O P (R.trans hX)
  grind
  rw[Nf,ah,ah,ah,af c6];obtain⟨e,z,B,rfl,m,n⟩:=one (by omega);have ⟨q1,q2⟩:=x e z m vs S g;have q:=q2 n;unfold qk at F;rw[ah,ah,ah,ah,af (.inr c6)]at *;split at F;rename_i D;rw[show z.ty=tB from D]at q;refine amX q1 q o (λvs S at_ o=>?_);refine La b (λy M=>?_) vs S at_ o;have ⟨T,G,I,N,O,P,i4,R⟩:=Ck w J M;exact yN T N G y I O P (R.trans hX)
  grind
  rw[Nf];by_cases c2:s.k=2\/s.k=3;rw[af c2];obtain⟨e,z,B,rfl,m,n⟩:=one (by omega);have ⟨q1,q2⟩:=x e z m vs S g;refine Pa q1 (ahT (q2 n) ?_) _;unfold qk at F;rw[ah]at *;rcases c2 with c2|c3;rw[af c2]at *;split at F;rename_i D;split at F;cases F;cases F;refine .inl ⟨Q V,rfl,?_⟩;have:=hpW (Q V) ⟨s.nm,t⟩ (by simp);rw[show z.ty=t from D]
  grind
  grind
  rw[ah,af c3]at *;split at F;rename_i u r' C;split at F;rename_i hu;cases F;rw[show u=z.ty from hu]at C;exact ahU C g.eD
  grind
  grind
  rw[U c2];by_cases c4:s.k=4;rw[af c4];unfold fL at j;rw[ah,af c4]at j;split at j;rename_i a b B;rw[Ey (by omega),B]at p;obtain⟨y,z,rfl,m,n,h3,h4⟩:=Xb p;unfold qk at F;rw[ah,ah,ah,af c4]at *;split at F;rename_i E;exact ahV hH hG hV m h3 (by grind) E h4 g _
  grind
  cases j;rw[U c4,U c5,U c6];by_cases c7:s.k=7;rw[af c7];rw[Ey (by omega)]at *;unfold fL at j;rw[ah,ah,af c7]at j;simp only[abh,E6,aC,afo]at j;rcases j with⟨m,n⟩|⟨m,n⟩;have ⟨e,B⟩:=Xc m;rw[B]at p;obtain⟨z,rfl,h3,h4⟩:=Pb p;have ⟨q1,q2⟩:=x e z h3 vs S g;unfold qk at F;rw[ah,ah,ah,ah,ah,af c7]at *;split at F;rename_i E;have q:=q2 h4;rcases E with E|E
  trivial
  rw[show z.ty=res from E]at q;exact Pa q1 (.c18 (by grind)) _
  grind
  have B:=List.eq_nil_of_length_eq_zero m;rw[B]at p;unfold sK at p;cases p;exact .fZ (.c18 (by grind));rw[U c7];by_cases c8:s.k=8;rw[af c8];obtain⟨e,z,B,rfl,m,n⟩:=one (by omega);have ⟨q1,q2⟩:=x e z m vs S g;have q:=q2 n;unfold qk at F;rw[ah,ah,ah,ah,ah,ah,af c8]at *;split at F;rename_i E;rw[show z.ty=tI from E]at q;exact Pa q1 (.c15 q) _
  grind
  rw[U c8];by_cases c9:s.k=9;rw[af c9];unfold fL at j;rw[ah,ah,ah,af c9]at j;split at j;rename_i e B;rw[c9,B,WX]at p;split at p;cases p;rename_i z hz;cases p;exact((x e z hz vs S g).1).ou (afD _);cases j;rw[U c9];exact .nil
end qA
namespace qA
open Ax Go V7 jb jn
variable {H:Hd}{V:List Vd}{bY:Bool}{res:T3}
theorem adJ{k n m}(h:iG k n m=Y):(k=5\/k=9\/k=10\/k=12\/k=13->m=1)/\(k=6\/14<=k->m=2)/\(0<k/\k<25):=by
 unfold iG at h;split at h;all_goals grind
theorem C8:∀{l:List Vd}{s:List UInt8}{i k:Nat}{t:T3},jA s i l=Z (k,t)->k<i+Q l
 |[],_,_,_,_,h=>by cases h|f::l,s,i,k,t,h=>by
  unfold jA at h;split at h
  grind
  have:=C8 h
  grind
theorem Xd{s t r}(U:Q H.ax<100000000)(h:vM H V s=Z (t,r)): -1000000000<r:=by
 unfold vM at h;split at h
 grind
 split at h;rename_i k T m;cases h;have:=C8 m;omega;cases h
theorem amZ(p:Hd.gd H)(U:Q H.ax<100000000)(n:∀v∈V,BT v.ty)(e):∀y,yU H V e=.ok y->LE y:=by
 induction e using E.C6 with
 |_ e I=>
  intro y h;have G:=(K8 p n e y h).1;obtain⟨q,t,r,g,j,l,rfl⟩:=qU h;have o:=oD j;rw[<-o]at g;obtain⟨a,b,c⟩:=adJ g;rw[adC];refine⟨G,a,b,c,λm=>?_,(yQ _).2 (jP j I)⟩;have m:e.k=4:=m;unfold nN at l;rw[ah,ah,ah,af m]at l;exact Xd U l
theorem ahW{k g j}{P:E->Prop}(h:Bq H V k g=.ok j)(l:∀e∈g,∀y,yU H V e=.ok y->P y):∀y∈j,P y:=by
 unfold Bq at h;by_cases s:k=9
 grind
 rw[U s]at h;exact jP h l
theorem FH:∀{l g:List Sm}{V X:List Vd},(∀s∈l,∀V y W,Br H bY res V s=.ok (y,W)->Gv H V->LS y)->pe H bY res V l=.ok (g,X)->Gv H V->LB g
 |[],g,V,X,_,h,_=>by
  grind [pe,LB]
 |s::l,g,V,X,m,h,k=>by
  obtain⟨y,W,z,j,n,rfl⟩:=qy h;unfold LB;exact⟨m s aat V y W j k,FH (λt o=>m t (aax _ o)) n (Jh s V y W j k).2⟩
theorem adK{k E}(h:fL bY k E=Y):(k=2\/k=3\/k=5\/k=6\/k=8\/k=9->Q E=1)/\(k=4->Q E=2/\((jR E).k=5\/(jR E).k=6)):=by
 unfold fL at h;split at h
 grind
 split at h;rename_i c;refine⟨λq=>by omega,λ_=>?_⟩;match E,h with
 |[e,f],h=>simp_all [jR]
 grind
theorem am0(z:Hd.gd H)(w:Q H.ax<100000000)(s):∀V y W,Br H bY res V s=.ok (y,W)->Gv H V->LS y:=by
 induction s using Sm.C6 with
 |_ s x G=>
  intro V y X h o;obtain⟨t,J,r,W,C,D,O,F,N⟩:=yM h;have I:=O9 D F o;have j:LL J:=(yQ _).2 (ahW O λe _ y E=>amZ z w (λv p=>(o v p).2) e y E);obtain⟨g,n⟩:=adK (RJ O C);have m:s.k=2\/s.k=3→-1000000000<r:=λq=>by
   unfold qk at F;rw[ah]at F;by_cases c2:s.k=2
   grind
   rw[U c2,dM]at F;split at F;rename_i u R p;split at F;cases F;exact Xd w p
   grind
   grind
  rcases N with⟨_,b,L,c,l,B,rfl⟩|⟨_,b,l,rfl⟩|⟨_,_,rfl,rfl⟩;rw[Si];exact⟨j,g,n,m,FH x l I,FH G B (vU l I).2⟩;rw[Si];exact⟨j,g,n,m,FH x l I,by simp[Sm.el,LB]⟩;rw[Si];exact⟨j,g,n,m,by simp[Sm.bd,LB],by simp[Sm.el,LB]⟩
theorem adL(p:Hd.gd H)(U:Q H.ax<100000000):∀{S:List Sg}{fs:List Fc}{bs:List Bd},(∀s∈S,Gv H s.ps)->rK H S fs=.ok bs->∀b∈bs,LB b.code
 |[],fs,bs,_,h=>by grind [rK]|_::_,[],bs,_,h=>by grind [rK]|s::S,f::fs,bs,k,h=>by
  unfold rK at h;split at h;cases h;rename_i c W m;split at h;cases h;rename_i l j;cases h;intro b g;rcases ac2.1 g with rfl|g
  grind [FH,am0]
  exact adL p U (λs h=>k s (aax _ h)) j b g
end qA
namespace qA
open Ax Go V7 jb jn
variable {H:Hd}{f:Nat}{bY:Bool}{res:T3}{V X:List Vd}
structure MT (H:Hd)(t:T3):Prop where
 wt:WT H.rs.length t
 bt:BT t
 rt:t.b≠3->t.r=0
def RT(t:T3):Prop:=t.b≠3->t.r=0
structure Hd.rt (H:Hd):Prop where
 bN:∀s∈H.bN,∀f∈s.2,RT f.ty
 ax:∀f∈H.ax,RT f.ty
 ps:∀s∈H.aZ,∀f∈s.ps,RT f.ty
 res:∀s∈H.aZ,RT s.res
theorem De{l s d}:RT (dz l s d).1:=by
 unfold dz RT;split;intro _;rfl;split;intro _;rfl;split;intro _;rfl;split;intro _;rfl;intro h;exact bH rfl h
theorem am1(z:Hd.rt H)(y:∀v∈V,RT v.ty){k n N w O p t r}(o:iG k n (Q p)=Y)(B:∀e∈p,RT e.ty)(h:nN H V k N w O p=Z (t,r)):RT t:=by
 have bI:RT tI:=λ_=>rfl;have bB:RT tB:=λ_=>rfl;unfold nN at h;by_cases c1:k=1\/k=11;rw[af c1]at h;cases h;exact bI;rw[U c1]at h;by_cases c2:k=2;rw[af c2]at h;cases h;exact bB;rw[U c2]at h;by_cases c3:k=3;rw[af c3]at h;obtain⟨g,rfl,_⟩:=dy h;exact De;rw[U c3]at h;by_cases c4:k=4;rw[af c4]at h;unfold vM at h;split at h;rename_i j u e;cases h;obtain⟨_,v,g,m⟩:=nk e;exact m ▸ y v (mem_of g);split at h;rename_i j u e;cases h;obtain⟨_,v,g,m⟩:=nk e;exact m ▸ z.ax v (mem_of g);cases h;rw[U c4]at h;by_cases C:k=5;rw[af C]at h;unfold AB at h;split at h;split at h;rename_i s q;split at h;rename_i i u e;cases h;obtain⟨_,v,g,m⟩:=nk e;exact m ▸ z.bN s (mem_of q) v (mem_of g);cases h;cases h;cases h;rw[U C]at h;by_cases c6:k=6;rw[af c6]at h;obtain⟨g,rfl,_⟩:=dy h;have x:Q p=2:=by
  unfold iG at o;rw[ah,ah,ah,ah]at o;simp only[E6,aC]at o;exact o.2
 obtain⟨a,b,rfl⟩:=adI x;exact B a (by simp);rw[U c6]at h;by_cases c7:k=7;rw[af c7]at h;unfold sq at h;split at h;rename_i i s q;split at h;cases h;obtain⟨_,m⟩:=ry q;exact z.res s (mem_of m);cases h;cases h;rw[U c7]at h;by_cases c8:k=8;rw[af c8]at h;obtain⟨g,rfl,_⟩:=dy h;exact De;rw[U c8]at h;by_cases c9:k=9;rw[af c9]at h;obtain⟨g,rfl,_⟩:=dy h;exact(De (l:=H.rs) (s:=w) (d:=O):RT _);rw[U c9]at h;by_cases D4:k=10;rw[af D4]at h;obtain⟨_,rfl,_⟩:=dy h;exact bI;rw[U D4]at h;by_cases Ew:k=12;rw[af Ew]at h;obtain⟨_,rfl,_⟩:=dy h;exact bI;rw[U Ew]at h;by_cases Gs:k=13;rw[af Gs]at h;obtain⟨_,rfl,_⟩:=dy h;exact bB;rw[U Gs]at h;unfold jn.pV at h;split at h;obtain⟨_,rfl,_⟩:=dy h;exact bI;split at h;obtain⟨_,rfl,_⟩:=dy h;exact bB;split at h;obtain⟨_,rfl,_⟩:=dy h;exact bB;obtain⟨_,rfl,_⟩:=dy h;exact bB
theorem am2(z:Hd.rt H)(k:∀v∈V,RT v.ty)(e):∀y,yU H V e=.ok y->RT y.ty:=by
 induction e using E.C6 with
 |_ e I=>
  intro y h;obtain⟨m,t,r,j,g,l,rfl⟩:=qU h;exact am1 z k (by rw[oD g];exact j) (jP g I) l
structure uD (H:Hd)(o:nj):Prop where
 vs:∀t∈o.vs,MT H t
 ss:∀t∈o.ss,MT H t/\lS t=true
theorem uD.nil:uD H O0:=⟨by simp[O0],by simp[O0]⟩
theorem uD.eD{x y}(h:uD H x)(k:uD H y):uD H (x.eD y):=by
 refine⟨λt g=>?_,λt g=>?_⟩;rcases aaw.1 g with g|g;exact h.vs t g;exact k.vs t g;rcases aaw.1 g with g|g;exact h.ss t g;exact k.ss t g
theorem uD.fZ{i}:uD H (gx i):=⟨by simp[gx],by simp[gx]⟩
theorem Pc:∀j g N,(∀y∈j,∀g N,uD H (cE g N y).2)->uD H (lT g N j).2
 |[],g,N,_=>by
  have e:lT g N []=([],O0):=by unfold lT;rfl
  rw[e];exact .nil
 |y::j,g,N,h=>by
  rw[qB];exact(h y aat g N).eD (Pc j _ _ λz k=>h z (aax _ k))
def Mv(H:Hd)(V:List Vd):Prop:=∀v∈V,MT H v.ty
theorem Mv.gv(h:Mv H V):Gv H V:=λv p=>⟨(h v p).wt,(h v p).bt⟩
theorem UJ(D:H.ok)(C:Hd.gd H)(F:Hd.rt H)(j:Mv H V)(e):∀y,yU H V e=.ok y->∀g N,uD H (cE g N y).2:=by
 induction e using E.C6 with
 |_ e L=>
  intro y h g N;have G:=K8 C (λv p=>(j v p).bt) e y h;have R:=OO D (λv p=>(j v p).wt) e y h;have J:=am2 F (λv p=>(j v p).rt) e y h;obtain⟨o,t,r,M,z,l,rfl⟩:=qU h;have B:cE g N (.mk e.k (wZ e.k e.n) (w6 e.k e.nm) (w7 e.k e.on) (w8 e.k e.od) o e.a t r)=if e.k=4/\0<=r then (r,O0) else cK g N e.k (wZ e.k e.n) r t (lT g N o):=D5 _ _ _
  rw[B];split;exact .nil;have s:=Pc o g N (jP z L);unfold cK;split;exact s.eD .fZ;rename_i I;have w:MT H t:=⟨R,G.2 I,J⟩;refine s.eD ⟨by simpa using w,λu x=>?_⟩;by_cases q:e.k=8\/e.k=9;have m:u=t:=by simpa [q] using x
  subst m;refine⟨w,?_⟩;unfold nN at l;rw[ah,ah,ah,ah,ah,ah,ah]at l;rcases q with q|q;rw[af q]at l;obtain⟨q1,q2,_⟩:=dy l;simp only[E6,aC]at q1;unfold lS;rw[q2,q1.1.2]
  rfl
  rw[ah,af q]at l;obtain⟨q1,q2,_⟩:=dy l;have O:=(qP H.rs e.on e.od).1;unfold lS;rw[q2];rw[abh,aC,aC];exact .inr (by show 0<(dz H.rs e.on e.od).1.d+1;omega);simp[q]at x
theorem adN{k N O o E t r W}(n:sR H k O o=Z t)(h:qk H res V k N E t=Z (r,W))(y:Mv H V):Mv H W:=by
 obtain⟨l,rfl,g⟩:=Jg h;intro v p;rcases aaw.1 p with p|p;exact y v p;obtain⟨e,m⟩:=g v p;rw[e];obtain⟨q1,q2⟩:=Xa n m;refine⟨q1,q2,?_⟩;unfold sR at n;rw[af m]at n;split at n;cases n;exact De;cases n
theorem FI:∀{l j:List Sm}{V X:List Vd},(∀s∈l,∀V y W,Br H bY res V s=.ok (y,W)->Mv H V->Mv H W)->pe H bY res V l=.ok (j,X)->Mv H V->Mv H X
 |[],j,V,X,_,h,g=>by
  unfold pe at h;cases h;exact g
 |s::l,j,V,X,k,h,g=>by
  obtain⟨y,W,z,m,n,rfl⟩:=qy h;exact FI (λt o=>k t (aax _ o)) n (k s aat V y W m g)
theorem adO(s):∀V y W,Br H bY res V s=.ok (y,W)->Mv H V->Mv H W:=by
 induction s using Sm.C6 with
 |_ s n U=>
  intro V y X h j;obtain⟨t,q,r,W,o,m,p,F,N⟩:=yM h;have g:=adN m F j;rcases N with⟨_,b,w,c,l,k,rfl⟩|⟨_,b,l,rfl⟩|⟨_,_,rfl,rfl⟩;exact FI U k (FI n l g);exact FI n l g;exact g
theorem adP{l g}(h:pe H bY res V l=.ok (g,X))(y:Mv H V):Mv H X:=FI (λs _=>adO s) h y
theorem zw:∀{l g:List Sm}{V X:List Vd},pe H bY res V l=.ok (g,X)->Mv H V->∀{y:Sm},y∈g->∃s v w,s∈l/\Br H bY res v s=.ok (y,w)/\Mv H v
 |[],g,V,X,h,_,y,m=>by
  unfold pe at h;cases h;simp at m
 |s::l,g,V,X,h,k,y,m=>by
  obtain⟨z,W,o,j,n,rfl⟩:=qy h;rcases ac2.1 m with rfl|m;exact⟨s,V,W,aat,j,k⟩;obtain⟨S,v,w,D,I,p⟩:=zw n (adO s V z W j k) m;exact⟨S,v,w,aax _ D,I,p⟩
theorem Lc:∀l g at_ N,(∀y∈l,∀g at_ N,uD H (cS g at_ N y))->uD H (cB g at_ N l)
 |[],g,at_,N,_=>by rw[K6];exact .nil|y::l,g,at_,N,h=>by
  rw[FF];unfold K5;exact(h y aat g at_ N).eD (Lc l _ _ _ λz j=>h z (aax _ j))
theorem uD.of{x}(h:uD H x)(l):uD H ⟨x.vs,l,x.ss⟩:=⟨h.vs,h.ss⟩
theorem am3(J:H.ok)(F:Hd.gd H)(L:Hd.rt H)(s):∀V y W,Br H bY res V s=.ok (y,W)->Mv H V->∀g at_ N,uD H (cS g at_ N y):=by
 induction s using Sm.C6 with
 |_ s P uC=>
  intro V y W0 h q g at_ N;obtain⟨t,j,r,W,C,ht,p,R,hh⟩:=yM h;have o:=adN ht R q;have x:∀y∈j,∀g N,uD H (cE g N y).2:=by
   unfold Bq at p;split at p;split at p;rename_i e l _;cases M:yU H V e with
   |error a=>rw[M]at p;cases p|ok y=>
    rw[M]at p;cases p;intro z hz;rw[afq.1 hz];exact UJ J F L q e y M
   cases p;simp;exact jP p λe _ y m=>UJ J F L q e y m
  have f0:∀g N,uD H (cE g N (jR j)).2:=λg N=>by
   match j,x with
   |[],_=>
    have:cE g N (jR [])=(-1,gx ⟨13,-1,0,0,0,[]⟩):=by
     show cE g N (.mk 0 0 [] [] 0 [] 0 T0 0)=_;rw[D5];show (if (0:Int)=4/\(0:Int)<=0 then _ else cK g N 0 0 0 T0 (lT g N []))=_;rw[U (by decide)];have e:lT g N []=([],O0):=(by unfold lT;rfl);rw[e];unfold cK;rw[af rfl];simp[UG]
    rw[this];exact .fZ
   |y::_,x=>exact x y aat g N
  have T:∀g N,uD H (cE g N (es1 j)).2:=λg N=>by
   match j,x with
   |_::y::_,x=>exact x y (by simp) g N|[],_=>
    have:cE g N (es1 [])=(-1,gx ⟨13,-1,0,0,0,[]⟩):=by
     show cE g N (.mk 0 0 [] [] 0 [] 0 T0 0)=_;rw[D5];show (if (0:Int)=4/\(0:Int)<=0 then _ else cK g N 0 0 0 T0 (lT g N []))=_;rw[U (by decide)];have e:lT g N []=([],O0):=(by unfold lT;rfl);rw[e];unfold cK;rw[af rfl];simp[UG]
    rw[this];exact .fZ
   |[z],_=>
    have:cE g N (es1 [z])=(-1,gx ⟨13,-1,0,0,0,[]⟩):=by
     show cE g N (.mk 0 0 [] [] 0 [] 0 T0 0)=_;rw[D5];show (if (0:Int)=4/\(0:Int)<=0 then _ else cK g N 0 0 0 T0 (lT g N []))=_;rw[U (by decide)];have e:lT g N []=([],O0):=(by unfold lT;rfl);rw[e];unfold cK;rw[af rfl];simp[UG]
    rw[this];exact .fZ
  have fk:∀g N,s.k=4->uD H (lT g N (jR j).aP).2:=λg N c4=>by
   unfold fL at C;rw[ah,af c4]at C;split at C;rename_i a b he;rw[Ey (by omega),he]at p;obtain⟨y,z,rfl,h1,o,h3,h4⟩:=Xb p;obtain⟨ks,t,r,G,E,g3,rfl⟩:=qU h1;exact Pc ks g N (jP E λe _ y m=>UJ J F L q e y m);cases C
  rcases hh with⟨O,b,W1,c,B,hc,rfl⟩|⟨c6,b,B,rfl⟩|⟨O,c6,rfl,rfl⟩;rw[Nf,ah,ah,af O];have G:∀g at_ N,uD H (cB g at_ N b):=λg at_ N=>Lc b g at_ N λy m=>by
   obtain⟨S,v,w,D,I,n⟩:=zw B o m;exact P S D v y w I n
  have E:∀g at_ N,uD H (cB g at_ N c):=λg at_ N=>Lc c g at_ N λy m=>by
   obtain⟨S,v,w,D,I,n⟩:=zw hc (adP B o) m;exact uC S D v y w I n
  exact(((f0 g N).eD (G _ _ _)).eD (E _ _ _)).of _;rw[Nf,ah,ah,ah,af c6];have G:∀g at_ N,uD H (cB g at_ N b):=λg at_ N=>Lc b g at_ N λy m=>by
   obtain⟨S,v,w,D,I,n⟩:=zw B o m;exact P S D v y w I n
  exact((f0 g N).eD (G _ _ _)).of _;rw[Nf];split;exact(f0 g N).eD .fZ;split;rename_i c4;exact((fk g N c4).eD (T _ _)).eD .fZ;split;split;exact .fZ;exact(x _ aat g N).eD .fZ;split;exact(f0 g N).eD .fZ;split;exact f0 g N;exact .nil
end qA
namespace qA
open Ax Go V7 jb jn
variable {H:Hd}{f:Nat}{bY:Bool}{res:T3}{V X:List Vd}
structure Hd.DF (H:Hd):Prop where
 ok:H.ok
 gd:Hd.gd H
 rt:Hd.rt H
 yes:∀s∈H.aZ,s.bY=true->MT H s.res
 no:∀s∈H.aZ,s.bY=false->s.res=T0
 bN:∀s∈H.bN,s.2.length<=8
 pn:∀s∈H.aZ,s.ps.length<=6
 nr:H.bN.length<=12
 ng:H.ax.length<=8
 nf:H.aZ.length<=16
structure Sk (H:Hd)(f:Nat)(s:Sg)(ss:List Sd)(c:Cd):Prop where
 params:c.params=s.ps.length
 bY:c.bY=s.bY
 res:c.res=s.res
 pre:Ii s.ps c.vars
 vt:∀t∈c.vars,MT H t
 nv:c.vars.length<=4000
 zR:∀i∈c.is,AH H f s.bY s.res c.vars ss (c.is.length-1) i
 am4:∃i,c.is.getLast? = some i/\i.op=18
theorem Sk.ou{s S ts c}(h:Sk H f s S c):Sk H f s (S++ts) c:=
 ⟨h.params,h.bY,h.res,h.pre,h.vt,h.nv,λi g=>by
  have:=(h.zR i g).mono (ws:=[]) (ts:=ts) (aal _)
  grind,h.am4⟩
theorem Xe(V l):Ii V (V.map (·.ty)++l):=λk v m=>by
 grind
theorem ake(l:Hd.DF H){s}(j:s∈H.aZ):Mv H s.ps:=λv p=>⟨(l.ok.aZ s j).2 v p,l.gd.ps s j v p,l.rt.ps s j v p⟩
theorem am5{t}(h:MT H t)(g:lS t=false):t=tI\/t=tB:=by
 unfold lS at g;rw[Bool.or_eq_false_iff,decide_eq_false_iff_not,decide_eq_false_iff_not]at g;obtain⟨j,k⟩:=g;have l:=h.rt j;have m:=h.wt.1;have O:=h.bt;obtain⟨b,r,d⟩:=t;simp only at j k l m;obtain⟨C,N⟩:=O
 grind
theorem adQ(k:Hd.DF H){s}{fn:Fc}{l W}(J:s∈H.aZ)(n:pe H s.bY s.res s.ps fn.body=.ok (l,W))(a f S)(j:Q (eR (Q S) s ⟨W,l,a⟩).vars<=4000):
  Sk H f s (S++(eO (Q S) ⟨W,l,a⟩).ss.map (Sd.mk f)) (eR (Q S) s ⟨W,l,a⟩)/\uD H (eO (Q S) ⟨W,l,a⟩):=by
 have p:=ake k J;have m:=adP n p;have M:=(vU n p.gv).1;have E:uD H (eO (Q S) ⟨W,l,a⟩):=Lc l _ _ _ λy B=>by
  obtain⟨D,r,w,T,I,C⟩:=zw n p B;exact am3 k.ok k.gd k.rt D r y w I C
 have F:=La (f:=f) (X:=W) l (λy B=>by
  obtain⟨D,r,w,T,I,C,i4,U⟩:=Ck n p.gv B;exact amY k.ok k.gd D r y w I C U) (W.map (·.ty)) S 0 (by simpa using Xe W [])
 have L:(W.map (·.ty)).length=Q W:=by simp
 rw[L]at F;refine⟨?_,E⟩;have P:eO (Q S) ⟨W,l,a⟩=cB (Q W) 0 (Q S) l:=rfl;rw[<-P]at F;unfold eR at j ⊢;generalize eO (Q S) ⟨W,l,a⟩=o at *;simp only at j ⊢;have x:∀ts,Ii s.ps (W.map (·.ty)++ts):=λts=>M.pre (Xe W ts);cases N:s.bY with
 |false=>
  rw[N]at j;simp only[Bool.false_eq_true,bC,List.append_nil]at j ⊢;refine⟨rfl,N.symm,rfl,x _,λt h=>?_,j,λi g=>?_,⟨18,-1,0,0,0,[]⟩,by simp[xu,N],rfl⟩;rcases aaw.1 h with h|h;obtain⟨v,z,rfl⟩:=aap.1 h;exact m v z;exact E.vs t h;rcases aaw.1 g with g|g;have:=(F.is i g).mono (ws:=[]) (ts:=[]) (m':=Q (o.is++xu s (Q W+Q o.vs))-1) (by simp[xu,N])
  grind
  have:i=⟨18,-1,0,0,0,[]⟩:=by grind [xu]
  subst this;exact .c18 (by grind)
 |true=>
  rw[N]at j;simp only[bz]at j ⊢;have R:=k.yes s J N;have O:sB (W.map (·.ty)++o.vs++[s.res]) s.res ((Q W+Q o.vs:Nat):Int):=⟨Q W+Q o.vs,rfl,by grind⟩;refine⟨rfl,N.symm,rfl,by grind,λt h=>?_,j,λi g=>?_,⟨18,((Q W+Q o.vs:Nat):Int),0,0,0,[]⟩,by simp[xu,N],rfl⟩;rcases aaw.1 h with h|h;rcases aaw.1 h with h|h;obtain⟨v,z,rfl⟩:=aap.1 h;exact m v z;exact E.vs t h
  grind
  rcases aaw.1 g with g|g;have:=(F.is i g).mono (ws:=[s.res]) (ts:=[]) (m':=Q (o.is++xu s (Q W+Q o.vs))-1) (by simp[xu,N])
  grind
  have:i=⟨if lS s.res then 2 else 1,((Q W+Q o.vs:Nat):Int),0,0,0,[]⟩\/i=⟨18,((Q W+Q o.vs:Nat):Int),0,0,0,[]⟩:=by grind [xu]
  rcases this with rfl|rfl;cases G:lS s.res with
  |true=>exact .c2 O G|false=>
   rcases am5 R G with q|q;rw[q]at O;have:(if (false:Bool)=Y then (2:Int) else 1)=1:=rfl;rw[this,q];exact .c1 O;rw[q]at O;have:(if (false:Bool)=Y then (2:Int) else 1)=1:=rfl;rw[this,q];exact .c1b O (.inl rfl)
  exact .c18 (by grind)
structure Made (H:Hd)(cs:List Cd)(ss:List Sd)(all:Nat):Prop where
 code:∀(j:Nat) (c:Cd),cs[j]?=some c->∃s,H.aZ[j]?=some s/\Sk H j s ss c
 Sf:∀s∈ss,MT H s.ty/\lS s.ty=true/\s.fn<cs.length
 ns:ss.length<=60
 sum:(cs.map (·.is.length)).sum=all
 few:all<=2500
theorem Sl(z:Hd.DF H):∀{g:List Sg}{fs:List Fc}{bs:List Bd}{cs k:List Cd}{ss S:List Sd}{all:Nat},Q g=Q fs->rK H g fs=.ok bs->H.aZ.drop (Q cs)=g->Made H cs ss all->zv cs ss all g bs=.ok (k,S)->
  ∃l,Made H k S l/\Q k=Q H.aZ
 |[],fs,bs,cs,k,ss,S,all,v,m,n,p,h=>by
  unfold rK at m;cases m;unfold zv at h;cases h;refine⟨all,p,?_⟩;have x:=List.drop_eq_nil_iff.1 n;have y:Q cs<=Q H.aZ:=by
   refine Nat.le_of_not_lt λq=>?_;have r:Q cs-1<Q cs:=(by omega);obtain⟨s,M,_⟩:=p.code (Q cs-1) cs[Q cs-1] (aae r)
   grind
  omega
 |_::_,[],_,_,_,_,_,_,v,_,_,_,_=>by simp at v|s::g,fn::fs,bs,cs,k,ss,S,all,v,m,n,p,h=>by
  unfold rK at m;split at m;cases m;rename_i c W r;split at m;cases m;rename_i D o;cases m;have R:Q cs<Q H.aZ:=by
   grind
  have w:H.aZ[Q cs]?=Z s:=by
   have:=congrArg (·[0]?) n
   grind
  have J:s∈H.aZ:=mem_of w;unfold zv at h;split at h;cases h;rename_i C;have q1:Q (eR (Q ss) s ⟨W,c,fn.a⟩).vars<=4000:=by omega
  obtain⟨L,G⟩:=adQ z J r fn.a (Q cs) ss q1;refine Sl z (by grind) o ?_ ?_ h;rw[aaq,List.length_singleton,<-List.drop_drop,n];rfl;refine⟨λj E B=>?_,λd n=>?_,?_,?_,by omega⟩;by_cases P:j<Q cs;rw[List.getElem?_append_left P]at B;obtain⟨I,x,y⟩:=p.code j E B;exact⟨I,x,y.ou⟩
  grind
  rcases aaw.1 n with n|n;obtain⟨a,b,c⟩:=p.Sf d n
  grind
  obtain⟨t,F,rfl⟩:=aap.1 n;obtain⟨a,b⟩:=G.ss t F
  grind
  simp;omega;simp[p.sum]
end qA
namespace qA
open Ax Go aM V7 jb jn K9 N7 U7
theorem AJ{a b}(h:Uv a b=K):a=K/\b=K:=by
 cases a with
 |none=>exact⟨rfl,h⟩|some x=>cases h
theorem Ik{p I}{l:List p}:∀{m:Nat},fF I l m=K->∀k h,k<m->I (l.take k) l[k]=K
 |0,_,k,_,j=>au j|m+1,h,k,n,j=>by
  obtain⟨o,g⟩:=AJ h;by_cases e:k=m;subst e;rw[aae n]at g;exact g;exact Ik o k n (by omega)
theorem Hh{j I}{l:List j}(h:fF I l (Q l)=K):∀x∈l,∃b,I b x=K:=λx g=>by
 obtain⟨k,m,rfl⟩:=List.getElem_of_mem g;exact⟨_,Ik h k m m⟩
theorem UK{rs l}(h:fF (zo rs) l (Q l)=K):∀v∈qb rs l,BT v.ty/\RT v.ty:=by
 intro v p;obtain⟨q,j,rfl⟩:=aap.1 p;obtain⟨b,g⟩:=Hh h q j;unfold zo at g;split at g;cases g;rename_i c;simp only[abh,afo,not_or,Bool.not_eq_false]at c;exact⟨Dd c.2,De⟩
structure Few (p:Pg):Prop where
 r:p.aR.length<=12
 g:p.ax.length<=8
 f:p.funcs.length<=16
 fl:∀x∈p.aR,x.cr.length<=8
 ps:∀x∈p.funcs,x.params.length<=6
theorem Xf{p}(h:kR (mw p)=K)(o:Few p):Hd.DF (aY p):=by
 have E:=W7 p;have B:tE (mw p)=K:=by
  unfold kR at h;split at h;exact(AJ h).1;exact h
 unfold tE at B;obtain⟨I,w⟩:=AJ B;obtain⟨O,F⟩:=AJ I;obtain⟨L,q⟩:=AJ O;rw[FB]at w F q;rw[tY]at w;rw[O1]at F;rw[yl]at q;have U:=UK F;have D:∀x∈p.aR,∀v∈qb (iz p) x.cr,BT v.ty/\RT v.ty:=λx l=>by
  obtain⟨b,n⟩:=Hh q (RX x) (aki l);unfold Mc at n;rw[show (RX x).cr=aN 4 (x.cr.map PD.cells) from rfl,tX]at n;exact UK n
 have z:∀x∈p.funcs,(∀v∈qb (iz p) x.params,BT v.ty/\RT v.ty)/\(x.bY=Y->(dz (iz p) x.on x.od).2=Y):=λx l=>by
  obtain⟨b,n⟩:=Hh w (IJ x) (aki l);unfold IF at n;obtain⟨G,t⟩:=AJ n;have C:=(AJ G).2;rw[show (IJ x).params=aN 4 (x.params.map PD.cells) from rfl,tX]at C;refine⟨UK C,λN=>?_⟩;unfold OX at t;split at t;cases t;rename_i c;show (dz (iz p) (IJ x).on (IJ x).od).2=Y;have y:(IJ x).bY=Y:=N;rw[y]at c;simpa using c
 have m:∀x∈p.funcs,(Ca (iz p) x).bY=Y->MT (aY p) (Ca (iz p) x).res:=λx l N=>by
  have N:x.bY=Y:=N;have e:(Ca (iz p) x).res=(dz (iz p) x.on x.od).1:=by
   show (if x.bY then _ else T0)=_;rw[af N]
  rw[e];exact⟨qP _ _ _,Dd ((z x l).2 N),De⟩
 have k:∀x∈p.funcs,(Ca (iz p) x).bY=false->(Ca (iz p) x).res=T0:=λx l N=>by
  have N:x.bY=false:=N;show (if x.bY then _ else T0)=_;rw[N];rfl
 refine⟨E,⟨?_,?_,?_,?_⟩,⟨?_,?_,?_,?_⟩,?_,?_,?_,?_,?_,?_,?_⟩;intro s S v j;obtain⟨x,l,rfl⟩:=aap.1 S;exact(D x l v j).1;exact λv j=>(U v j).1;intro s S v j;obtain⟨x,l,rfl⟩:=aap.1 S;exact((z x l).1 v j).1;intro s S J;obtain⟨x,l,rfl⟩:=aap.1 S;cases N:(Ca (iz p) x).bY with
 |true=>exact⟨(m x l N).bt,rfl⟩|false=>exact bH (k x l N) J
 intro s S v j;obtain⟨x,l,rfl⟩:=aap.1 S;exact(D x l v j).2;exact λv j=>(U v j).2;intro s S v j;obtain⟨x,l,rfl⟩:=aap.1 S;exact((z x l).1 v j).2;intro s S;obtain⟨x,l,rfl⟩:=aap.1 S;cases N:(Ca (iz p) x).bY with
 |true=>exact(m x l N).rt|false=>rw[k x l N];intro _;rfl
 intro s S N;obtain⟨x,l,rfl⟩:=aap.1 S;exact m x l N;intro s S N;obtain⟨x,l,rfl⟩:=aap.1 S;exact k x l N;intro s S;obtain⟨x,l,rfl⟩:=aap.1 S;have:=o.fl x l;simpa [qb] using this;intro s S;obtain⟨x,l,rfl⟩:=aap.1 S;have:=o.ps x l;simpa [Ca,qb] using this;have:=o.r;simpa [aY] using this;have:=o.g;simpa [aY,qb] using this;have:=o.f;simpa [aY] using this
theorem ahX{p}(h:kR (mw p)=K):∃k:Nat,dJ p=k/\∃s,(aY p).aZ[k]?=Z s/\s.ps=[]/\s.bY=false:=by
 have j:¬dJ p<0:=by
  intro q;unfold kR at h;unfold dJ at q;rw[af q]at h;unfold Uv at h;split at h<;>cases h
 unfold dJ at j ⊢;rw[tY]at j ⊢;unfold Be at j ⊢;split;rename_i k m;obtain⟨l,g,_⟩:=List.findIdx?_eq_some_iff_getElem.1 m;refine⟨k,rfl,?_⟩;rw[List.getElem_map]at g;have D:k<Q p.funcs:=by simpa using l
 unfold iU at g;rw[E6,E6,aC,aC]at g;rw[show (IJ p.funcs[k]).params=aN 4 (p.funcs[k].params.map PD.cells) from rfl,tX]at g;refine⟨Ca (iz p) p.funcs[k],?_,?_,?_⟩;show (p.funcs.map (Ca (iz p)))[k]?=_;rw[List.getElem?_map,aae D];rfl;show qb (iz p) p.funcs[k].params=[];rw[g.1.2];rfl;have:=g.2;show p.funcs[k].bY=false;simpa [IJ] using this;rename_i m;rw[m]at j;exact bH (by decide) j
end qA
namespace uE
open Ax Go aM V7 jb jn K9 S9 N7 U7
theorem So(s):∀f∈(ru s).1.funcs,Sm.eJ f.body<=6001:=by
 unfold ru;split;rename_i j;generalize g:U2.KF s=z;obtain⟨rows,e⟩:=z;cases e with
 |some e=>intro f h;cases h|none=>
  obtain⟨M,m⟩:=Je g;obtain⟨x,l⟩:=yb (sS rows);simp only;rw[l,Option.getD_some];have I:Q (sS rows)=Q rows:=by simp[sS]
  intro f h;have:=Y4 l f h;omega
 intro f h;cases h
theorem am7(p)(j:Pg.In 6000 p):∀s∈(aY p).aZ,Q s.ps<=7:=by
 intro s g;obtain⟨f,h,rfl⟩:=aap.1 g;have:=(j.f.2 f h).len;simpa [Ca,qb] using this
structure FJ (p:Pg):Prop where
 inn:Pg.In 6000 p
 MJ:∀f∈p.funcs,Sm.eJ f.body<=12010
theorem AK(s):FJ (ru s).1:=⟨(adx s).1,λf h=>by have:=So s f h;omega⟩
theorem FK{p}(h:FJ p):∀f∈p.funcs,Q f.params+Sm.eJ f.body<1000000000:=λf g=>by
 have:=h.MJ f g;have:=(h.inn.f.2 f g).len;omega
theorem tH{p}(h:FJ p):∀bs,rK (aY p) (aY p).aZ p.funcs=.ok bs->∀b∈bs,Sm.eJ b.code<=12010/\Q b.vars<=24020:=λbs z b l=>by
 have M:=GX z h.MJ b l;have E:=RK (n:=12010) (W7 p) z (λs j=>((W7 p).aZ s j).2) (λs j=>by have:=am7 p h.inn s j;omega) h.MJ b l;omega
theorem Df{p}(h:FJ p):∀bs,rK (aY p) (aY p).aZ p.funcs=.ok bs->∀b∈bs,Sm.eJ b.code<100000000/\Q b.vars<100000000:=λbs z b l=>by
 have:=tH h bs z b l;omega
end uE
