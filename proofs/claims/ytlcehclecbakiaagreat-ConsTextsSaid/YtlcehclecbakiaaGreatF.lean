/- Part of a proof. -/
import Derived.Test.YtlcehclecbakiaaGreatP
import Derived.Test.YtlcehclecbakiaaGreatA6
import Derived.Test.YtlcehclecbakiaaGreatD
import Derived.Test.YtlcehclecbakiaaGreatN
import Derived.Test.YtlcehclecbakiaaGreatS

open List renaming mem_cons_self→aa4,mem_cons_of_mem→abg,length_append→aa6,length_cons→abq,length_nil→afD,getElem?_append_left→aaE,getElem?_eq_some_iff→aab,map_append→abT,append_assoc→abS,mem_append→abI,mem_singleton→ady,getElem?_cons_succ→adA,mem_cons→abY,getElem?_cons_zero→ago,getElem?_append_right→aaJ,append_nil→abO,getElem?_map→abt,mem_map→aa5,drop_eq_nil_iff→ai5,getElem?_eq_getElem→aao,mem_map_of_mem→agH
open Nat renaming le_refl→aaH,zero_le→acH
open Bool renaming and_eq_true→Ar,or_eq_true→abP,not_eq_true'→acg
set_option maxRecDepth 100000
set_option maxHeartbeats 4000000
namespace sZ
open Ax Go V7 jw jX
structure In where
 op:Int
 a:Int
 b:Int
 c:Int
 n:Int
 args:List Int
def oI(l:List Int):AV:=aB 1 (cp l)
def In.row(i:In):List AV:=[.int .i64 i.op,.int .i64 i.a,.int .i64 i.b,.int .i64 i.c,.int .i64 i.n,oI i.args]
structure kZ where
 vs:List T3
 is:List In
 ss:List T3
def O0:kZ:=⟨[],[],[]⟩
def kZ.dW(x y:kZ):kZ:=⟨x.vs++y.vs,x.is++y.is,x.ss++y.ss⟩
def eY(i:In):kZ:=⟨[],[i],[]⟩
def Cm(l:List Int):Int:=match l with|a::_=>a | []=>0
def at1(l:List Int):Int:=match l with|_::a::_=>a|_=>0
def lN(k n dz t RX:Int)(l:List Int):In:=
 if k=1\/k=2 then ⟨1,t,0,0,n,[]⟩
 else if k=3 then ⟨2,t,0,0,0,[]⟩
 else if k=4 then ⟨19,t,0,0,-1-dz,[]⟩
 else if k=5 then ⟨6,t,Cm l,dz,0,[]⟩
 else if k=6 then ⟨8,t,Cm l,at1 l,0,[]⟩
 else if k=7 then ⟨13,t,0,dz,0,l⟩
 else if k=8 then ⟨11,t,0,0,RX,[]⟩
 else if k=9 then ⟨12,t,Cm l,0,RX,[]⟩
 else if k=10 then ⟨10,t,Cm l,0,0,[]⟩
 else if k=11 then ⟨14,t,0,0,0,[]⟩
 else if k=12\/k=13 then ⟨5,t,Cm l,0,k,[]⟩
 else ⟨4,t,Cm l,at1 l,k,[]⟩
def cK(nv ns:Nat)(k n dz:Int)(ty:T3)(x:List Int×kZ):Int×kZ:=
 if ty=T0 then (-1,x.2.dW (eY ⟨13,-1,0,dz,0,x.1⟩))
 else (((nv+x.2.vs.length:Nat):Int),x.2.dW ⟨[ty],[lN k n dz ((nv+x.2.vs.length:Nat):Int) ((ns+x.2.ss.length:Nat):Int) x.1],if k=8\/k=9 then [ty] else []⟩)
mutual
def cE(nv ns:Nat):E->Int×kZ
 |.mk k n _ _ _ aK _ ty dz=>if k=4/\0<=dz then (dz,O0) else cK nv ns k n dz ty (oX nv ns aK)
def oX(nv ns:Nat):List E->List Int×kZ
 |[]=>([],O0)
 |e::l=>((cE nv ns e).1::(oX (nv+(cE nv ns e).2.vs.length) (ns+(cE nv ns e).2.ss.length) l).1,(cE nv ns e).2.dW (oX (nv+(cE nv ns e).2.vs.length) (ns+(cE nv ns e).2.ss.length) l).2)
end
def E0:E:=.mk 0 0 [] [] 0 [] 0 T0 0
def nh(es:List E):E:=match es with|e::_=>e | []=>E0
def X2(es:List E):E:=match es with|_::e::_=>e|_=>E0
def HB(nv at_ ns:Nat)(x:kZ)(f:Nat->Nat->Nat->kZ):kZ:=x.dW (f (nv+x.vs.length) (at_+x.is.length) (ns+x.ss.length))
def Gm(dz v:Int):In:=if dz<0 then ⟨20,v,0,0,-1-dz,[]⟩ else ⟨3,dz,v,0,0,[]⟩
def LQ(k dz v:Int)(l:List Int):In:=if k=5 then ⟨7,Cm l,v,dz,0,[]⟩ else ⟨9,Cm l,at1 l,v,0,[]⟩
def X3(nv at_ ns:Nat)(x:Int×kZ)(f g:Nat->Nat->Nat->kZ):kZ:=
 let i:=at_+x.2.is.length
 let b:=f (nv+x.2.vs.length) (i+1) (ns+x.2.ss.length)
 let j:=i+1+b.is.length
 let c:=g (nv+x.2.vs.length+b.vs.length) (j+1) (ns+x.2.ss.length+b.ss.length)
 ⟨x.2.vs++b.vs++c.vs,x.2.is++⟨17,x.1,0,((j+1:Nat):Int),((i+1:Nat):Int),[]⟩::(b.is++⟨16,0,0,0,((j+1+c.is.length:Nat):Int),[]⟩::c.is),x.2.ss++b.ss++c.ss⟩
def X4(nv at_ ns:Nat)(x:Int×kZ)(f:Nat->Nat->Nat->kZ):kZ:=
 let i:=at_+x.2.is.length
 let b:=f (nv+x.2.vs.length) (i+1) (ns+x.2.ss.length)
 let j:=i+1+b.is.length
 ⟨x.2.vs++b.vs,x.2.is++⟨17,x.1,0,((j+1:Nat):Int),((i+1:Nat):Int),[]⟩::(b.is++[⟨16,0,0,0,(at_:Int),[]⟩]),x.2.ss++b.ss⟩
def LR(nv ns:Nat)(e:E)(x:List Int×kZ)(f:Nat->Nat->Int×kZ):kZ:=
 let v:=f (nv+x.2.vs.length) (ns+x.2.ss.length)
 (x.2.dW v.2).dW (eY (LQ e.k e.dz v.1 x.1))
mutual
def cS(nv at_ ns:Nat):Sm->kZ
 |.mk k _ _ _ es bd el _ dz=>
  if k=2\/k=3 then (cE nv ns (nh es)).2.dW (eY (Gm dz (cE nv ns (nh es)).1))
  else if k=4 then LR nv ns (nh es) (oX nv ns (nh es).aK) (λnv ns=>cE nv ns (X2 es))
  else if k=5 then X3 nv at_ ns (cE nv ns (nh es)) (λnv at_ ns=>cB nv at_ ns bd) (λnv at_ ns=>cB nv at_ ns el)
  else if k=6 then X4 nv at_ ns (cE nv ns (nh es)) (λnv at_ ns=>cB nv at_ ns bd)
  else if k=7 then (match es with
   |[]=>eY ⟨18,-1,0,0,0,[]⟩|e::_=>(cE nv ns e).2.dW (eY ⟨18,(cE nv ns e).1,0,0,0,[]⟩))
  else if k=8 then (cE nv ns (nh es)).2.dW (eY ⟨15,(cE nv ns (nh es)).1,0,0,0,[]⟩)
  else if k=9 then (cE nv ns (nh es)).2
  else O0
def cB(nv at_ ns:Nat):List Sm->kZ
 |[]=>O0|s::l=>HB nv at_ ns (cS nv at_ ns s) (λnv at_ ns=>cB nv at_ ns l)
end
structure Cd where
 params:Nat
 vars:List T3
 bg:Bool
 res:T3
 is:List In
def Cd.row(c:Cd):List AV:=[.int .i64 c.params,aB 3 (c.vars.map T3.cells),.bool c.bg,.int .i64 c.res.b,.int .i64 c.res.r,.int .i64 c.res.d,aB 6 (c.is.map In.row)]
structure Sd where
 fn:Nat
 ty:T3
def Sd.row(s:Sd):List AV:=[.int .i64 s.fn,.int .i64 s.ty.b,.int .i64 s.ty.r,.int .i64 s.ty.d]
def vV(s:Sg)(t:Nat):List In:=if s.bg then [⟨if g9 s.res then 2 else 1,(t:Int),0,0,0,[]⟩,⟨18,(t:Int),0,0,0,[]⟩] else [⟨18,-1,0,0,0,[]⟩]
def jO(ns:Nat)(b:Bd):kZ:=cB b.vars.length 0 ns b.code
def fo(ns:Nat)(s:Sg)(b:Bd):Cd:=
 ⟨s.ps.length,b.vars.map (·.ty)++(jO ns b).vs++(if s.bg then [s.res] else []),s.bg,s.res,(jO ns b).is++vV s (b.vars.length+(jO ns b).vs.length)⟩
def zP(cs:List Cd)(ss:List Sd)(all:Nat):List Sg->List Bd->Except Int (List Cd×List Sd)
 |s::sg,b::bs=>
  if 4000<(fo ss.length s b).vars.length\/2500<all+(fo ss.length s b).is.length\/60<ss.length+(jO ss.length b).ss.length then .error b.a
  else zP (cs++[fo ss.length s b]) (ss++(jO ss.length b).ss.map (λt=>⟨cs.length,t⟩)) (all+(fo ss.length s b).is.length) sg bs
 |_,_=>.ok (cs,ss)
theorem Cx(nv ns:Nat)(e:E):cE nv ns e=if e.k=4/\0<=e.dz then (e.dz,O0) else cK nv ns e.k e.n e.dz e.ty (oX nv ns e.aK):=by
 obtain⟨k,n,nm,on,od,aK,a,ty,dz⟩:=e
 (conv=>lhs;unfold cE)<;>rfl
theorem xK(nv ns:Nat)(e:E)(l:List E):oX nv ns (e::l)=((cE nv ns e).1::(oX (nv+(cE nv ns e).2.vs.length) (ns+(cE nv ns e).2.ss.length) l).1,(cE nv ns e).2.dW (oX (nv+(cE nv ns e).2.vs.length) (ns+(cE nv ns e).2.ss.length) l).2):=by
 (conv=>lhs;unfold oX)<;>rfl
theorem Wm(nv at_ ns:Nat)(s:Sm):cS nv at_ ns s =
  if s.k=2\/s.k=3 then (cE nv ns (nh s.es)).2.dW (eY (Gm s.dz (cE nv ns (nh s.es)).1))
  else if s.k=4 then LR nv ns (nh s.es) (oX nv ns (nh s.es).aK) (λnv ns=>cE nv ns (X2 s.es))
  else if s.k=5 then X3 nv at_ ns (cE nv ns (nh s.es)) (λnv at_ ns=>cB nv at_ ns s.bd) (λnv at_ ns=>cB nv at_ ns s.el)
  else if s.k=6 then X4 nv at_ ns (cE nv ns (nh s.es)) (λnv at_ ns=>cB nv at_ ns s.bd)
  else if s.k=7 then (match s.es with
   |[]=>eY ⟨18,-1,0,0,0,[]⟩|e::_=>(cE nv ns e).2.dW (eY ⟨18,(cE nv ns e).1,0,0,0,[]⟩))
  else if s.k=8 then (cE nv ns (nh s.es)).2.dW (eY ⟨15,(cE nv ns (nh s.es)).1,0,0,0,[]⟩)
  else if s.k=9 then (cE nv ns (nh s.es)).2
  else O0:=by
 obtain⟨k,nm,on,od,es,bd,el,a,dz⟩:=s
 (conv=>lhs;unfold cS)<;>rfl
theorem Jq(nv at_ ns:Nat):cB nv at_ ns []=O0:=by unfold cB;rfl
theorem Dv(nv at_ ns:Nat)(s:Sm)(l:List Sm):cB nv at_ ns (s::l)=HB nv at_ ns (cS nv at_ ns s) (λnv at_ ns=>cB nv at_ ns l):=by
 (conv=>lhs;unfold cB)<;>rfl
theorem NR(x:kZ):O0.dW x=x:=by simp[kZ.dW,O0]
theorem PY(x y z:kZ):(x.dW y).dW z=x.dW (y.dW z):=by simp[kZ.dW]
end sZ
namespace sZ
open Ax Go V7 jw jX
mutual
def LE:E->Prop
 |.mk k _ _ _ _ aK _ ty dz=>(ty=T0->k=7)/\(k=5\/k=9\/k=10\/k=12\/k=13->aK.length=1)/\(k=6\/14<=k->aK.length=2)/\(0<k/\k<25)/\(k=4→-1000000000<dz)/\LL aK
def LL:List E->Prop
 |[]=>True|e::l=>LE e/\LL l
end
theorem Wn(e:E):LE e↔(e.ty=T0->e.k=7)/\(e.k=5\/e.k=9\/e.k=10\/e.k=12\/e.k=13->e.aK.length=1)/\(e.k=6\/14<=e.k->e.aK.length=2)/\(0<e.k/\e.k<25)/\(e.k=4→-1000000000<e.dz)/\LL e.aK:=by
 cases e;unfold LE;exact Iff.rfl
theorem tY:∀l:List E,LL l↔∀e∈l,LE e
 |[]=>by simp[LL]|e::l=>by simp[LL,tY l]
theorem aai(x y:kZ):(x.dW y).vs.length=x.vs.length+y.vs.length/\(x.dW y).is.length=x.is.length+y.is.length/\(x.dW y).ss.length=x.ss.length+y.ss.length:=by simp[kZ.dW]
def Lo(o:kZ)(n:Nat):Prop:=o.vs.length<=n/\o.is.length<=n/\o.ss.length<=n
theorem Lo.dW{x y:kZ}{n m:Nat}(h:Lo x n)(g:Lo y m):Lo (x.dW y) (n+m):=by
 obtain⟨a,b,c⟩:=aai x y;obtain⟨h1,h2,h3⟩:=h;obtain⟨g1,g2,g3⟩:=g;exact⟨by omega,by omega,by omega⟩
theorem Lo.le{x:kZ}{n m:Nat}(h:Lo x n)(g:n<=m):Lo x m:=⟨by have:=h.1;omega,by have:=h.2.1;omega,by have:=h.2.2;omega⟩
theorem Wo{l:List E}(ih:∀e∈l,∀nv ns,Lo (cE nv ns e).2 (E.sz e)):∀nv ns,Lo (oX nv ns l).2 (E.eH l):=by
 induction l with
 |nil=>intro nv ns;simp[oX,O0,Lo,E.eH]|cons e l RH=>
  intro nv ns;rw[xK];simp only[E.eH];exact(ih e aa4 nv ns).dW (RH (λx hx=>ih x (abg _ hx)) _ _)
theorem sL(e:E):∀nv ns,Lo (cE nv ns e).2 (E.sz e):=by
 induction e using E.zY with
 |_ e ih=>
  intro nv ns;have hk:=E.vP e;rw[Cx];split;simp[Lo,O0];have h:=Wo ih nv ns;unfold cK;split;exact(h.dW (y:=eY _) (m:=1) (by simp[Lo,eY])).le (by omega);refine(h.dW (m:=1) ?_).le (by omega);refine⟨by simp,by simp,?_⟩;simp only;split<;>simp
theorem NS(l:List E)(nv ns:Nat):Lo (oX nv ns l).2 (E.eH l):=Wo (λe _=>sL e) nv ns
theorem HA{l:List E}{k:Nat}(h:k<l.length):(E.rows l)[k]?=some l[k].row:=by simp[iJ,h]
theorem zO{l:List E}{k:Nat}(h:k<l.length)(h2:k<(E.rows l).length):(E.rows l)[k]=l[k].row:=by simp[iJ]
theorem zL{sz:Nat}{r:List (List AV)}(h:bw sz r=true):bY sz (aB sz r)=true:=by
 cases r with
 |nil=>rfl|cons a r=>simpa [bY] using h
theorem zE{l:List E}:bY 11 (bf l)=true:=zL (by simp[bw,iJ,E.aE])
theorem zI{l:List Int}:bY 1 (aB 1 (cp l))=true:=zL (by simp[bw,cp])
mutual
def LS:Sm->Prop
 |.mk k _ _ _ es bd el _ dz=>LL es/\(k=2\/k=3\/k=5\/k=6\/k=8\/k=9->es.length=1)/\(k=4->es.length=2/\((nh es).k=5\/(nh es).k=6))/\(k=2\/k=3→-1000000000<dz)/\LB bd/\LB el
def LB:List Sm->Prop
 |[]=>True|s::l=>LS s/\LB l
end
theorem LU(s:Sm):LS s↔LL s.es/\(s.k=2\/s.k=3\/s.k=5\/s.k=6\/s.k=8\/s.k=9->s.es.length=1)/\(s.k=4->s.es.length=2/\((nh s.es).k=5\/(nh s.es).k=6))/\(s.k=2\/s.k=3→-1000000000<s.dz)/\LB s.bd/\LB s.el:=by
 cases s;unfold LS;exact Iff.rfl
theorem Jr:∀l:List Sm,LB l↔∀s∈l,LS s
 |[]=>by simp[LB]|s::l=>by simp[LB,Jr l]
theorem Fo{es:List E}(h:es.length=1):es=[nh es]:=by
 match es,h with
 |[e],_=>rfl
theorem Wp{es:List E}(h:es.length=2):es=[nh es,X2 es]:=by
 match es,h with
 |[e,f],_=>rfl
theorem Wq{l:List Int}(h:l.length=1):cp l=[[.int .i64 (Cm l)]]:=by
 match l,h with
 |[a],_=>rfl
theorem Ws{l:List Int}(h:l.length=2):cp l=[[.int .i64 (Cm l)],[.int .i64 (at1 l)]]:=by
 match l,h with
 |[a,b],_=>rfl
theorem Wt{l:List Sm}(ih:∀s∈l,∀nv a ns,Lo (cS nv a ns s) (2*Sm.sz s)):∀nv a ns,Lo (cB nv a ns l) (2*Sm.eH l):=by
 induction l with
 |nil=>intro nv a ns;rw[Jq];simp[Lo,O0]|cons s l RH=>
  intro nv a ns;rw[Dv];unfold HB;exact((ih s aa4 nv a ns).dW (RH (λx hx=>ih x (abg _ hx)) _ _ _)).le (by simp only[Sm.eH];omega)
theorem Fq{es:List E}(h:es.length≠0):E.sz (nh es)<=E.eH es:=by
 match es,h with
 |e::l,_=>simp[nh,E.eH]
theorem abR(s:Sm):LS s->∀nv a ns,Lo (cS nv a ns s) (2*Sm.sz s):=by
 induction s using Sm.zY with
 |_ s vQ rO=>
  intro hL nv a ns;rw[LU]at hL;obtain⟨h1,h2,h3,_,h5,h6⟩:=hL;rw[Jr]at h5 h6;have fM:=Sm.uD s;have one:∀i,Lo (eY i) 1:=λi=>by simp[Lo,eY]
  have f:=λnv a ns=>Wt (λx hx=>vQ x hx (h5 x hx)) nv a ns;have g:=λnv a ns=>Wt (λx hx=>rO x hx (h6 x hx)) nv a ns;rw[Wm];by_cases c:s.k=2\/s.k=3;rw[if_pos c];have:=Fq (es:=s.es) (by rw[h2 (by omega)];decide);exact((sL _ _ _).dW (one _)).le (by omega);rw[if_neg c];by_cases c4:s.k=4;rw[if_pos c4];obtain⟨e,f,he⟩:∃e f,s.es=[e,f]:=⟨_,_,Wp (h3 c4).1⟩;have q1:nh s.es=e:=by rw[he];rfl
  have q2:X2 s.es=f:=by rw[he];rfl
  have q3:E.eH s.es=E.sz e+E.sz f:=by rw[he];simp[E.eH]
  have q4:=E.vP e;rw[q1,q2];unfold LR;exact(((NS _ _ _).dW (sL _ _ _)).dW (one _)).le (by omega);rw[if_neg c4];by_cases c5:s.k=5;rw[if_pos c5];have:=Fq (es:=s.es) (by rw[h2 (by omega)];decide);unfold X3;dsimp only;obtain⟨a1,a2,a3⟩:=sL (nh s.es) nv ns;have b1:=f (nv+(cE nv ns (nh s.es)).2.vs.length) (a+(cE nv ns (nh s.es)).2.is.length+1) (ns+(cE nv ns (nh s.es)).2.ss.length);generalize cE nv ns (nh s.es)=x at *;generalize cB (nv+x.2.vs.length) (a+x.2.is.length+1) (ns+x.2.ss.length) s.bd=y at *;have c1:=g (nv+x.2.vs.length+y.vs.length) (a+x.2.is.length+1+y.is.length+1) (ns+x.2.ss.length+y.ss.length);generalize cB (nv+x.2.vs.length+y.vs.length) (a+x.2.is.length+1+y.is.length+1) (ns+x.2.ss.length+y.ss.length) s.el=z at *;obtain⟨b1,b2,b3⟩:=b1;obtain⟨c1,c2,c3⟩:=c1;refine⟨?_,?_,?_⟩<;>simp only[aa6,abq]<;>omega;rw[if_neg c5];by_cases c6:s.k=6;rw[if_pos c6];have:=Fq (es:=s.es) (by rw[h2 (by omega)];decide);unfold X4;dsimp only;obtain⟨a1,a2,a3⟩:=sL (nh s.es) nv ns;have b1:=f (nv+(cE nv ns (nh s.es)).2.vs.length) (a+(cE nv ns (nh s.es)).2.is.length+1) (ns+(cE nv ns (nh s.es)).2.ss.length);generalize cE nv ns (nh s.es)=x at *;generalize cB (nv+x.2.vs.length) (a+x.2.is.length+1) (ns+x.2.ss.length) s.bd=y at *;obtain⟨b1,b2,b3⟩:=b1;refine⟨?_,?_,?_⟩<;>simp only[aa6,abq,afD]<;>omega;rw[if_neg c6];by_cases c7:s.k=7;rw[if_pos c7];match qU:s.es with
  |[]=>exact(one _).le (by omega)|e::l=>
   have:E.eH s.es=E.sz e+E.eH l:=by rw[qU];rfl
   exact((sL _ _ _).dW (one _)).le (by omega)
  rw[if_neg c7];by_cases c8:s.k=8;rw[if_pos c8];have:=Fq (es:=s.es) (by rw[h2 (by omega)];decide);exact((sL _ _ _).dW (one _)).le (by omega);rw[if_neg c8];by_cases c9:s.k=9;rw[if_pos c9];have:=Fq (es:=s.es) (by rw[h2 (by omega)];decide);exact(sL _ _ _).le (by omega);rw[if_neg c9];simp[Lo,O0]
theorem LW{l:List Sm}(h:LB l)(nv a ns:Nat):Lo (cB nv a ns l) (2*Sm.eH l):=Wt (λs hs=>abR s ((Jr _).1 h s hs)) nv a ns
theorem Jo{l:List Sm}{k:Nat}(h:k<l.length):(Sm.rows l)[k]?=some l[k].row:=by simp[iP,h]
theorem AP{l:List Sm}{k:Nat}(h:k<l.length)(h2:k<(Sm.rows l).length):(Sm.rows l)[k]=l[k].row:=by simp[iP]
end sZ
namespace sZ
open Ax Go V7 jw jX
def nT(vs:List T3)(t:T3)(a:Int):Prop:=∃k:Nat,a=k/\vs[k]?=some t
theorem nT.dW{vs ws:List T3}{t:T3}{a:Int}(h:nT vs t a):nT (vs++ws) t a:=by
 obtain⟨k,h1,h2⟩:=h;exact⟨k,h1,by rw[aaE (aab.1 h2).1];exact h2⟩
def tZ(vs:List T3):List Vd->List Int->Prop
 |[],[]=>True|p::ps,a::l=>nT vs p.ty a/\tZ vs ps l|_,_=>False
theorem tZ.dW{vs ws:List T3}:∀{ps:List Vd}{l:List Int},tZ vs ps l->tZ (vs++ws) ps l
 |[],[],_=>trivial|_::_,_::_,h=>⟨h.1.dW,tZ.dW h.2⟩
 |[],_::_,h=>h.elim|_::_,[],h=>h.elim
inductive vU (H:Hd) (f:Nat) (bg:Bool) (res:T3) (vs:List T3) (ss:List Sd) (m:Nat):In->Prop
 |c1 {a n:Int}:nT vs tI a->vU H f bg res vs ss m ⟨1,a,0,0,n,[]⟩
 |c1b {a n:Int}:nT vs tB a->n=0\/n=1->vU H f bg res vs ss m ⟨1,a,0,0,n,[]⟩
 |c2 {a:Int} {t:T3}:nT vs t a->g9 t=true->vU H f bg res vs ss m ⟨2,a,0,0,0,[]⟩
 |c3 {a b:Int} {t:T3}:nT vs t a->nT vs t b->vU H f bg res vs ss m ⟨3,a,b,0,0,[]⟩
 |c4 {a b c k:Int} {ta tb t:T3} {r:Int}:nT vs ta b->nT vs tb c->jX.mZ k ta tb=some (t,r)->14<=k/\k<=24->nT vs t a->vU H f bg res vs ss m ⟨4,a,b,c,k,[]⟩
 |c5i {a b:Int}:nT vs tI a->nT vs tI b->vU H f bg res vs ss m ⟨5,a,b,0,12,[]⟩
 |c5b {a b:Int}:nT vs tB a->nT vs tB b->vU H f bg res vs ss m ⟨5,a,b,0,13,[]⟩
 |c6 {a b:Int} {r j:Nat} {s:List UInt8×List Vd} {v:Vd}:nT vs ⟨3,r,0⟩ b->H.bL[r]?=some s->s.2[j]?=some v->nT vs v.ty a->vU H f bg res vs ss m ⟨6,a,b,j,0,[]⟩
 |c7 {a b:Int} {r j:Nat} {s:List UInt8×List Vd} {v:Vd}:nT vs ⟨3,r,0⟩ a->H.bL[r]?=some s->s.2[j]?=some v->nT vs v.ty b->vU H f bg res vs ss m ⟨7,a,b,j,0,[]⟩
 |c8 {a b c:Int} {t:T3}:nT vs t b->0<t.d->nT vs ⟨t.b,t.r,t.d-1⟩ a->nT vs tI c->vU H f bg res vs ss m ⟨8,a,b,c,0,[]⟩
 |c9 {a b c:Int} {t:T3}:nT vs t a->0<t.d->nT vs ⟨t.b,t.r,t.d-1⟩ c->nT vs tI b->vU H f bg res vs ss m ⟨9,a,b,c,0,[]⟩
 |Cu {a b:Int} {t:T3}:nT vs tI a->nT vs t b->0<t.d->vU H f bg res vs ss m ⟨10,a,b,0,0,[]⟩
 |PZ {a:Int} {n:Nat} {t:T3}:nT vs t a->t.b=3->t.d=0->ss[n]?=some ⟨f,t⟩->vU H f bg res vs ss m ⟨11,a,0,0,n,[]⟩
 |CX {a b:Int} {n:Nat} {t:T3}:nT vs t a->0<t.d->ss[n]?=some ⟨f,t⟩->nT vs tI b->vU H f bg res vs ss m ⟨12,a,b,0,n,[]⟩
 |CY {a:Int} {j:Nat} {s:Sg} {l:List Int}:H.sigs[j]?=some s->tZ vs s.ps l->(a = -1\/s.bg=true/\nT vs s.res a)->vU H f bg res vs ss m ⟨13,a,0,j,0,l⟩
 |c14 {a:Int}:nT vs tI a->vU H f bg res vs ss m ⟨14,a,0,0,0,[]⟩
 |c15 {a:Int}:nT vs tI a->vU H f bg res vs ss m ⟨15,a,0,0,0,[]⟩
 |c16 {n:Nat}:n<=m->vU H f bg res vs ss m ⟨16,0,0,0,n,[]⟩
 |c17 {a:Int} {n c:Nat}:nT vs tB a->n<=m->c<=m->vU H f bg res vs ss m ⟨17,a,0,c,n,[]⟩
 |c18 {a:Int}:(if bg=true then nT vs res a else a = -1)->vU H f bg res vs ss m ⟨18,a,0,0,0,[]⟩
 |c19 {a:Int} {j:Nat} {v:Vd}:H.globals[j]?=some v->nT vs v.ty a->vU H f bg res vs ss m ⟨19,a,0,0,j,[]⟩
 |c20 {a:Int} {j:Nat} {v:Vd}:H.globals[j]?=some v->nT vs v.ty a->vU H f bg res vs ss m ⟨20,a,0,0,j,[]⟩
variable {H:Hd}{f:Nat}{bg:Bool}{res:T3}
theorem pX{α:Type}{l r:List α}{k:Nat}{x:α}(h:l[k]?=some x):(l++r)[k]?=some x:=by
 rw[aaE (aab.1 h).1];exact h
theorem vU.mono{vs ws:List T3}{ss ts:List Sd}{m m':Nat}{i:In}(h:vU H f bg res vs ss m i)(hm:m<=m'):vU H f bg res (vs++ws) (ss++ts) m' i:=by
 cases h with
 |c1 a=>exact .c1 a.dW|c1b a b=>exact .c1b a.dW b|c2 a b=>exact .c2 a.dW b|c3 a b=>exact .c3 a.dW b.dW|c4 a b c d e=>exact .c4 a.dW b.dW c d e.dW|c5i a b=>exact .c5i a.dW b.dW|c5b a b=>exact .c5b a.dW b.dW|c6 a b c d=>exact .c6 a.dW b c d.dW|c7 a b c d=>exact .c7 a.dW b c d.dW|c8 a b c d=>exact .c8 a.dW b c.dW d.dW|c9 a b c d=>exact .c9 a.dW b c.dW d.dW|Cu a b c=>exact .Cu a.dW b.dW c|PZ a b c d=>exact .PZ a.dW b c (pX d)|CX a b c d=>exact .CX a.dW b (pX c) d.dW|CY a b c=>exact .CY a b.dW (c.imp id λh=>⟨h.1,h.2.dW⟩)|c14 a=>exact .c14 a.dW|c15 a=>exact .c15 a.dW|c16 a=>exact .c16 (by omega)|c17 a b c=>exact .c17 a.dW (by omega) (by omega)|c18 a=>
  refine .c18 ?_;split;rename_i q;rw[if_pos q]at a;exact a.dW;rename_i q;rw[if_neg q]at a;exact a
 |c19 a b=>exact .c19 a b.dW|c20 a b=>exact .c20 a b.dW
def Fs(V:List Vd)(vs:List T3):Prop:=∀(k:Nat)(v:Vd),V[k]?=some v->vs[k]?=some v.ty
theorem Fs.dW{V:List Vd}{vs ws:List T3}(h:Fs V vs):Fs V (vs++ws):=λk v hk=>pX (h k v hk)
structure zZ (H:Hd)(f:Nat)(bg:Bool)(res:T3)(vs:List T3)(ss:List Sd)(m:Nat)(o:kZ):Prop where
 is:∀i∈o.is,vU H f bg res (vs++o.vs) (ss++o.ss.map (Sd.mk f)) m i
theorem zZ.nil{vs:List T3}{ss:List Sd}{m:Nat}:zZ H f bg res vs ss m O0:=⟨by simp[O0]⟩
theorem zZ.dW{vs:List T3}{ss:List Sd}{m m1 m2:Nat}{x y:kZ}(h:zZ H f bg res vs ss m1 x)(k:zZ H f bg res (vs++x.vs) (ss++x.ss.map (Sd.mk f)) m2 y)(h1:m1<=m)(h2:m2<=m):zZ H f bg res vs ss m (x.dW y):=by
 refine⟨λi hi=>?_⟩;simp only[kZ.dW,abT,<-abS];rcases abI.1 hi with hi|hi;exact(h.is i hi).mono h1;have:=(k.is i hi).mono (ws:=[]) (ts:=[]) h2;simpa using this
theorem zZ.dO{vs:List T3}{ss:List Sd}{m:Nat}{i:In}(h:vU H f bg res vs ss m i):zZ H f bg res vs ss m (eY i):=by
 refine⟨λj hj=>?_⟩;simp only[eY,ady]at hj;subst hj;simpa [eY] using h
theorem ko{s:List UInt8}:∀{l:List Vd}{i k:Nat}{t:T3},iw s i l=some (k,t)->i<=k/\∃v,l[k-i]?=some v/\v.ty=t
 |[],_,_,_,h=>by cases h|f::l,i,k,t,h=>by
  unfold iw at h;split at h;cases h;exact⟨aaH _,f,by simp,rfl⟩;obtain⟨h1,v,h2,h3⟩:=ko h;have e:k-i=(k-(i+1))+1:=by omega
  exact⟨by omega,v,by rw[e,adA];exact h2,h3⟩
theorem uG{s:List UInt8}:∀{l:List Sg}{i k:Nat}{t:Sg},tC s i l=some (k,t)->i<=k/\l[k-i]?=some t
 |[],_,_,_,h=>by cases h|g::l,i,k,t,h=>by
  unfold tC at h;split at h;cases h;exact⟨aaH _,by simp⟩;obtain⟨h1,h2⟩:=uG h;have e:k-i=(k-(i+1))+1:=by omega
  exact⟨by omega,by rw[e,adA];exact h2⟩
theorem BK{vs:List T3}:∀{ps:List Vd}{ks:List E}{l:List Int},jx ps ks=true->l.length=ks.length->(∀(j:Nat)(e:E)(a:Int),ks[j]?=some e->l[j]?=some a->nT vs e.ty a)->tZ vs ps l
 |[],[],[],_,_,_=>trivial|p::ps,k::ks,a::l,h,hl,hv=>by
  simp only[jx,Ar,decide_eq_true_eq]at h;refine⟨?_,BK h.2 (by simpa using hl) λj e b h1 h2=>hv (j+1) e b (by simpa using h1) (by simpa using h2)⟩;have:=hv 0 k a rfl rfl;rw[h.1]at this;exact this
 |[],_::_,_,h,_,_=>by simp[jx]at h|_::_,[],_,h,_,_=>by simp[jx]at h|[],[],_::_,_,hl,_=>by simp at hl|_::_,_::_,[],_,hl,_=>by simp at hl
end sZ
namespace sZ
open Ax Go V7 jw jX
variable {H:Hd}{f:Nat}{bg:Bool}{res:T3}{V:List Vd}
def BT(t:T3):Prop:=1<=t.b/\t.b<=3
theorem BT.ne{t:T3}(h:BT t):t≠T0:=λe=>by rw[e]at h;exact absurd h.1 (by decide)
structure Hd.gd (H:Hd):Prop where
 bL:∀s∈H.bL,∀f∈s.2,BT f.ty
 globals:∀f∈H.globals,BT f.ty
 ps:∀s∈H.sigs,∀f∈s.ps,BT f.ty
 res:∀s∈H.sigs,s.res≠T0->BT s.res/\s.bg=true
theorem yA{l:List (List UInt8)}{s:List UInt8}{d:Int}(h:(cz l s d).2=true):BT (cz l s d).1:=by
 unfold cz at h ⊢;split;rename_i c;rw[if_pos c]at h;cases h;rename_i c;rw[if_neg c]at h;split;exact⟨by show (1:Int)<=1;decide,by show (1:Int)<=3;decide⟩;rename_i c2;rw[if_neg c2]at h;split;exact⟨by show (1:Int)<=2;decide,by show (2:Int)<=3;decide⟩;rename_i c3;rw[if_neg c3]at h;split;rename_i c4;rw[if_pos c4]at h;cases h;exact⟨by show (1:Int)<=3;decide,by show (3:Int)<=3;decide⟩
theorem cA{b:Bool}{t u:T3}{r:Int}(h:F0 b t=some (u,r)):b=true/\u=t/\r=0:=by
 unfold F0 at h;cases b with
 |false=>cases h|true=>cases h;exact⟨rfl,rfl,rfl⟩
theorem mem_of{α:Type}{l:List α}{k:Nat}{x:α}(h:l[k]?=some x):x∈l:=List.mem_of_getElem? h
theorem RZ{ks:List E}(h:ks.length=1):∃a,ks=[a]:=by
 match ks,h with
 |[a],_=>exact⟨a,rfl⟩
theorem Wu{ks:List E}(h:ks.length=2):∃a b,ks=[a,b]:=by
 match ks,h with
 |[a,b],_=>exact⟨a,b,rfl⟩
theorem aed(hG:Hd.gd H)(hV:∀v∈V,BT v.ty){k n:Int}{nm on:List UInt8}{od:Int}{ks:List E}{t:T3}{r:Int}(hk:iQ k n ks.length=true)(uR:∀e∈ks,BT e.ty)(h:mR H V k nm on od ks=some (t,r)):(t=T0->k=7)/\(t≠T0->BT t):=by
 have bI:BT tI:=⟨by decide,by decide⟩;have bB:BT tB:=⟨by decide,by decide⟩;have of:BT t->(t=T0->k=7)/\(t≠T0->BT t):=λh=>⟨λe=>absurd e h.ne,λ_=>h⟩;unfold mR at h;by_cases c1:k=1\/k=11;rw[if_pos c1]at h;cases h;exact of bI;rw[if_neg c1]at h;by_cases c2:k=2;rw[if_pos c2]at h;cases h;exact of bB;rw[if_neg c2]at h;by_cases c3:k=3;rw[if_pos c3]at h;obtain⟨h1,rfl,_⟩:=cA h;rw[Ar]at h1;exact of (yA h1.1);rw[if_neg c3]at h;by_cases c4:k=4;rw[if_pos c4]at h;unfold rq at h;split at h;rename_i j u e;cases h;obtain⟨_,v,h1,h2⟩:=ko e;exact of (h2 ▸ hV v (mem_of h1));split at h;rename_i j u e;cases h;obtain⟨_,v,h1,h2⟩:=ko e;exact of (h2 ▸ hG.globals v (mem_of h1));cases h;rw[if_neg c4]at h;by_cases c5:k=5;rw[if_pos c5]at h;unfold xD at h;split at h;split at h;rename_i s hs;split at h;rename_i i u e;cases h;obtain⟨_,v,h1,h2⟩:=ko e;exact of (h2 ▸ hG.bL s (mem_of hs) v (mem_of h1));cases h;cases h;cases h;rw[if_neg c5]at h;by_cases c6:k=6;rw[if_pos c6]at h;obtain⟨h1,rfl,_⟩:=cA h;have hl:ks.length=2:=by
  unfold iQ at hk;rw[if_neg (by omega),if_neg (by omega),if_neg (by omega),if_neg (by omega)]at hk;simp only[Ar,decide_eq_true_eq]at hk;exact hk.2
 obtain⟨a,b,rfl⟩:=Wu hl;exact of (uR a (by simp));rw[if_neg c6]at h;by_cases c7:k=7;rw[if_pos c7]at h;refine⟨λ_=>c7,λjJ=>?_⟩;unfold oV at h;split at h;rename_i i s hs;split at h;cases h;obtain⟨_,h2⟩:=uG hs;exact(hG.res s (mem_of h2) jJ).1;cases h;cases h;rw[if_neg c7]at h;by_cases c8:k=8;rw[if_pos c8]at h;obtain⟨h1,rfl,_⟩:=cA h;simp only[Ar]at h1;exact of (yA h1.1.1);rw[if_neg c8]at h;by_cases c9:k=9;rw[if_pos c9]at h;obtain⟨h1,rfl,_⟩:=cA h;simp only[Ar]at h1;exact of (yA h1.1.1);rw[if_neg c9]at h;by_cases Cu:k=10;rw[if_pos Cu]at h;obtain⟨_,rfl,_⟩:=cA h;exact of bI;rw[if_neg Cu]at h;by_cases CX:k=12;rw[if_pos CX]at h;obtain⟨_,rfl,_⟩:=cA h;exact of bI;rw[if_neg CX]at h;by_cases CY:k=13;rw[if_pos CY]at h;obtain⟨_,rfl,_⟩:=cA h;exact of bB;rw[if_neg CY]at h;unfold jX.mZ at h;split at h;obtain⟨_,rfl,_⟩:=cA h;exact of bI;split at h;obtain⟨_,rfl,_⟩:=cA h;exact of bB;split at h;obtain⟨_,rfl,_⟩:=cA h;exact of bB;obtain⟨_,rfl,_⟩:=cA h;exact of bB
theorem Js:∀{l ys:List E},oQ H V l=.ok ys->∀y∈ys,y.ty≠T0
 |[],ys,h=>by unfold oQ at h;cases h;simp|e::l,ys,h=>by
  obtain⟨y,zs,_,h1,h2,rfl⟩:=kY h;intro z hz;rcases abY.1 hz with rfl|hz;exact h1;exact Js h2 z hz
theorem Jt(hG:Hd.gd H)(hV:∀v∈V,BT v.ty)(e:E):∀y,uS H V e=.ok y->(y.ty=T0->y.k=7)/\(y.ty≠T0->BT y.ty):=by
 induction e using E.zY with
 |_ e ih=>
  intro y h;obtain⟨ks,t,r,h1,h2,h3,rfl⟩:=qF h;have hb:=jM h2 ih;have hn:=Js h2;exact aed hG hV (by rw[nD h2];exact h1) (λe he=>(hb e he).2 (hn e he)) h3
def FE(H:Hd)(f:Nat)(bg:Bool)(res:T3)(V:List Vd)(y:E):Prop:=∀(vs:List T3)(ss:List Sd),Fs V vs->zZ H f bg res vs ss 0 (cE vs.length ss.length y).2/\(y.ty≠T0->nT (vs++(cE vs.length ss.length y).2.vs) y.ty (cE vs.length ss.length y).1)
theorem Ju:∀(ys:List E),(∀y∈ys,y.ty≠T0/\FE H f bg res V y)->∀(vs:List T3)(ss:List Sd),Fs V vs->
  zZ H f bg res vs ss 0 (oX vs.length ss.length ys).2/\(oX vs.length ss.length ys).1.length=ys.length/\∀(j:Nat) (e:E) (a:Int),ys[j]?=some e->(oX vs.length ss.length ys).1[j]?=some a->nT (vs++(oX vs.length ss.length ys).2.vs) e.ty a
 |[],_,vs,ss,_=>by
  have e:oX vs.length ss.length []=([],O0):=by unfold oX;rfl
  rw[e];exact⟨zZ.nil,rfl,λj e a h=>by simp at h⟩
 |y::ys,h,vs,ss,hp=>by
  rw[xK];obtain⟨h1,h2⟩:=h y aa4;obtain⟨h3,h4⟩:=h2 vs ss hp;generalize hx:cE vs.length ss.length y=x at *;have e1:vs.length+x.2.vs.length=(vs++x.2.vs).length:=by simp
  have e2:ss.length+x.2.ss.length=(ss++x.2.ss.map (Sd.mk f)).length:=by simp
  rw[e1,e2];obtain⟨k1,k2,k3⟩:=Ju ys (λz hz=>h z (abg _ hz)) (vs++x.2.vs) (ss++x.2.ss.map (Sd.mk f)) hp.dW;generalize oX (vs++x.2.vs).length (ss++x.2.ss.map (Sd.mk f)).length ys=z at *;refine⟨h3.dW k1 (aaH _) (aaH _),by simp[k2],λj e a q1 q2=>?_⟩;simp only[kZ.dW,<-abS];cases j with
  |zero=>
   simp only[ago,Option.some.injEq]at q1 q2;subst q1;subst q2;exact(h4 h1).dW
  |succ j=>
   simp only[adA]at q1 q2;exact k3 j e a q1 q2
theorem P1{vs ws:List T3}{t:T3}:nT (vs++(ws++[t])) t ((vs.length+ws.length:Nat):Int):=⟨vs.length+ws.length,rfl,by rw[<-abS,aaJ (by simp)];simp⟩
theorem aee{k n dz:Int}{ty:T3}{vs:List T3}{ss:List Sd}{x:List Int×kZ}(hN:zZ H f bg res vs ss 0 x.2)(_h0:ty=T0->k=7)
  (h7:ty=T0->vU H f bg res (vs++x.2.vs) (ss++x.2.ss.map (Sd.mk f)) 0 ⟨13,-1,0,dz,0,x.1⟩)
  (h:ty≠T0->∀st:List Sd,(k=8\/k=9->st=[⟨f,ty⟩])->vU H f bg res (vs++(x.2.vs++[ty])) (ss++x.2.ss.map (Sd.mk f)++st) 0 (lN k n dz ((vs.length+x.2.vs.length:Nat):Int) ((ss.length+x.2.ss.length:Nat):Int) x.1)) :
  zZ H f bg res vs ss 0 (cK vs.length ss.length k n dz ty x).2/\(ty≠T0->nT (vs++(cK vs.length ss.length k n dz ty x).2.vs) ty (cK vs.length ss.length k n dz ty x).1):=by
 unfold cK;by_cases ht:ty=T0;rw[if_pos ht];exact⟨hN.dW (.dO (h7 ht)) (aaH _) (aaH _),λq=>absurd ht q⟩;rw[if_neg ht];refine⟨⟨λi hi=>?_⟩,λ_=>P1⟩;rcases abI.1 hi with hi|hi;have:=(hN.is i hi).mono (ws:=[ty]) (ts:=((if k=8\/k=9 then [ty] else []):List T3).map (Sd.mk f)) (aaH 0);simpa [kZ.dW] using this;have hi:i=lN k n dz ((vs.length+x.2.vs.length:Nat):Int) ((ss.length+x.2.ss.length:Nat):Int) x.1:=by simpa using hi
 subst hi;have:=h ht (((if k=8\/k=9 then [ty] else []):List T3).map (Sd.mk f)) (λq=>by rw[if_pos q];rfl);simpa [kZ.dW] using this
theorem BO{l:List Int}{n:Nat}(h:l.length=n+1):l[0]?=some (Cm l):=by
 match l,h with
 |a::_,_=>rfl
theorem aef{l:List Int}{n:Nat}(h:l.length=n+2):l[1]?=some (at1 l):=by
 match l,h with
 |_::a::_,_=>rfl
theorem NT(hH:H.ok)(hG:Hd.gd H)(hW:∀v∈V,WT H.rs.length v.ty)(hV:∀v∈V,BT v.ty)(e:E):∀y,uS H V e=.ok y->FE H f bg res V y:=by
 induction e using E.zY with
 |_ e ih=>
  intro y h;have hbt:=Jt hG hV e y h;obtain⟨ks,t,r,h1,h2,h3,rfl⟩:=qF h;have jJ:=Js h2;have hb:=jM h2 λe _ y hy=>Jt hG hV e y hy;have X5:=jM h2 λe _ y hy=>I8 hH hW e y hy;have hk:iQ e.k e.n ks.length=true:=by rw[nD h2];exact h1
  intro vs ss hp;obtain⟨k1,k2,k3⟩:=Ju (f:=f) (bg:=bg) (res:=res) ks (λy hy=>⟨jJ y hy,jM h2 ih y hy⟩) vs ss hp;have hE:cE vs.length ss.length (.mk e.k (qK e.k e.n) (qC e.k e.nm) (qD e.k e.on) (qE e.k e.od) ks e.a t r)=if e.k=4/\0<=r then (r,O0) else cK vs.length ss.length e.k (qK e.k e.n) r t (oX vs.length ss.length ks):=Cx _ _ _
  rw[hE];generalize hx:oX vs.length ss.length ks=x at *;obtain⟨l,o⟩:=x;simp only at k1 k2 k3;by_cases c4:e.k=4/\0<=r;rw[if_pos c4];refine⟨zZ.nil,λ_=>?_⟩;have Gh:=h3;unfold mR at Gh;rw[if_neg (by omega),if_neg (by omega),if_neg (by omega),if_pos c4.1]at Gh;unfold rq at Gh;split at Gh;rename_i j u e1;cases Gh;obtain⟨_,v,q1,q2⟩:=ko e1;refine⟨j,rfl,?_⟩;rw[<-q2];exact pX (hp j v (by simpa using q1));split at Gh;rename_i j u e1;cases Gh;omega;cases Gh;rw[if_neg c4];refine aee (x:=(l,o)) k1 hbt.1 (λht=>?_) (λht st iO=>?_);have c7:e.k=7:=hbt.1 ht;unfold mR at h3;rw[if_neg (by omega),if_neg (by omega),if_neg (by omega),if_neg (by omega),if_neg (by omega),if_neg (by omega),if_pos c7]at h3;unfold oV at h3;split at h3;rename_i i s hs;split at h3;rename_i pP;cases h3;obtain⟨_,q⟩:=uG hs;exact .CY (by simpa using q) (BK pP k2 λj e a q1 q2=>k3 j e a q1 q2) (.inl rfl);cases h3;cases h3;have lH:nT (vs++(o.vs++[t])) t ((vs.length+o.vs.length:Nat):Int):=P1;have kk:∀(j:Nat) (e:E) (a:Int),ks[j]?=some e->l[j]?=some a->nT (vs++(o.vs++[t])) e.ty a:=λj e a q1 q2=>by
   have:=(k3 j e a q1 q2).dW (ws:=[t]);simpa using this
  generalize hA:((vs.length+o.vs.length:Nat):Int)=A at *;unfold lN;have uu:=hk;unfold iQ at uu;unfold mR at h3;by_cases c1:e.k=1;rw[if_pos (.inl c1)]at h3 ⊢;cases h3;exact .c1 lH;by_cases c2:e.k=2;rw[if_pos (.inr c2)];rw[if_neg (by omega),if_pos c2]at h3 uu;cases h3;simp only[Ar,abP,decide_eq_true_eq]at uu;have hkn:qK e.k e.n=e.n:=by unfold qK;rw[if_pos (.inr c2)]
  rw[hkn];exact .c1b lH uu.2;rw[if_neg (by omega)];by_cases c3:e.k=3;rw[if_pos c3];rw[if_neg (by omega),if_neg c2,if_pos c3]at h3;obtain⟨q1,rfl,_⟩:=cA h3;rw[Ar]at q1;exact .c2 lH q1.2;rw[if_neg c3];by_cases R1:e.k=4;rw[if_pos R1];rw[if_neg (by omega),if_neg c2,if_neg c3,if_pos R1]at h3;unfold rq at h3;split at h3;rename_i j u e1;cases h3;exact absurd ⟨R1,by omega⟩ c4;split at h3;rename_i j u e1;cases h3;obtain⟨_,v,q1,q2⟩:=ko e1;rw[show (-1-(-1-(j:Int)))=(j:Int) by omega];exact .c19 (by simpa using q1) (by rw[q2];exact lH);cases h3;rw[if_neg R1];by_cases c5:e.k=5;rw[if_pos c5];rw[if_neg (by omega),if_neg c2,if_neg c3,if_neg R1,if_pos c5]at h3;rw[if_neg (by omega),if_neg c2,if_neg (by omega),if_pos (.inl c5),decide_eq_true_eq]at uu;obtain⟨a,rfl⟩:=RZ uu;have q0:=kk 0 a _ rfl (BO k2);unfold xD at h3;split at h3;rename_i F1;split at h3;rename_i s hs;split at h3;rename_i i u e1;cases h3;obtain⟨_,v,q1,q2⟩:=ko e1;have hr:=(X5 a (by simp)).2.2 F1.1;have ha:a.ty=⟨3,((a.ty.r.toNat:Nat):Int),0⟩:=by
   have:a.ty=⟨a.ty.b,a.ty.r,a.ty.d⟩:=rfl;rw[this];have e1:((a.ty.r.toNat:Nat):Int)=a.ty.r:=(by omega);rw[e1];have q3:a.ty.b=3:=F1.1;have q4:a.ty.d=0:=F1.2;rw[q3,q4]
  rw[ha]at q0;exact .c6 q0 hs (by simpa using q1) (by rw[q2];exact lH);cases h3;cases h3;cases h3;rw[if_neg c5];by_cases c6:e.k=6;rw[if_pos c6];rw[if_neg (by omega),if_neg c2,if_neg c3,if_neg R1,if_neg c5,if_pos c6]at h3;rw[if_neg (by omega),if_neg c2,if_neg (by omega),if_neg (by omega)]at uu;simp only[Ar,decide_eq_true_eq]at uu;obtain⟨a,b,rfl⟩:=Wu uu.2;have q0:=kk 0 a _ rfl (BO k2);have q1:=kk 1 b _ rfl (aef k2);obtain⟨q2,rfl,_⟩:=cA h3;rw[Ar,decide_eq_true_eq,decide_eq_true_eq]at q2;rw[show b.ty=tI from q2.2]at q1;exact .c8 q0 q2.1 lH q1;rw[if_neg c6];by_cases c7:e.k=7;rw[if_pos c7];rw[if_neg (by omega),if_neg c2,if_neg c3,if_neg R1,if_neg c5,if_neg c6,if_pos c7]at h3;unfold oV at h3;split at h3;rename_i i s hs;split at h3;rename_i pP;cases h3;obtain⟨_,q⟩:=uG hs;have q':H.sigs[i]?=some s:=by simpa using q
  exact .CY q' (BK pP k2 λj e a q1 q2=>kk j e a q1 q2) (.inr ⟨(hG.res s (mem_of q') ht).2,lH⟩);cases h3;cases h3;rw[if_neg c7];by_cases c8:e.k=8;rw[if_pos c8];rw[if_neg (by omega),if_neg c2,if_neg c3,if_neg R1,if_neg c5,if_neg c6,if_neg c7,if_pos c8]at h3;obtain⟨q2,rfl,_⟩:=cA h3;simp only[Ar,decide_eq_true_eq]at q2;rw[iO (.inl c8)];exact .PZ lH q2.1.2 q2.2 (by rw[aaJ (by simp)];simp);rw[if_neg c8];by_cases c9:e.k=9;rw[if_pos c9];rw[if_neg (by omega),if_neg c2,if_neg c3,if_neg R1,if_neg c5,if_neg c6,if_neg c7,if_neg c8,if_pos c9]at h3;rw[if_neg (by omega),if_neg c2,if_neg (by omega),if_pos (.inr (.inl c9)),decide_eq_true_eq]at uu;obtain⟨a,rfl⟩:=RZ uu;have q0:=kk 0 a _ rfl (BO k2);obtain⟨q2,rfl,_⟩:=cA h3;rw[Ar,Ar,decide_eq_true_eq,decide_eq_true_eq]at q2;rw[iO (.inr c9)];rw[show a.ty=tI from q2.2]at q0;have hd:=(oC H.rs e.on e.od).1;exact .CX lH (by show 0<(cz H.rs e.on e.od).1.d+1;omega) (by rw[aaJ (by simp)];simp) q0;rw[if_neg c9];by_cases Cu:e.k=10;rw[if_pos Cu];rw[if_neg (by omega),if_neg c2,if_neg c3,if_neg R1,if_neg c5,if_neg c6,if_neg c7,if_neg c8,if_neg c9,if_pos Cu]at h3;rw[if_neg (by omega),if_neg c2,if_neg (by omega),if_pos (by omega),decide_eq_true_eq]at uu;obtain⟨a,rfl⟩:=RZ uu;have q0:=kk 0 a _ rfl (BO k2);obtain⟨q2,rfl,_⟩:=cA h3;rw[decide_eq_true_eq]at q2;exact .Cu lH q0 q2;rw[if_neg Cu];by_cases PZ:e.k=11;rw[if_pos PZ];rw[if_pos (.inr PZ)]at h3;cases h3;exact .c14 lH;rw[if_neg PZ];by_cases CX:e.k=12;rw[if_pos (.inl CX)];rw[if_neg (by omega),if_neg c2,if_neg c3,if_neg R1,if_neg c5,if_neg c6,if_neg c7,if_neg c8,if_neg c9,if_neg Cu,if_pos CX]at h3;rw[if_neg (by omega),if_neg c2,if_neg (by omega),if_pos (by omega),decide_eq_true_eq]at uu;obtain⟨a,rfl⟩:=RZ uu;have q0:=kk 0 a _ rfl (BO k2);obtain⟨q2,rfl,_⟩:=cA h3;rw[decide_eq_true_eq]at q2;rw[show a.ty=tI from q2]at q0;rw[CX];exact .c5i lH q0;by_cases CY:e.k=13;rw[if_pos (.inr CY)];rw[if_neg (by omega),if_neg c2,if_neg c3,if_neg R1,if_neg c5,if_neg c6,if_neg c7,if_neg c8,if_neg c9,if_neg Cu,if_neg CX,if_pos CY]at h3;rw[if_neg (by omega),if_neg c2,if_neg (by omega),if_pos (by omega),decide_eq_true_eq]at uu;obtain⟨a,rfl⟩:=RZ uu;have q0:=kk 0 a _ rfl (BO k2);obtain⟨q2,rfl,_⟩:=cA h3;rw[decide_eq_true_eq]at q2;rw[show a.ty=tB from q2]at q0;rw[CY];exact .c5b lH q0;rw[if_neg (by omega)];rw[if_neg (by omega),if_neg c2,if_neg c3,if_neg R1,if_neg c5,if_neg c6,if_neg c7,if_neg c8,if_neg c9,if_neg Cu,if_neg CX,if_neg CY]at h3;rw[if_neg (by omega),if_neg c2,if_neg (by omega),if_neg (by omega)]at uu;simp only[Ar,abP,decide_eq_true_eq]at uu;obtain⟨a,b,rfl⟩:=Wu uu.2;exact .c4 (kk 0 a _ rfl (BO k2)) (kk 1 b _ rfl (aef k2)) h3 (by omega) lH
end sZ
namespace sZ
open Ax Go V7 jw jX
variable {H:Hd}{f:Nat}{bg:Bool}{res:T3}{V X:List Vd}
theorem Dw{k:Int}{nm:List UInt8}{es:List E}{t:T3}{r:Int}{W:List Vd}(h:nK H res V k nm es t=some (r,W)):∃l,W=V++l/\∀v∈l,v.ty=t/\(k=1\/k=2):=by
 have nil:∀{W:List Vd},W=V->∃l,W=V++l/\∀v∈l,v.ty=t/\(k=1\/k=2):=λe=>⟨[],by simp[e],by simp⟩;unfold nK at h;split at h;rename_i c;split at h;cases h;cases h;exact⟨_,rfl,by simp[c]⟩;split at h;rename_i c;split at h;split at h;cases h;cases h;exact⟨_,rfl,by simp[c]⟩;cases h;split at h;split at h;split at h;cases h;exact nil rfl;cases h;cases h;split at h;split at h;cases h;exact nil rfl;cases h;split at h;split at h;cases h;exact nil rfl;cases h;split at h;split at h;cases h;exact nil rfl;cases h;split at h;split at h;cases h;exact nil rfl;cases h;cases h;exact nil rfl
def Gv(H:Hd)(V:List Vd):Prop:=∀v∈V,WT H.rs.length v.ty/\BT v.ty
theorem P2{k:Int}{on:List UInt8}{od:Int}{t:T3}(h:oW H k on od=some t)(hk:k=1\/k=2):WT H.rs.length t/\BT t:=by
 unfold oW at h;rw[if_pos hk]at h;split at h;rename_i c;cases h;exact⟨oC _ _ _,yA c⟩;cases h
theorem NU{k:Int}{nm on:List UInt8}{od:Int}{es:List E}{t:T3}{r:Int}{W:List Vd}(hd:oW H k on od=some t)(h:nK H res V k nm es t=some (r,W))(hV:Gv H V):Gv H W:=by
 obtain⟨l,rfl,h1⟩:=Dw h;intro v hv;rcases abI.1 hv with hv|hv;exact hV v hv;obtain⟨e,hk⟩:=h1 v hv;rw[e];exact P2 hd hk
def Kc(V X:List Vd):Prop:=∃l,X=V++l
theorem Kc.rfl':Kc V V:=⟨[],by simp⟩
theorem Kc.trans{A B C:List Vd}(h:Kc A B)(k:Kc B C):Kc A C:=by
 obtain⟨l,rfl⟩:=h;obtain⟨m,rfl⟩:=k;exact⟨l++m,by simp⟩
theorem Kc.pre{A B:List Vd}{vs:List T3}(h:Kc A B)(hp:Fs B vs):Fs A vs:=by
 obtain⟨l,rfl⟩:=h;exact λk v hk=>hp k v (pX hk)
theorem xL:∀{l ys:List Sm}{V X:List Vd},(∀s∈l,∀V y W,yM H bg res V s=.ok (y,W)->Gv H V->Kc V W/\Gv H W)->mO H bg res V l=.ok (ys,X)->Gv H V->Kc V X/\Gv H X
 |[],ys,V,X,_,h,hV=>by
  unfold mO at h;cases h;exact⟨.rfl',hV⟩
 |s::l,ys,V,X,hp,h,hV=>by
  obtain⟨y,W,zs,h1,h2,rfl⟩:=qk h;obtain⟨a,b⟩:=hp s aa4 V y W h1 hV;obtain⟨c,d⟩:=xL (λt ht=>hp t (abg _ ht)) h2 b;exact⟨a.trans c,d⟩
theorem Jv(s:Sm):∀V y W,yM H bg res V s=.ok (y,W)->Gv H V->Kc V W/\Gv H W:=by
 induction s using Sm.zY with
 |_ s vQ rO=>
  intro V y X h hV;obtain⟨t,ys,r,W,hf,ht,lu,bE,hh⟩:=xE h;obtain⟨l,e,_⟩:=Dw bE;have h1:Kc V W:=⟨l,e⟩;have h2:=NU ht bE hV;rcases hh with⟨_,b,W1,c,hb,hc,rfl⟩|⟨_,b,hb,rfl⟩|⟨_,_,rfl,rfl⟩;obtain⟨a1,a2⟩:=xL vQ hb h2;obtain⟨b1,b2⟩:=xL rO hc a2;exact⟨h1.trans (a1.trans b1),b2⟩;obtain⟨a1,a2⟩:=xL vQ hb h2;exact⟨h1.trans a1,a2⟩;exact⟨h1,h2⟩
theorem tH{l ys:List Sm}{V X:List Vd}(h:mO H bg res V l=.ok (ys,X))(hV:Gv H V):Kc V X/\Gv H X:=xL (λs _=>Jv s) h hV
def FS(H:Hd)(f:Nat)(bg:Bool)(res:T3)(X:List Vd)(y:Sm):Prop:=∀(vs:List T3)(ss:List Sd)(at_:Nat),Fs X vs->zZ H f bg res vs ss (at_+(cS vs.length at_ ss.length y).is.length) (cS vs.length at_ ss.length y)
theorem Ft:∀(l:List Sm),(∀y∈l,FS H f bg res X y)->∀(vs:List T3)(ss:List Sd)(at_:Nat),Fs X vs->zZ H f bg res vs ss (at_+(cB vs.length at_ ss.length l).is.length) (cB vs.length at_ ss.length l)
 |[],_,vs,ss,at_,_=>by
  rw[Jq];exact .nil
 |y::l,h,vs,ss,at_,hp=>by
  rw[Dv];unfold HB;have h1:=h y aa4 vs ss at_ hp;generalize cS vs.length at_ ss.length y=x at *;have e1:vs.length+x.vs.length=(vs++x.vs).length:=by simp
  have e2:ss.length+x.ss.length=(ss++x.ss.map (Sd.mk f)).length:=by simp
  rw[e1,e2];dsimp only;have h2:=Ft l (λz hz=>h z (abg _ hz)) (vs++x.vs) (ss++x.ss.map (Sd.mk f)) (at_+x.is.length) hp.dW;generalize cB (vs++x.vs).length (at_+x.is.length) (ss++x.ss.map (Sd.mk f)).length l=z at *;refine h1.dW h2 ?_ ?_;simp only[kZ.dW,aa6];omega;simp only[kZ.dW,aa6];omega
theorem zZ.mB{vs:List T3}{ss:List Sd}{m m':Nat}{o:kZ}(h:zZ H f bg res vs ss m o)(hm:m<=m'):zZ H f bg res vs ss m' o:=⟨λi hi=>by
 have:=(h.is i hi).mono (ws:=[]) (ts:=[]) hm;simpa using this⟩
theorem aeg{vs:List T3}{ss:List Sd}{at_:Nat}{x:Int×kZ}{g1 g2:Nat->Nat->Nat->kZ}(hx:zZ H f bg res vs ss 0 x.2)(hb:nT (vs++x.2.vs) tB x.1)(hp:Fs X vs)
  (h1:∀(vs:List T3)(ss:List Sd)(at_:Nat),Fs X vs->zZ H f bg res vs ss (at_+(g1 vs.length at_ ss.length).is.length) (g1 vs.length at_ ss.length))
  (h2:∀(vs:List T3) (ss:List Sd) (at_:Nat),Fs X vs->zZ H f bg res vs ss (at_+(g2 vs.length at_ ss.length).is.length) (g2 vs.length at_ ss.length)) :
  zZ H f bg res vs ss (at_+(X3 vs.length at_ ss.length x g1 g2).is.length) (X3 vs.length at_ ss.length x g1 g2):=by
 unfold X3;have e1:vs.length+x.2.vs.length=(vs++x.2.vs).length:=by simp
 have e2:ss.length+x.2.ss.length=(ss++x.2.ss.map (Sd.mk f)).length:=by simp
 rw[e1,e2];have k1:=h1 (vs++x.2.vs) (ss++x.2.ss.map (Sd.mk f)) (at_+x.2.is.length+1) hp.dW;simp only;generalize g1 (vs++x.2.vs).length (at_+x.2.is.length+1) (ss++x.2.ss.map (Sd.mk f)).length=b at *;have e3:(vs++x.2.vs).length+b.vs.length=(vs++x.2.vs++b.vs).length:=by simp[Nat.add_assoc]
 have e4:(ss++x.2.ss.map (Sd.mk f)).length+b.ss.length=(ss++x.2.ss.map (Sd.mk f)++b.ss.map (Sd.mk f)).length:=by simp[Nat.add_assoc]
 rw[e3,e4];have k2:=h2 (vs++x.2.vs++b.vs) (ss++x.2.ss.map (Sd.mk f)++b.ss.map (Sd.mk f)) (at_+x.2.is.length+1+b.is.length+1) hp.dW.dW;generalize g2 (vs++x.2.vs++b.vs).length (at_+x.2.is.length+1+b.is.length+1) (ss++x.2.ss.map (Sd.mk f)++b.ss.map (Sd.mk f)).length=c at *;refine⟨λi hi=>?_⟩;simp only[abT,<-abS];simp only[aa6,abq];simp only[abI,abY]at hi;rcases hi with hi|rfl|hi|rfl|hi;have:=(hx.is i hi).mono (ws:=b.vs++c.vs) (ts:=b.ss.map (Sd.mk f)++c.ss.map (Sd.mk f)) (acH (at_+(x.2.is.length+(b.is.length+(c.is.length+1)+1))));simpa only [<-abS] using this;refine .c17 ?_ (by omega) (by omega);have:=hb.dW (ws:=b.vs++c.vs);simpa only [<-abS] using this;have:=(k1.is i hi).mono (ws:=c.vs) (ts:=c.ss.map (Sd.mk f)) (m':=at_+(x.2.is.length+(b.is.length+(c.is.length+1)+1))) (by omega);simpa only [<-abS] using this;exact .c16 (by omega);have:=(k2.is i hi).mono (ws:=[]) (ts:=[]) (m':=at_+(x.2.is.length+(b.is.length+(c.is.length+1)+1))) (by omega);simpa only [abO] using this
theorem aeh{vs:List T3}{ss:List Sd}{at_:Nat}{x:Int×kZ}{g1:Nat->Nat->Nat->kZ}(hx:zZ H f bg res vs ss 0 x.2)(hb:nT (vs++x.2.vs) tB x.1)(hp:Fs X vs)
  (h1:∀(vs:List T3)(ss:List Sd)(at_:Nat),Fs X vs->zZ H f bg res vs ss (at_+(g1 vs.length at_ ss.length).is.length) (g1 vs.length at_ ss.length)) :
  zZ H f bg res vs ss (at_+(X4 vs.length at_ ss.length x g1).is.length) (X4 vs.length at_ ss.length x g1):=by
 unfold X4;have e1:vs.length+x.2.vs.length=(vs++x.2.vs).length:=by simp
 have e2:ss.length+x.2.ss.length=(ss++x.2.ss.map (Sd.mk f)).length:=by simp
 rw[e1,e2];have k1:=h1 (vs++x.2.vs) (ss++x.2.ss.map (Sd.mk f)) (at_+x.2.is.length+1) hp.dW;simp only;generalize g1 (vs++x.2.vs).length (at_+x.2.is.length+1) (ss++x.2.ss.map (Sd.mk f)).length=b at *;refine⟨λi hi=>?_⟩;simp only[abT,<-abS];simp only[aa6,abq,afD];simp only[abI,abY,List.not_mem_nil,or_false]at hi;rcases hi with hi|rfl|hi|rfl;exact(hx.is i hi).mono (ws:=b.vs) (ts:=b.ss.map (Sd.mk f)) (acH _);exact .c17 hb.dW (by omega) (by omega);have:=(k1.is i hi).mono (ws:=[]) (ts:=[]) (m':=at_+(x.2.is.length+(b.is.length+(0+1)+1))) (by omega);simpa only [abO] using this;exact .c16 (by omega)
theorem aaj{vs:List T3}{ss:List Sd}{t:T3}{v dz:Int}(hv:nT vs t v)(h:(∃k:Nat,dz=k/\vs[k]?=some t)\/(∃k:Nat,dz = -1-(k:Int)/\∃g,H.globals[k]?=some g/\g.ty=t)):vU H f bg res vs ss 0 (Gm dz v):=by
 unfold Gm;rcases h with⟨k,rfl,hk⟩|⟨k,rfl,g,hk,rfl⟩;rw[if_neg (by omega)];exact .c3 ⟨k,rfl,hk⟩ hv;rw[if_pos (by omega),show (-1-(-1-(k:Int)))=(k:Int) by omega];exact .c20 hk hv
theorem Jw{vs:List T3}{ss:List Sd}{e:E}{i:In}(h:zZ H f bg res vs ss 0 (cE vs.length ss.length e).2)(hi:vU H f bg res (vs++(cE vs.length ss.length e).2.vs) (ss++(cE vs.length ss.length e).2.ss.map (Sd.mk f)) 0 i)(m:Nat) :
  zZ H f bg res vs ss m ((cE vs.length ss.length e).2.dW (eY i)):=(h.dW (.dO hi) (aaH _) (aaH _)).mB (acH _)
theorem Jx{e:E}{ys:List E}(h:oQ H V [e]=.ok ys):∃y,ys=[y]/\uS H V e=.ok y/\y.ty≠T0:=by
 obtain⟨y,zs,h1,h2,h3,rfl⟩:=kY h;unfold oQ at h3;cases h3;exact⟨y,rfl,h1,h2⟩
theorem P4{a b:E}{ys:List E}(h:oQ H V [a,b]=.ok ys):∃y z,ys=[y,z]/\uS H V a=.ok y/\y.ty≠T0/\uS H V b=.ok z/\z.ty≠T0:=by
 obtain⟨y,zs,h1,h2,h3,rfl⟩:=kY h;obtain⟨z,rfl,h4,h5⟩:=Jx h3;exact⟨y,z,rfl,h1,h2,h4,h5⟩
theorem P6{es:List E}(h:es.length=1):∃e,es=[e]:=by
 match es,h with
 |[e],_=>exact⟨e,rfl⟩
theorem HC{nv at_ ns:Nat}{k:Int}{nm on:List UInt8}{od:Int}{es:List E}{bd el:List Sm}{a r:Int}:cS nv at_ ns (.mk k nm on od es bd el a r) =
  if k=2\/k=3 then (cE nv ns (nh es)).2.dW (eY (Gm r (cE nv ns (nh es)).1))
  else if k=4 then LR nv ns (nh es) (oX nv ns (nh es).aK) (λnv ns=>cE nv ns (X2 es))
  else if k=5 then X3 nv at_ ns (cE nv ns (nh es)) (λnv at_ ns=>cB nv at_ ns bd) (λnv at_ ns=>cB nv at_ ns el)
  else if k=6 then X4 nv at_ ns (cE nv ns (nh es)) (λnv at_ ns=>cB nv at_ ns bd)
  else if k=7 then (match es with
   |[]=>eY ⟨18,-1,0,0,0,[]⟩|e::_=>(cE nv ns e).2.dW (eY ⟨18,(cE nv ns e).1,0,0,0,[]⟩))
  else if k=8 then (cE nv ns (nh es)).2.dW (eY ⟨15,(cE nv ns (nh es)).1,0,0,0,[]⟩)
  else if k=9 then (cE nv ns (nh es)).2
  else O0:=Wm _ _ _ _
theorem aak{nm:List UInt8}{u:T3}{r:Int}{vs:List T3}(h:rq H V nm=some (u,r))(hp:Fs V vs):(∃k:Nat,r=k/\vs[k]?=some u)\/(∃k:Nat,r = -1-(k:Int)/\∃g,H.globals[k]?=some g/\g.ty=u):=by
 unfold rq at h;split at h;rename_i k t e;cases h;obtain⟨_,v,q1,q2⟩:=ko e;exact .inl ⟨k,rfl,by rw[<-q2];exact hp k v (by simpa using q1)⟩;split at h;rename_i k t e;cases h;obtain⟨_,v,q1,q2⟩:=ko e;exact .inr ⟨k,rfl,v,by simpa using q1,q2⟩;cases h
theorem aal(hH:H.ok)(hG:Hd.gd H)(hV:Gv H V){a b:E}{y z:E}(ha:uS H V a=.ok y)(hb:uS H V b=.ok z)(hk:a.k=5\/a.k=6)(CP:y.ty=z.ty)(hz:z.ty≠T0){vs:List T3}{ss:List Sd}(hp:Fs V vs)(m:Nat) :
  zZ H f bg res vs ss m (LR vs.length ss.length y (oX vs.length ss.length y.aK) (λnv ns=>cE nv ns z)):=by
 have hW:∀v∈V,WT H.rs.length v.ty:=λv hv=>(hV v hv).1;have hB:∀v∈V,BT v.ty:=λv hv=>(hV v hv).2;obtain⟨ks,t,r,h1,h2,h3,rfl⟩:=qF ha;have jJ:=Js h2;have X5:=jM h2 λe _ y hy=>I8 hH hW e y hy;have Du:iQ a.k a.n ks.length=true:=by rw[nD h2];exact h1
 have hzz:=NT (f:=f) (bg:=bg) (res:=res) hH hG hW hB b z hb;obtain⟨k1,k2,k3⟩:=Ju (f:=f) (bg:=bg) (res:=res) ks (λy hy=>⟨jJ y hy,jM h2 (λe _ y hy=>NT hH hG hW hB e y hy) y hy⟩) vs ss hp;unfold LR;simp only;rw[show (E.mk a.k (qK a.k a.n) (qC a.k a.nm) (qD a.k a.on) (qE a.k a.od) ks a.a t r).aK=ks from rfl]at *;generalize hx:oX vs.length ss.length ks=x at *;obtain⟨l,o⟩:=x;simp only at k1 k2 k3 ⊢;have e1:vs.length+o.vs.length=(vs++o.vs).length:=by simp
 have e2:ss.length+o.ss.length=(ss++o.ss.map (Sd.mk f)).length:=by simp
 rw[e1,e2];obtain⟨q1,q2⟩:=hzz (vs++o.vs) (ss++o.ss.map (Sd.mk f)) hp.dW;have q3:=q2 hz;generalize cE (vs++o.vs).length (ss++o.ss.map (Sd.mk f)).length z=w at *;have kk:∀(j:Nat) (e:E) (a:Int),ks[j]?=some e->l[j]?=some a->nT (vs++o.vs++w.2.vs) e.ty a:=λj e a q1 q2=>(k3 j e a q1 q2).dW;have htz:z.ty=t:=CP.symm;rw[htz]at q3;have HD:vU H f bg res (vs++o.vs++w.2.vs) (ss++o.ss.map (Sd.mk f)++w.2.ss.map (Sd.mk f)) 0 (LQ a.k r w.1 l):=by
  unfold LQ;unfold mR at h3;unfold iQ at Du;rcases hk with c5|c6;rw[if_pos c5];rw[if_neg (by omega),if_neg (by omega),if_neg (by omega),if_neg (by omega),if_pos c5]at h3;rw[if_neg (by omega),if_neg (by omega),if_neg (by omega),if_pos (.inl c5),decide_eq_true_eq]at Du;obtain⟨a,rfl⟩:=RZ Du;have q0:=kk 0 a _ rfl (BO k2);unfold xD at h3;split at h3;rename_i F1;split at h3;rename_i s hs;split at h3;rename_i i u e1;cases h3;obtain⟨_,v,p1,p2⟩:=ko e1;have hr:=(X5 a (by simp)).2.2 F1.1;have ha:a.ty=⟨3,((a.ty.r.toNat:Nat):Int),0⟩:=by
   have:a.ty=⟨a.ty.b,a.ty.r,a.ty.d⟩:=rfl;rw[this];have e1:((a.ty.r.toNat:Nat):Int)=a.ty.r:=(by omega);rw[e1];have q3:a.ty.b=3:=F1.1;have q4:a.ty.d=0:=F1.2;rw[q3,q4]
  rw[ha]at q0;exact .c7 q0 hs (by simpa using p1) (by rw[p2];exact q3);cases h3;cases h3;cases h3;rw[if_neg (by omega)];rw[if_neg (by omega),if_neg (by omega),if_neg (by omega),if_neg (by omega),if_neg (by omega),if_pos c6]at h3;rw[if_neg (by omega),if_neg (by omega),if_neg (by omega),if_neg (by omega)]at Du;simp only[Ar,decide_eq_true_eq]at Du;obtain⟨a,b,rfl⟩:=Wu Du.2;have q0:=kk 0 a _ rfl (BO k2);have q1:=kk 1 b _ rfl (aef k2);obtain⟨p2,rfl,_⟩:=cA h3;rw[Ar,decide_eq_true_eq,decide_eq_true_eq]at p2;rw[show b.ty=tI from p2.2]at q1;exact .c9 q0 p2.1 q3 q1
 have hA:zZ H f bg res vs ss 0 (o.dW w.2):=k1.dW q1 (aaH _) (aaH _);refine(hA.dW (m2:=0) (m:=0) (.dO (i:=LQ a.k r w.1 l) ?_) (aaH _) (aaH _)).mB (acH _);simpa only [kZ.dW,abT,<-abS] using HD
theorem xM:∀{l ys:List Sm}{V X:List Vd},mO H bg res V l=.ok (ys,X)->Gv H V->∀{y:Sm},y∈ys->∃s V' W',s∈l/\yM H bg res V' s=.ok (y,W')/\Gv H V'/\Kc V V'/\Kc W' X
 |[],ys,V,X,h,_,y,hy=>by
  unfold mO at h;cases h;simp at hy
 |s::l,ys,V,X,h,hV,y,hy=>by
  obtain⟨z,W,zs,h1,h2,rfl⟩:=qk h;obtain⟨a,b⟩:=Jv s V z W h1 hV;rcases abY.1 hy with rfl|hy;exact⟨s,V,W,aa4,h1,hV,.rfl',(tH h2 b).1⟩;obtain⟨s',V',W',i1,i2,i3,i4,i5⟩:=xM h2 b hy;exact⟨s',V',W',abg _ i1,i2,i3,a.trans i4,i5⟩
theorem aei(hH:H.ok)(hG:Hd.gd H)(s:Sm):∀V y W,yM H bg res V s=.ok (y,W)->Gv H V->Kc W X->FS H f bg res X y:=by
 induction s using Sm.zY with
 |_ s vQ rO=>
  intro V y W0 h hV hX;obtain⟨t,ys,r,W,hf,ht,lu,bE,hh⟩:=xE h;have hVW:Kc V W:=by obtain⟨l,e,_⟩:=Dw bE;exact⟨l,e⟩
  have hW:=NU ht bE hV;have hW1:∀v∈V,WT H.rs.length v.ty:=λv hv=>(hV v hv).1;have hW2:∀v∈V,BT v.ty:=λv hv=>(hV v hv).2;have anM:Kc W W0:=by
   rcases hh with⟨_,b,W1,c,hb,hc,rfl⟩|⟨_,b,hb,rfl⟩|⟨_,_,rfl,rfl⟩;obtain⟨a1,a2⟩:=tH hb hW;exact a1.trans (tH hc a2).1;exact(tH hb hW).1;exact .rfl'
  have hWX:=anM.trans hX;have hVX:=hVW.trans hWX;intro vs ss at_ hp;have hpV:=hVX.pre hp;have hpW:=hWX.pre hp;have one:(s.k=2\/s.k=3\/s.k=5\/s.k=6\/s.k=8)->∃e z,s.es=[e]/\ys=[z]/\uS H V e=.ok z/\z.ty≠T0:=λhk=>by
   unfold eu at hf;rw[if_neg (by omega),if_neg (by omega),if_neg (by omega),if_neg (by omega),if_pos (by omega),decide_eq_true_eq]at hf;obtain⟨e,he⟩:=P6 hf;rw[BF (by omega),he]at lu;obtain⟨z,h1,h2,h3⟩:=Jx lu;exact⟨e,z,he,h1,h2,h3⟩
  have fe:∀e z,uS H V e=.ok z->FE H f bg res V z:=λe z h=>NT hH hG hW1 hW2 e z h;rcases hh with⟨c5,b,W1,c,hb,hc,rfl⟩|⟨c6,b,hb,rfl⟩|⟨c5,c6,rfl,rfl⟩;rw[HC,if_neg (by omega),if_neg (by omega),if_pos c5];obtain⟨e,z,he,rfl,h1,h2⟩:=one (by omega);obtain⟨q1,q2⟩:=fe e z h1 vs ss hpV;have q3:=q2 h2;unfold nK at bE;rw[if_neg (by omega),if_neg (by omega),if_neg (by omega),if_neg (by omega),if_pos (.inl c5)]at bE;split at bE;rename_i GJ;rw[show z.ty=tB from GJ]at q3;have g1:=tH hb hW;refine aeg q1 q3 hp (λvs ss at_ hp=>?_) (λvs ss at_ hp=>?_);refine Ft b (λy hy=>?_) vs ss at_ hp;obtain⟨s',V',W',i1,i2,i3,i4,i5⟩:=xM hb hW hy;exact vQ s' i1 V' y W' i2 i3 (i5.trans ((tH hc g1.2).1.trans hX));refine Ft c (λy hy=>?_) vs ss at_ hp;obtain⟨s',V',W',i1,i2,i3,i4,i5⟩:=xM hc g1.2 hy;exact rO s' i1 V' y W' i2 i3 (i5.trans hX);cases bE;rw[HC,if_neg (by omega),if_neg (by omega),if_neg (by omega),if_pos c6];obtain⟨e,z,he,rfl,h1,h2⟩:=one (by omega);obtain⟨q1,q2⟩:=fe e z h1 vs ss hpV;have q3:=q2 h2;unfold nK at bE;rw[if_neg (by omega),if_neg (by omega),if_neg (by omega),if_neg (by omega),if_pos (.inr c6)]at bE;split at bE;rename_i GJ;rw[show z.ty=tB from GJ]at q3;refine aeh q1 q3 hp (λvs ss at_ hp=>?_);refine Ft b (λy hy=>?_) vs ss at_ hp;obtain⟨s',V',W',i1,i2,i3,i4,i5⟩:=xM hb hW hy;exact vQ s' i1 V' y W' i2 i3 (i5.trans hX);cases bE;rw[HC];by_cases c2:s.k=2\/s.k=3;rw[if_pos c2];obtain⟨e,z,he,rfl,h1,h2⟩:=one (by omega);obtain⟨q1,q2⟩:=fe e z h1 vs ss hpV;refine Jw q1 (aaj (q2 h2) ?_) _;unfold nK at bE;rw[if_neg (by omega)]at bE;rcases c2 with c2|c3;rw[if_pos c2]at bE;split at bE;rename_i GJ;split at bE;cases bE;cases bE;refine .inl ⟨V.length,rfl,?_⟩;have:=hpW V.length ⟨s.nm,t⟩ (by simp);rw[show z.ty=t from GJ];exact pX this;cases bE;rw[if_neg (by omega),if_pos c3]at bE;split at bE;rename_i u r' hv;split at bE;rename_i hu;cases bE;rw[show u=z.ty from hu]at hv;exact aak hv hpV.dW;cases bE;cases bE;rw[if_neg c2];by_cases c4:s.k=4;rw[if_pos c4];unfold eu at hf;rw[if_neg (by omega),if_pos c4]at hf;split at hf;rename_i a b he;rw[BF (by omega),he]at lu;obtain⟨y,z,rfl,h1,h2,h3,h4⟩:=P4 lu;unfold nK at bE;rw[if_neg (by omega),if_neg (by omega),if_neg (by omega),if_pos c4]at bE;split at bE;rename_i CP;exact aal hH hG hV h1 h3 (by simpa using hf) CP h4 hpV _;cases bE;cases hf;rw[if_neg c4,if_neg c5,if_neg c6];by_cases c7:s.k=7;rw[if_pos c7];rw[BF (by omega)]at lu;unfold eu at hf;rw[if_neg (by omega),if_neg (by omega),if_pos c7]at hf;simp only[abP,Ar,decide_eq_true_eq,acg]at hf;rcases hf with⟨h1,h2⟩|⟨h1,h2⟩;obtain⟨e,he⟩:=P6 h1;rw[he]at lu;obtain⟨z,rfl,h3,h4⟩:=Jx lu;obtain⟨q1,q2⟩:=fe e z h3 vs ss hpV;unfold nK at bE;rw[if_neg (by omega),if_neg (by omega),if_neg (by omega),if_neg (by omega),if_neg (by omega),if_pos c7]at bE;split at bE;rename_i CP;have q3:=q2 h4;rcases CP with CP|CP;simp at CP;rw[show z.ty=res from CP]at q3;exact Jw q1 (.c18 (by rw[if_pos h2];exact q3)) _;cases bE;have he:s.es=[]:=List.eq_nil_of_length_eq_zero h1;rw[he]at lu;unfold oQ at lu;cases lu;exact .dO (.c18 (by rw[if_neg (by rw[h2];simp)]));rw[if_neg c7];by_cases c8:s.k=8;rw[if_pos c8];obtain⟨e,z,he,rfl,h1,h2⟩:=one (by omega);obtain⟨q1,q2⟩:=fe e z h1 vs ss hpV;have q3:=q2 h2;unfold nK at bE;rw[if_neg (by omega),if_neg (by omega),if_neg (by omega),if_neg (by omega),if_neg (by omega),if_neg (by omega),if_pos c8]at bE;split at bE;rename_i CP;rw[show z.ty=tI from CP]at q3;exact Jw q1 (.c15 q3) _;cases bE;rw[if_neg c8];by_cases c9:s.k=9;rw[if_pos c9];unfold eu at hf;rw[if_neg (by omega),if_neg (by omega),if_neg (by omega),if_pos c9]at hf;split at hf;rename_i e he;rw[c9,he,VZ]at lu;split at lu;cases lu;rename_i z hz;cases lu;exact((fe e z hz vs ss hpV).1).mB (acH _);cases hf;rw[if_neg c9];exact .nil
end sZ
namespace sZ
open Ax Go V7 jw jX
variable {H:Hd}{f:Nat}{bg:Bool}{res:T3}{V X:List Vd}
structure MT (H:Hd)(t:T3):Prop where
 wt:WT H.rs.length t
 bt:BT t
 rt:t.b≠3->t.r=0
def RT(t:T3):Prop:=t.b≠3->t.r=0
structure Hd.rt (H:Hd):Prop where
 bL:∀s∈H.bL,∀f∈s.2,RT f.ty
 globals:∀f∈H.globals,RT f.ty
 ps:∀s∈H.sigs,∀f∈s.ps,RT f.ty
 res:∀s∈H.sigs,RT s.res
theorem yB{l:List (List UInt8)}{s:List UInt8}{d:Int}:RT (cz l s d).1:=by
 unfold cz RT;split;intro _;rfl;split;intro _;rfl;split;intro _;rfl;split;intro _;rfl;intro h;exact absurd rfl h
theorem aej(hR:Hd.rt H)(hV:∀v∈V,RT v.ty){k n:Int}{nm on:List UInt8}{od:Int}{ks:List E}{t:T3}{r:Int}(hk:iQ k n ks.length=true)(uR:∀e∈ks,RT e.ty)(h:mR H V k nm on od ks=some (t,r)):RT t:=by
 have bI:RT tI:=λ_=>rfl;have bB:RT tB:=λ_=>rfl;unfold mR at h;by_cases c1:k=1\/k=11;rw[if_pos c1]at h;cases h;exact bI;rw[if_neg c1]at h;by_cases c2:k=2;rw[if_pos c2]at h;cases h;exact bB;rw[if_neg c2]at h;by_cases c3:k=3;rw[if_pos c3]at h;obtain⟨h1,rfl,_⟩:=cA h;exact yB;rw[if_neg c3]at h;by_cases c4:k=4;rw[if_pos c4]at h;unfold rq at h;split at h;rename_i j u e;cases h;obtain⟨_,v,h1,h2⟩:=ko e;exact h2 ▸ hV v (mem_of h1);split at h;rename_i j u e;cases h;obtain⟨_,v,h1,h2⟩:=ko e;exact h2 ▸ hR.globals v (mem_of h1);cases h;rw[if_neg c4]at h;by_cases c5:k=5;rw[if_pos c5]at h;unfold xD at h;split at h;split at h;rename_i s hs;split at h;rename_i i u e;cases h;obtain⟨_,v,h1,h2⟩:=ko e;exact h2 ▸ hR.bL s (mem_of hs) v (mem_of h1);cases h;cases h;cases h;rw[if_neg c5]at h;by_cases c6:k=6;rw[if_pos c6]at h;obtain⟨h1,rfl,_⟩:=cA h;have hl:ks.length=2:=by
  unfold iQ at hk;rw[if_neg (by omega),if_neg (by omega),if_neg (by omega),if_neg (by omega)]at hk;simp only[Ar,decide_eq_true_eq]at hk;exact hk.2
 obtain⟨a,b,rfl⟩:=Wu hl;exact uR a (by simp);rw[if_neg c6]at h;by_cases c7:k=7;rw[if_pos c7]at h;unfold oV at h;split at h;rename_i i s hs;split at h;cases h;obtain⟨_,h2⟩:=uG hs;exact hR.res s (mem_of h2);cases h;cases h;rw[if_neg c7]at h;by_cases c8:k=8;rw[if_pos c8]at h;obtain⟨h1,rfl,_⟩:=cA h;exact yB;rw[if_neg c8]at h;by_cases c9:k=9;rw[if_pos c9]at h;obtain⟨h1,rfl,_⟩:=cA h;exact(yB (l:=H.rs) (s:=on) (d:=od):RT _);rw[if_neg c9]at h;by_cases Cu:k=10;rw[if_pos Cu]at h;obtain⟨_,rfl,_⟩:=cA h;exact bI;rw[if_neg Cu]at h;by_cases CX:k=12;rw[if_pos CX]at h;obtain⟨_,rfl,_⟩:=cA h;exact bI;rw[if_neg CX]at h;by_cases CY:k=13;rw[if_pos CY]at h;obtain⟨_,rfl,_⟩:=cA h;exact bB;rw[if_neg CY]at h;unfold jX.mZ at h;split at h;obtain⟨_,rfl,_⟩:=cA h;exact bI;split at h;obtain⟨_,rfl,_⟩:=cA h;exact bB;split at h;obtain⟨_,rfl,_⟩:=cA h;exact bB;obtain⟨_,rfl,_⟩:=cA h;exact bB
theorem aek(hR:Hd.rt H)(hV:∀v∈V,RT v.ty)(e:E):∀y,uS H V e=.ok y->RT y.ty:=by
 induction e using E.zY with
 |_ e ih=>
  intro y h;obtain⟨ks,t,r,h1,h2,h3,rfl⟩:=qF h;exact aej hR hV (by rw[nD h2];exact h1) (jM h2 ih) h3
structure qm (H:Hd)(o:kZ):Prop where
 vs:∀t∈o.vs,MT H t
 ss:∀t∈o.ss,MT H t/\g9 t=true
theorem qm.nil:qm H O0:=⟨by simp[O0],by simp[O0]⟩
theorem qm.dW{x y:kZ}(h:qm H x)(k:qm H y):qm H (x.dW y):=by
 refine⟨λt ht=>?_,λt ht=>?_⟩;rcases abI.1 ht with ht|ht;exact h.vs t ht;exact k.vs t ht;rcases abI.1 ht with ht|ht;exact h.ss t ht;exact k.ss t ht
theorem qm.dO{i:In}:qm H (eY i):=⟨by simp[eY],by simp[eY]⟩
theorem JA:∀(ys:List E)(nv ns:Nat),(∀y∈ys,∀nv ns,qm H (cE nv ns y).2)->qm H (oX nv ns ys).2
 |[],nv,ns,_=>by
  have e:oX nv ns []=([],O0):=by unfold oX;rfl
  rw[e];exact .nil
 |y::ys,nv,ns,h=>by
  rw[xK];exact(h y aa4 nv ns).dW (JA ys _ _ λz hz=>h z (abg _ hz))
def Mv(H:Hd)(V:List Vd):Prop:=∀v∈V,MT H v.ty
theorem Mv.gv(h:Mv H V):Gv H V:=λv hv=>⟨(h v hv).wt,(h v hv).bt⟩
theorem NW(hH:H.ok)(hG:Hd.gd H)(hR:Hd.rt H)(hV:Mv H V)(e:E):∀y,uS H V e=.ok y->∀nv ns,qm H (cE nv ns y).2:=by
 induction e using E.zY with
 |_ e ih=>
  intro y h nv ns;have hbt:=Jt hG (λv hv=>(hV v hv).bt) e y h;have X5:=I8 hH (λv hv=>(hV v hv).wt) e y h;have CS:=aek hR (λv hv=>(hV v hv).rt) e y h;obtain⟨ks,t,r,h1,h2,h3,rfl⟩:=qF h;have hE:cE nv ns (.mk e.k (qK e.k e.n) (qC e.k e.nm) (qD e.k e.on) (qE e.k e.od) ks e.a t r)=if e.k=4/\0<=r then (r,O0) else cK nv ns e.k (qK e.k e.n) r t (oX nv ns ks):=Cx _ _ _
  rw[hE];split;exact .nil;have hk:=JA ks nv ns (jM h2 ih);unfold cK;split;exact hk.dW .dO;rename_i ht;have hm:MT H t:=⟨X5,hbt.2 ht,CS⟩;refine hk.dW ⟨by simpa using hm,λu hu=>?_⟩;by_cases q:e.k=8\/e.k=9;have hu':u=t:=by simpa [q] using hu
  subst hu';refine⟨hm,?_⟩;unfold mR at h3;rw[if_neg (by omega),if_neg (by omega),if_neg (by omega),if_neg (by omega),if_neg (by omega),if_neg (by omega),if_neg (by omega)]at h3;rcases q with q|q;rw[if_pos q]at h3;obtain⟨q1,q2,_⟩:=cA h3;simp only[Ar,decide_eq_true_eq]at q1;unfold g9;rw[q2,q1.1.2]
  rfl
  rw[if_neg (by omega),if_pos q]at h3;obtain⟨q1,q2,_⟩:=cA h3;have hd:=(oC H.rs e.on e.od).1;unfold g9;rw[q2];rw[abP,decide_eq_true_eq,decide_eq_true_eq];exact .inr (by show 0<(cz H.rs e.on e.od).1.d+1;omega);simp[q]at hu
theorem Wv{k:Int}{nm on:List UInt8}{od:Int}{es:List E}{t:T3}{r:Int}{W:List Vd}(hd:oW H k on od=some t)(h:nK H res V k nm es t=some (r,W))(hV:Mv H V):Mv H W:=by
 obtain⟨l,rfl,h1⟩:=Dw h;intro v hv;rcases abI.1 hv with hv|hv;exact hV v hv;obtain⟨e,hk⟩:=h1 v hv;rw[e];obtain⟨q1,q2⟩:=P2 hd hk;refine⟨q1,q2,?_⟩;unfold oW at hd;rw[if_pos hk]at hd;split at hd;cases hd;exact yB;cases hd
theorem AS:∀{l ys:List Sm}{V X:List Vd},(∀s∈l,∀V y W,yM H bg res V s=.ok (y,W)->Mv H V->Mv H W)->mO H bg res V l=.ok (ys,X)->Mv H V->Mv H X
 |[],ys,V,X,_,h,hV=>by
  unfold mO at h;cases h;exact hV
 |s::l,ys,V,X,hp,h,hV=>by
  obtain⟨y,W,zs,h1,h2,rfl⟩:=qk h;exact AS (λt ht=>hp t (abg _ ht)) h2 (hp s aa4 V y W h1 hV)
theorem Ww(s:Sm):∀V y W,yM H bg res V s=.ok (y,W)->Mv H V->Mv H W:=by
 induction s using Sm.zY with
 |_ s vQ rO=>
  intro V y X h hV;obtain⟨t,ys,r,W,hf,ht,lu,bE,hh⟩:=xE h;have h2:=Wv ht bE hV;rcases hh with⟨_,b,W1,c,hb,hc,rfl⟩|⟨_,b,hb,rfl⟩|⟨_,_,rfl,rfl⟩;exact AS rO hc (AS vQ hb h2);exact AS vQ hb h2;exact h2
theorem Wx{l ys:List Sm}(h:mO H bg res V l=.ok (ys,X))(hV:Mv H V):Mv H X:=AS (λs _=>Ww s) h hV
theorem uH:∀{l ys:List Sm}{V X:List Vd},mO H bg res V l=.ok (ys,X)->Mv H V->∀{y:Sm},y∈ys->∃s V' W',s∈l/\yM H bg res V' s=.ok (y,W')/\Mv H V'
 |[],ys,V,X,h,_,y,hy=>by
  unfold mO at h;cases h;simp at hy
 |s::l,ys,V,X,h,hV,y,hy=>by
  obtain⟨z,W,zs,h1,h2,rfl⟩:=qk h;rcases abY.1 hy with rfl|hy;exact⟨s,V,W,aa4,h1,hV⟩;obtain⟨s',V',W',i1,i2,i3⟩:=uH h2 (Ww s V z W h1 hV) hy;exact⟨s',V',W',abg _ i1,i2,i3⟩
theorem Fu:∀(l:List Sm)(nv at_ ns:Nat),(∀y∈l,∀nv at_ ns,qm H (cS nv at_ ns y))->qm H (cB nv at_ ns l)
 |[],nv,at_,ns,_=>by rw[Jq];exact .nil|y::l,nv,at_,ns,h=>by
  rw[Dv];unfold HB;exact(h y aa4 nv at_ ns).dW (Fu l _ _ _ λz hz=>h z (abg _ hz))
theorem qm.of{x:kZ}(h:qm H x)(l:List In):qm H ⟨x.vs,l,x.ss⟩:=⟨h.vs,h.ss⟩
theorem ael(hH:H.ok)(hG:Hd.gd H)(hR:Hd.rt H)(s:Sm):∀V y W,yM H bg res V s=.ok (y,W)->Mv H V->∀nv at_ ns,qm H (cS nv at_ ns y):=by
 induction s using Sm.zY with
 |_ s vQ rO=>
  intro V y W0 h hV nv at_ ns;obtain⟨t,ys,r,W,hf,ht,lu,bE,hh⟩:=xE h;have h2:=Wv ht bE hV;have fe:∀y∈ys,∀nv ns,qm H (cE nv ns y).2:=by
   unfold yq at lu;split at lu;split at lu;rename_i e l _;cases hx:uS H V e with
   |error a=>rw[hx]at lu;cases lu|ok y=>
    rw[hx]at lu;cases lu;intro z hz;rw[ady.1 hz];exact NW hH hG hR hV e y hx
   cases lu;simp;exact jM lu λe _ y hy=>NW hH hG hR hV e y hy
  have f0:∀nv ns,qm H (cE nv ns (nh ys)).2:=λnv ns=>by
   match ys,fe with
   |[],_=>
    have:cE nv ns (nh [])=(-1,eY ⟨13,-1,0,0,0,[]⟩):=by
     show cE nv ns (.mk 0 0 [] [] 0 [] 0 T0 0)=_;rw[Cx];show (if (0:Int)=4/\(0:Int)<=0 then _ else cK nv ns 0 0 0 T0 (oX nv ns []))=_;rw[if_neg (by decide)];have e:oX nv ns []=([],O0):=(by unfold oX;rfl);rw[e];unfold cK;rw[if_pos rfl];simp[NR]
    rw[this];exact .dO
   |y::_,fe=>exact fe y aa4 nv ns
  have f1:∀nv ns,qm H (cE nv ns (X2 ys)).2:=λnv ns=>by
   match ys,fe with
   |_::y::_,fe=>exact fe y (by simp) nv ns|[],_=>
    have:cE nv ns (X2 [])=(-1,eY ⟨13,-1,0,0,0,[]⟩):=by
     show cE nv ns (.mk 0 0 [] [] 0 [] 0 T0 0)=_;rw[Cx];show (if (0:Int)=4/\(0:Int)<=0 then _ else cK nv ns 0 0 0 T0 (oX nv ns []))=_;rw[if_neg (by decide)];have e:oX nv ns []=([],O0):=(by unfold oX;rfl);rw[e];unfold cK;rw[if_pos rfl];simp[NR]
    rw[this];exact .dO
   |[z],_=>
    have:cE nv ns (X2 [z])=(-1,eY ⟨13,-1,0,0,0,[]⟩):=by
     show cE nv ns (.mk 0 0 [] [] 0 [] 0 T0 0)=_;rw[Cx];show (if (0:Int)=4/\(0:Int)<=0 then _ else cK nv ns 0 0 0 T0 (oX nv ns []))=_;rw[if_neg (by decide)];have e:oX nv ns []=([],O0):=(by unfold oX;rfl);rw[e];unfold cK;rw[if_pos rfl];simp[NR]
    rw[this];exact .dO
  have fk:∀nv ns,s.k=4->qm H (oX nv ns (nh ys).aK).2:=λnv ns c4=>by
   unfold eu at hf;rw[if_neg (by omega),if_pos c4]at hf;split at hf;rename_i a b he;rw[BF (by omega),he]at lu;obtain⟨y,z,rfl,h1,h2,h3,h4⟩:=P4 lu;obtain⟨ks,t,r,g1,g2,g3,rfl⟩:=qF h1;exact JA ks nv ns (jM g2 λe _ y hy=>NW hH hG hR hV e y hy);cases hf
  rcases hh with⟨c5,b,W1,c,hb,hc,rfl⟩|⟨c6,b,hb,rfl⟩|⟨c5,c6,rfl,rfl⟩;rw[HC,if_neg (by omega),if_neg (by omega),if_pos c5];have g1:∀nv at_ ns,qm H (cB nv at_ ns b):=λnv at_ ns=>Fu b nv at_ ns λy hy=>by
   obtain⟨s',V',W',i1,i2,i3⟩:=uH hb h2 hy;exact vQ s' i1 V' y W' i2 i3
  have g2:∀nv at_ ns,qm H (cB nv at_ ns c):=λnv at_ ns=>Fu c nv at_ ns λy hy=>by
   obtain⟨s',V',W',i1,i2,i3⟩:=uH hc (Wx hb h2) hy;exact rO s' i1 V' y W' i2 i3
  exact(((f0 nv ns).dW (g1 _ _ _)).dW (g2 _ _ _)).of _;rw[HC,if_neg (by omega),if_neg (by omega),if_neg (by omega),if_pos c6];have g1:∀nv at_ ns,qm H (cB nv at_ ns b):=λnv at_ ns=>Fu b nv at_ ns λy hy=>by
   obtain⟨s',V',W',i1,i2,i3⟩:=uH hb h2 hy;exact vQ s' i1 V' y W' i2 i3
  exact((f0 nv ns).dW (g1 _ _ _)).of _;rw[HC];split;exact(f0 nv ns).dW .dO;split;rename_i c4;exact((fk nv ns c4).dW (f1 _ _)).dW .dO;split;split;exact .dO;exact(fe _ aa4 nv ns).dW .dO;split;exact(f0 nv ns).dW .dO;split;exact f0 nv ns;exact .nil
end sZ
namespace sZ
open Ax Go V7 jw jX
variable {H:Hd}{f:Nat}{bg:Bool}{res:T3}{V X:List Vd}
structure Hd.yO (H:Hd):Prop where
 ok:H.ok
 gd:Hd.gd H
 rt:Hd.rt H
 yes:∀s∈H.sigs,s.bg=true->MT H s.res
 no:∀s∈H.sigs,s.bg=false->s.res=T0
 bL:∀s∈H.bL,s.2.length<=8
 pn:∀s∈H.sigs,s.ps.length<=6
 nr:H.bL.length<=12
 ng:H.globals.length<=8
 nf:H.sigs.length<=16
structure LX (H:Hd)(f:Nat)(s:Sg)(ss:List Sd)(c:Cd):Prop where
 params:c.params=s.ps.length
 bg:c.bg=s.bg
 res:c.res=s.res
 pre:Fs s.ps c.vars
 vt:∀t∈c.vars,MT H t
 nv:c.vars.length<=4000
 FO:∀i∈c.is,vU H f s.bg s.res c.vars ss (c.is.length-1) i
 aem:∃i,c.is.getLast? = some i/\i.op=18
theorem LX.mB{s:Sg}{ss ts:List Sd}{c:Cd}(h:LX H f s ss c):LX H f s (ss++ts) c:=
 ⟨h.params,h.bg,h.res,h.pre,h.vt,h.nv,λi hi=>by
  have:=(h.FO i hi).mono (ws:=[]) (ts:=ts) (aaH _);simpa using this,h.aem⟩
theorem P7(V:List Vd)(l:List T3):Fs V (V.map (·.ty)++l):=λk v hk=>by
 apply pX;rw[abt,hk];rfl
theorem ai4(hF:Hd.yO H){s:Sg}(hs:s∈H.sigs):Mv H s.ps:=λv hv=>⟨(hF.ok.sigs s hs).2 v hv,hF.gd.ps s hs v hv,hF.rt.ps s hs v hv⟩
theorem aen{t:T3}(hm:MT H t)(hr:g9 t=false):t=tI\/t=tB:=by
 unfold g9 at hr;rw[Bool.or_eq_false_iff,decide_eq_false_iff_not,decide_eq_false_iff_not]at hr;obtain⟨h1,h2⟩:=hr;have h3:=hm.rt h1;have h4:=hm.wt.1;have h5:=hm.bt;obtain⟨b,r,d⟩:=t;simp only at h1 h2 h3 h4;obtain⟨h6,h7⟩:=h5;simp only at h6 h7;have hd:d=0:=by omega
 subst hd;subst h3;have:b=1\/b=2:=by omega
 rcases this with rfl|rfl;exact .inl rfl;exact .inr rfl
theorem Wy(hF:Hd.yO H){s:Sg}{fn:Fc}{l:List Sm}{W:List Vd}(hs:s∈H.sigs)(hc:mO H s.bg s.res s.ps fn.body=.ok (l,W))(a:Int)(f:Nat)(ss:List Sd)(hn:(fo ss.length s ⟨W,l,a⟩).vars.length<=4000) :
  LX H f s (ss++(jO ss.length ⟨W,l,a⟩).ss.map (Sd.mk f)) (fo ss.length s ⟨W,l,a⟩)/\qm H (jO ss.length ⟨W,l,a⟩):=by
 have hM:=ai4 hF hs;have hMW:=Wx hc hM;have hX:=(tH hc hM.gv).1;have sW:qm H (jO ss.length ⟨W,l,a⟩):=Fu l _ _ _ λy hy=>by
  obtain⟨s',V',W',i1,i2,i3⟩:=uH hc hM hy;exact ael hF.ok hF.gd hF.rt s' V' y W' i2 i3
 have bE:=Ft (f:=f) (X:=W) l (λy hy=>by
  obtain⟨s',V',W',i1,i2,i3,i4,i5⟩:=xM hc hM.gv hy;exact aei hF.ok hF.gd s' V' y W' i2 i3 i5) (W.map (·.ty)) ss 0 (by simpa using P7 W [])
 have e0:(W.map (·.ty)).length=W.length:=by simp
 rw[e0]at bE;refine⟨?_,sW⟩;have hb:jO ss.length ⟨W,l,a⟩=cB W.length 0 ss.length l:=rfl;rw[<-hb]at bE;unfold fo at hn ⊢;generalize jO ss.length ⟨W,l,a⟩=o at *;simp only at hn ⊢;have T1:∀ts,Fs s.ps (W.map (·.ty)++ts):=λts=>hX.pre (P7 W ts);cases hh:s.bg with
 |false=>
  rw[hh]at hn;simp only[Bool.false_eq_true,if_false,abO]at hn ⊢;refine⟨rfl,hh.symm,rfl,T1 _,λt ht=>?_,hn,λi hi=>?_,⟨18,-1,0,0,0,[]⟩,by simp[vV,hh],rfl⟩;rcases abI.1 ht with ht|ht;obtain⟨v,hv,rfl⟩:=aa5.1 ht;exact hMW v hv;exact sW.vs t ht;rcases abI.1 hi with hi|hi;have:=(bE.is i hi).mono (ws:=[]) (ts:=[]) (m':=(o.is++vV s (W.length+o.vs.length)).length-1) (by simp[vV,hh]);simpa using this;have:i=⟨18,-1,0,0,0,[]⟩:=by simpa [vV,hh] using hi
  subst this;exact .c18 (by rw[if_neg (by rw[hh];simp)])
 |true=>
  rw[hh]at hn;simp only[if_true]at hn ⊢;have hm:=hF.yes s hs hh;have lH:nT (W.map (·.ty)++o.vs++[s.res]) s.res ((W.length+o.vs.length:Nat):Int):=⟨W.length+o.vs.length,rfl,by rw[aaJ (by simp)];simp⟩;refine⟨rfl,hh.symm,rfl,by simpa using T1 (o.vs++[s.res]),λt ht=>?_,hn,λi hi=>?_,⟨18,((W.length+o.vs.length:Nat):Int),0,0,0,[]⟩,by simp[vV,hh],rfl⟩;rcases abI.1 ht with ht|ht;rcases abI.1 ht with ht|ht;obtain⟨v,hv,rfl⟩:=aa5.1 ht;exact hMW v hv;exact sW.vs t ht;rw[ady.1 ht];exact hm;rcases abI.1 hi with hi|hi;have:=(bE.is i hi).mono (ws:=[s.res]) (ts:=[]) (m':=(o.is++vV s (W.length+o.vs.length)).length-1) (by simp[vV,hh]);simpa using this;have:i=⟨if g9 s.res then 2 else 1,((W.length+o.vs.length:Nat):Int),0,0,0,[]⟩\/i=⟨18,((W.length+o.vs.length:Nat):Int),0,0,0,[]⟩:=by simpa [vV,hh] using hi
  rcases this with rfl|rfl;cases hr:g9 s.res with
  |true=>exact .c2 lH hr|false=>
   rcases aen hm hr with q|q;rw[q]at lH;have:(if (false:Bool)=true then (2:Int) else 1)=1:=rfl;rw[this,q];exact .c1 lH;rw[q]at lH;have:(if (false:Bool)=true then (2:Int) else 1)=1:=rfl;rw[this,q];exact .c1b lH (.inl rfl)
  exact .c18 (by rw[if_pos hh];exact lH)
structure Made (H:Hd)(cs:List Cd)(ss:List Sd)(all:Nat):Prop where
 code:∀(j:Nat) (c:Cd),cs[j]?=some c->∃s,H.sigs[j]?=some s/\LX H j s ss c
 RX:∀s∈ss,MT H s.ty/\g9 s.ty=true/\s.fn<cs.length
 ns:ss.length<=60
 sum:(cs.map (·.is.length)).sum=all
 few:all<=2500
theorem LY(hF:Hd.yO H):∀{sg:List Sg}{fs:List Fc}{bs:List Bd}{cs KZ:List Cd}{ss ss':List Sd}{all:Nat},sg.length=fs.length->ue H sg fs=.ok bs->H.sigs.drop cs.length=sg->Made H cs ss all->zP cs ss all sg bs=.ok (KZ,ss')->
  ∃anN,Made H KZ ss' anN/\KZ.length=H.sigs.length
 |[],fs,bs,cs,KZ,ss,ss',all,hl,hk,hd,hM,h=>by
  unfold ue at hk;cases hk;unfold zP at h;cases h;refine⟨all,hM,?_⟩;have h1:=ai5.1 hd;have h2:cs.length<=H.sigs.length:=by
   refine Nat.le_of_not_lt λq=>?_;have hc:cs.length-1<cs.length:=(by omega);obtain⟨s,hs,_⟩:=hM.code (cs.length-1) cs[cs.length-1] (aao hc);have:=(aab.1 hs).1;omega
  omega
 |_::_,[],_,_,_,_,_,_,hl,_,_,_,_=>by simp at hl|s::sg,fn::fs,bs,cs,KZ,ss,ss',all,hl,hk,hd,hM,h=>by
  unfold ue at hk;split at hk;cases hk;rename_i c W hc;split at hk;cases hk;rename_i bs' hbs;cases hk;have aQ:cs.length<H.sigs.length:=by
   refine Nat.lt_of_not_le λq=>?_;rw[ai5.2 q]at hd;cases hd
  have hsg:H.sigs[cs.length]?=some s:=by
   have:=congrArg (·[0]?) hd;simpa using this
  have pP:s∈H.sigs:=mem_of hsg;unfold zP at h;split at h;cases h;rename_i acQ;have q1:(fo ss.length s ⟨W,c,fn.a⟩).vars.length<=4000:=by omega
  obtain⟨g1,g2⟩:=Wy hF pP hc fn.a cs.length ss q1;refine LY hF (by simpa using hl) hbs ?_ ?_ h;rw[aa6,List.length_singleton,<-List.drop_drop,hd];rfl;refine⟨λj c' hj=>?_,λd hd=>?_,?_,?_,by omega⟩;by_cases kJ:j<cs.length;rw[aaE kJ]at hj;obtain⟨s',h1,h2⟩:=hM.code j c' hj;exact⟨s',h1,h2.mB⟩;rw[aaJ (by omega)]at hj;have hj0:j-cs.length=0:=by
   have:=(aab.1 hj).1;simp at this;omega
  rw[hj0]at hj;have YB:j=cs.length:=by omega
  simp only[ago,Option.some.injEq]at hj;subst hj;subst YB;exact⟨s,hsg,g1⟩;rcases abI.1 hd with hd|hd;obtain⟨a,b,c⟩:=hM.RX d hd;exact⟨a,b,by simp;omega⟩;obtain⟨t,ht,rfl⟩:=aa5.1 hd;obtain⟨a,b⟩:=g2.ss t ht;exact⟨a,b,by simp⟩;simp;omega;simp[hM.sum]
end sZ
namespace sZ
open Ax Go V7 jw jX
variable {H:Hd}{V:List Vd}{bg:Bool}{res:T3}
theorem Wz{k n:Int}{m:Nat}(h:iQ k n m=true):(k=5\/k=9\/k=10\/k=12\/k=13->m=1)/\(k=6\/14<=k->m=2)/\(0<k/\k<25):=by
 unfold iQ at h;split at h;rename_i c;exact⟨λq=>by omega,λq=>by omega,by omega⟩;split at h;rename_i c;exact⟨λq=>by omega,λq=>by omega,by omega⟩;split at h;rename_i c;exact⟨λq=>by omega,λq=>by omega,by omega⟩;split at h;rename_i c1 c2 c3 c;have hm:m=1:=by simpa using h
 exact⟨λ_=>hm,λq=>by omega,by omega⟩;rename_i c1 c2 c3 c;simp only[Ar,abP,decide_eq_true_eq]at h;exact⟨λq=>by omega,λq=>h.2,by omega⟩
theorem AK:∀{l:List Vd}{s:List UInt8}{i k:Nat}{t:T3},iw s i l=some (k,t)->k<i+l.length
 |[],_,_,_,_,h=>by cases h|f::l,s,i,k,t,h=>by
  unfold iw at h;split at h;cases h;simp;have:=AK h;simp only[abq];omega
theorem P8{s:List UInt8}{t:T3}{r:Int}(hg:H.globals.length<100000000)(h:rq H V s=some (t,r)) : -1000000000<r:=by
 unfold rq at h;split at h;cases h;omega;split at h;rename_i k t' hk;cases h;have:=AK hk;omega;cases h
theorem aeo(hG:Hd.gd H)(hg:H.globals.length<100000000)(hV:∀v∈V,BT v.ty)(e:E):∀y,uS H V e=.ok y->LE y:=by
 induction e using E.zY with
 |_ e ih=>
  intro y h;have hbt:=(Jt hG hV e y h).1;obtain⟨ks,t,r,h1,h2,h3,rfl⟩:=qF h;have hl:=nD h2;rw[<-hl]at h1;obtain⟨a,b,c⟩:=Wz h1;rw[Wn];refine⟨hbt,a,b,c,λk4=>?_,(tY _).2 (jM h2 ih)⟩;have k4:e.k=4:=k4;unfold mR at h3;rw[if_neg (by omega),if_neg (by omega),if_neg (by omega),if_pos k4]at h3;exact P8 hg h3
theorem aam{k:Int}{es ys:List E}{P:E->Prop}(h:yq H V k es=.ok ys)(hp:∀e∈es,∀y,uS H V e=.ok y->P y):∀y∈ys,P y:=by
 unfold yq at h;by_cases h9:k=9;rw[if_pos h9]at h;match es,h,hp with
 |[],h,_=>cases h;simp|e::l,h,hp=>
  cases hx:uS H V e with
  |error a=>simp only[hx]at h;cases h|ok y=>
   simp only[hx]at h;cases h;intro z hz;rw[ady.1 hz];exact hp e aa4 y hx
 rw[if_neg h9]at h;exact jM h hp
theorem AT:∀{l ys:List Sm}{V X:List Vd},(∀s∈l,∀V y W,yM H bg res V s=.ok (y,W)->Gv H V->LS y)->mO H bg res V l=.ok (ys,X)->Gv H V->LB ys
 |[],ys,V,X,_,h,_=>by
  unfold mO at h;cases h;simp[LB]
 |s::l,ys,V,X,hp,h,hV=>by
  obtain⟨y,W,zs,h1,h2,rfl⟩:=qk h;unfold LB;exact⟨hp s aa4 V y W h1 hV,AT (λt ht=>hp t (abg _ ht)) h2 (Jv s V y W h1 hV).2⟩
theorem WA{k:Int}{es:List E}(h:eu bg k es=true):(k=2\/k=3\/k=5\/k=6\/k=8\/k=9->es.length=1)/\(k=4->es.length=2/\((nh es).k=5\/(nh es).k=6)):=by
 unfold eu at h;split at h;exact⟨λq=>by omega,λq=>by omega⟩;split at h;rename_i c;refine⟨λq=>by omega,λ_=>?_⟩;match es,h with
 |[e,f],h=>exact⟨rfl,by simpa [nh] using h⟩
 split at h;exact⟨λq=>by omega,λq=>by omega⟩;split at h;refine⟨λ_=>?_,λq=>by omega⟩;match es,h with
 |[e],_=>rfl
 split at h;rename_i c1 c2 c3 c4 c;exact⟨λ_=>by simpa using h,λq=>absurd q c2⟩;cases h
theorem aep(hG:Hd.gd H)(hg:H.globals.length<100000000)(s:Sm):∀V y W,yM H bg res V s=.ok (y,W)->Gv H V->LS y:=by
 induction s using Sm.zY with
 |_ s vQ rO=>
  intro V y X h hV;obtain⟨t,ys,r,W,hf,ht,lu,bE,hh⟩:=xE h;have hW:=NU ht bE hV;have a1:LL ys:=(tY _).2 (aam lu λe _ y hy=>aeo hG hg (λv hv=>(hV v hv).2) e y hy);obtain⟨a2,a3⟩:=WA (V2 lu hf);have a4:s.k=2\/s.k=3→-1000000000<r:=λq=>by
   unfold nK at bE;rw[if_neg (by omega)]at bE;by_cases c2:s.k=2;rw[if_pos c2]at bE;split at bE;split at bE;cases bE;cases bE;omega;cases bE;rw[if_neg c2,if_pos (by omega)]at bE;split at bE;rename_i u r' hv;split at bE;cases bE;exact P8 hg hv;cases bE;cases bE
  rcases hh with⟨_,b,W1,c,hb,hc,rfl⟩|⟨_,b,hb,rfl⟩|⟨_,_,rfl,rfl⟩;rw[LU];exact⟨a1,a2,a3,a4,AT vQ hb hW,AT rO hc (tH hb hW).2⟩;rw[LU];exact⟨a1,a2,a3,a4,AT vQ hb hW,by simp[Sm.el,LB]⟩;rw[LU];exact⟨a1,a2,a3,a4,by simp[Sm.bd,LB],by simp[Sm.el,LB]⟩
theorem WB(hG:Hd.gd H)(hg:H.globals.length<100000000):∀{ss:List Sg}{fs:List Fc}{bs:List Bd},(∀s∈ss,Gv H s.ps)->ue H ss fs=.ok bs->∀b∈bs,LB b.code
 |[],fs,bs,_,h=>by unfold ue at h;cases h;simp|_::_,[],bs,_,h=>by unfold ue at h;cases h;simp|s::ss,f::fs,bs,hs,h=>by
  unfold ue at h;split at h;cases h;rename_i c W hb;split at h;cases h;rename_i l hl;cases h;intro b hbm;rcases abY.1 hbm with rfl|hbm;exact AT (λs _=>aep hG hg s) hb (hs s aa4);exact WB hG hg (λs h=>hs s (abg _ h)) hl b hbm
end sZ
namespace sZ
open Ax Go aF V7 jw jX K9 N7 U7
theorem vW{a b:Option Int}(h:PK a b=none):a=none/\b=none:=by
 cases a with
 |none=>exact⟨rfl,h⟩|some x=>cases h
theorem Cy{α:Type}{zg:List α->α->Option Int}{l:List α}:∀{m:Nat},dy zg l m=none->∀k (h:k<l.length),k<m->zg (l.take k) l[k]=none
 |0,_,k,_,hk=>absurd hk (by omega)|m+1,h,k,hl,hk=>by
  obtain⟨h1,h2⟩:=vW h;by_cases e:k=m;subst e;rw[aao hl]at h2;exact h2;exact Cy h1 k hl (by omega)
theorem BP{α:Type}{zg:List α->α->Option Int}{l:List α}(h:dy zg l l.length=none):∀x∈l,∃b,zg b x=none:=λx hx=>by
 obtain⟨k,hk,rfl⟩:=List.getElem_of_mem hx;exact⟨_,Cy h k hk hk⟩
theorem NX{rs:List (List UInt8)}{l:List PD}(h:dy (uB rs) l l.length=none):∀v∈nS rs l,BT v.ty/\RT v.ty:=by
 intro v hv;obtain⟨q,hq,rfl⟩:=aa5.1 hv;obtain⟨b,h1⟩:=BP h q hq;unfold uB at h1;split at h1;cases h1;rename_i c;simp only[abP,acg,not_or,Bool.not_eq_false]at c;exact⟨yA c.2,yB⟩
structure Few (p:Pg):Prop where
 r:p.aD.length<=12
 g:p.globals.length<=8
 f:p.funcs.length<=16
 fl:∀x∈p.aD,x.bM.length<=8
 ps:∀x∈p.funcs,x.params.length<=6
theorem P9{p:Pg}(h:jy (kO p)=none)(hf:Few p):Hd.yO (aW p):=by
 have KO:=PX p;have h3:pJ (kO p)=none:=by
  unfold jy at h;split at h;exact(vW h).1;exact h
 unfold pJ at h3;obtain⟨h4,hS⟩:=vW h3;obtain⟨h5,hP⟩:=vW h4;obtain⟨h6,Kd⟩:=vW h5;rw[AQ]at hS hP Kd;rw[rA]at hS;rw[Jj]at hP;rw[tG]at Kd;have hg:=NX hP;have hr:∀x∈p.aD,∀v∈nS (fO p) x.bM,BT v.ty/\RT v.ty:=λx hx=>by
  obtain⟨b,h1⟩:=BP Kd (LD x) (agH hx);unfold Fh at h1;rw[show (LD x).bM=aB 4 (x.bM.map PD.cells) from rfl,pW]at h1;exact NX h1
 have hs:∀x∈p.funcs,(∀v∈nS (fO p) x.params,BT v.ty/\RT v.ty)/\(x.bg=true->(cz (fO p) x.on x.od).2=true):=λx hx=>by
  obtain⟨b,h1⟩:=BP hS (C3 x) (agH hx);unfold C0 at h1;obtain⟨h2,h7⟩:=vW h1;have h8:=(vW h2).2;rw[show (C3 x).params=aB 4 (x.params.map PD.cells) from rfl,pW]at h8;refine⟨NX h8,λhh=>?_⟩;unfold Jf at h7;split at h7;cases h7;rename_i c;show (cz (fO p) (C3 x).on (C3 x).od).2=true;have hh':(C3 x).bg=true:=hh;rw[hh']at c;simpa using c
 have aeq:∀x∈p.funcs,(xC (fO p) x).bg=true->MT (aW p) (xC (fO p) x).res:=λx hx hh=>by
  have hh:x.bg=true:=hh;have e:(xC (fO p) x).res=(cz (fO p) x.on x.od).1:=by
   show (if x.bg then _ else T0)=_;rw[if_pos hh]
  rw[e];exact⟨oC _ _ _,yA ((hs x hx).2 hh),yB⟩
 have WD:∀x∈p.funcs,(xC (fO p) x).bg=false->(xC (fO p) x).res=T0:=λx hx hh=>by
  have hh:x.bg=false:=hh;show (if x.bg then _ else T0)=_;rw[hh];rfl
 refine⟨KO,⟨?_,?_,?_,?_⟩,⟨?_,?_,?_,?_⟩,?_,?_,?_,?_,?_,?_,?_⟩;intro s pP v hv;obtain⟨x,hx,rfl⟩:=aa5.1 pP;exact(hr x hx v hv).1;exact λv hv=>(hg v hv).1;intro s pP v hv;obtain⟨x,hx,rfl⟩:=aa5.1 pP;exact((hs x hx).1 v hv).1;intro s pP jJ;obtain⟨x,hx,rfl⟩:=aa5.1 pP;cases hh:(xC (fO p) x).bg with
 |true=>exact⟨(aeq x hx hh).bt,rfl⟩|false=>exact absurd (WD x hx hh) jJ
 intro s pP v hv;obtain⟨x,hx,rfl⟩:=aa5.1 pP;exact(hr x hx v hv).2;exact λv hv=>(hg v hv).2;intro s pP v hv;obtain⟨x,hx,rfl⟩:=aa5.1 pP;exact((hs x hx).1 v hv).2;intro s pP;obtain⟨x,hx,rfl⟩:=aa5.1 pP;cases hh:(xC (fO p) x).bg with
 |true=>exact(aeq x hx hh).rt|false=>rw[WD x hx hh];intro _;rfl
 intro s pP hh;obtain⟨x,hx,rfl⟩:=aa5.1 pP;exact aeq x hx hh;intro s pP hh;obtain⟨x,hx,rfl⟩:=aa5.1 pP;exact WD x hx hh;intro s pP;obtain⟨x,hx,rfl⟩:=aa5.1 pP;have:=hf.fl x hx;simpa [nS] using this;intro s pP;obtain⟨x,hx,rfl⟩:=aa5.1 pP;have:=hf.ps x hx;simpa [xC,nS] using this;have:=hf.r;simpa [aW] using this;have:=hf.g;simpa [aW,nS] using this;have:=hf.f;simpa [aW] using this
theorem aan{p:Pg}(h:jy (kO p)=none):∃k:Nat,me p=k/\∃s,(aW p).sigs[k]?=some s/\s.ps=[]/\s.bg=false:=by
 have hm:¬me p<0:=by
  intro q;unfold jy at h;unfold me at q;rw[if_pos q]at h;unfold PK at h;split at h<;>cases h
 unfold me at hm ⊢;rw[rA]at hm ⊢;unfold Cv at hm ⊢;split;rename_i k hk;obtain⟨h1,h2,_⟩:=List.findIdx?_eq_some_iff_getElem.1 hk;refine⟨k,rfl,?_⟩;rw[List.getElem_map]at h2;have cL:k<p.funcs.length:=by simpa using h1
 unfold fP at h2;rw[Ar,Ar,decide_eq_true_eq,decide_eq_true_eq]at h2;rw[show (C3 p.funcs[k]).params=aB 4 (p.funcs[k].params.map PD.cells) from rfl,pW]at h2;refine⟨xC (fO p) p.funcs[k],?_,?_,?_⟩;show (p.funcs.map (xC (fO p)))[k]?=_;rw[abt,aao cL];rfl;show nS (fO p) p.funcs[k].params=[];rw[h2.1.2];rfl;have:=h2.2;show p.funcs[k].bg=false;simpa [C3] using this;rename_i hk;rw[hk]at hm;exact absurd (by decide) hm
end sZ
namespace qG
open Ax Go aF V7 jw jX K9 S9 N7 U7
theorem LZ(s:List UInt8):∀f∈(oG s).1.funcs,Sm.eH f.body<=6001:=by
 unfold oG;split;rename_i hl;generalize htp:U2.Gi s=z;obtain⟨rows,e⟩:=z;cases e with
 |some e=>intro f hf;cases hf|none=>
  obtain⟨jZ,hlen⟩:=Ji htp;obtain⟨x,hx⟩:=xB (sI rows);simp only;rw[hx,Option.getD_some];have Bn:(sI rows).length=rows.length:=by simp[sI]
  intro f hf;have:=Rv hx f hf;omega
 intro f hf;cases hf
theorem aer(p:Pg)(hp:Pg.In 6000 p):∀s∈(aW p).sigs,s.ps.length<=7:=by
 intro s hs;obtain⟨f,hf,rfl⟩:=aa5.1 hs;have:=(hp.f.2 f hf).len;simpa [xC,nS] using this
structure WE (p:Pg):Prop where
 inn:Pg.In 6000 p
 GZ:∀f∈p.funcs,Sm.eH f.body<=12010
theorem Fv(s:List UInt8):WE (oG s).1:=⟨(Wg s).1,λf hf=>by have:=LZ s f hf;omega⟩
theorem Qa{p:Pg}(h:WE p):∀f∈p.funcs,f.params.length+Sm.eH f.body<1000000000:=λf hf=>by
 have:=h.GZ f hf;have:=(h.inn.f.2 f hf).len;omega
theorem NY{p:Pg}(h:WE p):∀bs,ue (aW p) (aW p).sigs p.funcs=.ok bs->∀b∈bs,Sm.eH b.code<=12010/\b.vars.length<=24020:=λbs hR b hb=>by
 have pO:=Hv hR h.GZ b hb;have DP:=Lt (n:=12010) (PX p) hR (λs hs=>((PX p).sigs s hs).2) (λs hs=>by have:=aer p h.inn s hs;omega) h.GZ b hb;omega
theorem HE{p:Pg}(h:WE p):∀bs,ue (aW p) (aW p).sigs p.funcs=.ok bs->∀b∈bs,Sm.eH b.code<100000000/\b.vars.length<100000000:=λbs hR b hb=>by
 have:=NY h bs hR b hb;omega
end qG
