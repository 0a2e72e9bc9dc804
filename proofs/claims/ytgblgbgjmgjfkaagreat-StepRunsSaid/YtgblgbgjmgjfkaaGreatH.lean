/-
  What codes do, in plain terms.
-/
import Derived.Test.YtgblgbgjmgjfkaaGreatI

namespace Mach
open Ax Go IrV
structure Fr where
 f:Nat
 at_:Int
 to:Int
 vs:List Int
structure Ms where
 inp:List Int
 s:List (List Int)
 g:List Int
 l:List Fr
 e:Int
 code:Int
 out:List Int
 steps:Nat
structure MP where
 codes:List CD
 cells:List Nat
 ng:Nat
def flagI(b:Bool):Int:=if b then 1 else 0
def binI(op a b:Int):Int×Int:=
 if op=14 then (IntKind.i64.wrap (a+b),0)
 else if op=15 then (IntKind.i64.wrap (a-b),0)
 else if op=16 then (IntKind.i64.wrap (a*b),0)
 else if op=17 then (if b=0 then (0,3) else (IntKind.i64.wrap (a.tdiv b),0))
 else if op=18 then (if b=0 then (0,3) else (a.tmod b,0))
 else if op=19 then (flagI (decide (a<b)),0)
 else if op=20 then (flagI (decide (a<=b)),0)
 else if op=21 then (flagI (decide (a=b)),0)
 else if op=22 then (flagI (decide (a≠b)),0)
 else if op=23 then (flagI (decide (a≠0)&&decide (b≠0)),0)
 else if op=24 then (flagI (decide (a≠0)||decide (b≠0)),0)
 else (0,0)
def unI(op a:Int):Int:=if op=12 then IntKind.i64.wrap (0-a) else if op=13 then flagI (decide (a=0)) else 0
def lenS(T:List (List Int))(r:Int):Int×Int:=if 1<=r/\r<=(T.length:Int) then (((T.getD (r-1).toNat []).length:Int),0) else (0,1)
def trapS(T:List (List Int))(r i:Int):Int:=if 1<=r/\r<=(T.length:Int) then (if 0<=i/\i<((T.getD (r-1).toNat []).length:Int) then 0 else 2) else 1
def loadS(T:List (List Int))(r i:Int):Int×Int:=if trapS T r i=0 then ((T.getD (r-1).toNat []).getD i.toNat 0,0) else (0,trapS T r i)
def putS(T:List (List Int))(r i x:Int):List (List Int):=if trapS T r i=0 then T.set (r-1).toNat ((T.getD (r-1).toNat []).set i.toNat x) else T
def clampN(n:Int):Nat:=if n<0 then 0 else if 8<n then 8 else n.toNat
def vAt(v:List Int)(n:Int):Int:=v.getD n.toNat 0
def trapM(m:Ms)(c:Int):Ms:=if c=0 then m else { m with e:=2,code:=c }
def setM(m:Ms)(n v:Int):Ms:=match m.l with
 |f::l=>{ m with l:={ f with vs:=f.vs.set n.toNat v }::l }
 |[]=>m
def gotM(m:Ms)(n:Int)(x:Int×Int):Ms:=if x.2=0 then setM m n x.1 else trapM m x.2
def jumpM(m:Ms)(n:Int):Ms:=match m.l with
 |f::l=>{ m with l:={ f with at_:=n }::l }
 |[]=>m
def C0:CD:=⟨0,.nilSl,false,T0,.nilSl⟩
def nvOf(X:MP)(c:Nat):Nat:=(dTs (X.codes.getD c C0).vars).length
def enterM(X:MP)(m:Ms)(c to:Int)(args:List Int):Ms:={ m with l:=⟨c.toNat,0,to,args++List.replicate (nvOf X c.toNat-args.length) 0⟩::m.l }
def leaveM(m:Ms)(v:Int):Ms:=match m.l with
 |f::g::l=>{ m with l:=(if 0<=f.to then { g with vs:=g.vs.set f.to.toNat v } else g)::l }
 |_=>{ m with l:=[],e:=1 }
def readM(m:Ms)(a:Int):Ms:=match m.inp with
 |[]=>trapM m 5
 |n::r=>setM { m with inp:=r } a n
def callM(X:MP)(m:Ms)(v:List Int)(i:ID):Ms:=if 40<=m.l.length then trapM m 6 else enterM X m i.c i.a ((dI i.args).map (vAt v))
def doI(X:MP)(m:Ms)(v:List Int)(i:ID):Ms:=
 if i.op=1 then setM m i.a i.n
 else if i.op=2 then setM m i.a 0
 else if i.op=3 then setM m i.a (vAt v i.b)
 else if i.op=4 then gotM m i.a (binI i.n (vAt v i.b) (vAt v i.c))
 else if i.op=5 then setM m i.a (unI i.n (vAt v i.b))
 else if i.op=6 then gotM m i.a (loadS m.s (vAt v i.b) i.c)
 else if i.op=7 then trapM { m with s:=putS m.s (vAt v i.a) i.c (vAt v i.b) } (trapS m.s (vAt v i.a) i.c)
 else if i.op=8 then gotM m i.a (loadS m.s (vAt v i.b) (vAt v i.c))
 else if i.op=9 then trapM { m with s:=putS m.s (vAt v i.a) (vAt v i.b) (vAt v i.c) } (trapS m.s (vAt v i.a) (vAt v i.b))
 else if i.op=10 then gotM m i.a (lenS m.s (vAt v i.b))
 else if i.op=11 then setM { m with s:=m.s++[List.replicate (clampN (X.cells.getD i.n.toNat 0:Nat)) 0] } i.a ((m.s.length:Int)+1)
 else if i.op=12 then (if vAt v i.b<0\/50<vAt v i.b then trapM m 4 else setM { m with s:=m.s++[List.replicate (vAt v i.b).toNat 0] } i.a ((m.s.length:Int)+1))
 else if i.op=13 then callM X m v i
 else if i.op=14 then readM m i.a
 else if i.op=15 then { m with out:=m.out++[vAt v i.a] }
 else if i.op=16 then jumpM m i.n
 else if i.op=17 then jumpM m (if vAt v i.a≠0 then i.n else i.c)
 else if i.op=18 then leaveM m (if i.a<0 then 0 else vAt v i.a)
 else if i.op=19 then setM m i.a (vAt m.g i.n)
 else if i.op=20 then { m with g:=m.g.set i.n.toNat (vAt v i.a) }
 else m
def I0:ID:=⟨0,0,0,0,0,.nilSl⟩
def insAt(X:MP)(f:Fr):ID:=(dNs (X.codes.getD f.f C0).ins).getD f.at_.toNat I0
def stepM(X:MP)(m:Ms):Ms:=match m.l with
 |f::l=>doI X { m with l:={ f with at_:=f.at_+1 }::l } f.vs (insAt X f)
 |[]=>m
def runM(X:MP):Nat->Ms->Ms
 |0,m=>if m.e=0 then { m with e:=3 } else m
 |n+1,m=>if m.e=0 then runM X n (stepM X { m with steps:=m.steps+1 }) else m
def m0(X:MP)(main:Nat)(inp:List Int):Ms:=⟨inp,[],List.replicate X.ng 0,[⟨main,0,-1,List.replicate (nvOf X main) 0⟩],0,0,[],0⟩
def inV(nv:Nat)(n:Int):Prop:=0<=n/\n<nv
structure Fit (X:MP)(nv ni:Nat)(i:ID):Prop where
 op:1<=i.op/\i.op<=20
 a:i.op≠13->i.op≠16->i.op≠18->inV nv i.a
 a2:i.op=13\/i.op=18->i.a = -1\/inV nv i.a
 b:i.op=3\/i.op=4\/i.op=5\/i.op=6\/i.op=7\/i.op=8\/i.op=9\/i.op=10\/i.op=12->inV nv i.b
 c:i.op=4\/i.op=8\/i.op=9->inV nv i.c
 site:i.op=11->0<=i.n/\i.n<X.cells.length
 glob:i.op=19\/i.op=20->0<=i.n/\i.n<X.ng
 jmp:i.op=16\/i.op=17->0<=i.n/\i.n<ni
 jmp2:i.op=17->0<=i.c/\i.c<ni
 call:i.op=13->0<=i.c/\i.c<X.codes.length/\(dI i.args).length<=nvOf X i.c.toNat/\∀n∈dI i.args,inV nv n
 bin:i.op=4->14<=i.n/\i.n<=24
 un:i.op=5->i.n=12\/i.n=13
def niOf(X:MP)(c:Nat):Nat:=(dNs (X.codes.getD c C0).ins).length
structure XOk (X:MP):Prop where
 fit:∀c,c<X.codes.length->∀k (h:k<(dNs (X.codes.getD c C0).ins).length),Fit X (nvOf X c) (niOf X c) (dNs (X.codes.getD c C0).ins)[k]/\
  ((dNs (X.codes.getD c C0).ins)[k].op≠16->(dNs (X.codes.getD c C0).ins)[k].op≠17->(dNs (X.codes.getD c C0).ins)[k].op≠18->k+1<niOf X c)
 ne:∀c,c<X.codes.length->0<niOf X c
structure FrOk (X:MP)(f:Fr):Prop where
 fo:f.f<X.codes.length
 ao:0<=f.at_/\f.at_<niOf X f.f
 vo:f.vs.length=nvOf X f.f
def FrsOk(X:MP):List Fr->Prop
 |[]=>True
 |[f]=>FrOk X f
 |f::g::l=>FrOk X f/\(f.to = -1\/inV (nvOf X g.f) f.to)/\FrsOk X (g::l)
structure MsOk (X:MP)(m:Ms):Prop where
 g:m.g.length=X.ng
 l:FrsOk X m.l
 e:m.e=0->m.l≠[]
 d:m.l.length<=40
 s:m.s.length<=m.steps
 o:m.out.length<=m.steps
theorem ins_get{X:MP}{f:Fr}(h:FrOk X f):∃k,∃hk:k<(dNs (X.codes.getD f.f C0).ins).length,f.at_=(k:Int)/\insAt X f=(dNs (X.codes.getD f.f C0).ins)[k]:=by
 obtain⟨h1,h2⟩:=h.ao
 refine⟨f.at_.toNat,by unfold niOf at h2;omega,by omega,?_⟩
 unfold insAt
 rw[List.getD_eq_getElem?_getD,List.getElem?_eq_getElem (by unfold niOf at h2;omega)]
 rfl
def topTo(X:MP)(to:Int):List Fr->Prop
 |[]=>True
 |g::l=>(to = -1\/inV (nvOf X g.f) to)/\FrsOk X (g::l)
theorem frs_cons{X:MP}{f:Fr}{l:List Fr}:FrsOk X (f::l)↔FrOk X f/\topTo X f.to l:=by
 cases l with
 |nil=>simp[FrsOk,topTo]
 |cons g l=>simp[FrsOk,topTo]
structure Mid (X:MP)(m:Ms)(f:Fr)(l:List Fr):Prop where
 ml:m.l=f::l
 fo:f.f<X.codes.length
 vo:f.vs.length=nvOf X f.f
 tl:topTo X f.to l
 g:m.g.length=X.ng
 d:m.l.length<=40
 s:m.s.length+1<=m.steps
 o:m.out.length+1<=m.steps
variable {X:MP}{m:Ms}{f:Fr}{l:List Fr}
theorem Mid.ok(h:Mid X m f l)(ha:0<=f.at_/\f.at_<niOf X f.f):MsOk X m:=
 ⟨h.g,by rw[h.ml,frs_cons];exact⟨⟨h.fo,ha,h.vo⟩,h.tl⟩,fun _=>by rw[h.ml];simp,h.d,by have:=h.s;omega,by have:=h.o;omega⟩
theorem Mid.set(h:Mid X m f l)(n v:Int):Mid X (setM m n v) { f with vs:=f.vs.set n.toNat v } l:=by
 have e:setM m n v={ m with l:={ f with vs:=f.vs.set n.toNat v }::l }:=by unfold setM;rw[h.ml]
 rw[e]
 exact⟨rfl,h.fo,by simp[h.vo],h.tl,h.g,by have:=h.d;rw[h.ml]at this;simpa using this,h.s,h.o⟩
theorem Mid.trap(h:Mid X m f l)(ha:0<=f.at_/\f.at_<niOf X f.f)(c:Int):MsOk X (trapM m c):=by
 unfold trapM
 split
 ·exact h.ok ha
 ·have:=h.ok ha
  exact⟨this.g,this.l,fun e=>by simp at e,this.d,this.s,this.o⟩
theorem Mid.got(h:Mid X m f l)(ha:0<=f.at_/\f.at_<niOf X f.f)(n:Int)(x:Int×Int):MsOk X (gotM m n x):=by
 unfold gotM
 split
 ·exact(h.set n x.1).ok ha
 ·exact h.trap ha x.2
theorem put_len{T:List (List Int)}{r i x:Int}:(putS T r i x).length=T.length:=by unfold putS;split<;>simp
theorem FrsOk.tail{f:Fr}(h:FrsOk X (f::l)):FrsOk X l:=by
 cases l with
 |nil=>trivial
 |cons g l=>exact h.2.2
theorem step_ok(hX:XOk X)(h:MsOk X m)(he:m.e=0):MsOk X (stepM X { m with steps:=m.steps+1 }):=by
 unfold stepM
 cases hl:m.l with
 |nil=>exact absurd hl (h.e he)
 |cons f l=>
  dsimp only
  have hfl:=h.l
  rw[hl,frs_cons]at hfl
  obtain⟨hf,ht⟩:=hfl
  obtain⟨k,hk,hka,hi⟩:=ins_get hf
  obtain⟨hfit,hnx⟩:=hX.fit f.f hf.fo k hk
  rw[<-hi]at hfit hnx
  generalize insAt X f=i at *
  have hd:=h.d
  rw[hl]at hd
  simp only[List.length_cons]at hd
  have hM:Mid X { m with steps:=m.steps+1,l:={ f with at_:=f.at_+1 }::l } { f with at_:=f.at_+1 } l:=
   ⟨rfl,hf.fo,hf.vo,ht,h.g,by simpa using hd,by have:=h.s;simp only;omega,by have:=h.o;simp only;omega⟩
  have ha:i.op≠16->i.op≠17->i.op≠18->0<=f.at_+1/\f.at_+1<niOf X f.f:=fun a b c=>by have:=hnx a b c;omega
  generalize hm:({ m with steps:=m.steps+1,l:={ f with at_:=f.at_+1 }::l }:Ms)=m1 at *
  have hml:m1.l={ f with at_:=f.at_+1 }::l:=hM.ml
  have hjmp:∀n:Int,0<=n/\n<niOf X f.f->MsOk X (jumpM m1 n):=fun n hn=>by
   have e:jumpM m1 n={ m1 with l:={ f with at_:=n }::l }:=by unfold jumpM;rw[hml]
   rw[e]
   exact⟨hM.g,by rw[frs_cons];exact⟨⟨hf.fo,hn,hf.vo⟩,ht⟩,fun _=>by simp,by simpa using hd,by have:=hM.s;simp only;omega,by have:=hM.o;simp only;omega⟩
  have hS:∀T:List (List Int),T.length<=m1.s.length+1->i.op≠16->i.op≠17->i.op≠18->∀n v,MsOk X (setM { m1 with s:=T } n v)/\MsOk X { m1 with s:=T }:=fun T hT a b c n v=>by
   have e:setM { m1 with s:=T } n v={ setM m1 n v with s:=T }:=by unfold setM;rw[hml]
   have h1:=(hM.set n v).ok (ha a b c)
   have h2:=hM.ok (ha a b c)
   have h3:=hM.s
   have h4:(setM m1 n v).steps=m1.steps:=by unfold setM;rw[hml]
   rw[e]
   exact⟨⟨h1.g,h1.l,h1.e,h1.d,by simp only[h4];omega,h1.o⟩,⟨h2.g,h2.l,h2.e,h2.d,by simp only;omega,h2.o⟩⟩
  have hP:∀(T:List (List Int)) (c:Int),T.length<=m1.s.length+1->i.op≠16->i.op≠17->i.op≠18->MsOk X (trapM { m1 with s:=T } c):=fun T c hT a b d=>by
   have:=(hS T hT a b d 0 0).2
   unfold trapM
   split
   ·exact this
   ·exact⟨this.g,this.l,fun e=>by simp at e,this.d,this.s,this.o⟩
  unfold doI
  by_cases h1:i.op=1
  ·rw[if_pos h1]
   exact(hM.set _ _).ok (ha (by omega) (by omega) (by omega))
  rw[if_neg h1]
  by_cases h2:i.op=2
  ·rw[if_pos h2]
   exact(hM.set _ _).ok (ha (by omega) (by omega) (by omega))
  rw[if_neg h2]
  by_cases h3:i.op=3
  ·rw[if_pos h3]
   exact(hM.set _ _).ok (ha (by omega) (by omega) (by omega))
  rw[if_neg h3]
  by_cases h4:i.op=4
  ·rw[if_pos h4]
   exact hM.got (ha (by omega) (by omega) (by omega)) _ _
  rw[if_neg h4]
  by_cases h5:i.op=5
  ·rw[if_pos h5]
   exact(hM.set _ _).ok (ha (by omega) (by omega) (by omega))
  rw[if_neg h5]
  by_cases h6:i.op=6
  ·rw[if_pos h6]
   exact hM.got (ha (by omega) (by omega) (by omega)) _ _
  rw[if_neg h6]
  by_cases h7:i.op=7
  ·rw[if_pos h7]
   exact hP _ _ (by rw[put_len];omega) (by omega) (by omega) (by omega)
  rw[if_neg h7]
  by_cases h8:i.op=8
  ·rw[if_pos h8]
   exact hM.got (ha (by omega) (by omega) (by omega)) _ _
  rw[if_neg h8]
  by_cases h9:i.op=9
  ·rw[if_pos h9]
   exact hP _ _ (by rw[put_len];omega) (by omega) (by omega) (by omega)
  rw[if_neg h9]
  by_cases h10:i.op=10
  ·rw[if_pos h10]
   exact hM.got (ha (by omega) (by omega) (by omega)) _ _
  rw[if_neg h10]
  by_cases h11:i.op=11
  ·rw[if_pos h11]
   exact(hS _ (by simp) (by omega) (by omega) (by omega) _ _).1
  rw[if_neg h11]
  by_cases h12:i.op=12
  ·rw[if_pos h12]
   split
   ·exact hM.trap (ha (by omega) (by omega) (by omega)) _
   ·exact(hS _ (by simp) (by omega) (by omega) (by omega) _ _).1
  rw[if_neg h12]
  by_cases h13:i.op=13
  ·rw[if_pos h13]
   obtain⟨c1,c2,c3,c4⟩:=hfit.call h13
   unfold callM
   split
   ·exact hM.trap (ha (by omega) (by omega) (by omega)) _
   ·rename_i hdp
    unfold enterM
    refine⟨hM.g,?_,fun _=>by simp,by simp only[List.length_cons];omega,by have:=hM.s;simp only;omega,by have:=hM.o;simp only;omega⟩
    simp only
    rw[frs_cons]
    refine⟨⟨by simp only;omega,⟨by simp,?_⟩,by simp;omega⟩,?_⟩
    ·have:=hX.ne i.c.toNat (by omega)
     simp only;omega
    ·rw[hml]
     refine⟨?_,?_⟩
     ·exact hfit.a2 (.inl h13)
     ·rw[frs_cons]
      exact⟨⟨hf.fo,ha (by omega) (by omega) (by omega),hf.vo⟩,ht⟩
  rw[if_neg h13]
  by_cases h14:i.op=14
  ·rw[if_pos h14]
   unfold readM
   split
   ·exact hM.trap (ha (by omega) (by omega) (by omega)) _
   ·rename_i n r hr
    have e:setM { m1 with inp:=r } i.a n={ setM m1 i.a n with inp:=r }:=by unfold setM;rw[hml]
    have h1:=(hM.set i.a n).ok (ha (by omega) (by omega) (by omega))
    rw[e]
    exact⟨h1.g,h1.l,h1.e,h1.d,h1.s,h1.o⟩
  rw[if_neg h14]
  by_cases h15:i.op=15
  ·rw[if_pos h15]
   have h1:=hM.ok (ha (by omega) (by omega) (by omega))
   exact⟨h1.g,h1.l,h1.e,h1.d,h1.s,by have:=hM.o;simp only[List.length_append,List.length_cons,List.length_nil];omega⟩
  rw[if_neg h15]
  by_cases h16:i.op=16
  ·rw[if_pos h16]
   exact hjmp _ (hfit.jmp (by omega))
  rw[if_neg h16]
  by_cases h17:i.op=17
  ·rw[if_pos h17]
   split
   ·exact hjmp _ (hfit.jmp (by omega))
   ·exact hjmp _ (hfit.jmp2 (by omega))
  rw[if_neg h17]
  by_cases h18:i.op=18
  ·rw[if_pos h18]
   unfold leaveM
   rw[hml]
   split
   ·rename_i f' g l' heq
    simp only[List.cons.injEq]at heq
    obtain⟨rfl,rfl⟩:=heq
    have hg:=ht.2
    rw[frs_cons]at hg
    refine⟨hM.g,?_,fun _=>by simp,by simp only[List.length_cons]at hd ⊢;omega,by have:=hM.s;simp only;omega,by have:=hM.o;simp only;omega⟩
    simp only
    split
    ·rw[frs_cons]
     exact⟨⟨hg.1.fo,hg.1.ao,by simp[hg.1.vo]⟩,hg.2⟩
    ·rw[frs_cons];exact hg
   ·exact⟨hM.g,trivial,fun e=>by simp at e,by simp,by have:=hM.s;simp only;omega,by have:=hM.o;simp only;omega⟩
  rw[if_neg h18]
  by_cases h19:i.op=19
  ·rw[if_pos h19]
   exact(hM.set _ _).ok (ha (by omega) (by omega) (by omega))
  rw[if_neg h19]
  by_cases h20:i.op=20
  ·rw[if_pos h20]
   have h1:=hM.ok (ha (by omega) (by omega) (by omega))
   exact⟨by simp[h1.g],h1.l,h1.e,h1.d,h1.s,h1.o⟩
  rw[if_neg h20]
  have:=hfit.op
  omega
theorem m0_ok(hX:XOk X){main:Nat}(hm:main<X.codes.length)(inp:List Int):MsOk X (m0 X main inp):=by
 refine⟨by simp[m0],?_,fun _=>by simp[m0],by simp[m0],by simp[m0],by simp[m0]⟩
 simp only[m0]
 rw[frs_cons]
 refine⟨⟨hm,⟨by simp,?_⟩,by simp⟩,trivial⟩
 have:=hX.ne main hm
 simp only;omega
end Mach
namespace Mach
open Ax Go IrV
variable {X:MP}{m:Ms}
def tick(m:Ms):Ms:={ m with steps:=m.steps+1 }
def runR(X:MP):Nat->Ms->Ms
 |0,m=>m
 |n+1,m=>if m.e=0 then runR X n (stepM X (tick m)) else m
def mark(m:Ms):Ms:=if m.e=0 then { m with e:=3 } else m
theorem run_mark:∀(n:Nat)(m:Ms),runM X n m=mark (runR X n m)
 |0,_=>rfl
 |n+1,m=>by
  unfold runM runR
  by_cases h:m.e=0
  ·rw[if_pos h,if_pos h];exact run_mark n _
  ·rw[if_neg h,if_neg h];unfold mark;rw[if_neg h]
theorem runR_end{m:Ms}(h:m.e≠0):∀n,runR X n m=m
 |0=>rfl
 |n+1=>by unfold runR;rw[if_neg h]
structure On (m m':Ms):Prop where
 st:m'.steps=m.steps
 out:∃l,m'.out=m.out++l
 e:m.e=0->m'.e=0\/m'.e=1\/m'.e=2
theorem On.rfl'(m:Ms):On m m:=⟨rfl,⟨[],by simp⟩,fun h=>.inl h⟩
theorem set_on(n v:Int):On m (setM m n v):=by unfold setM;split<;>exact⟨rfl,⟨[],by simp⟩,fun h=>.inl h⟩
theorem trap_on(c:Int):On m (trapM m c):=by
 unfold trapM
 split
 ·exact On.rfl' m
 ·exact⟨rfl,⟨[],by simp⟩,fun _=>.inr (.inr rfl)⟩
theorem got_on(n:Int)(x:Int×Int):On m (gotM m n x):=by
 unfold gotM
 split
 ·exact set_on _ _
 ·exact trap_on _
theorem jump_on(n:Int):On m (jumpM m n):=by unfold jumpM;split<;>exact⟨rfl,⟨[],by simp⟩,fun h=>.inl h⟩
theorem On.of{a b c:Ms}(h:On b c)(h1:b.steps=a.steps)(h2:b.out=a.out)(h3:b.e=a.e):On a c:=⟨by rw[h.st,h1],by rw[<-h2];exact h.out,fun e=>h.e (by rw[h3];exact e)⟩
theorem do_on(v:List Int)(i:ID):On m (doI X m v i):=by
 unfold doI
 by_cases h1:i.op=1
 ·rw[if_pos h1];exact set_on _ _
 rw[if_neg h1]
 by_cases h2:i.op=2
 ·rw[if_pos h2];exact set_on _ _
 rw[if_neg h2]
 by_cases h3:i.op=3
 ·rw[if_pos h3];exact set_on _ _
 rw[if_neg h3]
 by_cases h4:i.op=4
 ·rw[if_pos h4];exact got_on _ _
 rw[if_neg h4]
 by_cases h5:i.op=5
 ·rw[if_pos h5];exact set_on _ _
 rw[if_neg h5]
 by_cases h6:i.op=6
 ·rw[if_pos h6];exact got_on _ _
 rw[if_neg h6]
 by_cases h7:i.op=7
 ·rw[if_pos h7];exact(trap_on _).of rfl rfl rfl
 rw[if_neg h7]
 by_cases h8:i.op=8
 ·rw[if_pos h8];exact got_on _ _
 rw[if_neg h8]
 by_cases h9:i.op=9
 ·rw[if_pos h9];exact(trap_on _).of rfl rfl rfl
 rw[if_neg h9]
 by_cases h10:i.op=10
 ·rw[if_pos h10];exact got_on _ _
 rw[if_neg h10]
 by_cases h11:i.op=11
 ·rw[if_pos h11];exact(set_on _ _).of rfl rfl rfl
 rw[if_neg h11]
 by_cases h12:i.op=12
 ·rw[if_pos h12]
  split
  ·exact trap_on _
  ·exact(set_on _ _).of rfl rfl rfl
 rw[if_neg h12]
 by_cases h13:i.op=13
 ·rw[if_pos h13]
  unfold callM
  split
  ·exact trap_on _
  ·unfold enterM;exact⟨rfl,⟨[],by simp⟩,fun h=>.inl h⟩
 rw[if_neg h13]
 by_cases h14:i.op=14
 ·rw[if_pos h14]
  unfold readM
  split
  ·exact trap_on _
  ·exact(set_on _ _).of rfl rfl rfl
 rw[if_neg h14]
 by_cases h15:i.op=15
 ·rw[if_pos h15];exact⟨rfl,⟨_,rfl⟩,fun h=>.inl h⟩
 rw[if_neg h15]
 by_cases h16:i.op=16
 ·rw[if_pos h16];exact jump_on _
 rw[if_neg h16]
 by_cases h17:i.op=17
 ·rw[if_pos h17];exact jump_on _
 rw[if_neg h17]
 by_cases h18:i.op=18
 ·rw[if_pos h18]
  unfold leaveM
  split
  ·exact⟨rfl,⟨[],by simp⟩,fun h=>.inl h⟩
  ·exact⟨rfl,⟨[],by simp⟩,fun _=>.inr (.inl rfl)⟩
 rw[if_neg h18]
 by_cases h19:i.op=19
 ·rw[if_pos h19];exact set_on _ _
 rw[if_neg h19]
 by_cases h20:i.op=20
 ·rw[if_pos h20];exact⟨rfl,⟨[],by simp⟩,fun h=>.inl h⟩
 rw[if_neg h20]
 exact On.rfl' m
theorem step_on:On m (stepM X m):=by
 unfold stepM
 split
 ·exact(do_on _ _).of rfl rfl rfl
 ·exact On.rfl' m
theorem runR_on:∀(n:Nat)(m:Ms),m.e=0->(∃l,(runR X n m).out=m.out++l)/\m.steps<=(runR X n m).steps/\(runR X n m).steps<=m.steps+n/\((runR X n m).e=0\/(runR X n m).e=1\/(runR X n m).e=2)/\((runR X n m).e=0->(runR X n m).steps=m.steps+n)
 |0,m,h=>⟨⟨[],by simp[runR]⟩,Nat.le_refl _,Nat.le_refl _,.inl h,fun _=>rfl⟩
 |n+1,m,h=>by
  have e:runR X (n+1) m=runR X n (stepM X (tick m)):=by
   show (if m.e=0 then _ else _)=_
   rw[if_pos h]
  rw[e]
  have ho:On (tick m) (stepM X (tick m)):=step_on
  have h1:(tick m).steps=m.steps+1:=rfl
  have h2:(tick m).out=m.out:=rfl
  obtain⟨l1,hl1⟩:=ho.out
  rw[h2]at hl1
  have hs:=ho.st
  by_cases hz:(stepM X (tick m)).e=0
  ·obtain⟨⟨l2,a1⟩,a2,a3,a4,a5⟩:=runR_on n _ hz
   refine⟨⟨l1++l2,by rw[a1,hl1];simp⟩,by omega,by omega,a4,fun e=>by have:=a5 e;omega⟩
  ·rw[runR_end hz]
   exact⟨⟨l1,hl1⟩,by omega,by omega,ho.e h,fun e=>absurd e hz⟩
end Mach
