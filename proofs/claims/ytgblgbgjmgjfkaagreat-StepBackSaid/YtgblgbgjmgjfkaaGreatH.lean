/- Part of a proof. -/
import Derived.Test.YtgblgbgjmgjfkaaGreatF
import Derived.Test.YtgblgbgjmgjfkaaGreatJ

open List renaming length->Q
open Option renaming some->Z
open Bool renaming true->Y
open Decidable renaming decide->V
open List renaming replicate->aag,getD_eq_getElem?_getD->aay,getElem?_eq_getElem->aae,length_cons->aaK,map_map->ae5,getElem?_map->aaz,length_pos_iff->afr,length_map->adW,all_map->aii,all_eq_true->aam,mem_map->aap
open Option renaming map_some->afs
open Nat renaming le_refl->aal
open Int renaming toNat_natCast->abu
open Bool renaming and_eq_true->E6,or_eq_true->abh,and_true->af8
set_option maxHeartbeats 1000000
namespace gy
open Ax Go dW
structure Fr where
 f:Nat
 at_:Int
 to:Int
 vs:List Int
structure Ms where
 fB:List Int
 s:List (List Int)
 g:List Int
 l:List Fr
 e:Int
 code:Int
 out:List Int
 aL:Nat
structure MP where
 aJ:List CD
 cells:List Nat
 ng:Nat
def mG(b:Bool):Int:=if b then 1 else 0
def AT(op a b:Int):Int×Int:=
 if op=14 then (IntKind.i64.wrap (a+b),0)
 else if op=15 then (IntKind.i64.wrap (a-b),0)
 else if op=16 then (IntKind.i64.wrap (a*b),0)
 else if op=17 then (if b=0 then (0,3) else (IntKind.i64.wrap (a.tdiv b),0))
 else if op=18 then (if b=0 then (0,3) else (a.tmod b,0))
 else if op=19 then (mG (V (a<b)),0)
 else if op=20 then (mG (V (a<=b)),0)
 else if op=21 then (mG (V (a=b)),0)
 else if op=22 then (mG (V (a≠b)),0)
 else if op=23 then (mG (V (a≠0)&&V (b≠0)),0)
 else if op=24 then (mG (V (a≠0)||decide (b≠0)),0)
 else (0,0)
def unI(op a:Int):Int:=if op=12 then IntKind.i64.wrap (0-a) else if op=13 then mG (V (a=0)) else 0
def AU(T:List (List Int))(r:Int):Int×Int:=if 1<=r/\r<=(Q T:Int) then ((Q (T.getD (r-1).toNat []):Int),0) else (0,1)
def kU(T:List (List Int))(r i:Int):Int:=if 1<=r/\r<=(Q T:Int) then (if 0<=i/\i<(Q (T.getD (r-1).toNat []):Int) then 0 else 2) else 1
def lO(T:List (List Int))(r i:Int):Int×Int:=if kU T r i=0 then ((T.getD (r-1).toNat []).getD i.toNat 0,0) else (0,kU T r i)
def uF(T:List (List Int))(r i x:Int):List (List Int):=if kU T r i=0 then T.set (r-1).toNat ((T.getD (r-1).toNat []).set i.toNat x) else T
def lX(n:Int):Nat:=if n<0 then 0 else if 8<n then 8 else n.toNat
def eB(v:List Int)(n:Int):Int:=v.getD n.toNat 0
def gC(m:Ms)(c:Int):Ms:=if c=0 then m else { m with e:=2,code:=c }
def gO(m:Ms)(n v:Int):Ms:=match m.l with
 |f::l=>{ m with l:={ f with vs:=f.vs.set n.toNat v }::l }
 |[]=>m
def nB(m:Ms)(n:Int)(x:Int×Int):Ms:=if x.2=0 then gO m n x.1 else gC m x.2
def nu(m:Ms)(n:Int):Ms:=match m.l with
 |f::l=>{ m with l:={ f with at_:=n }::l }
 |[]=>m
def C0:CD:=⟨0,.aF,false,T0,.aF⟩
def nQ(X:MP)(c:Nat):Nat:=Q (cx (X.aJ.getD c C0).vars)
def qp(X:MP)(m:Ms)(c to:Int)(args:List Int):Ms:={ m with l:=⟨c.toNat,0,to,args++aag (nQ X c.toNat-Q args) 0⟩::m.l }
def gi(m:Ms)(v:Int):Ms:=match m.l with
 |f::g::l=>{ m with l:=(if 0<=f.to then { g with vs:=g.vs.set f.to.toNat v } else g)::l }
 |_=>{ m with l:=[],e:=1 }
def rD(m:Ms)(a:Int):Ms:=match m.fB with
 |[]=>gC m 5|n::r=>gO { m with fB:=r } a n
def uG(X:MP)(m:Ms)(v:List Int)(i:ID):Ms:=if 40<=Q m.l then gC m 6 else qp X m i.c i.a ((dI i.args).map (eB v))
def qt(X:MP)(m:Ms)(v:List Int)(i:ID):Ms:=
 if i.op=1 then gO m i.a i.n
 else if i.op=2 then gO m i.a 0
 else if i.op=3 then gO m i.a (eB v i.b)
 else if i.op=4 then nB m i.a (AT i.n (eB v i.b) (eB v i.c))
 else if i.op=5 then gO m i.a (unI i.n (eB v i.b))
 else if i.op=6 then nB m i.a (lO m.s (eB v i.b) i.c)
 else if i.op=7 then gC { m with s:=uF m.s (eB v i.a) i.c (eB v i.b) } (kU m.s (eB v i.a) i.c)
 else if i.op=8 then nB m i.a (lO m.s (eB v i.b) (eB v i.c))
 else if i.op=9 then gC { m with s:=uF m.s (eB v i.a) (eB v i.b) (eB v i.c) } (kU m.s (eB v i.a) (eB v i.b))
 else if i.op=10 then nB m i.a (AU m.s (eB v i.b))
 else if i.op=11 then gO { m with s:=m.s++[aag (lX (X.cells.getD i.n.toNat 0:Nat)) 0] } i.a ((Q m.s:Int)+1)
 else if i.op=12 then (if eB v i.b<0\/50<eB v i.b then gC m 4 else gO { m with s:=m.s++[aag (eB v i.b).toNat 0] } i.a ((Q m.s:Int)+1))
 else if i.op=13 then uG X m v i
 else if i.op=14 then rD m i.a
 else if i.op=15 then { m with out:=m.out++[eB v i.a] }
 else if i.op=16 then nu m i.n
 else if i.op=17 then nu m (if eB v i.a≠0 then i.n else i.c)
 else if i.op=18 then gi m (if i.a<0 then 0 else eB v i.a)
 else if i.op=19 then gO m i.a (eB m.g i.n)
 else if i.op=20 then { m with g:=m.g.set i.n.toNat (eB v i.a) }
 else m
def I0:ID:=⟨0,0,0,0,0,.aF⟩
def pF(X:MP)(f:Fr):ID:=(jo (X.aJ.getD f.f C0).fZ).getD f.at_.toNat I0
def lP(X:MP)(m:Ms):Ms:=match m.l with
 |f::l=>qt X { m with l:={ f with at_:=f.at_+1 }::l } f.vs (pF X f)|[]=>m
def oK(X:MP):Nat->Ms->Ms
 |0,m=>if m.e=0 then { m with e:=3 } else m
 |n+1,m=>if m.e=0 then oK X n (lP X { m with aL:=m.aL+1 }) else m
def m0(X:MP)(main:Nat)(fB:List Int):Ms:=⟨fB,[],aag X.ng 0,[⟨main,0,-1,aag (nQ X main) 0⟩],0,0,[],0⟩
def qf(g:Nat)(n:Int):Prop:=0<=n/\n<g
structure Fit (X:MP)(nv ni:Nat)(i:ID):Prop where
 op:1<=i.op/\i.op<=20
 a:i.op≠13->i.op≠16->i.op≠18->qf nv i.a
 a2:i.op=13\/i.op=18->i.a = -1\/qf nv i.a
 b:i.op=3\/i.op=4\/i.op=5\/i.op=6\/i.op=7\/i.op=8\/i.op=9\/i.op=10\/i.op=12->qf nv i.b
 c:i.op=4\/i.op=8\/i.op=9->qf nv i.c
 Sf:i.op=11->0<=i.n/\i.n<X.cells.length
 aiv:i.op=19\/i.op=20->0<=i.n/\i.n<X.ng
 jmp:i.op=16\/i.op=17->0<=i.n/\i.n<ni
 ayX:i.op=17->0<=i.c/\i.c<ni
 call:i.op=13->0<=i.c/\i.c<X.aJ.length/\(dI i.args).length<=nQ X i.c.toNat/\∀n∈dI i.args,qf nv n
 bin:i.op=4->14<=i.n/\i.n<=24
 un:i.op=5->i.n=12\/i.n=13
def F5(X:MP)(c:Nat):Nat:=Q (jo (X.aJ.getD c C0).fZ)
structure XOk (X:MP):Prop where
 zR:∀c,c<X.aJ.length->∀k (h:k<(jo (X.aJ.getD c C0).fZ).length),Fit X (nQ X c) (F5 X c) (jo (X.aJ.getD c C0).fZ)[k]/\
  ((jo (X.aJ.getD c C0).fZ)[k].op≠16->(jo (X.aJ.getD c C0).fZ)[k].op≠17->(jo (X.aJ.getD c C0).fZ)[k].op≠18->k+1<F5 X c)
 ne:∀c,c<X.aJ.length->0<F5 X c
structure aiw (X:MP)(f:Fr):Prop where
 fo:f.f<X.aJ.length
 ao:0<=f.at_/\f.at_<F5 X f.f
 vo:f.vs.length=nQ X f.f
def F6(X:MP):List Fr->Prop
 |[]=>True|[f]=>aiw X f|f::g::l=>aiw X f/\(f.to = -1\/qf (nQ X g.f) f.to)/\F6 X (g::l)
structure Ho (X:MP)(m:Ms):Prop where
 g:m.g.length=X.ng
 l:F6 X m.l
 e:m.e=0->m.l≠[]
 d:m.l.length<=40
 s:m.s.length<=m.aL
 o:m.out.length<=m.aL
theorem Xs{X f}(h:aiw X f):∃k,∃n:k<Q (jo _),f.at_=k/\pF X f=(jo (X.aJ.getD f.f C0).fZ)[k]:=by
 obtain⟨j,g⟩:=h.ao;refine⟨f.at_.toNat,by unfold F5 at g;omega,by omega,?_⟩;unfold pF;rw[aay,aae (by unfold F5 at g;omega)]
 rfl
def Xt(X:MP)(to:Int):List Fr->Prop
 |[]=>True|g::l=>(to = -1\/qf (nQ X g.f) to)/\F6 X (g::l)
theorem pG{X f l}:F6 X (f::l)↔aiw X f/\Xt X f.to l:=by
 cases l with
 |nil=>simp[F6,Xt]|cons g l=>simp[F6,Xt]
structure Mid (X:MP)(m:Ms)(f:Fr)(l:List Fr):Prop where
 ml:m.l=f::l
 fo:f.f<X.aJ.length
 vo:f.vs.length=nQ X f.f
 tl:Xt X f.to l
 g:m.g.length=X.ng
 d:m.l.length<=40
 s:m.s.length+1<=m.aL
 o:m.out.length+1<=m.aL
variable {X:MP}{m:Ms}{f:Fr}{l:List Fr}
theorem Mid.ok(h:Mid X m f l)(j:0<=f.at_/\f.at_<F5 X f.f):Ho X m:=
 ⟨h.g,by rw[h.ml,pG];exact⟨⟨h.fo,j,h.vo⟩,h.tl⟩,λ_=>by rw[h.ml];simp,h.d,by have:=h.s;omega,by have:=h.o;omega⟩
theorem Mid.set(h:Mid X m f l)(n v):Mid X (gO m n v) { f with vs:=f.vs.set n.toNat v } l:=by
 have e:gO m n v={ m with l:={ f with vs:=f.vs.set n.toNat v }::l }:=by unfold gO;rw[h.ml]
 rw[e];exact⟨rfl,h.fo,by simp[h.vo],h.tl,h.g,by have:=h.d;rw[h.ml]at this;simpa using this,h.s,h.o⟩
theorem Mid.Hp(h:Mid X m f l)(j:0<=f.at_/\f.at_<F5 X f.f)(c):Ho X (gC m c):=by
 unfold gC;split;exact h.ok j;have:=h.ok j;exact⟨this.g,this.l,λe=>by simp at e,this.d,this.s,this.o⟩
theorem Mid.got(h:Mid X m f l)(g:0<=f.at_/\f.at_<F5 X f.f)(n x):Ho X (nB m n x):=by
 unfold nB;split;exact(h.set n x.1).ok g;exact h.Hp g x.2
theorem Dk{T r i x}:Q (uF T r i x)=Q T:=by unfold uF;split<;>simp
theorem F6.tail{f}(h:F6 X (f::l)):F6 X l:=by
 cases l with
 |nil=>trivial|cons g l=>exact h.2.2
theorem oC(hX:XOk X)(h:Ho X m)(he:m.e=0):Ho X (lP X { m with aL:=m.aL+1 }):=by
 unfold lP;cases N:m.l with
 |nil=>exact bH N (h.e he)|cons f l=>
  dsimp only;have W:=h.l;rw[N,pG]at W;obtain⟨x,E⟩:=W;obtain⟨k,hk,hka,hi⟩:=Xs x;obtain⟨F,C⟩:=hX.zR f.f x.fo k hk;rw[<-hi]at F C;generalize pF X f=i at *;have B:=h.d;rw[N]at B;simp only[aaK]at B;have p:Mid X { m with aL:=m.aL+1,l:={ f with at_:=f.at_+1 }::l } { f with at_:=f.at_+1 } l:=
   ⟨rfl,x.fo,x.vo,E,h.g,by simpa using B,by have:=h.s;simp only;omega,by have:=h.o;simp only;omega⟩
  have q:i.op≠16->i.op≠17->i.op≠18->0<=f.at_+1/\f.at_+1<F5 X f.f:=λa b c=>by have:=C a b c;omega
  generalize hm:({ m with aL:=m.aL+1,l:={ f with at_:=f.at_+1 }::l }:Ms)=M at *;have J:M.l={ f with at_:=f.at_+1 }::l:=p.ml;have y:∀n:Int,0<=n/\n<F5 X f.f->Ho X (nu M n):=λn hn=>by
   have e:nu M n={ M with l:={ f with at_:=n }::l }:=(by unfold nu;rw[J]);rw[e];exact⟨p.g,by rw[pG];exact⟨⟨x.fo,hn,x.vo⟩,E⟩,λ_=>by simp,by simpa using B,by have:=p.s;simp only;omega,by have:=p.o;simp only;omega⟩
  have L:∀T:List (List Int),Q T<=Q M.s+1->i.op≠16->i.op≠17->i.op≠18->∀n v,Ho X (gO { M with s:=T } n v)/\Ho X { M with s:=T }:=λT hT a b c n v=>by
   have e:gO { M with s:=T } n v={ gO M n v with s:=T }:=(by unfold gO;rw[J]);have j:=(p.set n v).ok (q a b c);have w:=p.ok (q a b c);have I:=p.s;have D:(gO M n v).aL=M.aL:=(by unfold gO;rw[J]);rw[e];exact⟨⟨j.g,j.l,j.e,j.d,by simp only[D];omega,j.o⟩,⟨w.g,w.l,w.e,w.d,by simp only;omega,w.o⟩⟩
  have hP:∀(T:List (List Int)) (c:Int),Q T<=Q M.s+1->i.op≠16->i.op≠17->i.op≠18->Ho X (gC { M with s:=T } c):=λT c hT a b d=>by
   have:=(L T hT a b d 0 0).2;unfold gC;split;exact this;exact⟨this.g,this.l,λe=>by simp at e,this.d,this.s,this.o⟩
  unfold qt;by_cases j:i.op=1;rw[af j];exact(p.set _ _).ok (q (by omega) (by omega) (by omega));rw[U j];by_cases w:i.op=2;rw[af w];exact(p.set _ _).ok (q (by omega) (by omega) (by omega));rw[U w];by_cases I:i.op=3;rw[af I];exact(p.set _ _).ok (q (by omega) (by omega) (by omega));rw[U I];by_cases D:i.op=4;rw[af D];exact p.got (q (by omega) (by omega) (by omega)) _ _;rw[U D];by_cases h5:i.op=5;rw[af h5];exact(p.set _ _).ok (q (by omega) (by omega) (by omega));rw[U h5];by_cases h6:i.op=6;rw[af h6];exact p.got (q (by omega) (by omega) (by omega)) _ _;rw[U h6];by_cases h7:i.op=7;rw[af h7];exact hP _ _ (by rw[Dk];omega) (by omega) (by omega) (by omega);rw[U h7];by_cases h8:i.op=8;rw[af h8];exact p.got (q (by omega) (by omega) (by omega)) _ _;rw[U h8];by_cases h9:i.op=9;rw[af h9];exact hP _ _ (by rw[Dk];omega) (by omega) (by omega) (by omega);rw[U h9];by_cases O:i.op=10;rw[af O];exact p.got (q (by omega) (by omega) (by omega)) _ _;rw[U O];by_cases yh:i.op=11;rw[af yh];exact(L _ (by simp) (by omega) (by omega) (by omega) _ _).1;rw[U yh];by_cases sM:i.op=12;rw[af sM];split;exact p.Hp (q (by omega) (by omega) (by omega)) _;exact(L _ (by simp) (by omega) (by omega) (by omega) _ _).1;rw[U sM];by_cases G:i.op=13;rw[af G];obtain⟨c1,c2,c3,c4⟩:=F.call G;unfold uG;split;exact p.Hp (q (by omega) (by omega) (by omega)) _;rename_i hdp;unfold qp;refine⟨p.g,?_,λ_=>by simp,by simp only[aaK];omega,by have:=p.s;simp only;omega,by have:=p.o;simp only;omega⟩;simp only;rw[pG];refine⟨⟨by simp only;omega,⟨by simp,?_⟩,by simp;omega⟩,?_⟩;have:=hX.ne i.c.toNat (by omega);simp only;omega;rw[J];refine⟨?_,?_⟩;exact F.a2 (.inl G);rw[pG];exact⟨⟨x.fo,q (by omega) (by omega) (by omega),x.vo⟩,E⟩;rw[U G];by_cases R:i.op=14;rw[af R];unfold rD;split;exact p.Hp (q (by omega) (by omega) (by omega)) _;rename_i n r hr;have e:gO { M with fB:=r } i.a n={ gO M i.a n with fB:=r }:=by unfold gO;rw[J]
  have j:=(p.set i.a n).ok (q (by omega) (by omega) (by omega));rw[e];exact⟨j.g,j.l,j.e,j.d,j.s,j.o⟩;rw[U R];by_cases S:i.op=15;rw[af S];have j:=p.ok (q (by omega) (by omega) (by omega));exact⟨j.g,j.l,j.e,j.d,j.s,by have:=p.o;simp only[List.length_append,aaK,List.length_nil];omega⟩;rw[U S];by_cases yp:i.op=16;rw[af yp];exact y _ (F.jmp (by omega));rw[U yp];by_cases yq:i.op=17;rw[af yq];split;exact y _ (F.jmp (by omega));exact y _ (F.ayX (by omega));rw[U yq];by_cases P:i.op=18;rw[af P];unfold gi;rw[J];split;rename_i f' g l' heq;simp only[List.cons.injEq]at heq;obtain⟨rfl,rfl⟩:=heq;have z:=E.2;rw[pG]at z;refine⟨p.g,?_,λ_=>by simp,by simp only[aaK]at B ⊢;omega,by have:=p.s;simp only;omega,by have:=p.o;simp only;omega⟩;simp only;split;rw[pG];exact⟨⟨z.1.fo,z.1.ao,by simp[z.1.vo]⟩,z.2⟩;rw[pG];exact z;exact⟨p.g,trivial,λe=>by simp at e,by simp,by have:=p.s;simp only;omega,by have:=p.o;simp only;omega⟩;rw[U P];by_cases zy:i.op=19;rw[af zy];exact(p.set _ _).ok (q (by omega) (by omega) (by omega));rw[U zy];by_cases zM:i.op=20;rw[af zM];have j:=p.ok (q (by omega) (by omega) (by omega));exact⟨by simp[j.g],j.l,j.e,j.d,j.s,j.o⟩;rw[U zM];have:=F.op;omega
theorem aku(L:XOk X){main}(h:main<Q X.aJ)(fB):Ho X (m0 X main fB):=by
 refine⟨by simp[m0],?_,λ_=>by simp[m0],by simp[m0],by simp[m0],by simp[m0]⟩;simp only[m0];rw[pG];refine⟨⟨h,⟨by simp,?_⟩,by simp⟩,trivial⟩;have:=L.ne main h;simp only;omega
end gy
namespace gy
open Ax Go dW
variable {X:MP}{m:Ms}
def cj(m:Ms):Ms:={ m with aL:=m.aL+1 }
def mP(X:MP):Nat->Ms->Ms
 |0,m=>m|n+1,m=>if m.e=0 then mP X n (lP X (cj m)) else m
def mark(m:Ms):Ms:=if m.e=0 then { m with e:=3 } else m
theorem run_mark:∀n m,oK X n m=mark (mP X n m)
 |0,_=>rfl|n+1,m=>by
  unfold oK mP;by_cases h:m.e=0;rw[af h,af h];exact run_mark n _;simp_all [mark]
theorem uH{m}(h:m.e≠0):∀n,mP X n m=m
 |0=>rfl|n+1=>by unfold mP;grind
theorem jC(k):∀n m,mP X (n+k) m=mP X k (mP X n m)
 |0,m=>by rw[Nat.zero_add];rfl|n+1,m=>by
  rw[Nat.add_right_comm];by_cases h:m.e=0;show (if m.e=0 then mP X (n+k) (lP X (cj m)) else m)=mP X k (if m.e=0 then mP X n (lP X (cj m)) else m);rw[af h,af h];exact jC k n _;simp_all [uH]
structure On (m m':Ms):Prop where
 st:m'.aL=m.aL
 out:∃l,m'.out=m.out++l
 e:m.e=0->m'.e=0\/m'.e=1\/m'.e=2
theorem On.rfl'(m):On m m:=⟨rfl,⟨[],by simp⟩,λh=>.inl h⟩
theorem AW(n v):On m (gO m n v):=by unfold gO;split<;>exact⟨rfl,⟨[],by simp⟩,λh=>.inl h⟩
theorem Dl(c):On m (gC m c):=by
 unfold gC;split;exact On.rfl' m;exact⟨rfl,⟨[],by simp⟩,λ_=>.inr (.inr rfl)⟩
theorem PC(n x):On m (nB m n x):=by
 grind [nB,AW,Dl]
theorem Xu(n):On m (nu m n):=by unfold nu;split<;>exact⟨rfl,⟨[],by simp⟩,λh=>.inl h⟩
theorem On.of{a b c}(h:On b c)(g:b.aL=a.aL)(j:b.out=a.out)(k:b.e=a.e):On a c:=⟨by rw[h.st,g],by rw[<-j];exact h.out,λe=>h.e (by grind)⟩
theorem akv(v i):On m (qt X m v i):=by
 unfold qt;by_cases k:i.op=1;rw[af k];exact AW _ _;rw[U k];by_cases n:i.op=2;rw[af n];exact AW _ _;rw[U n];by_cases o:i.op=3;rw[af o];exact AW _ _;rw[U o];by_cases p:i.op=4;rw[af p];exact PC _ _;rw[U p];by_cases O:i.op=5;rw[af O];exact AW _ _;rw[U O];by_cases q:i.op=6;rw[af q];exact PC _ _;rw[U q];by_cases N:i.op=7;rw[af N];exact(Dl _).of rfl rfl rfl;rw[U N];by_cases r:i.op=8;rw[af r];exact PC _ _;rw[U r];by_cases w:i.op=9;rw[af w];exact(Dl _).of rfl rfl rfl;rw[U w];by_cases g:i.op=10;rw[af g];exact PC _ _;rw[U g];by_cases F:i.op=11;rw[af F];exact(AW _ _).of rfl rfl rfl;rw[U F];by_cases S:i.op=12;rw[af S];split;exact Dl _;exact(AW _ _).of rfl rfl rfl;rw[U S];by_cases D:i.op=13;rw[af D];unfold uG;split;exact Dl _;unfold qp;exact⟨rfl,⟨[],by simp⟩,λh=>.inl h⟩;rw[U D];by_cases j:i.op=14;rw[af j];unfold rD;split;exact Dl _;exact(AW _ _).of rfl rfl rfl;rw[U j];by_cases C:i.op=15;rw[af C];exact⟨rfl,⟨_,rfl⟩,λh=>.inl h⟩;rw[U C];by_cases y:i.op=16;rw[af y];exact Xu _;rw[U y];by_cases x:i.op=17;rw[af x];exact Xu _;rw[U x];by_cases B:i.op=18;rw[af B];unfold gi;split;exact⟨rfl,⟨[],by simp⟩,λh=>.inl h⟩;exact⟨rfl,⟨[],by simp⟩,λ_=>.inr (.inl rfl)⟩;rw[U B];by_cases E:i.op=19;rw[af E];exact AW _ _;rw[U E];by_cases z:i.op=20;rw[af z];exact⟨rfl,⟨[],by simp⟩,λh=>.inl h⟩;rw[U z];exact On.rfl' m
theorem Xv:On m (lP X m):=by
 unfold lP;split;exact(akv _ _).of rfl rfl rfl;exact On.rfl' m
theorem v7:∀n m,m.e=0->(∃l,(mP X n m).out=m.out++l)/\m.aL<=(mP X n m).aL/\(mP X n m).aL<=m.aL+n/\((mP X n m).e=0\/(mP X n m).e=1\/(mP X n m).e=2)/\((mP X n m).e=0->(mP X n m).aL=m.aL+n)
 |0,m,h=>⟨⟨[],by simp[mP]⟩,aal _,aal _,.inl h,λ_=>rfl⟩
 |n+1,m,h=>by
  have e:mP X (n+1) m=mP X n (lP X (cj m)):=by
   show (if m.e=0 then _ else _)=_
   grind
  rw[e];have z:On (cj m) (lP X (cj m)):=Xv;have r:(cj m).aL=m.aL+1:=rfl;have k:(cj m).out=m.out:=rfl;obtain⟨L,j⟩:=z.out;rw[k]at j;have v:=z.st;by_cases g:(lP X (cj m)).e=0;obtain⟨⟨w,o⟩,W,p,q,x⟩:=v7 n _ g
  grind
  rw[uH g];exact⟨⟨L,j⟩,by omega,by omega,z.e h,λe=>bH e g⟩
theorem SM(n k m)(h:m.e=0)(w:m.aL=0):
  ((oK X n m).e=3/\(oK X n m).aL=n/\n<=(oK X (n+k) m).aL/\∃l,(oK X (n+k) m).out=(oK X n m).out++l)\/
  ((oK X n m).e≠3/\oK X (n+k) m=oK X n m/\(oK X n m).aL<=n):=by
 rw[run_mark,run_mark,jC];obtain⟨_,_,o,p,x⟩:=v7 (X:=X) n m h;generalize mP X n m=r at *;by_cases j:r.e=0;left;obtain⟨⟨l,B⟩,v,_,M,_⟩:=v7 (X:=X) k r j;have g:∀q:Ms,(mark q).out=q.out/\(mark q).aL=q.aL:=λq=>by unfold mark;grind
 refine⟨by unfold mark;grind,by grind,by grind,l,by grind⟩;right;have g:mark r=r:=by unfold mark;grind
 rw[uH j,g]
 grind
end gy
namespace qR
open Ax Go V7 jb jn qA
def nR(i:In):dW.ID:=⟨i.op,i.a,i.b,i.c,i.n,tG i.args⟩
theorem Vb(l):dI (tG l)=l:=by
 grind [dI,tG,br,Ff]
end qR
namespace oI
open Ax Go V7 jb jn qA
def cv(t:T3):dW.T3:=⟨t.b,t.r,t.d⟩
def tsV(l:List T3):AV:=aN 3 (l.map T3.cells)
def ZU(l:List In):AV:=aN 6 (l.map In.aK)
def csV(l:List Cd):AV:=aN 7 (l.map Cd.aK)
def cn(l:List Sd):AV:=aN 4 (l.map Sd.aK)
def shV(l:List (List UInt8×List Vd)):AV:=aN 2 (l.map gh)
def sH(H:Hd)(main:Int)(cs:List Cd)(ss:List Sd):dW.XD:=⟨shV H.bN,tsV (H.ax.map (·.ty)),csV cs,cn ss,main⟩
theorem AX(l):dW.cx (tsV l)=l.map cv:=by
 unfold dW.cx tsV;rw[br,ae5];rfl
theorem F7(l):dW.jo (ZU l)=l.map qR.nR:=by
 unfold dW.jo ZU;rw[br,ae5];rfl
def iR(c:Cd):dW.CD:=⟨c.params,tsV c.vars,c.bY,cv c.res,ZU c.is⟩
theorem PI(l):dW.fm (csV l)=l.map iR:=by
 unfold dW.fm csV;rw[br,ae5];rfl
def an1(s:Sd):dW.SD:=⟨s.fn,cv s.ty⟩
theorem PJ(l):dW.lU (cn l)=l.map an1:=by
 unfold dW.lU cn;rw[br,ae5];rfl
theorem Jl(l):dW.vr (cM l)=l.map λv=>⟨v.nm,cv v.ty⟩:=by
 unfold dW.vr cM;rw[br,ae5];rfl
theorem Ls(l):dW.kZ (shV l)=l.map λs=>⟨s.1,cM s.2⟩:=by
 unfold dW.kZ shV;rw[br,ae5];rfl
variable {H:Hd}{vs:List T3}{t:T3}{a:Int}
theorem vu(h:sB vs t a):dW.jk (vs.map cv) a=cv t:=by
 obtain⟨k,rfl,g⟩:=h;unfold dW.jk;rw[dM,abu,aay,aaz,g];rfl
theorem aeA(h:BT t):cv t≠dW.T0:=by
 intro e;have:t.b=0:=congrArg dW.T3.b e;have:=h.1;omega
theorem pE(h:sB vs t a)(g:BT t):dW.ko (vs.map cv) (cv t) [a]=Y:=by
 unfold dW.ko;simp[vu h,aeA g]
theorem an2{b}(h:sB vs t a)(g:sB vs t b)(j:BT t):dW.ko (vs.map cv) (cv t) [a,b]=Y:=by
 unfold dW.ko;simp[vu h,vu g,aeA j]
theorem atk{b c}(h:sB vs t a)(g:sB vs t b)(j:sB vs t c)(k:BT t):dW.ko (vs.map cv) (cv t) [a,b,c]=Y:=by
 unfold dW.ko;simp[vu h,vu g,vu j,aeA k]
theorem bI:BT tI:=⟨by decide,by decide⟩
theorem bB:BT tB:=⟨by decide,by decide⟩
theorem aeB{m:∀t∈vs,MT H t}(h:sB vs t a):BT t:=by
 obtain⟨k,_,g⟩:=h;exact(m t (mem_of g)).bt
theorem pH{g}(l:List g)(k:Nat):iA.jq l k=l[k]?:=by
 unfold iA.jq;rw[dM,abu]
theorem dIt(i):dI (qR.nR i).args=i.args:=qR.Vb i.args
theorem Py{p q r s i}(g:p=Y\/i.a=0)(j:q=Y\/i.b=0)(k:r=Y\/i.c=0)(o:s=Y\/i.n=0)(O:i.op=13\/i.args=[]):iA.jX p q r s (qR.nR i)=Y:=by
 unfold iA.jX;rw[dIt];simp only[E6,abh,aC];exact⟨⟨⟨⟨g,j⟩,k⟩,o⟩,O.imp id λh=>by rw[h];rfl⟩
theorem jw{p q r s i}(e:iA.zD (qR.nR i)=iA.jX p q r s (qR.nR i))(h:p=Y\/i.a=0)(g:q=Y\/i.b=0)(j:r=Y\/i.c=0)(k:s=Y\/i.n=0)(O:i.op=13\/i.args=[]):iA.zD (qR.nR i)=Y:=e.trans (Py h g j k O)
theorem SN{m:∀t∈vs,MT H t}:∀{ps:List Vd}{l:List Int}{gs:List T3},AI vs ps l->Ii ps gs->(l.zip (gs.map cv)).all (λp=>dW.ko (vs.map cv) p.2 [p.1])=Y\/Q l > Q ps
 |[],[],gs,_,_=>.inl (by simp)|p::ps,a::l,gs,h,n=>by
  obtain⟨j,o⟩:=h;have B:=n 0 p rfl;match gs,B with
  |g::gs,B=>
   simp only[List.getElem?_cons_zero,bE]at B;subst B;rcases SN (m:=m) (gs:=gs) o (λk v r=>by have:=n (k+1) v (by simpa using r);simpa using this) with q|q;left;simp only[List.map_cons,List.zip_cons_cons,List.all_cons,q,af8];exact pE j (aeB (m:=m) j);right;simp;omega
 |[],_::_,_,h,_=>h.elim|_::_,[],_,h,_=>h.elim
theorem SO:∀{ps:List Vd}{l:List Int},AI vs ps l->Q l=Q ps
 |[],[],_=>rfl|_::_,_::_,h=>by simp[SO h.2]|[],_::_,h=>h.elim|_::_,[],h=>h.elim
theorem Xw{ps R}(h:Ii ps R):Q ps<=Q R:=by
 refine Nat.le_of_not_lt λq=>?_;have:=h (Q R) ps[Q R] (aae q);rw[List.getElem?_eq_none (aal _)]at this;cases this
theorem aeC{rs vars a r k v rd fd}(E:dW.jk vars a=⟨3,r,0⟩)(g:iA.jq rs r=Z rd)(h:iA.jq (dW.vr rd.cr) k=Z fd)(p:dW.ko vars fd.t [v]=Y):iA.IP rs vars a k v=Y:=by
 unfold iA.IP;rw[E];simp[g,h,p]
theorem an3{l vs i g}(E:iA.jq l i.c=Z g)(r:iA.ZK vs i g=Y):iA.IQ l vs i=Y:=by
 unfold iA.IQ;rw[E];exact r
variable {f:Nat}{s:Sg}{ss:List Sd}{c:Cd}{cs:List Cd}{main:Int}{i:In}
theorem Vc(_hF:Hd.DF H)(F:∀t∈c.vars,MT H t)(mT:∀(j:Nat) s,H.aZ[j]?=Z s->∃g,cs[j]?=Z g/\g.params=Q s.ps/\g.bY=s.bY/\g.res=s.res/\Ii s.ps g.vars)(hc:cs[f]?=Z c)(hs:c.bY=s.bY)(hr:c.res=s.res)(_hsm:s∈H.aZ)(iT:c.is≠[])(h:AH H f s.bY s.res c.vars ss (Q c.is-1) i):iA.yw (sH H main cs ss) f (qR.nR i)=Y:=by
 have hle:Q c.is-1<Q c.is:=by have:=afr.2 iT;omega
 unfold iA.yw;rw[show (sH H main cs ss).aJ=csV cs from rfl,PI,pH,aaz,hc];simp only[afs];rw[E6];have y:dW.cx (iR c).vars=c.vars.map cv:=AX c.vars;have hn:dW.jo (iR c).fZ=c.is.map qR.nR:=F7 c.is;have b:∀{t a},sB c.vars t a->BT t:=λh=>aeB (m:=F) h;have P:∀n:Nat,n<=Q c.is-1->iA.F3 (iR c) (n:Int)=Y:=λn hq=>by
  unfold iA.F3;rw[hn,E6,aC,aC,adW];omega
 have S:(qR.nR i).op ≥ 13->iA.sU (sH H main cs ss) (iR c) (qR.nR i)=Y->iA.iZ (sH H main cs ss) (f:Int) (iR c) (qR.nR i)=Y:=λDC hg=>by
  unfold iA.iZ;rw[ah,ah,ah,ah,ah,ah,ah,ah,ah,ah,ah,ah];exact hg
 cases h with
 |c1 o=>
  refine⟨jw (p:=Y) (q:=false) (r:=false) (s:=Y) rfl (.inl rfl) (.inr rfl) (.inr rfl) (.inl rfl) (.inr rfl),?_⟩;rename_i a n;show (dW.ko (dW.cx (iR c).vars) (cv tI) [a]||_)=Y;rw[y,pE o bI];rfl
 |c1b o w=>
  refine⟨jw (p:=Y) (q:=false) (r:=false) (s:=Y) rfl (.inl rfl) (.inr rfl) (.inr rfl) (.inl rfl) (.inr rfl),?_⟩;rename_i a n;show (_||dW.ko (dW.cx (iR c).vars) (cv tB) [a]&&(V (n=0)||decide (n=1)))=Y;rw[y,pE o bB,abh];right;simpa using w
 |c2 o w=>
  refine⟨jw (p:=Y) (q:=false) (r:=false) (s:=false) rfl (.inl rfl) (.inr rfl) (.inr rfl) (.inr rfl) (.inr rfl),?_⟩;rename_i a t;show iA.lS (dW.jk (dW.cx (iR c).vars) a)=Y;rw[y,vu o];exact w
 |c3 o w=>
  refine⟨jw (p:=Y) (q:=Y) (r:=false) (s:=false) rfl (.inl rfl) (.inl rfl) (.inr rfl) (.inr rfl) (.inr rfl),?_⟩;rename_i a B t;show dW.ko (dW.cx (iR c).vars) (dW.jk (dW.cx (iR c).vars) a) [B]=Y;rw[y,vu o];exact pE w (b w)
 |c4 o w x z O=>
  rename_i a B C k ta tb t r;refine⟨jw (p:=Y) (q:=Y) (r:=Y) (s:=Y) rfl (.inl rfl) (.inl rfl) (.inl rfl) (.inl rfl) (.inr rfl),?_⟩;show iA.pV (dW.cx (iR c).vars) (qR.nR ⟨4,a,B,C,k,[]⟩)=Y;rw[y];unfold iA.pV;unfold jn.pV at x;show (if k=14\/k=15\/k=16\/k=17\/k=18 then dW.ko _ (cv tI) [a,B,C] else if k=19\/k=20 then dW.ko _ (cv tB) [a]&&dW.ko _ (cv tI) [B,C] else if k=21\/k=22 then dW.ko _ (cv tB) [a]&&dW.ko _ (dW.jk _ B) [C] else if k=23\/k=24 then dW.ko _ (cv tB) [a,B,C] else false)=Y;by_cases I:k=14\/k=15\/k=16\/k=17\/k=18;rw[af I]at x ⊢;obtain⟨q1,rfl,_⟩:=dy x;rw[E6,aC,aC]at q1;obtain⟨rfl,rfl⟩:=q1;exact atk O o w bI;rw[U I]at x ⊢;by_cases J:k=19\/k=20;rw[af J]at x ⊢;obtain⟨q1,rfl,_⟩:=dy x;rw[E6,aC,aC]at q1;obtain⟨rfl,rfl⟩:=q1;rw[pE O bB,an2 o w bI];rfl;rw[U J]at x ⊢;by_cases L:k=21\/k=22;rw[af L]at x ⊢;obtain⟨q1,rfl,_⟩:=dy x;rw[aC]at q1;subst q1;rw[pE O bB,vu o,pE w (b w)];rfl;rw[U L]at x ⊢;rw[dM];obtain⟨q1,rfl,_⟩:=dy x;rw[E6,aC,aC]at q1;obtain⟨rfl,rfl⟩:=q1;exact atk O o w bB
 |c5i o w=>
  refine⟨jw (p:=Y) (q:=Y) (r:=false) (s:=Y) rfl (.inl rfl) (.inl rfl) (.inr rfl) (.inl rfl) (.inr rfl),?_⟩;rename_i a B;show (V ((12:Int)=12)&&dW.ko (dW.cx (iR c).vars) (cv tI) [a,B]||_)=Y;rw[y,an2 o w bI];rfl
 |c5b o w=>
  refine⟨jw (p:=Y) (q:=Y) (r:=false) (s:=Y) rfl (.inl rfl) (.inl rfl) (.inr rfl) (.inl rfl) (.inr rfl),?_⟩;rename_i a B;show (V ((13:Int)=12)&&dW.ko (dW.cx (iR c).vars) (cv tI) [a,B]||decide ((13:Int)=13)&&dW.ko (dW.cx (iR c).vars) (cv tB) [a,B])=Y;rw[y,an2 o w bB];rfl
 |c6 o w x z=>
  rename_i a B r j D v;refine⟨jw (p:=Y) (q:=Y) (r:=Y) (s:=false) rfl (.inl rfl) (.inl rfl) (.inl rfl) (.inr rfl) (.inr rfl),?_⟩;show iA.IP (dW.kZ (shV H.bN)) (dW.cx (iR c).vars) B j a=Y;rw[y,Ls];refine aeC (rd:=⟨D.1,cM D.2⟩) (fd:=⟨v.nm,cv v.ty⟩) (vu o) ?_ ?_ (pE z (b z));show iA.jq _ (r:Int)=_;rw[pH,aaz,w];rfl;show iA.jq (dW.vr (cM D.2)) (j:Int)=_;rw[Jl,pH,aaz,x];rfl
 |c7 o w x z=>
  rename_i a B r j D v;refine⟨jw (p:=Y) (q:=Y) (r:=Y) (s:=false) rfl (.inl rfl) (.inl rfl) (.inl rfl) (.inr rfl) (.inr rfl),?_⟩;show iA.IP (dW.kZ (shV H.bN)) (dW.cx (iR c).vars) a j B=Y;rw[y,Ls];refine aeC (rd:=⟨D.1,cM D.2⟩) (fd:=⟨v.nm,cv v.ty⟩) (vu o) ?_ ?_ (pE z (b z));show iA.jq _ (r:Int)=_;rw[pH,aaz,w];rfl;show iA.jq (dW.vr (cM D.2)) (j:Int)=_;rw[Jl,pH,aaz,x];rfl
 |c8 o w x z=>
  rename_i a B C t;refine⟨jw (p:=Y) (q:=Y) (r:=Y) (s:=false) rfl (.inl rfl) (.inl rfl) (.inl rfl) (.inr rfl) (.inr rfl),?_⟩;show (iA.F1 (dW.cx (iR c).vars) B a&&dW.ko (dW.cx (iR c).vars) (cv tI) [C])=Y;unfold iA.F1;rw[y,vu o,pE z bI];show (V (0<t.d)&&dW.ko _ (cv ⟨t.b,t.r,t.d-1⟩) [a]&&Y)=Y;rw[pE x (b x)];simpa using w
 |c9 o w x z=>
  rename_i a B C t;refine⟨jw (p:=Y) (q:=Y) (r:=Y) (s:=false) rfl (.inl rfl) (.inl rfl) (.inl rfl) (.inr rfl) (.inr rfl),?_⟩;show (iA.F1 (dW.cx (iR c).vars) a C&&dW.ko (dW.cx (iR c).vars) (cv tI) [B])=Y;unfold iA.F1;rw[y,vu o,pE z bI];show (V (0<t.d)&&dW.ko _ (cv ⟨t.b,t.r,t.d-1⟩) [C]&&Y)=Y;rw[pE x (b x)];simpa using w
 |D4 o w x=>
  rename_i a B t;refine⟨jw (p:=Y) (q:=Y) (r:=false) (s:=false) rfl (.inl rfl) (.inl rfl) (.inr rfl) (.inr rfl) (.inr rfl),?_⟩;show (dW.ko (dW.cx (iR c).vars) (cv tI) [a]&&V (0<(dW.jk (dW.cx (iR c).vars) B).d))=Y;rw[y,pE o bI,vu w];exact cH x
 |Mg o w x z=>
  rename_i a n t;refine⟨jw (p:=Y) (q:=false) (r:=false) (s:=Y) rfl (.inl rfl) (.inr rfl) (.inr rfl) (.inl rfl) (.inr rfl),?_⟩;show (V ((dW.jk (dW.cx (iR c).vars) a).b=3)&&V ((dW.jk (dW.cx (iR c).vars) a).d=0)&&iA.F2 (dW.lU (cn ss)) f (dW.cx (iR c).vars) n a)=Y;unfold iA.F2;rw[y,vu o,PJ,pH,aaz,z];simp only[afs];show (V (t.b=3)&&V (t.d=0)&&(V (((f:Nat):Int)=f)&&dW.ko _ (cv t) [a]))=Y;rw[w,x,pE o (b o)];simp
 |Ew o w x z=>
  rename_i a B n t;refine⟨jw (p:=Y) (q:=Y) (r:=false) (s:=Y) rfl (.inl rfl) (.inl rfl) (.inr rfl) (.inl rfl) (.inr rfl),?_⟩;show (V (0<(dW.jk (dW.cx (iR c).vars) a).d)&&iA.F2 (dW.lU (cn ss)) f (dW.cx (iR c).vars) n a&&dW.ko (dW.cx (iR c).vars) (cv tI) [B])=Y;unfold iA.F2;rw[y,vu o,PJ,pH,aaz,x,pE z bI];simp only[afs];show (V (0<t.d)&&(V (((f:Nat):Int)=f)&&dW.ko _ (cv t) [a])&&Y)=Y;rw[pE o (b o)];simpa using w
 |Gs o w x=>
  rename_i a j M l;refine⟨jw (p:=Y) (q:=false) (r:=Y) (s:=false) rfl (.inl rfl) (.inr rfl) (.inl rfl) (.inr rfl) (.inl rfl),S (by show (13:Int) ≥ 13;decide) ?_⟩;obtain⟨g,g1,g2,g3,g4,G⟩:=mT j M o;show iA.IQ (dW.fm (csV cs)) (dW.cx (iR c).vars) _=Y;refine an3 (g:=iR g) ?_ ?_;show iA.jq (dW.fm (csV cs)) (j:Int)=_;rw[PI,pH,aaz,g1];rfl;unfold iA.ZK;have W:dW.cx (iR g).vars=g.vars.map cv:=AX g.vars;have hl:=SO w;have hz:=(SN (m:=F) w G).resolve_right (by omega);have Qa:=Xw G;rw[y,W];have E:dI (qR.nR ⟨13,a,0,j,0,l⟩).args=l:=qR.Vb l;rw[E,hz];have R:((iR g).params:Int)=Q M.ps:=by show ((g.params:Nat):Int)=_;rw[g2]
  rw[R,adW];have T:(V (a = -1)||(iR g).bY&&dW.ko (c.vars.map cv) (iR g).res [a])=Y:=by
   rcases x with q|⟨q1,q2⟩;rw[q];rfl;rw[abh];right;show (g.bY&&dW.ko _ (cv g.res) [a])=Y;rw[g3,q1,g4,pE q2 (b q2)];rfl
  have e3:(qR.nR ⟨13,a,0,j,0,l⟩).a=a:=rfl;rw[e3,T];simp only[af8,E6,aC];exact⟨by omega,by omega⟩
 |c14 o=>
  refine⟨jw (p:=Y) (q:=false) (r:=false) (s:=false) rfl (.inl rfl) (.inr rfl) (.inr rfl) (.inr rfl) (.inr rfl),S (by show (14:Int) ≥ 13;decide) ?_⟩;rename_i a;show dW.ko (dW.cx (iR c).vars) (cv tI) [a]=Y;rw[y];exact pE o bI
 |c15 o=>
  refine⟨jw (p:=Y) (q:=false) (r:=false) (s:=false) rfl (.inl rfl) (.inr rfl) (.inr rfl) (.inr rfl) (.inr rfl),S (by show (15:Int) ≥ 13;decide) ?_⟩;rename_i a;show dW.ko (dW.cx (iR c).vars) (cv tI) [a]=Y;rw[y];exact pE o bI
 |c16 o=>
  refine⟨jw (p:=false) (q:=false) (r:=false) (s:=Y) rfl (.inr rfl) (.inr rfl) (.inr rfl) (.inl rfl) (.inr rfl),S (by show (16:Int) ≥ 13;decide) ?_⟩;rename_i n;show iA.F3 (iR c) (n:Int)=Y;exact P _ o
 |c17 o w x=>
  refine⟨jw (p:=Y) (q:=false) (r:=Y) (s:=Y) rfl (.inl rfl) (.inr rfl) (.inl rfl) (.inl rfl) (.inr rfl),S (by show (17:Int) ≥ 13;decide) ?_⟩;rename_i a n C;show (dW.ko (dW.cx (iR c).vars) (cv tB) [a]&&iA.F3 (iR c) (n:Int)&&iA.F3 (iR c) (C:Int))=Y;rw[y,pE o bB,P _ w,P _ x];rfl
 |c18 o=>
  refine⟨jw (p:=Y) (q:=false) (r:=false) (s:=false) rfl (.inl rfl) (.inr rfl) (.inr rfl) (.inr rfl) (.inr rfl),S (by show (18:Int) ≥ 13;decide) ?_⟩;rename_i a;show (if c.bY=Y then dW.ko (dW.cx (iR c).vars) (cv c.res) [a] else V (a = -1))=Y;rw[y,hs,hr];cases N:s.bY with
  |true=>
   rw[N]at o;rw[af rfl]at o ⊢;exact pE o (b o)
  |false=>
   rw[N]at o;rw[U (by simp)]at o ⊢;exact cH o
 |c19 o w=>
  rename_i a j v;refine⟨jw (p:=Y) (q:=false) (r:=false) (s:=Y) rfl (.inl rfl) (.inr rfl) (.inr rfl) (.inl rfl) (.inr rfl),S (by show (19:Int) ≥ 13;decide) ?_⟩;show iA.Lq (dW.cx (tsV (H.ax.map (·.ty)))) (dW.cx (iR c).vars) j a=Y;unfold iA.Lq;rw[y,AX,pH,ae5,aaz,o];simp only[afs];exact pE w (b w)
 |c20 o w=>
  rename_i a j v;refine⟨jw (p:=Y) (q:=false) (r:=false) (s:=Y) rfl (.inl rfl) (.inr rfl) (.inr rfl) (.inl rfl) (.inr rfl),S (by show (20:Int) ≥ 13;decide) ?_⟩;show iA.Lq (dW.cx (tsV (H.ax.map (·.ty)))) (dW.cx (iR c).vars) j a=Y;unfold iA.Lq;rw[y,AX,pH,ae5,aaz,o];simp only[afs];exact pE w (b w)
end oI
namespace oI
open Ax Go V7 jb jn qA
variable {H:Hd}{ss:List Sd}{cs:List Cd}{main:Int}{all:Nat}
theorem F8{t}(g:Hd.DF H)(h:MT H t):iA.oy (iA.nr (sH H main cs ss)) (cv t)=Y:=by
 have j:iA.nr (sH H main cs ss)=Q H.rs:=by
  show Q (dW.kZ (shV H.bN))=_;rw[Ls,adW,g.ok.rs]
 rw[j];obtain⟨⟨k,n,o⟩,⟨p,O⟩,C⟩:=h;unfold iA.oy;show (V (¬t.d<0)&&V (¬3<t.d)&&if t.b=1\/t.b=2 then V (t.r=0) else V (t.b=3)&&V (0<=t.r)&&V (t.r<Q H.rs))=Y
 grind
theorem Ve(n:Hd.DF H)(q:Made H cs ss all)(C:Q cs=Q H.aZ){j:Nat}{c}(r:cs[j]?=Z c):iA.D8 (sH H main cs ss) j (iR c)=Y:=by
 obtain⟨s,p,h⟩:=q.code j c r;have S:=mem_of p;have I:c.is≠[]:=by
  obtain⟨i,v,_⟩:=h.am4
  grind
 have M:∀(j:Nat) (s:Sg),H.aZ[j]?=Z s->∃g,cs[j]?=Z g/\g.params=Q s.ps/\g.bY=s.bY/\g.res=s.res/\Ii s.ps g.vars:=λj s p=>by
  have w:j<Q cs:=by grind
  obtain⟨G,o,k⟩:=q.code j cs[j] (aae w);rw[p]at o;cases o;exact⟨cs[j],aae w,k.params,k.bY,k.res,k.pre⟩
 have B:dW.cx (iR c).vars=c.vars.map cv:=AX c.vars;have x:dW.jo (iR c).fZ=c.is.map qR.nR:=F7 c.is;have F:=n.pn s S;have D:=Xw h.pre;have y:=h.nv;have L:=afr.2 I;unfold iA.D8;rw[B,x];simp only[E6,aC,adW];have E:(iR c).params=((Q s.ps:Nat):Int):=by show ((c.params:Nat):Int)=_;grind
 rw[E];refine⟨⟨⟨⟨⟨⟨⟨⟨by omega,by omega⟩,by omega⟩,by omega⟩,by omega⟩,?_⟩,?_⟩,?_⟩,?_⟩;rw[aii,aam];exact λt z=>F8 n (h.vt t z);show (if c.bY=Y then iA.oy _ (cv c.res) else iA.iV (cv c.res) ⟨0,0,0⟩)=Y;rw[h.bY,h.res];cases N:s.bY with
 |true=>rw[af rfl];exact F8 n (n.yes s S N)|false=>rw[U (by simp),n.no s S N];rfl
 rw[aii,aam];exact λi v=>Vc n h.vt M r h.bY h.res S I (h.zR i v);obtain⟨i,o,k⟩:=h.am4;unfold iA.Np;rw[List.getLast?_map,o];show (V (i.op=16)||decide (i.op=17)||decide (i.op=18))=Y;rw[k];rfl
theorem F9(h:Hd.DF H)(p:Made H cs ss all)(g:Q cs=Q H.aZ):∀l pre,cs=pre++l->iA.tM (sH H main cs ss) (l.map iR) (Q pre) ((pre.map (·.is.length)).sum:Nat)=Y
 |[],_,_=>rfl|c::l,pre,e=>by
  have j:cs[Q pre]?=Z c:=by grind
  have k:dW.jo (iR c).fZ=c.is.map qR.nR:=F7 c.is;have F:(pre.map (·.is.length)).sum+Q c.is<=2500:=by
   have n:=p.sum;have o:=p.few
   grind
  show (V (¬2500<(((pre.map (·.is.length)).sum:Nat):Int)+(Q (dW.jo (iR c).fZ):Int))&&iA.D8 _ (Q pre:Int) (iR c)&&iA.tM _ (l.map iR) ((Q pre:Int)+1) ((((pre.map (·.is.length)).sum:Nat):Int)+(Q (dW.jo (iR c).fZ):Int)))=Y;rw[k,adW,cH (by omega),Ve h p g j];have I:=F9 h p g l (pre++[c]) (by rw[e];simp)
  grind
theorem Vf(h:Hd.DF H)(o:Made H cs ss all)(z:Q cs=Q H.aZ){k:Nat}{s}(y:main=k)(x:H.aZ[k]?=Z s)(E:s.ps=[])(N:s.bY=false):iA.lW (sH H main cs ss)=Y:=by
 have M:=(List.getElem?_eq_some_iff.1 x).1;have L:k<Q cs:=by omega
 obtain⟨P,w,U⟩:=o.code k cs[k] (aae L);rw[x]at w;cases w;unfold iA.lW;have R:dW.kZ (sH H main cs ss).aR=H.bN.map λs=>⟨s.1,cM s.2⟩:=Ls _;have F:dW.cx (sH H main cs ss).ax=(H.ax.map (·.ty)).map cv:=AX _;have G:dW.fm (sH H main cs ss).aJ=cs.map iR:=PI _;have J:dW.lU (sH H main cs ss).aI=ss.map an1:=PJ _;have O:=h.nr;have B:=h.ng;have C:=h.nf;have D:=o.ns;rw[R,F,G,J];have I:iA.jq (cs.map iR) (sH H main cs ss).main=Z (iR cs[k]):=by
  show iA.jq (cs.map iR) main=_;rw[y,pH,aaz,aae L];rfl
 have j:(V ((iR cs[k]).params=0) && !(iR cs[k]).bY)=Y:=by
  show (V (((cs[k].params:Nat):Int)=0) && !cs[k].bY)=Y;rw[U.params,U.bY,E,N];rfl
 rw[I];simp only[E6,aC,adW]at j ⊢;refine⟨⟨⟨⟨⟨⟨⟨⟨⟨by omega,by omega⟩,?_⟩,by omega⟩,by omega⟩,j⟩,?_⟩,?_⟩,?_⟩,?_⟩;intro q;have:=congrArg List.length q
 grind
 rw[aii,aam];intro g n;show iA.AR _ ⟨g.1,cM g.2⟩=Y;unfold iA.AR;rw[Jl,adW,E6,aC];have:=h.bN g n;refine⟨by omega,?_⟩;rw[aii,aam];exact λv p=>F8 h ⟨h.ok.bN g n v p,h.gd.bN g n v p,h.rt.bN g n v p⟩;rw[aii,aii,aam];exact λv p=>F8 h ⟨h.ok.ax v p,h.gd.ax v p,h.rt.ax v p⟩;rw[aii,aam];intro S r;obtain⟨a,b,c⟩:=o.Sf S r;show (iA.oy _ (cv S.ty)&&iA.lS (cv S.ty)&&V (¬((S.fn:Nat):Int)<0)&&V (((S.fn:Nat):Int)<(Q cs:Nat)))=Y;rw[F8 h a,show iA.lS (cv S.ty)=Y from b,cH (by omega),cH (by omega)];rfl;have:=F9 (main:=main) h o z cs [] rfl;exact this
end oI
namespace oI
open Ax Go V7 jb jn qA
variable {H:Hd}{cs:List Cd}{ss:List Sd}{all:Nat}{main:Int}
theorem Dn{S p l}(h:∀r∈l,Q r=S)(k:∀r∈l,p r=Y):dW.ij S p (aN S l)=Y:=by
 unfold dW.ij;rw[br];have g:dW.cL (aN S l)=Y:=by cases l<;>rfl
 have j:cU S (aN S l)=Y:=by
  cases l with
  |nil=>rfl|cons a l=>simp only[YY,jz,beq_self_eq_true,Bool.true_and,cy,aam,cJ];exact h
 grind
theorem aeD{a}(h: -1000000<=a)(g:a<=1000000):dW.sQ a=Y:=by simp only[dW.sQ,E6,aC];omega
theorem Xx{t}(g:Q H.rs<=100)(h:MT H t):dW.sQ t.b=Y/\dW.sQ t.r=Y/\dW.sQ t.d=Y:=by
 obtain⟨⟨a,b,c⟩,⟨d,e⟩,f⟩:=h
 grind [aeD]
theorem akw(k:Q H.rs<=100){l}(h:∀t∈l,MT H t):dW.yJ (tsV l)=Y:=by
 refine Dn (λr g=>?_) λr g=>?_;obtain⟨t,j,rfl⟩:=aap.1 g;rfl;obtain⟨t,j,rfl⟩:=aap.1 g;obtain⟨a,b,c⟩:=Xx k (h t j);show (dW.sQ t.b&&dW.sQ t.r&&dW.sQ t.d)=Y
 grind
theorem atl(k:Q H.rs<=100){l}(h:∀v∈l,MT H v.ty):dW.UZ (cM l)=Y:=by
 refine Dn (λr g=>?_) λr g=>?_;obtain⟨t,j,rfl⟩:=aap.1 g;rfl;obtain⟨t,j,rfl⟩:=aap.1 g;obtain⟨a,b,c⟩:=Xx k (h t j);show (dW.sQ t.ty.b&&dW.sQ t.ty.r&&dW.sQ t.ty.d)=Y
 grind
theorem aix(l):mX (tG l)=Y/\dW.cL (tG l)=Y:=by
 refine⟨?_,by cases l<;>rfl⟩;unfold mX tG;rw[br];have:cU 1 (aN 1 (aT l))=Y:=by
  cases l with
  |nil=>rfl|cons a l=>simp[aT,cy]
 rw[this];simp[aT]
theorem atm(l):dW.IN (ZU l)=Y:=by
 refine Dn (λr h=>?_) λr h=>?_;obtain⟨t,g,rfl⟩:=aap.1 h;rfl;obtain⟨t,g,rfl⟩:=aap.1 h;obtain⟨a,b⟩:=aix t.args;show (dW.cL (tG t.args)&&mX (tG t.args))=Y
 grind
theorem aeE{j:Type}{l:List j}{x}(h:x∈l):∃k:Nat,l[k]?=Z x:=by
 obtain⟨k,g,rfl⟩:=List.getElem_of_mem h;exact⟨k,aae g⟩
theorem aeF(h:Hd.DF H)(q:Made H cs ss all)(C:Q cs=Q H.aZ):(sH H main cs ss).ok:=by
 have n:Q H.rs<=100:=by have:=h.ok.rs;have:=h.nr;omega
 have B:Q cs<=100:=by have:=h.nf;omega
 refine⟨?_,akw n λt o=>?_,?_,?_⟩;refine Dn (λr g=>?_) λr g=>?_;obtain⟨t,o,rfl⟩:=aap.1 g;rfl;obtain⟨s,j,rfl⟩:=aap.1 g;exact atl n λv p=>⟨h.ok.bN s j v p,h.gd.bN s j v p,h.rt.bN s j v p⟩;obtain⟨v,p,rfl⟩:=aap.1 o;exact⟨h.ok.ax v p,h.gd.ax v p,h.rt.ax v p⟩;refine Dn (λr g=>?_) λr g=>?_;obtain⟨t,o,rfl⟩:=aap.1 g;rfl;obtain⟨c,O,rfl⟩:=aap.1 g;obtain⟨k,y⟩:=aeE O;obtain⟨s,j,U⟩:=q.code k c y;have S:s∈H.aZ:=List.mem_of_getElem? j;have D:=h.pn s S;have w:dW.sQ c.res.b=Y/\dW.sQ c.res.r=Y/\dW.sQ c.res.d=Y:=by
  rw[U.res];cases N:s.bY with
  |true=>exact Xx n (h.yes s S N)|false=>rw[h.no s S N];exact⟨rfl,rfl,rfl⟩
 obtain⟨a,b,d⟩:=w;show (dW.sQ ((c.params:Nat):Int)&&dW.sQ c.res.b&&dW.sQ c.res.r&&dW.sQ c.res.d&&dW.yJ (tsV c.vars)&&dW.IN (ZU c.is))=Y;rw[a,b,d,akw n U.vt,atm,aeD (by omega) (by rw[U.params];omega)];rfl;refine Dn (λr g=>?_) λr g=>?_;obtain⟨t,o,rfl⟩:=aap.1 g;rfl;obtain⟨s,j,rfl⟩:=aap.1 g;obtain⟨x,_,z⟩:=q.Sf s j;obtain⟨a,b,d⟩:=Xx n x;show (dW.sQ ((s.fn:Nat):Int)&&dW.sQ s.ty.b&&dW.sQ s.ty.r&&dW.sQ s.ty.d)=Y
 grind [aeD]
theorem aeG:∀{l:List Cd}{c:Cd},c∈l->Q c.is<=(l.map (·.is.length)).sum
 |[],_,h=>by cases h|a::l,c,h=>by
  rcases List.mem_cons.1 h with rfl|h;simp;have:=aeG h;simp;omega
end oI
