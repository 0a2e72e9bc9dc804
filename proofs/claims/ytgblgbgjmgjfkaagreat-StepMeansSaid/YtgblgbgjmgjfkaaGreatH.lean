/- Part of a proof. -/
import Derived.Test.YtgblgbgjmgjfkaaGreatF
import Derived.Test.YtgblgbgjmgjfkaaGreatJ

open List renaming replicate->acp,getD_eq_getElem?_getD->aen,getElem?_eq_getElem->aas,length_cons->aeo,map_map->aeR,getElem?_map->aej,length_pos_iff->agV,length_map->aes,all_map->ajn,all_eq_true->ac3,mem_map->ad7
open Option renaming map_some->afo
open Nat renaming le_refl->acO
open Int renaming toNat_natCast->aeu
open Bool renaming and_eq_true->Ee,or_eq_true->aet,and_true->aiW
set_option maxHeartbeats 1000000
namespace iq
open Ax Go dh
structure Fr where
 f:Nat
 at_:Int
 to:Int
 vs:List Int
structure Ms where
 fm:List Int
 s:List (List Int)
 g:List Int
 l:List Fr
 e:Int
 code:Int
 out:List Int
 aK:Nat
structure MP where
 aR:List CD
 cells:List Nat
 ng:Nat
def lM(b:Bool):Int:=if b then 1 else 0
def zV(op a b:Int):Int×Int:=
 if op=14 then (IntKind.i64.wrap (a+b),0)
 else if op=15 then (IntKind.i64.wrap (a-b),0)
 else if op=16 then (IntKind.i64.wrap (a*b),0)
 else if op=17 then (if b=0 then (0,3) else (IntKind.i64.wrap (a.tdiv b),0))
 else if op=18 then (if b=0 then (0,3) else (a.tmod b,0))
 else if op=19 then (lM (decide (a<b)),0)
 else if op=20 then (lM (decide (a<=b)),0)
 else if op=21 then (lM (decide (a=b)),0)
 else if op=22 then (lM (decide (a≠b)),0)
 else if op=23 then (lM (decide (a≠0)&&decide (b≠0)),0)
 else if op=24 then (lM (decide (a≠0)||decide (b≠0)),0)
 else (0,0)
def Zs(op a:Int):Int:=if op=12 then IntKind.i64.wrap (0-a) else if op=13 then lM (decide (a=0)) else 0
def zW(T:List (List Int))(r:Int):Int×Int:=if 1<=r/\r<=(T.length:Int) then (((T.getD (r-1).toNat []).length:Int),0) else (0,1)
def ko(T:List (List Int))(r i:Int):Int:=if 1<=r/\r<=(T.length:Int) then (if 0<=i/\i<((T.getD (r-1).toNat []).length:Int) then 0 else 2) else 1
def kQ(T:List (List Int))(r i:Int):Int×Int:=if ko T r i=0 then ((T.getD (r-1).toNat []).getD i.toNat 0,0) else (0,ko T r i)
def tH(T:List (List Int))(r i x:Int):List (List Int):=if ko T r i=0 then T.set (r-1).toNat ((T.getD (r-1).toNat []).set i.toNat x) else T
def kU(n:Int):Nat:=if n<0 then 0 else if 8<n then 8 else n.toNat
def dQ(v:List Int)(n:Int):Int:=v.getD n.toNat 0
def fY(m:Ms)(c:Int):Ms:=if c=0 then m else { m with e:=2,code:=c }
def gj(m:Ms)(n v:Int):Ms:=match m.l with
 |f::l=>{ m with l:={ f with vs:=f.vs.set n.toNat v }::l }
 |[]=>m
def mG(m:Ms)(n:Int)(x:Int×Int):Ms:=if x.2=0 then gj m n x.1 else fY m x.2
def mB(m:Ms)(n:Int):Ms:=match m.l with
 |f::l=>{ m with l:={ f with at_:=n }::l }
 |[]=>m
def C0:CD:=⟨0,.aF,false,T0,.aF⟩
def nt(X:MP)(c:Nat):Nat:=(dn (X.aR.getD c C0).vars).length
def pE(X:MP)(m:Ms)(c to:Int)(args:List Int):Ms:={ m with l:=⟨c.toNat,0,to,args++acp (nt X c.toNat-args.length) 0⟩::m.l }
def fT(m:Ms)(v:Int):Ms:=match m.l with
 |f::g::l=>{ m with l:=(if 0<=f.to then { g with vs:=g.vs.set f.to.toNat v } else g)::l }
 |_=>{ m with l:=[],e:=1 }
def qC(m:Ms)(a:Int):Ms:=match m.fm with
 |[]=>fY m 5|n::r=>gj { m with fm:=r } a n
def tJ(X:MP)(m:Ms)(v:List Int)(i:ID):Ms:=if 40<=m.l.length then fY m 6 else pE X m i.c i.a ((dI i.args).map (dQ v))
def pF(X:MP)(m:Ms)(v:List Int)(i:ID):Ms:=
 if i.op=1 then gj m i.a i.n
 else if i.op=2 then gj m i.a 0
 else if i.op=3 then gj m i.a (dQ v i.b)
 else if i.op=4 then mG m i.a (zV i.n (dQ v i.b) (dQ v i.c))
 else if i.op=5 then gj m i.a (Zs i.n (dQ v i.b))
 else if i.op=6 then mG m i.a (kQ m.s (dQ v i.b) i.c)
 else if i.op=7 then fY { m with s:=tH m.s (dQ v i.a) i.c (dQ v i.b) } (ko m.s (dQ v i.a) i.c)
 else if i.op=8 then mG m i.a (kQ m.s (dQ v i.b) (dQ v i.c))
 else if i.op=9 then fY { m with s:=tH m.s (dQ v i.a) (dQ v i.b) (dQ v i.c) } (ko m.s (dQ v i.a) (dQ v i.b))
 else if i.op=10 then mG m i.a (zW m.s (dQ v i.b))
 else if i.op=11 then gj { m with s:=m.s++[acp (kU (X.cells.getD i.n.toNat 0:Nat)) 0] } i.a ((m.s.length:Int)+1)
 else if i.op=12 then (if dQ v i.b<0\/50<dQ v i.b then fY m 4 else gj { m with s:=m.s++[acp (dQ v i.b).toNat 0] } i.a ((m.s.length:Int)+1))
 else if i.op=13 then tJ X m v i
 else if i.op=14 then qC m i.a
 else if i.op=15 then { m with out:=m.out++[dQ v i.a] }
 else if i.op=16 then mB m i.n
 else if i.op=17 then mB m (if dQ v i.a≠0 then i.n else i.c)
 else if i.op=18 then fT m (if i.a<0 then 0 else dQ v i.a)
 else if i.op=19 then gj m i.a (dQ m.g i.n)
 else if i.op=20 then { m with g:=m.g.set i.n.toNat (dQ v i.a) }
 else m
def I0:ID:=⟨0,0,0,0,0,.aF⟩
def oy(X:MP)(f:Fr):ID:=(mF (X.aR.getD f.f C0).jr).getD f.at_.toNat I0
def kR(X:MP)(m:Ms):Ms:=match m.l with
 |f::l=>pF X { m with l:={ f with at_:=f.at_+1 }::l } f.vs (oy X f)|[]=>m
def pW(X:MP):Nat->Ms->Ms
 |0,m=>if m.e=0 then { m with e:=3 } else m
 |n+1,m=>if m.e=0 then pW X n (kR X { m with aK:=m.aK+1 }) else m
def m0(X:MP)(main:Nat)(fm:List Int):Ms:=⟨fm,[],acp X.ng 0,[⟨main,0,-1,acp (nt X main) 0⟩],0,0,[],0⟩
def pe(g:Nat)(n:Int):Prop:=0<=n/\n<g
structure Fit (X:MP)(nv ni:Nat)(i:ID):Prop where
 op:1<=i.op/\i.op<=20
 a:i.op≠13->i.op≠16->i.op≠18->pe nv i.a
 a2:i.op=13\/i.op=18->i.a = -1\/pe nv i.a
 b:i.op=3\/i.op=4\/i.op=5\/i.op=6\/i.op=7\/i.op=8\/i.op=9\/i.op=10\/i.op=12->pe nv i.b
 c:i.op=4\/i.op=8\/i.op=9->pe nv i.c
 Rb:i.op=11->0<=i.n/\i.n<X.cells.length
 aha:i.op=19\/i.op=20->0<=i.n/\i.n<X.ng
 jmp:i.op=16\/i.op=17->0<=i.n/\i.n<ni
 axh:i.op=17->0<=i.c/\i.c<ni
 call:i.op=13->0<=i.c/\i.c<X.aR.length/\(dI i.args).length<=nt X i.c.toNat/\∀n∈dI i.args,pe nv n
 bin:i.op=4->14<=i.n/\i.n<=24
 un:i.op=5->i.n=12\/i.n=13
def EX(X:MP)(c:Nat):Nat:=(mF (X.aR.getD c C0).jr).length
structure XOk (X:MP):Prop where
 yT:∀c,c<X.aR.length->∀k (h:k<(mF (X.aR.getD c C0).jr).length),Fit X (nt X c) (EX X c) (mF (X.aR.getD c C0).jr)[k]/\
  ((mF (X.aR.getD c C0).jr)[k].op≠16->(mF (X.aR.getD c C0).jr)[k].op≠17->(mF (X.aR.getD c C0).jr)[k].op≠18->k+1<EX X c)
 ne:∀c,c<X.aR.length->0<EX X c
structure ahb (X:MP)(f:Fr):Prop where
 fo:f.f<X.aR.length
 ao:0<=f.at_/\f.at_<EX X f.f
 vo:f.vs.length=nt X f.f
def EY(X:MP):List Fr->Prop
 |[]=>True|[f]=>ahb X f|f::g::l=>ahb X f/\(f.to = -1\/pe (nt X g.f) f.to)/\EY X (g::l)
structure KK (X:MP)(m:Ms):Prop where
 g:m.g.length=X.ng
 l:EY X m.l
 e:m.e=0->m.l≠[]
 d:m.l.length<=40
 s:m.s.length<=m.aK
 o:m.out.length<=m.aK
theorem Wn{X:MP}{f:Fr}(h:ahb X f):∃k,∃n:k<(mF (X.aR.getD f.f C0).jr).length,f.at_=(k:Int)/\oy X f=(mF (X.aR.getD f.f C0).jr)[k]:=by
 obtain⟨j,g⟩:=h.ao;refine⟨f.at_.toNat,by unfold EX at g;omega,by omega,?_⟩;unfold oy;rw[aen,aas (by unfold EX at g;omega)]
 rfl
def Wo(X:MP)(to:Int):List Fr->Prop
 |[]=>True|g::l=>(to = -1\/pe (nt X g.f) to)/\EY X (g::l)
theorem oz{X:MP}{f:Fr}{l:List Fr}:EY X (f::l)↔ahb X f/\Wo X f.to l:=by
 cases l with
 |nil=>simp[EY,Wo]|cons g l=>simp[EY,Wo]
structure Mid (X:MP)(m:Ms)(f:Fr)(l:List Fr):Prop where
 ml:m.l=f::l
 fo:f.f<X.aR.length
 vo:f.vs.length=nt X f.f
 tl:Wo X f.to l
 g:m.g.length=X.ng
 d:m.l.length<=40
 s:m.s.length+1<=m.aK
 o:m.out.length+1<=m.aK
variable {X:MP}{m:Ms}{f:Fr}{l:List Fr}
theorem Mid.ok(h:Mid X m f l)(j:0<=f.at_/\f.at_<EX X f.f):KK X m:=
 ⟨h.g,by rw[h.ml,oz];exact⟨⟨h.fo,j,h.vo⟩,h.tl⟩,λ_=>by rw[h.ml];simp,h.d,by have:=h.s;omega,by have:=h.o;omega⟩
theorem Mid.set(h:Mid X m f l)(n v:Int):Mid X (gj m n v) { f with vs:=f.vs.set n.toNat v } l:=by
 have e:gj m n v={ m with l:={ f with vs:=f.vs.set n.toNat v }::l }:=by unfold gj;rw[h.ml]
 rw[e];exact⟨rfl,h.fo,by simp[h.vo],h.tl,h.g,by have:=h.d;rw[h.ml]at this;simpa using this,h.s,h.o⟩
theorem Mid.Gh(h:Mid X m f l)(j:0<=f.at_/\f.at_<EX X f.f)(c:Int):KK X (fY m c):=by
 unfold fY;split;exact h.ok j;have:=h.ok j;exact⟨this.g,this.l,λe=>by simp at e,this.d,this.s,this.o⟩
theorem Mid.got(h:Mid X m f l)(g:0<=f.at_/\f.at_<EX X f.f)(n:Int)(x:Int×Int):KK X (mG m n x):=by
 unfold mG;split;exact(h.set n x.1).ok g;exact h.Gh g x.2
theorem Cs{T:List (List Int)}{r i x:Int}:(tH T r i x).length=T.length:=by unfold tH;split<;>simp
theorem EY.tail{f:Fr}(h:EY X (f::l)):EY X l:=by
 cases l with
 |nil=>trivial|cons g l=>exact h.2.2
theorem oL(hX:XOk X)(h:KK X m)(he:m.e=0):KK X (kR X { m with aK:=m.aK+1 }):=by
 unfold kR;cases K:m.l with
 |nil=>exact au K (h.e he)|cons f l=>
  dsimp only;have N:=h.l;rw[K,oz]at N;obtain⟨x,F⟩:=N;obtain⟨k,hk,hka,hi⟩:=Wn x;obtain⟨J,C⟩:=hX.yT f.f x.fo k hk;rw[<-hi]at J C;generalize oy X f=i at *;have B:=h.d;rw[K]at B;simp only[aeo]at B;have j:Mid X { m with aK:=m.aK+1,l:={ f with at_:=f.at_+1 }::l } { f with at_:=f.at_+1 } l:=
   ⟨rfl,x.fo,x.vo,F,h.g,by simpa using B,by have:=h.s;simp only;omega,by have:=h.o;simp only;omega⟩
  have q:i.op≠16->i.op≠17->i.op≠18->0<=f.at_+1/\f.at_+1<EX X f.f:=λa b c=>by have:=C a b c;omega
  generalize hm:({ m with aK:=m.aK+1,l:={ f with at_:=f.at_+1 }::l }:Ms)=M at *;have z:M.l={ f with at_:=f.at_+1 }::l:=j.ml;have y:∀n:Int,0<=n/\n<EX X f.f->KK X (mB M n):=λn hn=>by
   have e:mB M n={ M with l:={ f with at_:=n }::l }:=(by unfold mB;rw[z]);rw[e];exact⟨j.g,by rw[oz];exact⟨⟨x.fo,hn,x.vo⟩,F⟩,λ_=>by simp,by simpa using B,by have:=j.s;simp only;omega,by have:=j.o;simp only;omega⟩
  have I:∀T:List (List Int),T.length<=M.s.length+1->i.op≠16->i.op≠17->i.op≠18->∀n v,KK X (gj { M with s:=T } n v)/\KK X { M with s:=T }:=λT hT a b c n v=>by
   have e:gj { M with s:=T } n v={ gj M n v with s:=T }:=(by unfold gj;rw[z]);have p:=(j.set n v).ok (q a b c);have w:=j.ok (q a b c);have G:=j.s;have E:(gj M n v).aK=M.aK:=(by unfold gj;rw[z]);rw[e];exact⟨⟨p.g,p.l,p.e,p.d,by simp only[E];omega,p.o⟩,⟨w.g,w.l,w.e,w.d,by simp only;omega,w.o⟩⟩
  have hP:∀(T:List (List Int)) (c:Int),T.length<=M.s.length+1->i.op≠16->i.op≠17->i.op≠18->KK X (fY { M with s:=T } c):=λT c hT a b d=>by
   have:=(I T hT a b d 0 0).2;unfold fY;split;exact this;exact⟨this.g,this.l,λe=>by simp at e,this.d,this.s,this.o⟩
  unfold pF;by_cases p:i.op=1;rw[af p];exact(j.set _ _).ok (q (by omega) (by omega) (by omega));rw[U p];by_cases w:i.op=2;rw[af w];exact(j.set _ _).ok (q (by omega) (by omega) (by omega));rw[U w];by_cases G:i.op=3;rw[af G];exact(j.set _ _).ok (q (by omega) (by omega) (by omega));rw[U G];by_cases E:i.op=4;rw[af E];exact j.got (q (by omega) (by omega) (by omega)) _ _;rw[U E];by_cases h5:i.op=5;rw[af h5];exact(j.set _ _).ok (q (by omega) (by omega) (by omega));rw[U h5];by_cases h6:i.op=6;rw[af h6];exact j.got (q (by omega) (by omega) (by omega)) _ _;rw[U h6];by_cases h7:i.op=7;rw[af h7];exact hP _ _ (by rw[Cs];omega) (by omega) (by omega) (by omega);rw[U h7];by_cases h8:i.op=8;rw[af h8];exact j.got (q (by omega) (by omega) (by omega)) _ _;rw[U h8];by_cases h9:i.op=9;rw[af h9];exact hP _ _ (by rw[Cs];omega) (by omega) (by omega) (by omega);rw[U h9];by_cases Q:i.op=10;rw[af Q];exact j.got (q (by omega) (by omega) (by omega)) _ _;rw[U Q];by_cases L:i.op=11;rw[af L];exact(I _ (by simp) (by omega) (by omega) (by omega) _ _).1;rw[U L];by_cases tP:i.op=12;rw[af tP];split;exact j.Gh (q (by omega) (by omega) (by omega)) _;exact(I _ (by simp) (by omega) (by omega) (by omega) _ _).1;rw[U tP];by_cases D:i.op=13;rw[af D];obtain⟨c1,c2,c3,c4⟩:=J.call D;unfold tJ;split;exact j.Gh (q (by omega) (by omega) (by omega)) _;rename_i hdp;unfold pE;refine⟨j.g,?_,λ_=>by simp,by simp only[aeo];omega,by have:=j.s;simp only;omega,by have:=j.o;simp only;omega⟩;simp only;rw[oz];refine⟨⟨by simp only;omega,⟨by simp,?_⟩,by simp;omega⟩,?_⟩;have:=hX.ne i.c.toNat (by omega);simp only;omega;rw[z];refine⟨?_,?_⟩;exact J.a2 (.inl D);rw[oz];exact⟨⟨x.fo,q (by omega) (by omega) (by omega),x.vo⟩,F⟩;rw[U D];by_cases V:i.op=14;rw[af V];unfold qC;split;exact j.Gh (q (by omega) (by omega) (by omega)) _;rename_i n r hr;have e:gj { M with fm:=r } i.a n={ gj M i.a n with fm:=r }:=by unfold gj;rw[z]
  have p:=(j.set i.a n).ok (q (by omega) (by omega) (by omega));rw[e];exact⟨p.g,p.l,p.e,p.d,p.s,p.o⟩;rw[U V];by_cases R:i.op=15;rw[af R];have p:=j.ok (q (by omega) (by omega) (by omega));exact⟨p.g,p.l,p.e,p.d,p.s,by have:=j.o;simp only[List.length_append,aeo,List.length_nil];omega⟩;rw[U R];by_cases S:i.op=16;rw[af S];exact y _ (J.jmp (by omega));rw[U S];by_cases W:i.op=17;rw[af W];split;exact y _ (J.jmp (by omega));exact y _ (J.axh (by omega));rw[U W];by_cases P:i.op=18;rw[af P];unfold fT;rw[z];split;rename_i f' g l' heq;simp only[List.cons.injEq]at heq;obtain⟨rfl,rfl⟩:=heq;have O:=F.2;rw[oz]at O;refine⟨j.g,?_,λ_=>by simp,by simp only[aeo]at B ⊢;omega,by have:=j.s;simp only;omega,by have:=j.o;simp only;omega⟩;simp only;split;rw[oz];exact⟨⟨O.1.fo,O.1.ao,by simp[O.1.vo]⟩,O.2⟩;rw[oz];exact O;exact⟨j.g,trivial,λe=>by simp at e,by simp,by have:=j.s;simp only;omega,by have:=j.o;simp only;omega⟩;rw[U P];by_cases Y:i.op=19;rw[af Y];exact(j.set _ _).ok (q (by omega) (by omega) (by omega));rw[U Y];by_cases Z:i.op=20;rw[af Z];have p:=j.ok (q (by omega) (by omega) (by omega));exact⟨by simp[p.g],p.l,p.e,p.d,p.s,p.o⟩;rw[U Z];have:=J.op;omega
theorem arC(z:XOk X){main:Nat}(h:main<X.aR.length)(fm:List Int):KK X (m0 X main fm):=by
 refine⟨by simp[m0],?_,λ_=>by simp[m0],by simp[m0],by simp[m0],by simp[m0]⟩;simp only[m0];rw[oz];refine⟨⟨h,⟨by simp,?_⟩,by simp⟩,trivial⟩;have:=z.ne main h;simp only;omega
end iq
namespace iq
open Ax Go dh
variable {X:MP}{m:Ms}
def bV(m:Ms):Ms:={ m with aK:=m.aK+1 }
def nu(X:MP):Nat->Ms->Ms
 |0,m=>m|n+1,m=>if m.e=0 then nu X n (kR X (bV m)) else m
def mark(m:Ms):Ms:=if m.e=0 then { m with e:=3 } else m
theorem run_mark:∀(n:Nat)(m:Ms),pW X n m=mark (nu X n m)
 |0,_=>rfl|n+1,m=>by
  unfold pW nu;by_cases h:m.e=0;rw[af h,af h];exact run_mark n _;simp_all [mark]
theorem yP{m:Ms}(h:m.e≠0):∀n,nu X n m=m
 |0=>rfl|n+1=>by unfold nu;grind
theorem jZ(k:Nat):∀(n:Nat)(m:Ms),nu X (n+k) m=nu X k (nu X n m)
 |0,m=>by rw[Nat.zero_add];rfl|n+1,m=>by
  rw[Nat.add_right_comm];by_cases h:m.e=0;show (if m.e=0 then nu X (n+k) (kR X (bV m)) else m)=nu X k (if m.e=0 then nu X n (kR X (bV m)) else m);rw[af h,af h];exact jZ k n _;simp_all [yP]
structure On (m m':Ms):Prop where
 st:m'.aK=m.aK
 out:∃l,m'.out=m.out++l
 e:m.e=0->m'.e=0\/m'.e=1\/m'.e=2
theorem On.rfl'(m:Ms):On m m:=⟨rfl,⟨[],by simp⟩,λh=>.inl h⟩
theorem zX(n v:Int):On m (gj m n v):=by unfold gj;split<;>exact⟨rfl,⟨[],by simp⟩,λh=>.inl h⟩
theorem Ct(c:Int):On m (fY m c):=by
 unfold fY;split;exact On.rfl' m;exact⟨rfl,⟨[],by simp⟩,λ_=>.inr (.inr rfl)⟩
theorem OO(n:Int)(x:Int×Int):On m (mG m n x):=by
 grind [mG,zX,Ct]
theorem Wp(n:Int):On m (mB m n):=by unfold mB;split<;>exact⟨rfl,⟨[],by simp⟩,λh=>.inl h⟩
theorem On.of{a b c:Ms}(h:On b c)(g:b.aK=a.aK)(j:b.out=a.out)(k:b.e=a.e):On a c:=⟨by rw[h.st,g],by rw[<-j];exact h.out,λe=>h.e (by grind)⟩
theorem ai5(v:List Int)(i:ID):On m (pF X m v i):=by
 unfold pF;by_cases q:i.op=1;rw[af q];exact zX _ _;rw[U q];by_cases r:i.op=2;rw[af r];exact zX _ _;rw[U r];by_cases w:i.op=3;rw[af w];exact zX _ _;rw[U w];by_cases x:i.op=4;rw[af x];exact OO _ _;rw[U x];by_cases V:i.op=5;rw[af V];exact zX _ _;rw[U V];by_cases z:i.op=6;rw[af z];exact OO _ _;rw[U z];by_cases Y:i.op=7;rw[af Y];exact(Ct _).of rfl rfl rfl;rw[U Y];by_cases y:i.op=8;rw[af y];exact OO _ _;rw[U y];by_cases B:i.op=9;rw[af B];exact(Ct _).of rfl rfl rfl;rw[U B];by_cases D:i.op=10;rw[af D];exact OO _ _;rw[U D];by_cases g:i.op=11;rw[af g];exact(zX _ _).of rfl rfl rfl;rw[U g];by_cases T:i.op=12;rw[af T];split;exact Ct _;exact(zX _ _).of rfl rfl rfl;rw[U T];by_cases C:i.op=13;rw[af C];unfold tJ;split;exact Ct _;unfold pE;exact⟨rfl,⟨[],by simp⟩,λh=>.inl h⟩;rw[U C];by_cases o:i.op=14;rw[af o];unfold qC;split;exact Ct _;exact(zX _ _).of rfl rfl rfl;rw[U o];by_cases k:i.op=15;rw[af k];exact⟨rfl,⟨_,rfl⟩,λh=>.inl h⟩;rw[U k];by_cases n:i.op=16;rw[af n];exact Wp _;rw[U n];by_cases p:i.op=17;rw[af p];exact Wp _;rw[U p];by_cases j:i.op=18;rw[af j];unfold fT;split;exact⟨rfl,⟨[],by simp⟩,λh=>.inl h⟩;exact⟨rfl,⟨[],by simp⟩,λ_=>.inr (.inl rfl)⟩;rw[U j];by_cases F:i.op=19;rw[af F];exact zX _ _;rw[U F];by_cases G:i.op=20;rw[af G];exact⟨rfl,⟨[],by simp⟩,λh=>.inl h⟩;rw[U G];exact On.rfl' m
theorem Wq:On m (kR X m):=by
 unfold kR;split;exact(ai5 _ _).of rfl rfl rfl;exact On.rfl' m
theorem EZ:∀(n:Nat)(m:Ms),m.e=0->(∃l,(nu X n m).out=m.out++l)/\m.aK<=(nu X n m).aK/\(nu X n m).aK<=m.aK+n/\((nu X n m).e=0\/(nu X n m).e=1\/(nu X n m).e=2)/\((nu X n m).e=0->(nu X n m).aK=m.aK+n)
 |0,m,h=>⟨⟨[],by simp[nu]⟩,acO _,acO _,.inl h,λ_=>rfl⟩
 |n+1,m,h=>by
  have e:nu X (n+1) m=nu X n (kR X (bV m)):=by
   show (if m.e=0 then _ else _)=_
   grind
  rw[e];have z:On (bV m) (kR X (bV m)):=Wq;have q:(bV m).aK=m.aK+1:=rfl;have j:(bV m).out=m.out:=rfl;obtain⟨L,N⟩:=z.out;rw[j]at N;have r:=z.st;by_cases g:(kR X (bV m)).e=0;obtain⟨⟨v,k⟩,S,o,y,p⟩:=EZ n _ g
  grind
  rw[yP g];exact⟨⟨L,N⟩,by omega,by omega,z.e h,λe=>au e g⟩
theorem RG(n k:Nat)(m:Ms)(h:m.e=0)(w:m.aK=0) :
  ((pW X n m).e=3/\(pW X n m).aK=n/\n<=(pW X (n+k) m).aK/\∃l,(pW X (n+k) m).out=(pW X n m).out++l)\/
  ((pW X n m).e≠3/\pW X (n+k) m=pW X n m/\(pW X n m).aK<=n):=by
 rw[run_mark,run_mark,jZ];obtain⟨_,_,o,y,z⟩:=EZ (X:=X) n m h;generalize nu X n m=r at *;by_cases j:r.e=0;left;obtain⟨⟨l,B⟩,p,_,v,_⟩:=EZ (X:=X) k r j;have g:∀q:Ms,(mark q).out=q.out/\(mark q).aK=q.aK:=λq=>by unfold mark;grind
 refine⟨by unfold mark;grind,by grind,by grind,l,by grind⟩;right;have g:mark r=r:=by unfold mark;grind
 rw[yP j,g]
 grind
end iq
namespace qf
open Ax Go V7 iQ iZ qb
def mV(i:In):dh.ID:=⟨i.op,i.a,i.b,i.c,i.n,sB i.args⟩
theorem Um(l:List Int):dI (sB l)=l:=by
 grind [dI,sB,bn,Ek]
end qf
namespace oW
open Ax Go V7 iQ iZ qb
def cv(t:T3):dh.T3:=⟨t.b,t.r,t.d⟩
def Zt(l:List T3):AV:=aM 3 (l.map T3.cells)
def YU(l:List In):AV:=aM 6 (l.map In.aI)
def csV(l:List Cd):AV:=aM 7 (l.map Cd.aI)
def bZ(l:List Sd):AV:=aM 4 (l.map Sd.aI)
def shV(l:List (List UInt8×List Vd)):AV:=aM 2 (l.map fQ)
def sH(H:Hd)(main:Int)(cs:List Cd)(ss:List Sd):dh.XD:=⟨shV H.bJ,Zt (H.az.map (·.ty)),csV cs,bZ ss,main⟩
theorem zY(l:List T3):dh.dn (Zt l)=l.map cv:=by
 unfold dh.dn Zt;rw[bn,aeR];rfl
theorem E1(l:List In):dh.mF (YU l)=l.map qf.mV:=by
 unfold dh.mF YU;rw[bn,aeR];rfl
def iE(c:Cd):dh.CD:=⟨c.params,Zt c.vars,c.bR,cv c.res,YU c.is⟩
theorem OQ(l:List Cd):dh.iI (csV l)=l.map iE:=by
 unfold dh.iI csV;rw[bn,aeR];rfl
def amq(s:Sd):dh.SD:=⟨s.fn,cv s.ty⟩
theorem OR(l:List Sd):dh.ox (bZ l)=l.map amq:=by
 unfold dh.ox bZ;rw[bn,aeR];rfl
theorem It(l:List Vd):dh.AE (cG l)=l.map λv=>⟨v.nm,cv v.ty⟩:=by
 unfold dh.AE cG;rw[bn,aeR];rfl
theorem KL(l:List (List UInt8×List Vd)):dh.pD (shV l)=l.map λs=>⟨s.1,cG s.2⟩:=by
 unfold dh.pD shV;rw[bn,aeR];rfl
variable {H:Hd}{vs:List T3}{t:T3}{a:Int}
theorem uE(h:ry vs t a):dh.sZ (vs.map cv) a=cv t:=by
 obtain⟨k,rfl,j⟩:=h;unfold dh.sZ;rw[af (by omega),aeu,aen,aej,j];rfl
theorem adp(h:BT t):cv t≠dh.T0:=by
 intro e;have:t.b=0:=congrArg dh.T3.b e;have:=h.1;omega
theorem u6(h:ry vs t a)(g:BT t):dh.kA (vs.map cv) (cv t) [a]=true:=by
 unfold dh.kA;simp[uE h,adp g]
theorem amr{b:Int}(h:ry vs t a)(g:ry vs t b)(j:BT t):dh.kA (vs.map cv) (cv t) [a,b]=true:=by
 unfold dh.kA;simp[uE h,uE g,adp j]
theorem arD{b c:Int}(h:ry vs t a)(g:ry vs t b)(j:ry vs t c)(k:BT t):dh.kA (vs.map cv) (cv t) [a,b,c]=true:=by
 unfold dh.kA;simp[uE h,uE g,uE j,adp k]
theorem bI:BT tI:=⟨by decide,by decide⟩
theorem bB:BT tB:=⟨by decide,by decide⟩
theorem adq{m:∀t∈vs,MT H t}(h:ry vs t a):BT t:=by
 obtain⟨k,_,j⟩:=h;exact(m t (mem_of j)).bt
theorem oA{g:Type}(l:List g)(k:Nat):jc.pU l (k:Int)=l[k]?:=by
 unfold jc.pU;rw[af (by omega),aeu]
theorem dIt(i:In):dI (qf.mV i).args=i.args:=qf.Um i.args
theorem OM{p q r s:Bool}{i:In}(g:p=true\/i.a=0)(j:q=true\/i.b=0)(k:r=true\/i.c=0)(o:s=true\/i.n=0)(V:i.op=13\/i.args=[]):jc.jM p q r s (qf.mV i)=true:=by
 unfold jc.jM;rw[dIt];simp only[Ee,aet,aA];exact⟨⟨⟨⟨g,j⟩,k⟩,o⟩,V.imp id λh=>by rw[h];rfl⟩
theorem jd{p q r s:Bool}{i:In}(e:jc.EU (qf.mV i)=jc.jM p q r s (qf.mV i))(h:p=true\/i.a=0)(g:q=true\/i.b=0)(j:r=true\/i.c=0)(k:s=true\/i.n=0)(V:i.op=13\/i.args=[]):jc.EU (qf.mV i)=true:=e.trans (OM h g j k V)
theorem RH{m:∀t∈vs,MT H t}:∀{ps:List Vd}{l:List Int}{gs:List T3},zM vs ps l->Hi ps gs->(l.zip (gs.map cv)).all (λp=>dh.kA (vs.map cv) p.2 [p.1])=true\/l.length > ps.length
 |[],[],gs,_,_=>.inl (by simp)|p::ps,a::l,gs,h,n=>by
  obtain⟨j,o⟩:=h;have r:=n 0 p rfl;match gs,r with
  |g::gs,r=>
   simp only[List.getElem?_cons_zero,bw]at r;subst r;rcases RH (m:=m) (gs:=gs) o (λk v w=>by have:=n (k+1) v (by simpa using w);simpa using this) with q|q;left;simp only[List.map_cons,List.zip_cons_cons,List.all_cons,q,aiW];exact u6 j (adq (m:=m) j);right;simp;omega
 |[],_::_,_,h,_=>h.elim|_::_,[],_,h,_=>h.elim
theorem RI:∀{ps:List Vd}{l:List Int},zM vs ps l->l.length=ps.length
 |[],[],_=>rfl|_::_,_::_,h=>by simp[RI h.2]|[],_::_,h=>h.elim|_::_,[],h=>h.elim
theorem Ws{ps:List Vd}{U:List T3}(h:Hi ps U):ps.length<=U.length:=by
 refine Nat.le_of_not_lt λq=>?_;have:=h U.length ps[U.length] (aas q);rw[List.getElem?_eq_none (acO _)]at this;cases this
theorem adr{rs:List dh.RD}{vars:List dh.T3}{a r k v:Int}{rd:dh.RD}{fd:dh.FD}(E:dh.sZ vars a=⟨3,r,0⟩)(q:jc.pU rs r=some rd)(g:jc.pU (dh.AE rd.cF) k=some fd)(h:dh.kA vars fd.t [v]=true):jc.Ly rs vars a k v=true:=by
 unfold jc.Ly;rw[E];simp[q,g,h]
theorem ams{l:List dh.CD}{vs:List dh.T3}{i:dh.ID}{g:dh.CD}(E:jc.pU l i.c=some g)(q:jc.adh vs i g=true):jc.LA l vs i=true:=by
 unfold jc.LA;rw[E];exact q
variable {f:Nat}{s:Sg}{ss:List Sd}{c:Cd}{cs:List Cd}{main:Int}{i:In}
theorem Un(_hF:Hd.CQ H)(F:∀t∈c.vars,MT H t)(l8:∀(j:Nat)(s:Sg),H.aW[j]?=some s->∃g,cs[j]?=some g/\g.params=s.ps.length/\g.bR=s.bR/\g.res=s.res/\Hi s.ps g.vars)
  (hc:cs[f]?=some c)(hs:c.bR=s.bR)(hr:c.res=s.res)(_hsm:s∈H.aW)(iO:c.is≠[])(h:zK H f s.bR s.res c.vars ss (c.is.length-1) i):jc.Bx (sH H main cs ss) f (qf.mV i)=true:=by
 have hle:c.is.length-1<c.is.length:=by have:=agV.2 iO;omega
 unfold jc.Bx;rw[show (sH H main cs ss).aR=csV cs from rfl,OQ,oA,aej,hc];simp only[afo];rw[Ee];have y:dh.dn (iE c).vars=c.vars.map cv:=zY c.vars;have hn:dh.mF (iE c).jr=c.is.map qf.mV:=E1 c.is;have b:∀{t a},ry c.vars t a->BT t:=λh=>adq (m:=F) h;have P:∀n:Nat,n<=c.is.length-1->jc.Gg (iE c) (n:Int)=true:=λn hq=>by
  unfold jc.Gg;rw[hn,Ee,aA,aA,aes];omega
 have R:(qf.mV i).op ≥ 13->jc.tG (sH H main cs ss) (iE c) (qf.mV i)=true->jc.iX (sH H main cs ss) (f:Int) (iE c) (qf.mV i)=true:=λCM hg=>by
  unfold jc.iX;rw[U (by omega),U (by omega),U (by omega),U (by omega),U (by omega),U (by omega),U (by omega),U (by omega),U (by omega),U (by omega),U (by omega),U (by omega)];exact hg
 cases h with
 |c1 o=>
  refine⟨jd (p:=true) (q:=false) (r:=false) (s:=true) rfl (.inl rfl) (.inr rfl) (.inr rfl) (.inl rfl) (.inr rfl),?_⟩;rename_i a n;show (dh.kA (dh.dn (iE c).vars) (cv tI) [a]||_)=true;rw[y,u6 o bI];rfl
 |c1b o w=>
  refine⟨jd (p:=true) (q:=false) (r:=false) (s:=true) rfl (.inl rfl) (.inr rfl) (.inr rfl) (.inl rfl) (.inr rfl),?_⟩;rename_i a n;show (_||dh.kA (dh.dn (iE c).vars) (cv tB) [a]&&(decide (n=0)||decide (n=1)))=true;rw[y,u6 o bB,aet];right;simpa using w
 |c2 o w=>
  refine⟨jd (p:=true) (q:=false) (r:=false) (s:=false) rfl (.inl rfl) (.inr rfl) (.inr rfl) (.inr rfl) (.inr rfl),?_⟩;rename_i a t;show jc.mh (dh.sZ (dh.dn (iE c).vars) a)=true;rw[y,uE o];exact w
 |c3 o w=>
  refine⟨jd (p:=true) (q:=true) (r:=false) (s:=false) rfl (.inl rfl) (.inl rfl) (.inr rfl) (.inr rfl) (.inr rfl),?_⟩;rename_i a B t;show dh.kA (dh.dn (iE c).vars) (dh.sZ (dh.dn (iE c).vars) a) [B]=true;rw[y,uE o];exact u6 w (b w)
 |c4 o w x z V=>
  rename_i a B C k ta tb t r;refine⟨jd (p:=true) (q:=true) (r:=true) (s:=true) rfl (.inl rfl) (.inl rfl) (.inl rfl) (.inl rfl) (.inr rfl),?_⟩;show jc.pJ (dh.dn (iE c).vars) (qf.mV ⟨4,a,B,C,k,[]⟩)=true;rw[y];unfold jc.pJ;unfold iZ.pJ at x;show (if k=14\/k=15\/k=16\/k=17\/k=18 then dh.kA _ (cv tI) [a,B,C] else if k=19\/k=20 then dh.kA _ (cv tB) [a]&&dh.kA _ (cv tI) [B,C] else if k=21\/k=22 then dh.kA _ (cv tB) [a]&&dh.kA _ (dh.sZ _ B) [C] else if k=23\/k=24 then dh.kA _ (cv tB) [a,B,C] else false)=true;by_cases K:k=14\/k=15\/k=16\/k=17\/k=18;rw[af K]at x ⊢;obtain⟨q1,rfl,_⟩:=dm x;rw[Ee,aA,aA]at q1;obtain⟨rfl,rfl⟩:=q1;exact arD V o w bI;rw[U K]at x ⊢;by_cases I:k=19\/k=20;rw[af I]at x ⊢;obtain⟨q1,rfl,_⟩:=dm x;rw[Ee,aA,aA]at q1;obtain⟨rfl,rfl⟩:=q1;rw[u6 V bB,amr o w bI];rfl;rw[U I]at x ⊢;by_cases J:k=21\/k=22;rw[af J]at x ⊢;obtain⟨q1,rfl,_⟩:=dm x;rw[aA]at q1;subst q1;rw[u6 V bB,uE o,u6 w (b w)];rfl;rw[U J]at x ⊢;rw[af (by omega)];obtain⟨q1,rfl,_⟩:=dm x;rw[Ee,aA,aA]at q1;obtain⟨rfl,rfl⟩:=q1;exact arD V o w bB
 |c5i o w=>
  refine⟨jd (p:=true) (q:=true) (r:=false) (s:=true) rfl (.inl rfl) (.inl rfl) (.inr rfl) (.inl rfl) (.inr rfl),?_⟩;rename_i a B;show (decide ((12:Int)=12)&&dh.kA (dh.dn (iE c).vars) (cv tI) [a,B]||_)=true;rw[y,amr o w bI];rfl
 |c5b o w=>
  refine⟨jd (p:=true) (q:=true) (r:=false) (s:=true) rfl (.inl rfl) (.inl rfl) (.inr rfl) (.inl rfl) (.inr rfl),?_⟩;rename_i a B;show (decide ((13:Int)=12)&&dh.kA (dh.dn (iE c).vars) (cv tI) [a,B]||decide ((13:Int)=13)&&dh.kA (dh.dn (iE c).vars) (cv tB) [a,B])=true;rw[y,amr o w bB];rfl
 |c6 o w x z=>
  rename_i a B r j S v;refine⟨jd (p:=true) (q:=true) (r:=true) (s:=false) rfl (.inl rfl) (.inl rfl) (.inl rfl) (.inr rfl) (.inr rfl),?_⟩;show jc.Ly (dh.pD (shV H.bJ)) (dh.dn (iE c).vars) B j a=true;rw[y,KL];refine adr (rd:=⟨S.1,cG S.2⟩) (fd:=⟨v.nm,cv v.ty⟩) (uE o) ?_ ?_ (u6 z (b z));show jc.pU _ (r:Int)=_;rw[oA,aej,w];rfl;show jc.pU (dh.AE (cG S.2)) (j:Int)=_;rw[It,oA,aej,x];rfl
 |c7 o w x z=>
  rename_i a B r j S v;refine⟨jd (p:=true) (q:=true) (r:=true) (s:=false) rfl (.inl rfl) (.inl rfl) (.inl rfl) (.inr rfl) (.inr rfl),?_⟩;show jc.Ly (dh.pD (shV H.bJ)) (dh.dn (iE c).vars) a j B=true;rw[y,KL];refine adr (rd:=⟨S.1,cG S.2⟩) (fd:=⟨v.nm,cv v.ty⟩) (uE o) ?_ ?_ (u6 z (b z));show jc.pU _ (r:Int)=_;rw[oA,aej,w];rfl;show jc.pU (dh.AE (cG S.2)) (j:Int)=_;rw[It,oA,aej,x];rfl
 |c8 o w x z=>
  rename_i a B C t;refine⟨jd (p:=true) (q:=true) (r:=true) (s:=false) rfl (.inl rfl) (.inl rfl) (.inl rfl) (.inr rfl) (.inr rfl),?_⟩;show (jc.HU (dh.dn (iE c).vars) B a&&dh.kA (dh.dn (iE c).vars) (cv tI) [C])=true;unfold jc.HU;rw[y,uE o,u6 z bI];show (decide (0<t.d)&&dh.kA _ (cv ⟨t.b,t.r,t.d-1⟩) [a]&&true)=true;rw[u6 x (b x)];simpa using w
 |c9 o w x z=>
  rename_i a B C t;refine⟨jd (p:=true) (q:=true) (r:=true) (s:=false) rfl (.inl rfl) (.inl rfl) (.inl rfl) (.inr rfl) (.inr rfl),?_⟩;show (jc.HU (dh.dn (iE c).vars) a C&&dh.kA (dh.dn (iE c).vars) (cv tI) [B])=true;unfold jc.HU;rw[y,uE o,u6 z bI];show (decide (0<t.d)&&dh.kA _ (cv ⟨t.b,t.r,t.d-1⟩) [C]&&true)=true;rw[u6 x (b x)];simpa using w
 |Df o w x=>
  rename_i a B t;refine⟨jd (p:=true) (q:=true) (r:=false) (s:=false) rfl (.inl rfl) (.inl rfl) (.inr rfl) (.inr rfl) (.inr rfl),?_⟩;show (dh.kA (dh.dn (iE c).vars) (cv tI) [a]&&decide (0<(dh.sZ (dh.dn (iE c).vars) B).d))=true;rw[y,u6 o bI,uE w];exact cz x
 |Lu o w x z=>
  rename_i a n t;refine⟨jd (p:=true) (q:=false) (r:=false) (s:=true) rfl (.inl rfl) (.inr rfl) (.inr rfl) (.inl rfl) (.inr rfl),?_⟩;show (decide ((dh.sZ (dh.dn (iE c).vars) a).b=3)&&decide ((dh.sZ (dh.dn (iE c).vars) a).d=0)&&jc.HV (dh.ox (bZ ss)) f (dh.dn (iE c).vars) n a)=true;unfold jc.HV;rw[y,uE o,OR,oA,aej,z];simp only[afo];show (decide (t.b=3)&&decide (t.d=0)&&(decide (((f:Nat):Int)=f)&&dh.kA _ (cv t) [a]))=true;rw[w,x,u6 o (b o)];simp
 |DJ o w x z=>
  rename_i a B n t;refine⟨jd (p:=true) (q:=true) (r:=false) (s:=true) rfl (.inl rfl) (.inl rfl) (.inr rfl) (.inl rfl) (.inr rfl),?_⟩;show (decide (0<(dh.sZ (dh.dn (iE c).vars) a).d)&&jc.HV (dh.ox (bZ ss)) f (dh.dn (iE c).vars) n a&&dh.kA (dh.dn (iE c).vars) (cv tI) [B])=true;unfold jc.HV;rw[y,uE o,OR,oA,aej,x,u6 z bI];simp only[afo];show (decide (0<t.d)&&(decide (((f:Nat):Int)=f)&&dh.kA _ (cv t) [a])&&true)=true;rw[u6 o (b o)];simpa using w
 |Fo o w x=>
  rename_i a j L l;refine⟨jd (p:=true) (q:=false) (r:=true) (s:=false) rfl (.inl rfl) (.inr rfl) (.inl rfl) (.inr rfl) (.inl rfl),R (by show (13:Int) ≥ 13;decide) ?_⟩;obtain⟨g,T,W,Y,Z,G⟩:=l8 j L o;show jc.LA (dh.iI (csV cs)) (dh.dn (iE c).vars) _=true;refine ams (g:=iE g) ?_ ?_;show jc.pU (dh.iI (csV cs)) (j:Int)=_;rw[OQ,oA,aej,T];rfl;unfold jc.adh;have E:dh.dn (iE g).vars=g.vars.map cv:=zY g.vars;have hl:=RI w;have hz:=(RH (m:=F) w G).resolve_right (by omega);have MU:=Ws G;rw[y,E];have D:dI (qf.mV ⟨13,a,0,j,0,l⟩).args=l:=qf.Um l;rw[D,hz];have N:((iE g).params:Int)=L.ps.length:=by show ((g.params:Nat):Int)=_;rw[W]
  rw[N,aes];have O:(decide (a = -1)||(iE g).bR&&dh.kA (c.vars.map cv) (iE g).res [a])=true:=by
   rcases x with q|⟨q1,q2⟩;rw[q];rfl;rw[aet];right;show (g.bR&&dh.kA _ (cv g.res) [a])=true;rw[Y,q1,Z,u6 q2 (b q2)];rfl
  have Q:(qf.mV ⟨13,a,0,j,0,l⟩).a=a:=rfl;rw[Q,O];simp only[aiW,Ee,aA];exact⟨by omega,by omega⟩
 |c14 o=>
  refine⟨jd (p:=true) (q:=false) (r:=false) (s:=false) rfl (.inl rfl) (.inr rfl) (.inr rfl) (.inr rfl) (.inr rfl),R (by show (14:Int) ≥ 13;decide) ?_⟩;rename_i a;show dh.kA (dh.dn (iE c).vars) (cv tI) [a]=true;rw[y];exact u6 o bI
 |c15 o=>
  refine⟨jd (p:=true) (q:=false) (r:=false) (s:=false) rfl (.inl rfl) (.inr rfl) (.inr rfl) (.inr rfl) (.inr rfl),R (by show (15:Int) ≥ 13;decide) ?_⟩;rename_i a;show dh.kA (dh.dn (iE c).vars) (cv tI) [a]=true;rw[y];exact u6 o bI
 |c16 o=>
  refine⟨jd (p:=false) (q:=false) (r:=false) (s:=true) rfl (.inr rfl) (.inr rfl) (.inr rfl) (.inl rfl) (.inr rfl),R (by show (16:Int) ≥ 13;decide) ?_⟩;rename_i n;show jc.Gg (iE c) (n:Int)=true;exact P _ o
 |c17 o w x=>
  refine⟨jd (p:=true) (q:=false) (r:=true) (s:=true) rfl (.inl rfl) (.inr rfl) (.inl rfl) (.inl rfl) (.inr rfl),R (by show (17:Int) ≥ 13;decide) ?_⟩;rename_i a n C;show (dh.kA (dh.dn (iE c).vars) (cv tB) [a]&&jc.Gg (iE c) (n:Int)&&jc.Gg (iE c) (C:Int))=true;rw[y,u6 o bB,P _ w,P _ x];rfl
 |c18 o=>
  refine⟨jd (p:=true) (q:=false) (r:=false) (s:=false) rfl (.inl rfl) (.inr rfl) (.inr rfl) (.inr rfl) (.inr rfl),R (by show (18:Int) ≥ 13;decide) ?_⟩;rename_i a;show (if c.bR=true then dh.kA (dh.dn (iE c).vars) (cv c.res) [a] else decide (a = -1))=true;rw[y,hs,hr];cases M:s.bR with
  |true=>
   rw[M]at o;rw[af rfl]at o ⊢;exact u6 o (b o)
  |false=>
   rw[M]at o;rw[U (by simp)]at o ⊢;exact cz o
 |c19 o w=>
  rename_i a j v;refine⟨jd (p:=true) (q:=false) (r:=false) (s:=true) rfl (.inl rfl) (.inr rfl) (.inr rfl) (.inl rfl) (.inr rfl),R (by show (19:Int) ≥ 13;decide) ?_⟩;show jc.OL (dh.dn (Zt (H.az.map (·.ty)))) (dh.dn (iE c).vars) j a=true;unfold jc.OL;rw[y,zY,oA,aeR,aej,o];simp only[afo];exact u6 w (b w)
 |c20 o w=>
  rename_i a j v;refine⟨jd (p:=true) (q:=false) (r:=false) (s:=true) rfl (.inl rfl) (.inr rfl) (.inr rfl) (.inl rfl) (.inr rfl),R (by show (20:Int) ≥ 13;decide) ?_⟩;show jc.OL (dh.dn (Zt (H.az.map (·.ty)))) (dh.dn (iE c).vars) j a=true;unfold jc.OL;rw[y,zY,oA,aeR,aej,o];simp only[afo];exact u6 w (b w)
end oW
namespace oW
open Ax Go V7 iQ iZ qb
variable {H:Hd}{ss:List Sd}{cs:List Cd}{main:Int}{all:Nat}
theorem E2{t:T3}(g:Hd.CQ H)(h:MT H t):jc.wS (jc.nr (sH H main cs ss)) (cv t)=true:=by
 have j:jc.nr (sH H main cs ss)=H.rs.length:=by
  show (dh.pD (shV H.bJ)).length=_;rw[KL,aes,g.ok.rs]
 rw[j];obtain⟨⟨k,n,o⟩,⟨p,V⟩,z⟩:=h;unfold jc.wS;show (decide (¬t.d<0)&&decide (¬3<t.d)&&if t.b=1\/t.b=2 then decide (t.r=0) else decide (t.b=3)&&decide (0<=t.r)&&decide (t.r<H.rs.length))=true
 grind
theorem Uo(k:Hd.CQ H)(p:Made H cs ss all)(C:cs.length=H.aW.length){j:Nat}{c:Cd}(q:cs[j]?=some c):jc.EW (sH H main cs ss) j (iE c)=true:=by
 obtain⟨s,o,O⟩:=p.code j c q;have R:=mem_of o;have I:c.is≠[]:=by
  obtain⟨i,r,_⟩:=O.alC
  grind
 have L:∀(j:Nat) (s:Sg),H.aW[j]?=some s->∃g,cs[j]?=some g/\g.params=s.ps.length/\g.bR=s.bR/\g.res=s.res/\Hi s.ps g.vars:=λj s o=>by
  have v:j<cs.length:=by grind
  obtain⟨S,n,h⟩:=p.code j cs[j] (aas v);rw[o]at n;cases n;exact⟨cs[j],aas v,h.params,h.bR,h.res,h.pre⟩
 have z:dh.dn (iE c).vars=c.vars.map cv:=zY c.vars;have w:dh.mF (iE c).jr=c.is.map qf.mV:=E1 c.is;have D:=k.pn s R;have B:=Ws O.pre;have x:=O.nv;have Y:=agV.2 I;unfold jc.EW;rw[z,w];simp only[Ee,aA,aes];have E:(iE c).params=((s.ps.length:Nat):Int):=by show ((c.params:Nat):Int)=_;grind
 rw[E];refine⟨⟨⟨⟨⟨⟨⟨⟨by omega,by omega⟩,by omega⟩,by omega⟩,by omega⟩,?_⟩,?_⟩,?_⟩,?_⟩;rw[ajn,ac3];exact λt y=>E2 k (O.vt t y);show (if c.bR=true then jc.wS _ (cv c.res) else jc.teq (cv c.res) ⟨0,0,0⟩)=true;rw[O.bR,O.res];cases M:s.bR with
 |true=>rw[af rfl];exact E2 k (k.yes s R M)|false=>rw[U (by simp),k.no s R M];rfl
 rw[ajn,ac3];exact λi r=>Un k O.vt L q O.bR O.res R I (O.yT i r);obtain⟨i,n,h⟩:=O.alC;unfold jc.RA;rw[List.getLast?_map,n];show (decide (i.op=16)||decide (i.op=17)||decide (i.op=18))=true;rw[h];rfl
theorem E3(h:Hd.CQ H)(n:Made H cs ss all)(g:cs.length=H.aW.length):∀(l pre:List Cd),cs=pre++l->jc.wM (sH H main cs ss) (l.map iE) pre.length ((pre.map (·.is.length)).sum:Nat)=true
 |[],_,_=>rfl|c::l,pre,e=>by
  have j:cs[pre.length]?=some c:=by grind
  have k:dh.mF (iE c).jr=c.is.map qf.mV:=E1 c.is;have B:(pre.map (·.is.length)).sum+c.is.length<=2500:=by
   have o:=n.sum;have p:=n.few
   grind
  show (decide (¬2500<(((pre.map (·.is.length)).sum:Nat):Int)+((dh.mF (iE c).jr).length:Int))&&jc.EW _ (pre.length:Int) (iE c)&&jc.wM _ (l.map iE) ((pre.length:Int)+1) ((((pre.map (·.is.length)).sum:Nat):Int)+((dh.mF (iE c).jr).length:Int)))=true;rw[k,aes,cz (by omega),Uo h n g j];have I:=E3 h n g l (pre++[c]) (by rw[e];simp)
  grind
theorem Up(h:Hd.CQ H)(n:Made H cs ss all)(y:cs.length=H.aW.length){k:Nat}{s:Sg}(x:main=k)(w:H.aW[k]?=some s)(C:s.ps=[])(M:s.bR=false):jc.mU (sH H main cs ss)=true:=by
 have K:=(List.getElem?_eq_some_iff.1 w).1;have I:k<cs.length:=by omega
 obtain⟨J,r,O⟩:=n.code k cs[k] (aas I);rw[w]at r;cases r;unfold jc.mU;have R:dh.pD (sH H main cs ss).aU=H.bJ.map λs=>⟨s.1,cG s.2⟩:=KL _;have D:dh.dn (sH H main cs ss).az=(H.az.map (·.ty)).map cv:=zY _;have F:dh.iI (sH H main cs ss).aR=cs.map iE:=OQ _;have G:dh.ox (sH H main cs ss).aJ=ss.map amq:=OR _;have Z:=h.nr;have V:=h.ng;have z:=h.nf;have B:=n.ns;rw[R,D,F,G];have E:jc.pU (cs.map iE) (sH H main cs ss).main=some (iE cs[k]):=by
  show jc.pU (cs.map iE) main=_;rw[x,oA,aej,aas I];rfl
 have j:(decide ((iE cs[k]).params=0) && !(iE cs[k]).bR)=true:=by
  show (decide (((cs[k].params:Nat):Int)=0) && !cs[k].bR)=true;rw[O.params,O.bR,C,M];rfl
 rw[E];simp only[Ee,aA,aes]at j ⊢;refine⟨⟨⟨⟨⟨⟨⟨⟨⟨by omega,by omega⟩,?_⟩,by omega⟩,by omega⟩,j⟩,?_⟩,?_⟩,?_⟩,?_⟩;intro q;have:=congrArg List.length q
 grind
 rw[ajn,ac3];intro g U;show jc.HW _ ⟨g.1,cG g.2⟩=true;unfold jc.HW;rw[It,aes,Ee,aA];have:=h.bJ g U;refine⟨by omega,?_⟩;rw[ajn,ac3];exact λv p=>E2 h ⟨h.ok.bJ g U v p,h.gd.bJ g U v p,h.rt.bJ g U v p⟩;rw[ajn,ajn,ac3];exact λv p=>E2 h ⟨h.ok.az v p,h.gd.az v p,h.rt.az v p⟩;rw[ajn,ac3];intro S o;obtain⟨a,b,c⟩:=n.Rb S o;show (jc.wS _ (cv S.ty)&&jc.mh (cv S.ty)&&decide (¬((S.fn:Nat):Int)<0)&&decide (((S.fn:Nat):Int)<(cs.length:Nat)))=true;rw[E2 h a,show jc.mh (cv S.ty)=true from b,cz (by omega),cz (by omega)];rfl;have:=E3 (main:=main) h n y cs [] rfl;exact this
end oW
namespace oW
open Ax Go V7 iQ iZ qb
variable {H:Hd}{cs:List Cd}{ss:List Sd}{all:Nat}{main:Int}
theorem Cu{S:Nat}{p:List AV->Bool}{l:List (List AV)}(h:∀r∈l,r.length=S)(k:∀r∈l,p r=true):dh.gH S p (aM S l)=true:=by
 unfold dh.gH;rw[bn];have g:dh.cJ (aM S l)=true:=by cases l<;>rfl
 have j:cN S (aM S l)=true:=by
  cases l with
  |nil=>rfl|cons a l=>simp only[XZ,ji,beq_self_eq_true,Bool.true_and,cr,ac3,cD];exact h
 grind
theorem ads{a:Int}(h : -1000000<=a)(g:a<=1000000):dh.sS a=true:=by simp only[dh.sS,Ee,aA];omega
theorem Wt{t:T3}(g:H.rs.length<=100)(h:MT H t):dh.sS t.b=true/\dh.sS t.r=true/\dh.sS t.d=true:=by
 obtain⟨⟨a,b,c⟩,⟨d,e⟩,f⟩:=h
 grind [ads]
theorem ai6(k:H.rs.length<=100){l:List T3}(h:∀t∈l,MT H t):dh.Ar (Zt l)=true:=by
 refine Cu (λr g=>?_) λr g=>?_;obtain⟨t,j,rfl⟩:=ad7.1 g;rfl;obtain⟨t,j,rfl⟩:=ad7.1 g;obtain⟨a,b,c⟩:=Wt k (h t j);show (dh.sS t.b&&dh.sS t.r&&dh.sS t.d)=true
 grind
theorem arE(k:H.rs.length<=100){l:List Vd}(h:∀v∈l,MT H v.ty):dh.Uf (cG l)=true:=by
 refine Cu (λr g=>?_) λr g=>?_;obtain⟨t,j,rfl⟩:=ad7.1 g;rfl;obtain⟨t,j,rfl⟩:=ad7.1 g;obtain⟨a,b,c⟩:=Wt k (h t j);show (dh.sS t.ty.b&&dh.sS t.ty.r&&dh.sS t.ty.d)=true
 grind
theorem ahc(l:List Int):mK (sB l)=true/\dh.cJ (sB l)=true:=by
 refine⟨?_,by cases l<;>rfl⟩;unfold mK sB;rw[bn];have:cN 1 (aM 1 (aP l))=true:=by
  cases l with
  |nil=>rfl|cons a l=>simp[aP,cr]
 rw[this];simp[aP]
theorem arF(l:List In):dh.Lx (YU l)=true:=by
 refine Cu (λr h=>?_) λr h=>?_;obtain⟨t,g,rfl⟩:=ad7.1 h;rfl;obtain⟨t,g,rfl⟩:=ad7.1 h;obtain⟨a,b⟩:=ahc t.args;show (dh.cJ (sB t.args)&&mK (sB t.args))=true
 grind
theorem adt{g:Type}{l:List g}{x:g}(h:x∈l):∃k:Nat,l[k]?=some x:=by
 obtain⟨k,j,rfl⟩:=List.getElem_of_mem h;exact⟨k,aas j⟩
theorem amu(h:Hd.CQ H)(w:Made H cs ss all)(C:cs.length=H.aW.length):(sH H main cs ss).ok:=by
 have n:H.rs.length<=100:=by have:=h.ok.rs;have:=h.nr;omega
 have B:cs.length<=100:=by have:=h.nf;omega
 refine⟨?_,ai6 n λt o=>?_,?_,?_⟩;refine Cu (λr g=>?_) λr g=>?_;obtain⟨t,o,rfl⟩:=ad7.1 g;rfl;obtain⟨s,j,rfl⟩:=ad7.1 g;exact arE n λv p=>⟨h.ok.bJ s j v p,h.gd.bJ s j v p,h.rt.bJ s j v p⟩;obtain⟨v,p,rfl⟩:=ad7.1 o;exact⟨h.ok.az v p,h.gd.az v p,h.rt.az v p⟩;refine Cu (λr g=>?_) λr g=>?_;obtain⟨t,o,rfl⟩:=ad7.1 g;rfl;obtain⟨c,V,rfl⟩:=ad7.1 g;obtain⟨k,y⟩:=adt V;obtain⟨s,j,O⟩:=w.code k c y;have R:s∈H.aW:=List.mem_of_getElem? j;have D:=h.pn s R;have q:dh.sS c.res.b=true/\dh.sS c.res.r=true/\dh.sS c.res.d=true:=by
  rw[O.res];cases M:s.bR with
  |true=>exact Wt n (h.yes s R M)|false=>rw[h.no s R M];exact⟨rfl,rfl,rfl⟩
 obtain⟨a,b,d⟩:=q;show (dh.sS ((c.params:Nat):Int)&&dh.sS c.res.b&&dh.sS c.res.r&&dh.sS c.res.d&&dh.Ar (Zt c.vars)&&dh.Lx (YU c.is))=true;rw[a,b,d,ai6 n O.vt,arF,ads (by omega) (by rw[O.params];omega)];rfl;refine Cu (λr g=>?_) λr g=>?_;obtain⟨t,o,rfl⟩:=ad7.1 g;rfl;obtain⟨s,j,rfl⟩:=ad7.1 g;obtain⟨x,_,z⟩:=w.Rb s j;obtain⟨a,b,d⟩:=Wt n x;show (dh.sS ((s.fn:Nat):Int)&&dh.sS s.ty.b&&dh.sS s.ty.r&&dh.sS s.ty.d)=true
 grind [ads]
theorem adu:∀{l:List Cd}{c:Cd},c∈l->c.is.length<=(l.map (·.is.length)).sum
 |[],_,h=>by cases h|a::l,c,h=>by
  rcases List.mem_cons.1 h with rfl|h;simp;have:=adu h;simp;omega
end oW
