/- Part of a proof. -/
import Derived.Test.YtgblgbgjmgjfkaaGreatV
import Derived.Test.YtgblgbgjmgjfkaaGreatP

open List renaming length->Q
open Option renaming some->Z,none->K
open Bool renaming true->Y
open Decidable renaming decide->V
open List renaming replicate->aag
open Nat renaming le_refl->aal
open Bool renaming and_eq_true->E6
namespace qu
open Ax Go V7 jb jn
structure Rs where
 fB:List Int
 s:List (List Int)
 g:List Int
 nf:Nat
 e:Int
 code:Int
 out:List Int
 aL:Nat
structure Fm where
 vs:List Int
 res:Int
 done:Bool
structure Cx where
 fuel:Nat
 aR:List Nat
 bs:List Bd
 ng:Nat
def mG(b:Bool):Int:=if b then 1 else 0
def AT(op a b:Int):Int×Int:=
 if op=14 then (IntKind.i64.wrap (a+b),0)
 else if op=15 then (IntKind.i64.wrap (a-b),0)
 else if op=16 then (IntKind.i64.wrap (a*b),0)
 else if op=17 then (if b=0 then (0,3) else (IntKind.i64.wrap (a.tdiv b),0))
 else if op=18 then (if b=0 then (0,3) else (a.tmod b,0))
 else if op=19 then (mG (V (a<b)),0)
 else if op=20 then (mG (V (a<=b)),0)
 else if op=21 then (mG (V (a=b)),0)
 else if op=22 then (mG (V (a≠b)),0)
 else if op=23 then (mG (V (a≠0)&&V (b≠0)),0)
 else if op=24 then (mG (V (a≠0)||decide (b≠0)),0)
 else (0,0)
def unI(op a:Int):Int:=if op=12 then IntKind.i64.wrap (0-a) else if op=13 then mG (V (a=0)) else 0
def AU(T:List (List Int))(r:Int):Int×Int:=if 1<=r/\r<=(Q T:Int) then ((Q (T.getD (r-1).toNat []):Int),0) else (0,1)
def kU(T:List (List Int))(r i:Int):Int:=if 1<=r/\r<=(Q T:Int) then (if 0<=i/\i<(Q (T.getD (r-1).toNat []):Int) then 0 else 2) else 1
def lO(T:List (List Int))(r i:Int):Int×Int:=if kU T r i=0 then ((T.getD (r-1).toNat []).getD i.toNat 0,0) else (0,kU T r i)
def uF(T:List (List Int))(r i x:Int):List (List Int):=if kU T r i=0 then T.set (r-1).toNat ((T.getD (r-1).toNat []).set i.toNat x) else T
def lX(n:Int):Nat:=if n<0 then 0 else if 8<n then 8 else n.toNat
def pI(C:Cx)(r:Rs):Bool:=V (r.e=0)&&V (r.aL<C.fuel)
def cj(r:Rs):Rs:={ r with aL:=r.aL+1 }
def stop(r:Rs):Rs:=if r.e=0 then { r with e:=3 } else r
def eP(r:Rs)(c:Int):Rs:=if c≠0/\r.e=0 then { r with e:=2,code:=c } else r
def vg(r:Rs)(x:Int×Int):Int×Rs:=(x.1,eP r x.2)
def rE(l:List Int):Int:=l.getD 0 0
def Mf(l:List Int):Int:=l.getD 1 0
def at2(l:List Int):Int:=l.getD 2 0
def jR(es:List E):E:=match es with|e::_=>e | []=>.mk 0 0 [] [] 0 [] 0 T0 0
def rF(f:Fm)(r:Rs)(ref:Int):Int:=if ref<0 then r.g.getD (-1-ref).toNat 0 else f.vs.getD ref.toNat 0
def cG(x:Rs×Fm)(ref v:Int):Rs×Fm:=if ref<0 then ({ x.1 with g:=x.1.g.set (-1-ref).toNat v },x.2) else (x.1,{ x.2 with vs:=x.2.vs.set ref.toNat v })
def vals(fE:E->Fm->Rs->Int×Rs)(f:Fm):List E->Rs->Option (List Int)×Rs
 |[],r=>(Z [],r)
 |e::l,r=>if (fE e f r).2.e≠0 then (K,(fE e f r).2) else match vals fE f l (fE e f r).2 with
  |(Z vs,g)=>(Z ((fE e f r).1::vs),g)
  |(K,g)=>(K,g)
def rG(r:Rs)(n:Nat):Int×Rs:=((Q r.s:Int)+1,{ r with s:=r.s++[aag n 0] })
def pJ(r:Rs)(n:Int):Int×Rs:=if n<0\/50<n then (0,eP r 4) else rG r n.toNat
def pK(r:Rs):Int×Rs:=match r.fB with
 |[]=>(0,eP r 5)
 |n::l=>(n,{ r with fB:=l })
def ju(C:Cx)(call:Int->List Int->Rs->Int×Rs)(k n ref g:Int)(f:Fm)(l:List Int)(r:Rs):Int×Rs:=
 if k=1\/k=2 then (n,r)
 else if k=3 then (0,r)
 else if k=4 then (rF f r ref,r)
 else if k=5 then vg r (lO r.s (rE l) ref)
 else if k=6 then vg r (lO r.s (rE l) (Mf l))
 else if k=7 then call ref l r
 else if k=8 then rG r (lX (C.aR.getD g.toNat 0:Nat))
 else if k=9 then pJ r (rE l)
 else if k=10 then vg r (AU r.s (rE l))
 else if k=11 then pK r
 else if k=12\/k=13 then (unI k (rE l),r)
 else vg r (AT k (rE l) (Mf l))
def gj(fS:Sm->Rs×Fm->Rs×Fm):List Sm->Rs×Fm->Rs×Fm
 |[],x=>x|s::l,x=>if x.2.done=Y\/x.1.e≠0 then x else gj fS l (fS s x)
def B0:Bd:=⟨[],[],0⟩
def eF(C:Cx)(fS:Sm->Rs×Fm->Rs×Fm)(i:Int)(l:List Int)(r:Rs):Int×Rs:=
 if 40<=r.nf then (0,eP r 6)
 else
  let x:=gj fS (C.bs.getD i.toNat B0).code ({ r with nf:=r.nf+1 },⟨l++aag (Q (C.bs.getD i.toNat B0).vars-Q l) 0,0,false⟩)
  (x.2.res,{ x.1 with nf:=x.1.nf-1 })
def cz(C:Cx)(fE:E->Fm->Rs->Int×Rs)(fS:Sm->Rs×Fm->Rs×Fm)(c:E)(b:List Sm):Nat->Rs×Fm->Rs×Fm
 |0,x=>if x.2.done=Y then x else (stop x.1,x.2)
 |k+1,x=>if x.2.done=Y then x else if pI C x.1=Y then
   (if (fE c x.2 (cj x.1)).2.e≠0\/(fE c x.2 (cj x.1)).1=0 then ((fE c x.2 (cj x.1)).2,x.2) else cz C fE fS c b k (gj fS b ((fE c x.2 (cj x.1)).2,x.2)))
  else (stop x.1,x.2)
def pL(x:Rs×Fm)(k ref:Int)(l:List Int):Rs×Fm:=
 if k=5 then (eP { x.1 with s:=uF x.1.s (rE l) ref (Mf l) } (kU x.1.s (rE l) ref),x.2)
 else (eP { x.1 with s:=uF x.1.s (rE l) (Mf l) (at2 l) } (kU x.1.s (rE l) (Mf l)),x.2)
def jQ(fS:Sm->Rs×Fm->Rs×Fm)(k ref:Int)(B m:List Sm)(l:List Int)(x:Rs×Fm):Rs×Fm:=
 if k=2\/k=3 then cG x ref (rE l)
 else if k=5 then (if rE l≠0 then gj fS B x else gj fS m x)
 else if k=7 then (x.1,{ x.2 with done:=Y,res:=if l=[] then x.2.res else rE l })
 else if k=8 then ({ x.1 with out:=x.1.out++[rE l] },x.2)
 else x
def gQ(fE:E->Fm->Rs->Int×Rs)(fS:Sm->Rs×Fm->Rs×Fm)(s:Sm)(x:Rs×Fm):Rs×Fm:=
 if s.k=4 then match vals fE x.2 ((jR s.es).aP++s.es.drop 1) x.1 with
  |(K,r)=>(r,x.2)
  |(Z l,r)=>pL (r,x.2) (jR s.es).k (jR s.es).ref l
 else match vals fE x.2 s.es x.1 with
  |(K,r)=>(r,x.2)
  |(Z l,r)=>jQ fS s.k s.ref s.bd s.el l (r,x.2)
def jD(C:Cx)(fE:E->Fm->Rs->Int×Rs)(fS:Sm->Rs×Fm->Rs×Fm)(e:E)(f:Fm)(r:Rs):Int×Rs:=match vals fE f e.aP r with
 |(K,r)=>(0,r)
 |(Z l,r)=>ju C (eF C fS) e.k e.n e.ref e.ty.r f l r
def ev(C:Cx):Nat->(E->Fm->Rs->Int×Rs)×(Sm->Rs×Fm->Rs×Fm)
 |0=>(λ_ _ r=>(0,stop r),λs x=>if s.k=1 then x else if s.k=6 then cz C (λ_ _ r=>(0,stop r)) (λ_ x=>x) (jR s.es) s.bd 0 x else (stop x.1,x.2))
 |n+1=>(λe f r=>if pI C r=Y then jD C (ev C n).1 (ev C n).2 e f (cj r) else (0,stop r),
   λs x=>if s.k=1 then x else if s.k=6 then cz C (ev C n).1 (ev C n).2 (jR s.es) s.bd (n+1) x
    else if pI C x.1=Y then gQ (ev C n).1 (ev C n).2 s (cj x.1,x.2) else (stop x.1,x.2))
def r0(C:Cx)(fB:List Int):Rs:=⟨fB,[],aag C.ng 0,0,0,0,[],0⟩
def qW(r:Rs):Rs:=if r.e=0 then { r with e:=1 } else r
def run(C:Cx)(main:Int)(fB:List Int):Rs:=qW (eF C (ev C C.fuel).2 main [] (r0 C fB)).2
structure On (r r':Rs):Prop where
 out:∃l,r'.out=r.out++l
 st:r.aL<=r'.aL
 e:r.e≠0->r'.e=r.e/\r'.code=r.code
theorem On.rfl'(r):On r r:=⟨⟨[],by simp⟩,aal _,λ_=>⟨rfl,rfl⟩⟩
theorem On.trans{a b c}(h:On a b)(k:On b c):On a c:=by
 obtain⟨L,j⟩:=h.out;obtain⟨q,m⟩:=k.out;refine⟨⟨L++q,by rw[m,j];simp⟩,Nat.le_trans h.st k.st,λe=>?_⟩;obtain⟨g,r⟩:=h.e e;obtain⟨l,p⟩:=k.e (by rw[g];exact e);exact⟨by rw[l,g],by rw[p,r]⟩
theorem On.of{a b}(h:b.out=a.out)(g:b.aL=a.aL)(l:a.e≠0->b.e=a.e/\b.code=a.code):On a b:=⟨⟨[],by simp[h]⟩,by omega,l⟩
theorem yx(r):On r (stop r):=by
 unfold stop;split;rename_i h;exact .of rfl rfl λe=>bH h e;exact .rfl' r
theorem Jm(r):On r (cj r):=⟨⟨[],by simp[cj]⟩,by simp[cj],λ_=>⟨rfl,rfl⟩⟩
theorem Ga(r c):On r (eP r c):=by
 unfold eP;split;rename_i h;exact .of rfl rfl λe=>bH h.2 e;exact .rfl' r
theorem aeH(r n):On r (rG r n).2:=.of rfl rfl λ_=>⟨rfl,rfl⟩
theorem aiy(r n):On r (pJ r n).2:=by
 unfold pJ;split;exact Ga r 4;exact aeH r _
theorem Xy(r):On r (pK r).2:=by
 unfold pK;split;exact Ga r 5;exact .of rfl rfl λ_=>⟨rfl,rfl⟩
theorem an5(x ref v):On x.1 (cG x ref v).1:=by
 unfold cG;split;exact .of rfl rfl λ_=>⟨rfl,rfl⟩;exact .rfl' _
variable {C:Cx}{fE:E->Fm->Rs->Int×Rs}{fS:Sm->Rs×Fm->Rs×Fm}
theorem kq(j:∀e f r,On r (fE e f r).2)(f):∀l r,On r (vals fE f l r).2
 |[],r=>.rfl' r|e::l,r=>by
  unfold vals;split;exact j e f r;have:=kq j f l (fE e f r).2;split<;>rename_i h<;>rw[h]at this<;>exact(j e f r).trans this
theorem lJ(h:∀s x,On x.1 (fS s x).1):∀l x,On x.1 (gj fS l x).1
 |[],x=>.rfl' _|s::l,x=>by
  unfold gj;split;exact .rfl' _;exact(h s x).trans (lJ h l _)
theorem aiz(h:∀s x,On x.1 (fS s x).1)(i l r):On r (eF C fS i l r).2:=by
 unfold eF;split;exact Ga r 6;have:=lJ h (C.bs.getD i.toNat B0).code ({ r with nf:=r.nf+1 },⟨l++aag (Q (C.bs.getD i.toNat B0).vars-Q l) 0,0,false⟩);exact⟨this.out,this.st,this.e⟩
theorem Xz(h:∀s x,On x.1 (fS s x).1)(k n ref R f l r):On r (ju C (eF C fS) k n ref R f l r).2:=by
 unfold ju vg;repeat' split
 all_goals first|exact .rfl' r|exact Ga r _|exact aiz h _ _ _|exact aeH _ _|exact aiy _ _|exact Xy _
theorem aiA(j:∀e f r,On r (fE e f r).2)(g:∀s x,On x.1 (fS s x).1)(e f r):On r (jD C fE fS e f r).2:=by
 unfold jD;have:=kq j f e.aP r;split<;>rename_i h<;>rw[h]at this;exact this;exact this.trans (Xz g _ _ _ _ _ _ _)
theorem Dp(j:∀e f r,On r (fE e f r).2)(g:∀s x,On x.1 (fS s x).1)(c b):∀k x,On x.1 (cz C fE fS c b k x).1
 |0,x=>by
  unfold cz;split;exact .rfl' _;exact yx _
 |k+1,x=>by
  unfold cz;split;exact .rfl' _;split;have h:=(Jm x.1).trans (j c x.2 (cj x.1));split;exact h;exact h.trans ((lJ g b ((fE c x.2 (cj x.1)).2,x.2)).trans (Dp j g c b k _));exact yx _
theorem aeI(h:∀s x,On x.1 (fS s x).1)(k ref B m l x):On x.1 (jQ fS k ref B m l x).1:=by
 unfold jQ;split;exact an5 _ _ _;split;split<;>exact lJ h _ _;split;exact .rfl' _;split;exact⟨⟨_,rfl⟩,aal _,λ_=>⟨rfl,rfl⟩⟩;exact .rfl' _
theorem aiB(r T c):On r (eP { r with s:=T } c):=
 (On.of (a:=r) (b:={ r with s:=T }) rfl rfl λ_=>⟨rfl,rfl⟩).trans (Ga _ _)
theorem aeJ(x k ref l):On x.1 (pL x k ref l).1:=by
 unfold pL;split<;>exact aiB _ _ _
theorem XA(j:∀e f r,On r (fE e f r).2)(g:∀s x,On x.1 (fS s x).1)(s x):On x.1 (gQ fE fS s x).1:=by
 unfold gQ;split;have:=kq j x.2 ((jR s.es).aP++s.es.drop 1) x.1;split<;>rename_i h<;>rw[h]at this;exact this;exact this.trans (aeJ (_,x.2) _ _ _);have:=kq j x.2 s.es x.1;split<;>rename_i h<;>rw[h]at this;exact this;exact this.trans (aeI g _ _ _ _ _ (_,x.2))
theorem mN:∀n,(∀e f r,On r ((ev C n).1 e f r).2)/\(∀s x,On x.1 ((ev C n).2 s x).1)
 |0=>by
  refine⟨λe f r=>yx r,λs x=>?_⟩;show On x.1 ((if s.k=1 then x else if s.k=6 then cz C (λ_ _ r=>(0,stop r)) (λ_ x=>x) (jR s.es) s.bd 0 x else (stop x.1,x.2)):Rs×Fm).1;split;exact .rfl' _;split;exact Dp (λ_ _ r=>yx r) (λ_ x=>.rfl' _) _ _ _ _;exact yx _
 |n+1=>by
  obtain⟨j,h⟩:=mN n;refine⟨λe f r=>?_,λs x=>?_⟩;show On r ((if pI C r=Y then jD C (ev C n).1 (ev C n).2 e f (cj r) else (0,stop r)):Int×Rs).2;split;exact(Jm r).trans (aiA j h e f _);exact yx r;show On x.1 ((if s.k=1 then x else if s.k=6 then cz C (ev C n).1 (ev C n).2 (jR s.es) s.bd (n+1) x
   else if pI C x.1=Y then gQ (ev C n).1 (ev C n).2 s (cj x.1,x.2) else (stop x.1,x.2)):Rs×Fm).1
  split;exact .rfl' _;split;exact Dp j h _ _ _ _;split;exact(Jm x.1).trans (XA j h s (cj x.1,x.2));exact yx _
end qu
namespace qu
open Ax Go V7 jb jn
structure Gd (C:Cx)(d:Nat)(r:Rs):Prop where
 s:r.s.length+d<=r.aL
 o:r.out.length+d<=r.aL
 g:r.g.length=C.ng
 st:r.aL<=C.fuel
 nf:r.nf<=40
variable {C:Cx}{fE:E->Fm->Rs->Int×Rs}{fS:Sm->Rs×Fm->Rs×Fm}{d:Nat}
theorem Gd.Ag{d' r}(h:Gd C d r)(j:d'<=d):Gd C d' r:=⟨by have:=h.s;omega,by have:=h.o;omega,h.g,h.st,h.nf⟩
theorem Gd.cj{r}(h:Gd C d r)(z:pI C r=Y):Gd C (d+1) (cj r):=by
 unfold pI at z;rw[E6,aC,aC]at z;exact⟨by have:=h.s;simp only[qu.cj];omega,by have:=h.o;simp only[qu.cj];omega,h.g,by simp only[qu.cj];omega,h.nf⟩
theorem Gd.stop{r}(h:Gd C d r):Gd C d (stop r)/\(qu.stop r).nf=r.nf:=by
 unfold qu.stop;split;exact⟨⟨h.s,h.o,h.g,h.st,h.nf⟩,rfl⟩
 grind
theorem Gd.Hp{r}(h:Gd C d r)(c):Gd C d (eP r c)/\(eP r c).nf=r.nf:=by
 unfold eP;split;exact⟨⟨h.s,h.o,h.g,h.st,h.nf⟩,rfl⟩
 grind
def GE(C:Cx)(fE:E->Fm->Rs->Int×Rs):Prop:=∀d e f r,Gd C d r->Gd C d (fE e f r).2/\(fE e f r).2.nf=r.nf
def GS(C:Cx)(fS:Sm->Rs×Fm->Rs×Fm):Prop:=∀d s x,Gd C d x.1->Gd C d (fS s x).1/\(fS s x).1.nf=x.1.nf/\Q (fS s x).2.vs=Q x.2.vs
theorem Dk{T r i x}:Q (uF T r i x)=Q T:=by grind [uF]
theorem AY(j:GE C fE)(f):∀l d r,Gd C d r->Gd C d (vals fE f l r).2/\(vals fE f l r).2.nf=r.nf
 |[],_,r,h=>⟨h,rfl⟩
 |e::l,d,r,h=>by
  unfold vals;obtain⟨g,k⟩:=j d e f r h;split
  grind
  have:=AY j f l d (fE e f r).2 g
  grind
theorem Dq(g:GS C fS):∀l d x,Gd C d x.1->Gd C d (gj fS l x).1/\(gj fS l x).1.nf=x.1.nf/\Q (gj fS l x).2.vs=Q x.2.vs
 |[],_,x,h=>⟨h,rfl,rfl⟩
 |s::l,d,x,h=>by
  unfold gj;split
  grind
  obtain⟨j,k,m⟩:=g d s x h;obtain⟨o,v,z⟩:=Dq g l d _ j
  grind
theorem XB(m:GS C fS)(i l r)(h:Gd C d r):Gd C d (eF C fS i l r).2/\(eF C fS i l r).2.nf=r.nf:=by
 unfold eF;split;exact h.Hp 6
 ·rename_i p;obtain⟨j,k,_⟩:=Dq m (C.bs.getD i.toNat B0).code d ({ r with nf:=r.nf+1 },⟨l++aag (Q (C.bs.getD i.toNat B0).vars-Q l) 0,0,false⟩) ⟨h.s,h.o,h.g,h.st,by grind⟩;simp only at k ⊢;refine⟨⟨j.s,j.o,j.g,j.st,?_⟩,?_⟩;all_goals grind
theorem aeK{r}(h:Gd C (d+1) r)(n):Gd C d (rG r n).2/\(rG r n).2.nf=r.nf:=
 ⟨⟨by have:=h.s;simp only[rG,List.length_append,List.length_cons,List.length_nil];omega,by have:=h.o;simp only[rG];omega,h.g,h.st,h.nf⟩,rfl⟩
theorem aiC(j:GS C fS)(k n ref R f l r)(h:Gd C (d+1) r):Gd C d (ju C (eF C fS) k n ref R f l r).2/\(ju C (eF C fS) k n ref R f l r).2.nf=r.nf:=by
 have B:=h.Ag (d':=d) (by omega);unfold ju vg;split
 grind
 split
 grind
 split
 grind
 split;exact B.Hp _;split;exact B.Hp _;split;exact XB j _ _ _ B;split;exact aeK h _;split;unfold pJ;split;exact B.Hp _;exact aeK h _;split;exact B.Hp _;split;unfold pK;split;exact B.Hp _;exact⟨⟨B.s,B.o,B.g,B.st,B.nf⟩,rfl⟩;split
 grind
 exact B.Hp _
theorem aiD(j:GE C fE)(k:GS C fS)(e f r)(h:Gd C (d+1) r):Gd C d (jD C fE fS e f r).2/\(jD C fE fS e f r).2.nf=r.nf:=by
 unfold jD;have:=AY j f e.aP (d+1) r h;split<;>rename_i g<;>rw[g]at this;exact⟨this.1.Ag (by omega),this.2⟩
 grind [aiC]
theorem PK(l:GE C fE)(m:GS C fS)(c b):∀k d x,Gd C d x.1->Gd C d (cz C fE fS c b k x).1/\(cz C fE fS c b k x).1.nf=x.1.nf/\Q (cz C fE fS c b k x).2.vs=Q x.2.vs
 |0,d,x,h=>by
  unfold cz;split
  grind
  exact⟨h.stop.1,h.stop.2,rfl⟩
 |k+1,d,x,h=>by
  unfold cz;split
  grind
  split;rename_i z;obtain⟨g,j⟩:=l d c x.2 (cj x.1) ((h.cj z).Ag (by omega));split;exact⟨g,j,rfl⟩;obtain⟨q,v,r⟩:=Dq m b d ((fE c x.2 (cj x.1)).2,x.2) g;obtain⟨J,o,p⟩:=PK l m c b k d _ q;exact⟨J,by rw[o,v];exact j,by rw[p,r]⟩;exact⟨h.stop.1,h.stop.2,rfl⟩
theorem an6{x}(h:Gd C d x.1)(ref v):Gd C d (cG x ref v).1/\(cG x ref v).1.nf=x.1.nf/\Q (cG x ref v).2.vs=Q x.2.vs:=by
 unfold cG;split;exact⟨⟨h.s,h.o,by simp[h.g],h.st,h.nf⟩,rfl,rfl⟩
 grind
theorem an7(p:GS C fS)(k ref j m l x)(h:Gd C (d+1) x.1):Gd C d (jQ fS k ref j m l x).1/\(jQ fS k ref j m l x).1.nf=x.1.nf/\Q (jQ fS k ref j m l x).2.vs=Q x.2.vs:=by
 have B:=h.Ag (d':=d) (by omega);unfold jQ;split;exact an6 B _ _;split
 grind [Dq]
 split
 grind
 split;exact⟨⟨B.s,by have:=h.o;grind,B.g,B.st,B.nf⟩,rfl,rfl⟩
 grind
theorem XC{r}(h:Gd C d r)(T)(j:Q T=Q r.s)(c):Gd C d (eP { r with s:=T } c)/\(eP { r with s:=T } c).nf=r.nf:=
 Gd.Hp (r:={ r with s:=T }) ⟨by show Q T+d<=_;rw[j];exact h.s,h.o,h.g,h.st,h.nf⟩ c
theorem an8{x}(h:Gd C d x.1)(k ref l):Gd C d (pL x k ref l).1/\(pL x k ref l).1.nf=x.1.nf/\Q (pL x k ref l).2.vs=Q x.2.vs:=by
 unfold pL;split;obtain⟨g,j⟩:=XC h (uF x.1.s (rE l) ref (Mf l)) Dk (kU x.1.s (rE l) ref)
 grind
 obtain⟨g,j⟩:=XC h (uF x.1.s (rE l) (Mf l) (at2 l)) Dk (kU x.1.s (rE l) (Mf l))
 grind
theorem aiE(j:GE C fE)(m:GS C fS)(s x)(h:Gd C (d+1) x.1):Gd C d (gQ fE fS s x).1/\(gQ fE fS s x).1.nf=x.1.nf/\Q (gQ fE fS s x).2.vs=Q x.2.vs:=by
 unfold gQ;split;have:=AY j x.2 ((jR s.es).aP++s.es.drop 1) (d+1) x.1 h;split<;>rename_i g<;>rw[g]at this;exact⟨this.1.Ag (by omega),this.2,rfl⟩;obtain⟨l,v,z⟩:=an8 (x:=(_,x.2)) (this.1.Ag (d':=d) (by omega)) (jR s.es).k (jR s.es).ref _;exact⟨l,by grind,z⟩;have:=AY j x.2 s.es (d+1) x.1 h;split<;>rename_i g<;>rw[g]at this;exact⟨this.1.Ag (by omega),this.2,rfl⟩
 grind [an7]
theorem Ns:∀n,GE C (ev C n).1/\GS C (ev C n).2
 |0=>by
  refine⟨λd e f r h=>h.stop,λd s x h=>?_⟩;show Gd C d ((if s.k=1 then x else if s.k=6 then cz C (λ_ _ r=>(0,stop r)) (λ_ x=>x) (jR s.es) s.bd 0 x else (stop x.1,x.2)):Rs×Fm).1/\((if s.k=1 then x else if s.k=6 then cz C (λ_ _ r=>(0,stop r)) (λ_ x=>x) (jR s.es) s.bd 0 x else (stop x.1,x.2)):Rs×Fm).1.nf=_/\Q ((if s.k=1 then x else if s.k=6 then cz C (λ_ _ r=>(0,stop r)) (λ_ x=>x) (jR s.es) s.bd 0 x else (stop x.1,x.2)):Rs×Fm).2.vs=_;split
  grind
  split;exact PK (λd e f r h=>h.stop) (λd s x h=>⟨h,rfl,rfl⟩) _ _ _ _ _ h;exact⟨h.stop.1,h.stop.2,rfl⟩
 |n+1=>by
  obtain⟨j,g⟩:=Ns n;refine⟨λd e f r h=>?_,λd s x h=>?_⟩;show Gd C d ((if pI C r=Y then jD C (ev C n).1 (ev C n).2 e f (cj r) else (0,stop r)):Int×Rs).2/\((if pI C r=Y then jD C (ev C n).1 (ev C n).2 e f (cj r) else (0,stop r)):Int×Rs).2.nf=_;split;rename_i z;exact aiD j g e f _ (h.cj z);exact h.stop;show Gd C d ((if s.k=1 then x else if s.k=6 then cz C (ev C n).1 (ev C n).2 (jR s.es) s.bd (n+1) x else if pI C x.1=Y then gQ (ev C n).1 (ev C n).2 s (cj x.1,x.2) else (stop x.1,x.2)):Rs×Fm).1/\((if s.k=1 then x else if s.k=6 then cz C (ev C n).1 (ev C n).2 (jR s.es) s.bd (n+1) x else if pI C x.1=Y then gQ (ev C n).1 (ev C n).2 s (cj x.1,x.2) else (stop x.1,x.2)):Rs×Fm).1.nf=_/\
   (Q ((if s.k=1 then x else if s.k=6 then cz C (ev C n).1 (ev C n).2 (jR s.es) s.bd (n+1) x else if pI C x.1=Y then gQ (ev C n).1 (ev C n).2 s (cj x.1,x.2) else (stop x.1,x.2)):Rs×Fm).2.vs)=_
  split
  grind
  split
  grind [PK]
  split;rename_i z;obtain⟨l,v,m⟩:=aiE j g s (cj x.1,x.2) (h.cj z);exact⟨l,v,m⟩;exact⟨h.stop.1,h.stop.2,rfl⟩
structure Dm where
 ng:Nat
 nr:Nat
 ps:List Nat
def Vh(D:Dm)(k ref:Int)(g:T3)(m:Nat):Prop:=
 (1<=k/\k<=24)/\(k=4→-1-ref<D.ng)/\(k=5\/k=9\/k=10\/k=12\/k=13->m=1)/\(k=6\/14<=k->m=2)/\
 (k=7->0<=ref/\∃h:ref.toNat<Q D.ps,m=D.ps[ref.toNat])/\(k=8->0<=g.r/\g.r<D.nr)/\(k=5->0<=ref)
mutual
def WE(D:Dm):E->Prop
 |.mk k _ _ _ _ g _ t ref=>Vh D k ref t (Q g)/\WL D g
def WL(D:Dm):List E->Prop
 |[]=>True|e::l=>WE D e/\WL D l
end
def XE(D:Dm)(k ref:Int)(g:List E):Prop:=
 (1<=k/\k<=9)/\(k=3→-1-ref<D.ng)/\(k=2\/k=3\/k=5\/k=6\/k=8\/k=9->Q g=1)/\(k=4->∃a b,g=[a,b]/\(a.k=5\/a.k=6))/\(k=7->Q g<=1)
mutual
def WS(D:Dm):Sm->Prop
 |.mk k _ _ _ g B m _ ref=>XE D k ref g/\WL D g/\WB D B/\WB D m
def WB(D:Dm):List Sm->Prop
 |[]=>True|s::l=>WS D s/\WB D l
end
variable {D:Dm}{H:Hd}
theorem Cs(e):WE D e↔Vh D e.k e.ref e.ty (Q e.aP)/\WL D e.aP:=by
 obtain⟨k,_,N,O,o,g,a,ty,ref⟩:=e;unfold WE;exact Iff.rfl
theorem xC:∀l:List E,WL D l↔∀e∈l,WE D e
 |[]=>by simp[WL]|e::l=>by simp[WL,xC l]
theorem Gb(s):WS D s↔XE D s.k s.ref s.es/\WL D s.es/\WB D s.bd/\WB D s.el:=by
 obtain⟨k,N,O,o,g,B,m,a,ref⟩:=s;unfold WS;exact Iff.rfl
theorem aeL:∀l:List Sm,WB D l↔∀e∈l,WS D e
 |[]=>by simp[WB]|e::l=>by simp[WB,aeL l]
def zG(H:Hd):Dm:=⟨Q H.ax,Q H.bN,H.aZ.map (·.ps.length)⟩
theorem ry{s}:∀{l:List Sg}{i k:Nat}{t:Sg},vq s i l=Z (k,t)->i<=k/\∃h,l[k-i]=t
 |[],_,_,_,h=>by cases h|g::l,i,k,t,h=>by
  unfold vq at h;split at h
  grind
  obtain⟨j,m,o⟩:=ry h
  grind
theorem Lt:∀{l:List Vd}{g:List E},jV l g=Y->Q g=Q l
 |[],[],_=>rfl|_::_,_::_,h=>by simp only[jV,E6]at h;simp[Lt h.2]|[],_::_,h=>by simp[jV]at h|_::_,[],h=>by simp[jV]at h
theorem SR{s l k t}(h:jA s 0 l=Z (k,t)):k<Q l:=by have:=C8 h;omega
theorem an9{v k y p O n j t r}(z:Q H.bN=Q H.rs)(m:iG k n (Q j)=Y)(h:nN H v k y p O j=Z (t,r)):Vh (zG H) k r t (Q j):=by
 have N:1<=k/\k<=24:=by
  unfold iG at m
  grind
 refine⟨N,λe=>?_,λe=>?_,λe=>?_,λe=>?_,λe=>?_,λe=>?_⟩;unfold nN at h;rw[ah,ah,ah,af e]at h;unfold vM at h;split at h
 grind
 split at h;rename_i U;cases h;have:=SR U;show _<(Q H.ax:Int);omega;cases h;unfold iG at m
 grind
 unfold iG at m
 grind
 unfold nN at h;rw[ah,ah,ah,ah,ah,ah,af e]at h;unfold sq at h;split at h;rename_i i s x;split at h;rename_i S;cases h;obtain⟨_,g,l⟩:=ry x;refine⟨by omega,by simp[zG];exact g,?_⟩;simp only[zG,Int.toNat_natCast,List.getElem_map];simp only[Nat.sub_zero]at l
 grind [Lt]
 cases h;cases h;unfold nN at h;rw[ah,ah,ah,ah,ah,ah,ah,af e]at h;unfold KT at h;split at h;rename_i o;cases h;simp only[E6,aC]at o;obtain⟨⟨q,g⟩,l⟩:=o;have:=(qP H.rs p O);unfold dz at q g ⊢;split
 grind
 split
 grind
 split
 grind
 split
 grind
 grind [zG,WQ]
 cases h;unfold nN at h;rw[ah,ah,ah,ah,af e]at h
 grind [AB]
theorem aeM{v}(j:Q H.bN=Q H.rs)(e):∀y,yU H v e=.ok y->WE (zG H) y:=by
 induction e using E.C6 with
 |_ e I=>
  intro y h;obtain⟨p,t,r,l,g,m,rfl⟩:=qU h;rw[Cs];have o:iG e.k e.n (Q p)=Y:=by rw[oD g];exact l
  refine⟨an9 (n:=e.n) j o m,?_⟩;rw[xC];exact jP g I
theorem atn{v k l g}(j:Q H.bN=Q H.rs)(h:Bq H v k l=.ok g):WL (zG H) g:=by
 unfold Bq at h;rw[xC];split at h
 grind [yU,List.mem_singleton,aeM]
 exact jP h λe _ y m=>aeM j e y m
theorem aiF{bY k g}(h:fL bY k g=Y):(1<=k/\k<=9)/\(k=2\/k=3\/k=5\/k=6\/k=8\/k=9->Q g=1)/\(k=4->∃a b,g=[a,b]/\(a.k=5\/a.k=6))/\(k=7->Q g<=1):=by
 unfold fL at h;split at h
 grind
 split at h
 grind
 split at h;all_goals grind
theorem ato{res v W N g t r}(h:qk H res v 3 N g t=Z (r,W)): -1-r<Q H.ax:=by
 unfold qk at h;rw[ah,ah,af rfl]at h;split at h;rename_i p;split at h;cases h;unfold vM at p;split at p
 grind
 split at p;rename_i U;cases p;have:=SR U;omega;cases p;cases h;cases h
theorem Gc{bY res}:∀{l j:List Sm}{v g:List Vd},(∀s∈l,∀v y W,Br H bY res v s=.ok (y,W)->WS (zG H) y)->pe H bY res v l=.ok (j,g)->WB (zG H) j
 |[],j,v,g,_,h=>by
  grind [pe,WB]
 |s::l,j,v,g,k,h=>by
  obtain⟨y,W,z,m,o,rfl⟩:=qy h;unfold WB;exact⟨k s List.mem_cons_self v y W m,Gc (λt p=>k t (List.mem_cons_of_mem _ p)) o⟩
theorem aoa{bY res}(q:Q H.bN=Q H.rs)(s):∀v y g,Br H bY res v s=.ok (y,g)->WS (zG H) y:=by
 induction s using Sm.C6 with
 |_ s m U=>
  intro v y g h;obtain⟨t,L,r,W,J,O,p,F,N⟩:=yM h;have o:=atn q p;obtain⟨x,z,B,G⟩:=aiF (RJ p J);have j:XE (zG H) s.k r L:=⟨x,λe=>by rw[e]at F;exact ato F,z,B,G⟩;rcases N with⟨_,b,M,c,l,I,rfl⟩|⟨_,b,l,rfl⟩|⟨_,_,_,rfl⟩;rw[Gb];exact⟨j,o,Gc m l,Gc U I⟩;rw[Gb];exact⟨j,o,Gc m l,by simp[Sm.el,WB]⟩;rw[Gb];exact⟨j,o,by simp[Sm.bd,WB],by simp[Sm.el,WB]⟩
theorem Vi(v:Q H.bN=Q H.rs):∀{S:List Sg}{fs:List Fc}{bs:List Bd},rK H S fs=.ok bs->∀b∈bs,WB (zG H) b.code
 |[],fs,bs,h=>by
  grind [rK]
 |_::_,[],bs,h=>by
  grind [rK]
 |s::S,f::fs,bs,h=>by
  unfold rK at h;split at h;cases h;rename_i c W k;split at h;cases h;rename_i l j;cases h;intro b g;rcases List.mem_cons.1 g with rfl|g
  grind [Gc,aoa]
  exact Vi v j b g
end qu
namespace qu
open Ax Go V7 jb jn
def OnD(a b:Rs):Prop:=(∃l,b.out=a.out++l)/\a.aL<=b.aL
theorem OnD.on{a b c}(h:OnD a b)(k:On b c):OnD a c:=by
 have ⟨⟨l,j⟩,g⟩:=h;have ⟨q,m⟩:=k.out;exact⟨⟨l++q,by grind⟩,Nat.le_trans g k.st⟩
def ext(w:List Int)(r:Rs):Rs:={ r with fB:=r.fB++w }
theorem aob(w r):OnD r (ext w r):=⟨⟨[],by simp[ext]⟩,aal _⟩
structure Kd where
 iO:Int->Int->Nat->Prop
 q:Int->Prop
structure qR (C C':Cx)(w:List Int)(iO:Kd):Prop where
 aR:C'.aR=C.aR
 bs:C'.bs=C.bs
 fuel:C.fuel<=C'.fuel
 A1:(C'.fuel=C.fuel/\iO.q 3)\/∀c,iO.iO 3 c C.fuel
 A2:w=[]\/∀n,iO.iO 2 5 n
 A3:∀e c n,iO.iO e c n->e≠0
 q0:iO.q 0
 q1:iO.q 1
 q2:iO.q 2
def AG(iO:Kd)(r:Rs):Prop:=iO.iO r.e r.code r.aL
variable {C C':Cx}{w:List Int}{iO:Kd}{n:Nat}
variable {fE Ct:E->Fm->Rs->Int×Rs}{fS Jn:Sm->Rs×Fm->Rs×Fm}
def Ok(C:Cx)(iO:Kd)(r:Rs):Prop:=r.aL<=C.fuel/\iO.q r.e
def ZV(C:Cx)(iO:Kd)(n:Nat)(r:Rs):Prop:=Ok C iO r/\C.fuel<=r.aL+n
def RE(C:Cx)(w:List Int)(iO:Kd)(x j:Int×Rs):Prop:=(j.1=x.1/\j.2=ext w x.2/\Ok C iO x.2)\/(AG iO x.2/\OnD x.2 j.2)
def RS(C:Cx)(w:List Int)(iO:Kd)(x j:Rs×Fm):Prop:=(j.1=ext w x.1/\j.2=x.2/\Ok C iO x.1)\/(AG iO x.1/\OnD x.1 j.1)
def RV(C:Cx)(w:List Int)(iO:Kd)(x j:Option (List Int)×Rs):Prop:=(j.1=x.1/\j.2=ext w x.2/\Ok C iO x.2)\/(x.1=K/\AG iO x.2/\OnD x.2 j.2)
structure Hyp (C C':Cx)(w:List Int)(iO:Kd)(n:Nat)(fE Ct:E->Fm->Rs->Int×Rs)(fS Jn:Sm->Rs×Fm->Rs×Fm):Prop where
 E:∀e f r,ZV C iO n r->RE C w iO (fE e f r) (Ct e f (ext w r))
 S:∀s x,ZV C iO n x.1->RS C w iO (fS s x) (Jn s (ext w x.1,x.2))
 oE:∀e f r,On r (fE e f r).2
 oS:∀s x,On x.1 (fS s x).1
 oE':∀e f r,On r (Ct e f r).2
 oS':∀s x,On x.1 (Jn s x).1
theorem ZV.on{r R}(h:ZV C iO n r)(k:On r R)(m:Ok C iO R):ZV C iO n R:=⟨m,by have:=h.2;have:=k.st;omega⟩
theorem Hq{r}(h:r.e≠0):stop r=r:=by unfold stop;grind
theorem Cu(r c):eP (ext w r) c=ext w (eP r c):=by
 unfold eP ext
 grind
theorem SU(r):cj (ext w r)=ext w (cj r):=rfl
theorem Cv(r):stop (ext w r)=ext w (stop r):=by
 unfold stop ext
 grind
theorem nU{C r}:pI C r=Y↔r.e=0/\r.aL<C.fuel:=by simp_all [pI]
theorem Ge(p:qR C C' w iO){r}(j:Ok C iO r)(z:¬pI C r=Y):(¬pI C' (ext w r)=Y/\Ok C iO (stop r))\/(AG iO (stop r)):=by
 by_cases B:r.e=0;have k:¬r.aL<C.fuel:=λh=>z (nU.2 ⟨B,h⟩);have g:r.aL=C.fuel:=by have:=j.1;omega
 rcases p.A1 with⟨h,l⟩|h;left;constructor;rw[nU];rintro⟨_,m⟩;have m:r.aL<C'.fuel:=m;omega;unfold stop;rw[af B];exact⟨j.1,l⟩;simp_all [AG,stop];left;refine⟨?_,by rw[Hq B];omega⟩;rw[nU];exact λh=>B h.1
theorem Cw(w r):OnD (stop r) (ext w r):=by
 unfold stop;split;exact⟨⟨[],by simp[ext]⟩,aal _⟩;exact aob w r
theorem Vj(p:qR C C' w iO){r}(h:pI C r=Y):pI C' (ext w r)=Y:=by
 rw[nU]at *;have:=p.fuel;exact⟨h.1,by show r.aL<_;omega⟩
theorem uI(s:qR C C' w iO)(H:Hyp C C' w iO n fE Ct fS Jn)(f):∀l r,ZV C iO n r->RV C w iO (vals fE f l r) (vals Ct f l (ext w r))
 |[],r,h=>.inl ⟨rfl,rfl,h.1⟩|e::l,r,h=>by
  unfold vals;have M:On (Ct e f (ext w r)).2 (if (Ct e f (ext w r)).2.e≠0 then ((K,(Ct e f (ext w r)).2):Option (List Int)×Rs) else match vals Ct f l (Ct e f (ext w r)).2 with
   |(Z vs,R)=>(Z ((Ct e f (ext w r)).1::vs),R)
   |(K,R)=>(K,R)).2:=by
   split;exact .rfl' _;have:=kq H.oE' f l (Ct e f (ext w r)).2
   grind
  rcases H.E e f r h with⟨j,o,q⟩|⟨j,o⟩;rw[j,o];by_cases B:(fE e f r).2.e≠0;rw[af B,af (show (ext w _).e≠0 from B)];exact .inl ⟨rfl,rfl,q⟩;rw[U B,U (show ¬(ext w _).e≠0 from B)];rcases uI s H f l _ (h.on (H.oE e f r) q) with⟨p,k,z⟩|⟨p,k,z⟩;generalize vals fE f l _=g,vals Ct f l (ext w _)=x at *;have ⟨a,b⟩:=g;have ⟨m,t⟩:=x;simp only at *;subst p;subst k;cases m with
  |none=>exact .inl ⟨rfl,rfl,z⟩|some v=>exact .inl ⟨rfl,rfl,z⟩
  generalize vals fE f l _=g,vals Ct f l (ext w _)=x at *;have ⟨a,b⟩:=g;have ⟨m,t⟩:=x;subst p;cases m with
  |none=>exact .inr ⟨rfl,k,z⟩|some v=>exact .inr ⟨rfl,k,z⟩
  have B:=s.A3 _ _ _ j;rw[af B];exact .inr ⟨rfl,j,o.on M⟩
theorem Nt{l x}(h:x.1.e≠0):gj fS l x=x:=by
 cases l with
 |nil=>rfl|cons s l=>simp_all [gj]
theorem Cy(p:qR C C' w iO)(H:Hyp C C' w iO n fE Ct fS Jn):∀l x,ZV C iO n x.1->RS C w iO (gj fS l x) (gj Jn l (ext w x.1,x.2))
 |[],x,h=>.inl ⟨rfl,rfl,h.1⟩|s::l,x,h=>by
  unfold gj;by_cases g:x.2.done=Y\/x.1.e≠0;rw[af g,af (show (ext w _,x.2).2.done=Y\/(ext w _,x.2).1.e≠0 from g)];exact .inl ⟨rfl,rfl,h.1⟩;rw[U g,U (show ¬((ext w _,x.2).2.done=Y\/(ext w _,x.2).1.e≠0) from g)];rcases H.S s x h with⟨j,k,m⟩|⟨j,k⟩;have:=Cy p H l _ (h.on (H.oS s x) m)
  grind
  rw[Nt (p.A3 _ _ _ j)];exact .inr ⟨j,k.on (lJ H.oS' l _)⟩
theorem Gf(p:qR C C' w iO){r}(h:Ok C iO r)(c):Ok C iO (eP r c):=by
 unfold eP;split;exact⟨h.1,p.q2⟩;exact h
theorem SW(p:qR C C' w iO)(H:Hyp C C' w iO n fE Ct fS Jn)(i l r)(h:ZV C iO n r):RE C w iO (eF C fS i l r) (eF C' Jn i l (ext w r)):=by
 unfold eF;by_cases g:40<=r.nf;rw[af g,af (show 40<=(ext w r).nf from g)];exact .inl ⟨rfl,Cu r 6,Gf p h.1 6⟩;rw[U g,U (show ¬40<=(ext w r).nf from g),p.bs];have:=Cy p H (C.bs.getD i.toNat B0).code ({ r with nf:=r.nf+1 },⟨l++aag (Q (C.bs.getD i.toNat B0).vars-Q l) 0,0,false⟩) h;rw[show (ext w _)={ (ext w r) with nf:=(ext w r).nf+1 } from rfl]at *;generalize gj Jn _ _=B at *;rcases this with⟨j,k,m⟩|⟨j,k⟩;refine .inl ⟨?_,?_,m⟩
 grind
 simp[j];rfl;exact .inr ⟨j,k⟩
theorem Lu(p:qR C C' w iO)(H:Hyp C C' w iO n fE Ct fS Jn)(k m ref R f l r)(h:ZV C iO n r)(N:r.e=0):
  RE C w iO (ju C (eF C fS) k m ref R f l r) (ju C' (eF C' Jn) k m ref R f l (ext w r)):=by
 have o:∀x,RE C w iO (vg r x) (vg (ext w r) x):=λx=>.inl ⟨rfl,Cu r _,Gf p h.1 _⟩;unfold ju;by_cases t:k=1\/k=2;rw[af t,af t];exact .inl ⟨rfl,rfl,h.1⟩;rw[U t,U t];by_cases z:k=3;rw[af z,af z];exact .inl ⟨rfl,rfl,h.1⟩;rw[U z,U z];by_cases v:k=4;rw[af v,af v];exact .inl ⟨rfl,rfl,h.1⟩;rw[U v,U v];by_cases y:k=5;rw[af y,af y];exact o _;rw[U y,U y];by_cases B:k=6;rw[af B,af B];exact o _;rw[U B,U B];by_cases F:k=7;rw[af F,af F];grind [SW];rw[U F,U F];by_cases G:k=8;rw[af G,af G,p.aR];exact .inl ⟨rfl,rfl,h.1⟩;rw[U G,U G];by_cases I:k=9;rw[af I,af I];unfold pJ;by_cases s:rE l<0\/50<rE l;rw[af s,af s];exact .inl ⟨rfl,Cu r 4,Gf p h.1 4⟩;rw[U s,U s];exact .inl ⟨rfl,rfl,h.1⟩;rw[U I,U I];by_cases g:k=10;rw[af g,af g];exact o _;rw[U g,U g];by_cases j:k=11;rw[af j,af j];unfold pK;cases L:r.fB with
 |cons a b=>
  rw[show (ext w r).fB=a::(b++w) by simp[ext,L]];exact .inl ⟨rfl,rfl,h.1⟩
 |nil=>
  rcases p.A2 with J|J;subst J;rw[show (ext [] r).fB=[] by simp[ext,L]];exact .inl ⟨rfl,Cu r 5,Gf p h.1 5⟩;refine .inr ⟨?_,?_⟩;simp_all [AG,eP];have M:OnD (eP r 5) (ext w r):=by
   unfold eP;rw[af ⟨by omega,N⟩];exact⟨⟨[],by simp[ext]⟩,aal _⟩
  exact M.on (Xy _)
 rw[U j,U j];by_cases q:k=12\/k=13;rw[af q,af q];exact .inl ⟨rfl,rfl,h.1⟩
 grind
theorem XF{f}:∀l r,r.e=0->∀vs g,vals fE f l r=(Z vs,g)->g.e=0
 |[],r,h,vs,g,e=>by grind [vals]|x::l,r,h,vs,g,e=>by
  unfold vals at e;by_cases B:(fE x f r).2.e≠0
  grind
  rw[U B]at e;split at e;rename_i v R j;cases e;exact XF l _ (by omega) _ _ j;cases e
theorem Lv(p:qR C C' w iO)(H:Hyp C C' w iO n fE Ct fS Jn)(e f r)(h:ZV C iO n r)(s:r.e=0):
  RE C w iO (jD C fE fS e f r) (jD C' Ct Jn e f (ext w r)):=by
 unfold jD;have x:=uI p H f e.aP r h;have t:=kq H.oE f e.aP r;have q:=XF (fE:=fE) (f:=f) e.aP r s;generalize vals fE f e.aP r=g,vals Ct f e.aP _=B at *;have ⟨a,b⟩:=g;have ⟨m,o⟩:=B;rcases x with⟨l,j,z⟩|⟨l,j,z⟩;simp only at *;subst l;subst j;cases m with
 |none=>exact .inl ⟨rfl,rfl,z⟩|some v=>exact Lu p H e.k e.n e.ref e.ty.r f v b (h.on t z) (q v b rfl)
 subst l;cases m with
 |none=>exact .inr ⟨j,z⟩|some v=>exact .inr ⟨j,z.on (Xz H.oS' e.k e.n e.ref e.ty.r f v o)⟩
theorem aiH(x ref v):cG (ext w x.1,x.2) ref v=(ext w (cG x ref v).1,(cG x ref v).2):=by
 unfold cG ext
 grind
theorem tL{x}(h:Ok C iO x.1)(ref v):Ok C iO (cG x ref v).1:=by unfold cG;split<;>exact h
theorem aiI(j:qR C C' w iO)(H:Hyp C C' w iO n fE Ct fS Jn)(k ref B m l x)(h:ZV C iO n x.1):
  RS C w iO (jQ fS k ref B m l x) (jQ Jn k ref B m l (ext w x.1,x.2)):=by
 unfold jQ;by_cases g:k=2\/k=3;rw[af g,af g,aiH];exact .inl ⟨rfl,rfl,tL h.1 _ _⟩;rw[U g,U g];by_cases y:k=5;rw[af y,af y];by_cases p:rE l≠0;rw[af p,af p];exact Cy j H B x h;rw[U p,U p];exact Cy j H m x h;rw[U y,U y];by_cases F:k=7;rw[af F,af F];exact .inl ⟨rfl,rfl,h.1⟩;rw[U F,U F];by_cases G:k=8;rw[af G,af G];exact .inl ⟨rfl,rfl,h.1⟩;rw[U G,U G];exact .inl ⟨rfl,rfl,h.1⟩
theorem aiJ(p:qR C C' w iO)(x k ref l)(h:Ok C iO x.1):RS C w iO (pL x k ref l) (pL (ext w x.1,x.2) k ref l):=by
 have key:∀T c,RS C w iO (eP _ c,x.2) (eP { (ext w x.1) with s:=T } c,x.2):=λT c=>
  .inl ⟨Cu { x.1 with s:=T } c,rfl,Gf p (r:={ x.1 with s:=T }) h c⟩
 unfold pL;by_cases y:k=5;rw[af y,af y];exact key _ _;rw[U y,U y];exact key _ _
theorem Lw(p:qR C C' w iO)(H:Hyp C C' w iO n fE Ct fS Jn)(s x)(h:ZV C iO n x.1):RS C w iO (gQ fE fS s x) (gQ Ct Jn s (ext w x.1,x.2)):=by
 unfold gQ;by_cases o:s.k=4;rw[af o,af o];have r:=uI p H x.2 ((jR s.es).aP++s.es.drop 1) _ h;generalize vals fE _ _ _=g,vals Ct _ _ _=B at *;have ⟨a,b⟩:=g;have ⟨m,q⟩:=B;rcases r with⟨l,j,z⟩|⟨l,j,z⟩;simp at *;subst l;subst j;cases m with
 |none=>exact .inl ⟨rfl,rfl,z⟩|some v=>exact aiJ p _ _ _ v z
 simp at *;subst l;cases m with
 |none=>exact .inr ⟨j,z⟩|some v=>exact .inr ⟨j,z.on (aeJ (q,x.2) _ _ v)⟩
 rw[U o,U o];have r:=uI p H x.2 s.es _ h;have t:=kq H.oE x.2 s.es x.1;generalize vals fE _ s.es _=g at *;simp;generalize vals Ct _ s.es _=B at *;have ⟨a,b⟩:=g;have ⟨m,q⟩:=B;rcases r with⟨l,j,z⟩|⟨l,j,z⟩;simp at *;subst l;subst j;cases m with
 |none=>exact .inl ⟨rfl,rfl,z⟩|some v=>exact aiI p H s.k s.ref s.bd s.el v _ (h.on t z)
 simp at l j z;subst l;cases m with
 |none=>exact .inr ⟨j,z⟩|some v=>exact .inr ⟨j,z.on (aeI H.oS' s.k s.ref s.bd s.el v (q,x.2))⟩
theorem Hr{r}(h:pI C r=Y):r.e=0/\r.aL<C.fuel:=nU.1 h
theorem Hs{c b}:∀k {x:Rs×Fm},x.1.e≠0->(cz C fE fS c b k x).1=x.1
 |0,x,h=>by
  grind [cz,Hq]
 |k+1,x,h=>by
  unfold cz;split
  rfl
  split;rename_i z;exact bH (Hr z).1 h;exact Hq h
theorem CA(p:qR C C' w iO)(H:Hyp C C' w iO n fE Ct fS Jn)(c b m):∀k x,Ok C iO x.1->C.fuel<=x.1.aL+k->C.fuel<=x.1.aL+(n+1)->
  RS C w iO (cz C fE fS c b k x) (cz C' Ct Jn c b (k+m) (ext w x.1,x.2))
 |k,x,t,v,h3=>by
  by_cases l:x.2.done=Y;have q:cz C fE fS c b k x=x:=by cases k<;>(unfold cz;grind)
  have r:cz C' Ct Jn c b (k+m) (ext w x.1,x.2)=(ext w x.1,x.2):=by cases k+m<;>(unfold cz;rw[af ((l))])
  rw[q,r];exact .inl ⟨rfl,rfl,t⟩;by_cases z:pI C x.1=Y;have ⟨he,hl⟩:=Hr z;match k,v with
  |0,v=>omega|k+1,v=>
   have r:k+1+m=(k+m)+1:=(by omega);rw[r];unfold cz;rw[U l,U ((l)),af z,af (Vj p z)];have hb:ZV C iO n (cj _):=⟨⟨by show x.1.aL+1<=_;omega,t.2⟩,by show _<=x.1.aL+1+n;omega⟩;have W:=H.E c x.2 _ hb;have J:=H.oE c x.2 (cj x.1);have R:=H.oE' c x.2 (ext w (cj x.1));show RS C w iO _ (if (Ct c x.2 (ext w (cj _))).2.e≠0\/(Ct c x.2 (ext w (cj _))).1=0 then ((Ct c x.2 (ext w (cj _))).2,x.2) else cz C' Ct Jn c b _ (gj Jn b ((Ct c x.2 (ext w (cj _))).2,x.2)));generalize fE c _ _=g,Ct c _ _=O at *;have iX:x.1.aL+1<=g.2.aL:=J.st;rcases W with⟨G,s,M⟩|⟨G,s⟩;rw[G,s];by_cases h:g.2.e≠0\/g.1=0;rw[af h,af (show (ext w _).e≠0\/g.1=0 from h)];exact .inl ⟨rfl,rfl,M⟩;rw[U h,U (show ¬((ext w _).e≠0\/g.1=0) from h)];have N:=Cy p H b (g.2,x.2) ⟨M,by grind⟩;have I:=lJ H.oS b (g.2,x.2);simp at N;generalize gj fS b _=y,gj Jn b _=P at *;have ⟨y1,y2⟩:=y;have ⟨y1',y2'⟩:=P;have S:g.2.aL<=y1.aL:=I.st;rcases N with⟨B,o,L⟩|⟨B,o⟩;simp at B o L;subst B;subst o;exact CA p H c b m k _ L (by grind) (by grind);refine .inr ⟨?_,?_⟩;rw[Hs k (p.A3 _ _ _ B)];omega;rw[Hs k (p.A3 _ _ _ B)];exact o.on (Dp H.oE' H.oS' c b _ _);have h:g.2.e≠0\/g.1=0:=.inl (p.A3 _ _ _ G);rw[af h];refine .inr ⟨G,?_⟩;split;omega;exact s.on ((lJ H.oS' b (O.2,x.2)).trans (Dp H.oE' H.oS' c b _ _))
  have q:cz C fE fS c b k x=(stop x.1,x.2):=by
   cases k with
   |zero=>unfold cz;grind|succ k=>simp_all [cz]
  rw[q];rcases Ge p t z with⟨F,T⟩|F;have r:cz C' Ct Jn c b (k+m) (ext w x.1,x.2)=(stop (ext w x.1),x.2):=by
   cases k+m with
   |zero=>unfold cz;rw[U ((l))]|succ j=>unfold cz;rw[U ((l)),U F]
  rw[r];exact .inl ⟨Cv _,rfl,T⟩;exact .inr ⟨F,(Cw w _).on (Dp H.oE' H.oS' c b _ (ext w _,x.2))⟩
theorem Lx(p:qR C C' w iO)(m):∀n,Hyp C C' w iO n (ev C n).1 (ev C' (n+m)).1 (ev C n).2 (ev C' (n+m)).2
 |0=>by
  refine⟨λe f r h=>?_,λs x h=>?_,(mN 0).1,(mN 0).2,(mN _).1,(mN _).2⟩;have z:¬pI C r=Y:=λk=>by have:=(Hr k).2;have:=h.2;omega
  rcases Ge p h.1 z with⟨g,O⟩|g;have o:(ev C' (0+m)).1 e f (ext w r)=(0,stop (ext w r)):=by
   cases 0+m with
   |zero=>rfl|succ j=>show (if pI C' _=Y then _ else _)=_;grind
  rw[o];exact .inl ⟨rfl,Cv _,O⟩;exact .inr ⟨g,(Cw w r).on ((mN _).1 e f _)⟩;have z:¬pI C x.1=Y:=λk=>by have:=(Hr k).2;have:=h.2;omega
  by_cases l:s.k=1;have t:(ev C 0).2 s x=x:=by show (if s.k=1 then _ else _)=_;grind
  have o:(ev C' (0+m)).2 s (ext w x.1,x.2)=(ext w x.1,x.2):=by
   cases 0+m with
   |zero=>show (if s.k=1 then _ else _)=_;grind|succ j=>show (if s.k=1 then _ else _)=_;grind
  rw[t,o];exact .inl ⟨rfl,rfl,h.1⟩;by_cases q:s.k=6/\x.2.done=Y;have t:(ev C 0).2 s x=x:=by
   show (if s.k=1 then _ else if s.k=6 then cz C _ _ _ _ 0 x else _)=_;simp_all [cz]
  have o:(ev C' (0+m)).2 s (ext w x.1,x.2)=(ext w x.1,x.2):=by
   cases 0+m with
   |zero=>
    show (if s.k=1 then _ else if s.k=6 then cz C' _ _ _ _ 0 _ else _)=_;rw[U l,af q.1];unfold cz;rw[af ((q.2))]
   |succ j=>
    show (if s.k=1 then _ else if s.k=6 then cz C' _ _ _ _ _ _ else _)=_;rw[U l,af q.1];unfold cz;rw[af ((q.2))]
  rw[t,o];exact .inl ⟨rfl,rfl,h.1⟩;have t:(ev C 0).2 s x=(stop x.1,x.2):=by
   show (if s.k=1 then _ else if s.k=6 then cz C _ _ _ _ 0 x else _)=_;simp_all [cz]
  rw[t];rcases Ge p h.1 z with⟨g,O⟩|g;have o:(ev C' (0+m)).2 s (ext w x.1,x.2)=(stop (ext w x.1),x.2):=by
   cases 0+m with
   |zero=>
    show (if s.k=1 then _ else if s.k=6 then cz C' _ _ _ _ 0 _ else _)=_;rw[U l];by_cases B:s.k=6;rw[af B];unfold cz;rw[U ((λh=>q ⟨B,h⟩))];rw[U B]
   |succ j=>
    show (if s.k=1 then _ else if s.k=6 then cz C' _ _ _ _ _ _ else if pI C' (ext w _)=Y then _ else _)=_;rw[U l];by_cases B:s.k=6;rw[af B];unfold cz;rw[U ((λh=>q ⟨B,h⟩)),U g];rw[U B,U g]
  rw[o];exact .inl ⟨Cv _,rfl,O⟩;exact .inr ⟨g,(Cw w _).on ((mN _).2 s (ext w _,x.2))⟩
 |n+1=>by
  have H:=Lx p m n;have v:n+1+m=(n+m)+1:=by omega
  rw[v];refine⟨λe f r h=>?_,λs x h=>?_,(mN _).1,(mN _).2,(mN _).1,(mN _).2⟩;show RE C w iO (if pI C r=Y then jD C _ _ e f _ else (0,stop r)) (if pI C' _=Y then jD C' _ _ e f _ else (0,stop _));by_cases z:pI C r=Y;rw[af z,af (Vj p z),SU];have ⟨y,F⟩:=Hr z;exact Lv p H e f _ ⟨⟨by show r.aL+1<=_;omega,h.1.2⟩,by show _<=r.aL+1+n;have:=h.2;omega⟩ y;rw[U z];rcases Ge p h.1 z with⟨g,O⟩|g;rw[U g];exact .inl ⟨rfl,Cv _,O⟩;exact .inr ⟨g,(Cw w r).on ((mN (n+m+1)).1 e f _)⟩;show RS C w iO (if s.k=1 then x else if s.k=6 then cz C _ _ _ s.bd _ x else if pI C _=Y then gQ _ _ s _ else (stop _,x.2))
   (if s.k=1 then (ext w _,x.2) else if s.k=6 then cz C' _ _ _ s.bd _ _ else if pI C' (ext w _)=Y then gQ _ _ s (cj (ext w _),x.2) else (stop (ext w _),x.2))
  by_cases l:s.k=1;rw[af l,af l];exact .inl ⟨rfl,rfl,h.1⟩;rw[U l,U l];by_cases B:s.k=6;rw[af B,af B,<-v];exact CA p H _ s.bd m _ x h.1 h.2 h.2;rw[U B,U B];by_cases z:pI C x.1=Y;rw[af z,af (Vj p z),SU];have ⟨y,F⟩:=Hr z;exact Lw p H s _ ⟨⟨by show x.1.aL+1<=_;omega,h.1.2⟩,by show _<=x.1.aL+1+n;have:=h.2;omega⟩;rw[U z];rcases Ge p h.1 z with⟨g,O⟩|g;rw[U g];exact .inl ⟨Cv _,rfl,O⟩;refine .inr ⟨g,(Cw w _).on ?_⟩;split;exact(Jm _).trans (XA (mN _).1 (mN _).2 s (cj _,x.2));exact yx _
theorem PL(p:qR C C' w iO)(main fB)(j:C'.ng=C.ng):
  (run C' main (fB++w)=ext w (run C main fB)/\Ok C iO (run C main fB))\/(AG iO (run C main fB)/\OnD (run C main fB) (run C' main (fB++w))):=by
 obtain⟨m,r⟩:∃m,C'.fuel=C.fuel+m:=⟨C'.fuel-C.fuel,by have:=p.fuel;omega⟩;have H:=Lx p m C.fuel;rw[<-r]at H;have l:r0 C' (fB++w)=ext w (r0 C fB):=by unfold r0 ext;rw[j]
 have q:=SW p H main [] (r0 C fB) ⟨⟨Nat.zero_le _,p.q0⟩,by grind⟩;unfold run;rw[l];generalize eF C _ main [] _=X at *;rcases q with⟨h,g,o⟩|⟨h,g⟩;left;rw[g];unfold qW ext;by_cases B:X.2.e=0;rw[af B,af B];exact⟨rfl,o.1,p.q1⟩
 grind
 right;have B:¬X.2.e=0:=p.A3 _ _ _ h;have k:qW X.2=X.2:=by unfold qW;grind
 rw[k];refine⟨h,?_⟩;unfold qW;split;exact g;omega
theorem ext_nil(r):ext [] r=r:=by simp[ext]
theorem SM(C k main fB):((run C main fB).e=3/\(run C main fB).aL=C.fuel/\OnD (run C main fB) (run { C with fuel:=C.fuel+k } main fB))\/
  ((run C main fB).e≠3/\run { C with fuel:=C.fuel+k } main fB=run C main fB/\(run C main fB).aL<=C.fuel):=by
 have p:qR C { C with fuel:=C.fuel+k } [] ⟨λe _ n=>e=3/\n=C.fuel,λe=>e≠3⟩:=
  ⟨rfl,rfl,Nat.le_add_right _ _,.inr λ_=>⟨rfl,rfl⟩,.inl rfl,λe c n h=>by grind,by grind,by grind,by grind⟩
 have:=PL p main fB rfl;rw[List.append_nil,ext_nil]at *;rcases this with⟨g,j,l⟩|⟨⟨g,j⟩,l⟩;all_goals grind
end qu
