/- Part of a proof. -/
import Derived.Test.YtgblgbgjmgjfkaaGreatP

open List renaming replicate->acp
open Nat renaming le_refl->acO
open Bool renaming and_eq_true->Ee
namespace pX
open Ax Go V7 iQ iZ
structure Rs where
 fm:List Int
 s:List (List Int)
 g:List Int
 nf:Nat
 e:Int
 code:Int
 out:List Int
 aK:Nat
structure Fm where
 vs:List Int
 res:Int
 done:Bool
structure Cx where
 fuel:Nat
 aU:List Nat
 bs:List Bd
 ng:Nat
def lM(b:Bool):Int:=if b then 1 else 0
def zV(op a b:Int):Int×Int:=
 if op=14 then (IntKind.i64.wrap (a+b),0)
 else if op=15 then (IntKind.i64.wrap (a-b),0)
 else if op=16 then (IntKind.i64.wrap (a*b),0)
 else if op=17 then (if b=0 then (0,3) else (IntKind.i64.wrap (a.tdiv b),0))
 else if op=18 then (if b=0 then (0,3) else (a.tmod b,0))
 else if op=19 then (lM (decide (a<b)),0)
 else if op=20 then (lM (decide (a<=b)),0)
 else if op=21 then (lM (decide (a=b)),0)
 else if op=22 then (lM (decide (a≠b)),0)
 else if op=23 then (lM (decide (a≠0)&&decide (b≠0)),0)
 else if op=24 then (lM (decide (a≠0)||decide (b≠0)),0)
 else (0,0)
def Zs(op a:Int):Int:=if op=12 then IntKind.i64.wrap (0-a) else if op=13 then lM (decide (a=0)) else 0
def zW(T:List (List Int))(r:Int):Int×Int:=if 1<=r/\r<=(T.length:Int) then (((T.getD (r-1).toNat []).length:Int),0) else (0,1)
def ko(T:List (List Int))(r i:Int):Int:=if 1<=r/\r<=(T.length:Int) then (if 0<=i/\i<((T.getD (r-1).toNat []).length:Int) then 0 else 2) else 1
def kQ(T:List (List Int))(r i:Int):Int×Int:=if ko T r i=0 then ((T.getD (r-1).toNat []).getD i.toNat 0,0) else (0,ko T r i)
def tH(T:List (List Int))(r i x:Int):List (List Int):=if ko T r i=0 then T.set (r-1).toNat ((T.getD (r-1).toNat []).set i.toNat x) else T
def kU(n:Int):Nat:=if n<0 then 0 else if 8<n then 8 else n.toNat
def oB(C:Cx)(r:Rs):Bool:=decide (r.e=0)&&decide (r.aK<C.fuel)
def bV(r:Rs):Rs:={ r with aK:=r.aK+1 }
def stop(r:Rs):Rs:=if r.e=0 then { r with e:=3 } else r
def eH(r:Rs)(c:Int):Rs:=if c≠0/\r.e=0 then { r with e:=2,code:=c } else r
def uq(r:Rs)(x:Int×Int):Int×Rs:=(x.1,eH r x.2)
def qD(l:List Int):Int:=l.getD 0 0
def Lt(l:List Int):Int:=l.getD 1 0
def at2(l:List Int):Int:=l.getD 2 0
def jk(es:List E):E:=match es with|e::_=>e | []=>.mk 0 0 [] [] 0 [] 0 T0 0
def qE(f:Fm)(r:Rs)(ref:Int):Int:=if ref<0 then r.g.getD (-1-ref).toNat 0 else f.vs.getD ref.toNat 0
def cy(x:Rs×Fm)(ref v:Int):Rs×Fm:=if ref<0 then ({ x.1 with g:=x.1.g.set (-1-ref).toNat v },x.2) else (x.1,{ x.2 with vs:=x.2.vs.set ref.toNat v })
def vals(fE:E->Fm->Rs->Int×Rs)(f:Fm):List E->Rs->Option (List Int)×Rs
 |[],r=>(some [],r)
 |e::l,r=>if (fE e f r).2.e≠0 then (none,(fE e f r).2) else match vals fE f l (fE e f r).2 with
  |(some vs,g)=>(some ((fE e f r).1::vs),g)
  |(none,g)=>(none,g)
def qF(r:Rs)(n:Nat):Int×Rs:=((r.s.length:Int)+1,{ r with s:=r.s++[acp n 0] })
def oC(r:Rs)(n:Int):Int×Rs:=if n<0\/50<n then (0,eH r 4) else qF r n.toNat
def oD(r:Rs):Int×Rs:=match r.fm with
 |[]=>(0,eH r 5)
 |n::l=>(n,{ r with fm:=l })
def ja(C:Cx)(call:Int->List Int->Rs->Int×Rs)(k n ref g:Int)(f:Fm)(l:List Int)(r:Rs):Int×Rs:=
 if k=1\/k=2 then (n,r)
 else if k=3 then (0,r)
 else if k=4 then (qE f r ref,r)
 else if k=5 then uq r (kQ r.s (qD l) ref)
 else if k=6 then uq r (kQ r.s (qD l) (Lt l))
 else if k=7 then call ref l r
 else if k=8 then qF r (kU (C.aU.getD g.toNat 0:Nat))
 else if k=9 then oC r (qD l)
 else if k=10 then uq r (zW r.s (qD l))
 else if k=11 then oD r
 else if k=12\/k=13 then (Zs k (qD l),r)
 else uq r (zV k (qD l) (Lt l))
def fN(fS:Sm->Rs×Fm->Rs×Fm):List Sm->Rs×Fm->Rs×Fm
 |[],x=>x|s::l,x=>if x.2.done=true\/x.1.e≠0 then x else fN fS l (fS s x)
def B0:Bd:=⟨[],[],0⟩
def dW(C:Cx)(fS:Sm->Rs×Fm->Rs×Fm)(i:Int)(l:List Int)(r:Rs):Int×Rs:=
 if 40<=r.nf then (0,eH r 6)
 else
  let x:=fN fS (C.bs.getD i.toNat B0).code ({ r with nf:=r.nf+1 },⟨l++acp ((C.bs.getD i.toNat B0).vars.length-l.length) 0,0,false⟩)
  (x.2.res,{ x.1 with nf:=x.1.nf-1 })
def cu(C:Cx)(fE:E->Fm->Rs->Int×Rs)(fS:Sm->Rs×Fm->Rs×Fm)(c:E)(b:List Sm):Nat->Rs×Fm->Rs×Fm
 |0,x=>if x.2.done=true then x else (stop x.1,x.2)
 |k+1,x=>if x.2.done=true then x else if oB C x.1=true then
   (if (fE c x.2 (bV x.1)).2.e≠0\/(fE c x.2 (bV x.1)).1=0 then ((fE c x.2 (bV x.1)).2,x.2) else cu C fE fS c b k (fN fS b ((fE c x.2 (bV x.1)).2,x.2)))
  else (stop x.1,x.2)
def oF(x:Rs×Fm)(k ref:Int)(l:List Int):Rs×Fm:=
 if k=5 then (eH { x.1 with s:=tH x.1.s (qD l) ref (Lt l) } (ko x.1.s (qD l) ref),x.2)
 else (eH { x.1 with s:=tH x.1.s (qD l) (Lt l) (at2 l) } (ko x.1.s (qD l) (Lt l)),x.2)
def jz(fS:Sm->Rs×Fm->Rs×Fm)(k ref:Int)(B g:List Sm)(l:List Int)(x:Rs×Fm):Rs×Fm:=
 if k=2\/k=3 then cy x ref (qD l)
 else if k=5 then (if qD l≠0 then fN fS B x else fN fS g x)
 else if k=7 then (x.1,{ x.2 with done:=true,res:=if l=[] then x.2.res else qD l })
 else if k=8 then ({ x.1 with out:=x.1.out++[qD l] },x.2)
 else x
def gq(fE:E->Fm->Rs->Int×Rs)(fS:Sm->Rs×Fm->Rs×Fm)(s:Sm)(x:Rs×Fm):Rs×Fm:=
 if s.k=4 then match vals fE x.2 ((jk s.es).aN++s.es.drop 1) x.1 with
  |(none,r)=>(r,x.2)
  |(some l,r)=>oF (r,x.2) (jk s.es).k (jk s.es).ref l
 else match vals fE x.2 s.es x.1 with
  |(none,r)=>(r,x.2)
  |(some l,r)=>jz fS s.k s.ref s.bd s.el l (r,x.2)
def jl(C:Cx)(fE:E->Fm->Rs->Int×Rs)(fS:Sm->Rs×Fm->Rs×Fm)(e:E)(f:Fm)(r:Rs):Int×Rs:=match vals fE f e.aN r with
 |(none,r)=>(0,r)
 |(some l,r)=>ja C (dW C fS) e.k e.n e.ref e.ty.r f l r
def ev(C:Cx):Nat->(E->Fm->Rs->Int×Rs)×(Sm->Rs×Fm->Rs×Fm)
 |0=>(λ_ _ r=>(0,stop r),λs x=>if s.k=1 then x else if s.k=6 then cu C (λ_ _ r=>(0,stop r)) (λ_ x=>x) (jk s.es) s.bd 0 x else (stop x.1,x.2))
 |n+1=>(λe f r=>if oB C r=true then jl C (ev C n).1 (ev C n).2 e f (bV r) else (0,stop r),
   λs x=>if s.k=1 then x else if s.k=6 then cu C (ev C n).1 (ev C n).2 (jk s.es) s.bd (n+1) x
    else if oB C x.1=true then gq (ev C n).1 (ev C n).2 s (bV x.1,x.2) else (stop x.1,x.2))
def r0(C:Cx)(fm:List Int):Rs:=⟨fm,[],acp C.ng 0,0,0,0,[],0⟩
def qo(r:Rs):Rs:=if r.e=0 then { r with e:=1 } else r
def run(C:Cx)(main:Int)(fm:List Int):Rs:=qo (dW C (ev C C.fuel).2 main [] (r0 C fm)).2
structure On (r r':Rs):Prop where
 out:∃l,r'.out=r.out++l
 st:r.aK<=r'.aK
 e:r.e≠0->r'.e=r.e/\r'.code=r.code
theorem On.rfl'(r:Rs):On r r:=⟨⟨[],by simp⟩,acO _,λ_=>⟨rfl,rfl⟩⟩
theorem On.trans{a b c:Rs}(h:On a b)(k:On b c):On a c:=by
 obtain⟨L,m⟩:=h.out;obtain⟨p,o⟩:=k.out;refine⟨⟨L++p,by rw[o,m];simp⟩,Nat.le_trans h.st k.st,λe=>?_⟩;obtain⟨g,q⟩:=h.e e;obtain⟨j,l⟩:=k.e (by rw[g];exact e);exact⟨by rw[j,g],by rw[l,q]⟩
theorem On.of{a b:Rs}(h:b.out=a.out)(g:b.aK=a.aK)(j:a.e≠0->b.e=a.e/\b.code=a.code):On a b:=⟨⟨[],by simp[h]⟩,by omega,j⟩
theorem xK(r:Rs):On r (stop r):=by
 unfold stop;split;rename_i h;exact .of rfl rfl λe=>au h e;exact .rfl' r
theorem Iu(r:Rs):On r (bV r):=⟨⟨[],by simp[bV]⟩,by simp[bV],λ_=>⟨rfl,rfl⟩⟩
theorem E4(r:Rs)(c:Int):On r (eH r c):=by
 unfold eH;split;rename_i h;exact .of rfl rfl λe=>au h.2 e;exact .rfl' r
theorem adv(r:Rs)(n:Nat):On r (qF r n).2:=.of rfl rfl λ_=>⟨rfl,rfl⟩
theorem ahd(r:Rs)(n:Int):On r (oC r n).2:=by
 unfold oC;split;exact E4 r 4;exact adv r _
theorem Wu(r:Rs):On r (oD r).2:=by
 unfold oD;split;exact E4 r 5;exact .of rfl rfl λ_=>⟨rfl,rfl⟩
theorem amv(x:Rs×Fm)(ref v:Int):On x.1 (cy x ref v).1:=by
 unfold cy;split;exact .of rfl rfl λ_=>⟨rfl,rfl⟩;exact .rfl' _
variable {C:Cx}{fE:E->Fm->Rs->Int×Rs}{fS:Sm->Rs×Fm->Rs×Fm}
theorem jN(j:∀e f r,On r (fE e f r).2)(f:Fm):∀(l:List E)(r:Rs),On r (vals fE f l r).2
 |[],r=>.rfl' r|e::l,r=>by
  unfold vals;split;exact j e f r;have:=jN j f l (fE e f r).2;split<;>rename_i h<;>rw[h]at this<;>exact(j e f r).trans this
theorem kN(h:∀s x,On x.1 (fS s x).1):∀(l:List Sm)(x:Rs×Fm),On x.1 (fN fS l x).1
 |[],x=>.rfl' _|s::l,x=>by
  unfold fN;split;exact .rfl' _;exact(h s x).trans (kN h l _)
theorem ahe(h:∀s x,On x.1 (fS s x).1)(i:Int)(l:List Int)(r:Rs):On r (dW C fS i l r).2:=by
 unfold dW;split;exact E4 r 6;have:=kN h (C.bs.getD i.toNat B0).code ({ r with nf:=r.nf+1 },⟨l++acp ((C.bs.getD i.toNat B0).vars.length-l.length) 0,0,false⟩);exact⟨this.out,this.st,this.e⟩
theorem Wv(h:∀s x,On x.1 (fS s x).1)(k n ref R:Int)(f:Fm)(l:List Int)(r:Rs):On r (ja C (dW C fS) k n ref R f l r).2:=by
 unfold ja uq;repeat' split
 all_goals first|exact .rfl' r|exact E4 r _|exact ahe h _ _ _|exact adv _ _|exact ahd _ _|exact Wu _
theorem ahf(j:∀e f r,On r (fE e f r).2)(g:∀s x,On x.1 (fS s x).1)(e:E)(f:Fm)(r:Rs):On r (jl C fE fS e f r).2:=by
 unfold jl;have:=jN j f e.aN r;split<;>rename_i h<;>rw[h]at this;exact this;exact this.trans (Wv g _ _ _ _ _ _ _)
theorem Cv(j:∀e f r,On r (fE e f r).2)(g:∀s x,On x.1 (fS s x).1)(c:E)(b:List Sm):∀(k:Nat)(x:Rs×Fm),On x.1 (cu C fE fS c b k x).1
 |0,x=>by
  unfold cu;split;exact .rfl' _;exact xK _
 |k+1,x=>by
  unfold cu;split;exact .rfl' _;split;have h:=(Iu x.1).trans (j c x.2 (bV x.1));split;exact h;exact h.trans ((kN g b ((fE c x.2 (bV x.1)).2,x.2)).trans (Cv j g c b k _));exact xK _
theorem adw(h:∀s x,On x.1 (fS s x).1)(k ref:Int)(B g:List Sm)(l:List Int)(x:Rs×Fm):On x.1 (jz fS k ref B g l x).1:=by
 unfold jz;split;exact amv _ _ _;split;split<;>exact kN h _ _;split;exact .rfl' _;split;exact⟨⟨_,rfl⟩,acO _,λ_=>⟨rfl,rfl⟩⟩;exact .rfl' _
theorem ahg(r:Rs)(T:List (List Int))(c:Int):On r (eH { r with s:=T } c):=
 (On.of (a:=r) (b:={ r with s:=T }) rfl rfl λ_=>⟨rfl,rfl⟩).trans (E4 _ _)
theorem adx(x:Rs×Fm)(k ref:Int)(l:List Int):On x.1 (oF x k ref l).1:=by
 unfold oF;split<;>exact ahg _ _ _
theorem Ww(j:∀e f r,On r (fE e f r).2)(g:∀s x,On x.1 (fS s x).1)(s:Sm)(x:Rs×Fm):On x.1 (gq fE fS s x).1:=by
 unfold gq;split;have:=jN j x.2 ((jk s.es).aN++s.es.drop 1) x.1;split<;>rename_i h<;>rw[h]at this;exact this;exact this.trans (adx (_,x.2) _ _ _);have:=jN j x.2 s.es x.1;split<;>rename_i h<;>rw[h]at this;exact this;exact this.trans (adw g _ _ _ _ _ (_,x.2))
theorem lW:∀n,(∀e f r,On r ((ev C n).1 e f r).2)/\(∀s x,On x.1 ((ev C n).2 s x).1)
 |0=>by
  refine⟨λe f r=>xK r,λs x=>?_⟩;show On x.1 ((if s.k=1 then x else if s.k=6 then cu C (λ_ _ r=>(0,stop r)) (λ_ x=>x) (jk s.es) s.bd 0 x else (stop x.1,x.2)):Rs×Fm).1;split;exact .rfl' _;split;exact Cv (λ_ _ r=>xK r) (λ_ x=>.rfl' _) _ _ _ _;exact xK _
 |n+1=>by
  obtain⟨j,h⟩:=lW n;refine⟨λe f r=>?_,λs x=>?_⟩;show On r ((if oB C r=true then jl C (ev C n).1 (ev C n).2 e f (bV r) else (0,stop r)):Int×Rs).2;split;exact(Iu r).trans (ahf j h e f _);exact xK r;show On x.1 ((if s.k=1 then x else if s.k=6 then cu C (ev C n).1 (ev C n).2 (jk s.es) s.bd (n+1) x
   else if oB C x.1=true then gq (ev C n).1 (ev C n).2 s (bV x.1,x.2) else (stop x.1,x.2)):Rs×Fm).1
  split;exact .rfl' _;split;exact Cv j h _ _ _ _;split;exact(Iu x.1).trans (Ww j h s (bV x.1,x.2));exact xK _
end pX
namespace pX
open Ax Go V7 iQ iZ
structure Gd (C:Cx)(d:Nat)(r:Rs):Prop where
 s:r.s.length+d<=r.aK
 o:r.out.length+d<=r.aK
 g:r.g.length=C.ng
 st:r.aK<=C.fuel
 nf:r.nf<=40
variable {C:Cx}{fE:E->Fm->Rs->Int×Rs}{fS:Sm->Rs×Fm->Rs×Fm}{d:Nat}
variable{r:Rs}{x:Rs×Fm}
theorem Gd.zj{d':Nat}(h:Gd C d r)(m:d'<=d):Gd C d' r:=⟨by have:=h.s;omega,by have:=h.o;omega,h.g,h.st,h.nf⟩
theorem Gd.bV{r:Rs}(h:Gd C d r)(z:oB C r=true):Gd C (d+1) (bV r):=by
 unfold oB at z;rw[Ee,aA,aA]at z;exact⟨by have:=h.s;simp only[pX.bV];omega,by have:=h.o;simp only[pX.bV];omega,h.g,by simp only[pX.bV];omega,h.nf⟩
theorem Gd.stop{r:Rs}(h:Gd C d r):Gd C d (stop r)/\(pX.stop r).nf=r.nf:=by
 unfold pX.stop;split;exact⟨⟨h.s,h.o,h.g,h.st,h.nf⟩,rfl⟩
 grind
theorem Gd.Gh(h:Gd C d r)(c:Int):Gd C d (eH r c)/\(eH r c).nf=r.nf:=by
 unfold eH;split;exact⟨⟨h.s,h.o,h.g,h.st,h.nf⟩,rfl⟩
 grind
def GE(C:Cx)(fE:E->Fm->Rs->Int×Rs):Prop:=∀d e f r,Gd C d r->Gd C d (fE e f r).2/\(fE e f r).2.nf=r.nf
def GS(C:Cx)(fS:Sm->Rs×Fm->Rs×Fm):Prop:=∀d s x,Gd C d x.1->Gd C d (fS s x).1/\(fS s x).1.nf=x.1.nf/\(fS s x).2.vs.length=x.2.vs.length
theorem Cs{T:List (List Int)}{r i x:Int}:(tH T r i x).length=T.length:=by grind [tH]
theorem zZ(j:GE C fE)(f:Fm):∀(l:List E)(d:Nat)(r:Rs),Gd C d r->Gd C d (vals fE f l r).2/\(vals fE f l r).2.nf=r.nf
 |[],_,r,h=>⟨h,rfl⟩
 |e::l,d,r,h=>by
  unfold vals;obtain⟨g,k⟩:=j d e f r h;split
  grind
  have:=zZ j f l d (fE e f r).2 g
  grind
theorem Cw(g:GS C fS):∀(l:List Sm)(d:Nat)(x:Rs×Fm),Gd C d x.1->Gd C d (fN fS l x).1/\(fN fS l x).1.nf=x.1.nf/\(fN fS l x).2.vs.length=x.2.vs.length
 |[],_,x,h=>⟨h,rfl,rfl⟩
 |s::l,d,x,h=>by
  unfold fN;split
  grind
  obtain⟨j,k,m⟩:=g d s x h;obtain⟨K,o,V⟩:=Cw g l d _ j
  grind
theorem Wx(m:GS C fS)(i:Int)(l:List Int)(r:Rs)(h:Gd C d r):Gd C d (dW C fS i l r).2/\(dW C fS i l r).2.nf=r.nf:=by
 unfold dW;split;exact h.Gh 6
 ·rename_i p;obtain⟨j,k,_⟩:=Cw m (C.bs.getD i.toNat B0).code d ({ r with nf:=r.nf+1 },⟨l++acp ((C.bs.getD i.toNat B0).vars.length-l.length) 0,0,false⟩) ⟨h.s,h.o,h.g,h.st,by grind⟩;simp only at k ⊢;refine⟨⟨j.s,j.o,j.g,j.st,?_⟩,?_⟩;all_goals grind
theorem ady(h:Gd C (d+1) r)(n:Nat):Gd C d (qF r n).2/\(qF r n).2.nf=r.nf:=
 ⟨⟨by have:=h.s;simp only[qF,List.length_append,List.length_cons,List.length_nil];omega,by have:=h.o;simp only[qF];omega,h.g,h.st,h.nf⟩,rfl⟩
theorem ahh(m:GS C fS)(k n ref R:Int)(f:Fm)(l:List Int)(r:Rs)(h:Gd C (d+1) r):Gd C d (ja C (dW C fS) k n ref R f l r).2/\(ja C (dW C fS) k n ref R f l r).2.nf=r.nf:=by
 have j:=h.zj (d':=d) (by omega);unfold ja uq;split
 grind
 split
 grind
 split
 grind
 split;exact j.Gh _;split;exact j.Gh _;split;exact Wx m _ _ _ j;split;exact ady h _;split;unfold oC;split;exact j.Gh _;exact ady h _;split;exact j.Gh _;split;unfold oD;split;exact j.Gh _;exact⟨⟨j.s,j.o,j.g,j.st,j.nf⟩,rfl⟩;split
 grind
 exact j.Gh _
theorem ahi(j:GE C fE)(k:GS C fS)(e:E)(f:Fm)(r:Rs)(h:Gd C (d+1) r):Gd C d (jl C fE fS e f r).2/\(jl C fE fS e f r).2.nf=r.nf:=by
 unfold jl;have:=zZ j f e.aN (d+1) r h;split<;>rename_i g<;>rw[g]at this;exact⟨this.1.zj (by omega),this.2⟩
 grind [ahh]
theorem OT(l:GE C fE)(m:GS C fS)(c:E)(b:List Sm):∀(k d:Nat)(x:Rs×Fm),Gd C d x.1->Gd C d (cu C fE fS c b k x).1/\(cu C fE fS c b k x).1.nf=x.1.nf/\(cu C fE fS c b k x).2.vs.length=x.2.vs.length
 |0,d,x,h=>by
  unfold cu;split
  grind
  exact⟨h.stop.1,h.stop.2,rfl⟩
 |k+1,d,x,h=>by
  unfold cu;split
  grind
  split;rename_i z;obtain⟨g,j⟩:=l d c x.2 (bV x.1) ((h.bV z).zj (by omega));split;exact⟨g,j,rfl⟩;obtain⟨K,q,V⟩:=Cw m b d ((fE c x.2 (bV x.1)).2,x.2) g;obtain⟨J,o,p⟩:=OT l m c b k d _ K;exact⟨J,by rw[o,q];exact j,by rw[p,V]⟩;exact⟨h.stop.1,h.stop.2,rfl⟩
theorem amw(h:Gd C d x.1)(ref v:Int):Gd C d (cy x ref v).1/\(cy x ref v).1.nf=x.1.nf/\(cy x ref v).2.vs.length=x.2.vs.length:=by
 unfold cy;split;exact⟨⟨h.s,h.o,by simp[h.g],h.st,h.nf⟩,rfl,rfl⟩
 grind
theorem amx(m:GS C fS)(k ref:Int)(B j:List Sm)(l:List Int)(x:Rs×Fm)(h:Gd C (d+1) x.1):Gd C d (jz fS k ref B j l x).1/\(jz fS k ref B j l x).1.nf=x.1.nf/\(jz fS k ref B j l x).2.vs.length=x.2.vs.length:=by
 have r:=h.zj (d':=d) (by omega);unfold jz;split;exact amw r _ _;split
 grind [Cw]
 split
 grind
 split;exact⟨⟨r.s,by have:=h.o;grind,r.g,r.st,r.nf⟩,rfl,rfl⟩
 grind
theorem Wy(h:Gd C d r)(T:List (List Int))(j:T.length=r.s.length)(c:Int):Gd C d (eH { r with s:=T } c)/\(eH { r with s:=T } c).nf=r.nf:=
 Gd.Gh (r:={ r with s:=T }) ⟨by show T.length+d<=_;rw[j];exact h.s,h.o,h.g,h.st,h.nf⟩ c
theorem amy(h:Gd C d x.1)(k ref:Int)(l:List Int):Gd C d (oF x k ref l).1/\(oF x k ref l).1.nf=x.1.nf/\(oF x k ref l).2.vs.length=x.2.vs.length:=by
 unfold oF;split;obtain⟨g,j⟩:=Wy h (tH x.1.s (qD l) ref (Lt l)) Cs (ko x.1.s (qD l) ref)
 grind
 obtain⟨g,j⟩:=Wy h (tH x.1.s (qD l) (Lt l) (at2 l)) Cs (ko x.1.s (qD l) (Lt l))
 grind
theorem ahj(j:GE C fE)(l:GS C fS)(s:Sm)(x:Rs×Fm)(h:Gd C (d+1) x.1):Gd C d (gq fE fS s x).1/\(gq fE fS s x).1.nf=x.1.nf/\(gq fE fS s x).2.vs.length=x.2.vs.length:=by
 unfold gq;split;have:=zZ j x.2 ((jk s.es).aN++s.es.drop 1) (d+1) x.1 h;split<;>rename_i g<;>rw[g]at this;exact⟨this.1.zj (by omega),this.2,rfl⟩;obtain⟨K,m,V⟩:=amy (x:=(_,x.2)) (this.1.zj (d':=d) (by omega)) (jk s.es).k (jk s.es).ref _;exact⟨K,by grind,V⟩;have:=zZ j x.2 s.es (d+1) x.1 h;split<;>rename_i g<;>rw[g]at this;exact⟨this.1.zj (by omega),this.2,rfl⟩
 grind [amx]
theorem MD:∀n,GE C (ev C n).1/\GS C (ev C n).2
 |0=>by
  refine⟨λd e f r h=>h.stop,λd s x h=>?_⟩;show Gd C d ((if s.k=1 then x else if s.k=6 then cu C (λ_ _ r=>(0,stop r)) (λ_ x=>x) (jk s.es) s.bd 0 x else (stop x.1,x.2)):Rs×Fm).1/\((if s.k=1 then x else if s.k=6 then cu C (λ_ _ r=>(0,stop r)) (λ_ x=>x) (jk s.es) s.bd 0 x else (stop x.1,x.2)):Rs×Fm).1.nf=_/\((if s.k=1 then x else if s.k=6 then cu C (λ_ _ r=>(0,stop r)) (λ_ x=>x) (jk s.es) s.bd 0 x else (stop x.1,x.2)):Rs×Fm).2.vs.length=_;split
  grind
  split;exact OT (λd e f r h=>h.stop) (λd s x h=>⟨h,rfl,rfl⟩) _ _ _ _ _ h;exact⟨h.stop.1,h.stop.2,rfl⟩
 |n+1=>by
  obtain⟨j,g⟩:=MD n;refine⟨λd e f r h=>?_,λd s x h=>?_⟩;show Gd C d ((if oB C r=true then jl C (ev C n).1 (ev C n).2 e f (bV r) else (0,stop r)):Int×Rs).2/\((if oB C r=true then jl C (ev C n).1 (ev C n).2 e f (bV r) else (0,stop r)):Int×Rs).2.nf=_;split;rename_i z;exact ahi j g e f _ (h.bV z);exact h.stop;show Gd C d ((if s.k=1 then x else if s.k=6 then cu C (ev C n).1 (ev C n).2 (jk s.es) s.bd (n+1) x else if oB C x.1=true then gq (ev C n).1 (ev C n).2 s (bV x.1,x.2) else (stop x.1,x.2)):Rs×Fm).1/\((if s.k=1 then x else if s.k=6 then cu C (ev C n).1 (ev C n).2 (jk s.es) s.bd (n+1) x else if oB C x.1=true then gq (ev C n).1 (ev C n).2 s (bV x.1,x.2) else (stop x.1,x.2)):Rs×Fm).1.nf=_/\
   ((if s.k=1 then x else if s.k=6 then cu C (ev C n).1 (ev C n).2 (jk s.es) s.bd (n+1) x else if oB C x.1=true then gq (ev C n).1 (ev C n).2 s (bV x.1,x.2) else (stop x.1,x.2)):Rs×Fm).2.vs.length=_
  split
  grind
  split
  grind [OT]
  split;rename_i z;obtain⟨K,m,V⟩:=ahj j g s (bV x.1,x.2) (h.bV z);exact⟨K,m,V⟩;exact⟨h.stop.1,h.stop.2,rfl⟩
end pX
namespace pX
open Ax Go V7 iQ iZ
structure Dm where
 ng:Nat
 nr:Nat
 ps:List Nat
def Ur(D:Dm)(k ref:Int)(T:T3)(m:Nat):Prop:=
 (1<=k/\k<=24)/\(k=4→-1-ref<D.ng)/\(k=5\/k=9\/k=10\/k=12\/k=13->m=1)/\(k=6\/14<=k->m=2)/\
 (k=7->0<=ref/\∃h:ref.toNat<D.ps.length,m=D.ps[ref.toNat])/\(k=8->0<=T.r/\T.r<D.nr)/\(k=5->0<=ref)
mutual
def WE(D:Dm):E->Prop
 |.mk k _ _ _ _ g _ T ref=>Ur D k ref T g.length/\WL D g
def WL(D:Dm):List E->Prop
 |[]=>True|e::l=>WE D e/\WL D l
end
def Wz(D:Dm)(k ref:Int)(g:List E):Prop:=
 (1<=k/\k<=9)/\(k=3→-1-ref<D.ng)/\(k=2\/k=3\/k=5\/k=6\/k=8\/k=9->g.length=1)/\(k=4->∃a b,g=[a,b]/\(a.k=5\/a.k=6))/\(k=7->g.length<=1)
mutual
def WS(D:Dm):Sm->Prop
 |.mk k _ _ _ g B l _ ref=>Wz D k ref g/\WL D g/\WB D B/\WB D l
def WB(D:Dm):List Sm->Prop
 |[]=>True|s::l=>WS D s/\WB D l
end
variable {D:Dm}{H:Hd}
theorem Bz(e:E):WE D e↔Ur D e.k e.ref e.ty e.aN.length/\WL D e.aN:=by
 obtain⟨k,_,N,O,o,g,a,ty,ref⟩:=e;unfold WE;exact Iff.rfl
theorem wO:∀l:List E,WL D l↔∀e∈l,WE D e
 |[]=>by simp[WL]|e::l=>by simp[WL,wO l]
theorem E5(s:Sm):WS D s↔Wz D s.k s.ref s.es/\WL D s.es/\WB D s.bd/\WB D s.el:=by
 obtain⟨k,N,O,o,g,B,l,a,ref⟩:=s;unfold WS;exact Iff.rfl
theorem adz:∀l:List Sm,WB D l↔∀e∈l,WS D e
 |[]=>by simp[WB]|e::l=>by simp[WB,adz l]
def yQ(H:Hd):Dm:=⟨H.az.length,H.bJ.length,H.aW.map (·.ps.length)⟩
theorem qz{s:List UInt8}:∀{l:List Sg}{i k:Nat}{t:Sg},uC s i l=some (k,t)->i<=k/\∃h:k-i<l.length,l[k-i]=t
 |[],_,_,_,h=>by cases h|g::l,i,k,t,h=>by
  unfold uC at h;split at h
  grind
  obtain⟨j,m,o⟩:=qz h
  grind
theorem KM:∀{l:List Vd}{K:List E},jC l K=true->K.length=l.length
 |[],[],_=>rfl|_::_,_::_,h=>by simp only[jC,Ee]at h;simp[KM h.2]|[],_::_,h=>by simp[jC]at h|_::_,[],h=>by simp[jC]at h
variable{k:Int}{t res:T3}{V:List Vd}{N:List UInt8}{g:List E}{bR:Bool}
theorem RK{s:List UInt8}{l:List Vd}{k:Nat}(h:jj s 0 l=some (k,t)):k<l.length:=by have:=Ch h;omega
theorem amz{O:List UInt8}{o n:Int}{K:List E}{r:Int}(y:H.bJ.length=H.rs.length)(j:ir k n K.length=true)(h:mR H V k N O o K=some (t,r)):Ur (yQ H) k r t K.length:=by
 have p:1<=k/\k<=24:=by
  unfold ir at j
  grind
 refine⟨p,λe=>?_,λe=>?_,λe=>?_,λe=>?_,λe=>?_,λe=>?_⟩;unfold mR at h;rw[U (by omega),U (by omega),U (by omega),af e]at h;unfold ue at h;split at h
 grind
 split at h;rename_i v;cases h;have:=RK v;show _<(H.az.length:Int);omega;cases h;unfold ir at j
 grind
 unfold ir at j
 grind
 unfold mR at h;rw[U (by omega),U (by omega),U (by omega),U (by omega),U (by omega),U (by omega),af e]at h;unfold qZ at h;split at h;rename_i i s x;split at h;rename_i R;cases h;obtain⟨_,g,l⟩:=qz x;refine⟨by omega,by simp[yQ];exact g,?_⟩;simp only[yQ,Int.toNat_natCast,List.getElem_map];simp only[Nat.sub_zero]at l
 grind [KM]
 cases h;cases h;unfold mR at h;rw[U (by omega),U (by omega),U (by omega),U (by omega),U (by omega),U (by omega),U (by omega),af e]at h;unfold Ka at h;split at h;rename_i m;cases h;simp only[Ee,aA]at m;obtain⟨⟨q,g⟩,l⟩:=m;have:=(p9 H.rs O o);unfold dw at q g ⊢;split
 grind
 split
 grind
 split
 grind
 split
 grind
 grind [yQ,VP]
 cases h;unfold mR at h;rw[U (by omega),U (by omega),U (by omega),U (by omega),af e]at h
 grind [zG]
theorem adA(U:H.bJ.length=H.rs.length)(e:E):∀y,xX H V e=.ok y->WE (yQ H) y:=by
 induction e using E.Cf with
 |_ e I=>
  intro y h;obtain⟨K,t,r,j,g,l,rfl⟩:=qj h;rw[Bz];have m:ir e.k e.n K.length=true:=by rw[nH g];exact j
  refine⟨amz (n:=e.n) U m l,?_⟩;rw[wO];exact jy g I
theorem arG{Y:List E}(U:H.bJ.length=H.rs.length)(h:As H V k g=.ok Y):WL (yQ H) Y:=by
 unfold As at h;rw[wO];split at h
 grind [xX,List.mem_singleton,adA]
 exact jy h λe _ y j=>adA U e y j
theorem ahk(h:fy bR k g=true):(1<=k/\k<=9)/\(k=2\/k=3\/k=5\/k=6\/k=8\/k=9->g.length=1)/\(k=4->∃a b,g=[a,b]/\(a.k=5\/a.k=6))/\(k=7->g.length<=1):=by
 unfold fy at h;split at h
 grind
 split at h
 grind
 split at h;all_goals grind
theorem arH{W:List Vd}{r:Int}(h:pA H res V 3 N g t=some (r,W)) : -1-r<(H.az.length:Int):=by
 unfold pA at h;rw[U (by omega),U (by omega),af rfl]at h;split at h;rename_i p;split at h;cases h;unfold ue at p;split at p
 grind
 split at p;rename_i O;cases p;have:=RK O;omega;cases p;cases h;cases h
theorem E6{bR:Bool}{res:T3}:∀{l Y:List Sm}{V X:List Vd},(∀s∈l,∀V y W,Au H bR res V s=.ok (y,W)->WS (yQ H) y)->nN H bR res V l=.ok (Y,X)->WB (yQ H) Y
 |[],Y,V,X,_,h=>by
  grind [nN,WB]
 |s::l,Y,V,X,j,h=>by
  obtain⟨y,W,z,g,k,rfl⟩:=pK h;unfold WB;exact⟨j s List.mem_cons_self V y W g,E6 (λt m=>j t (List.mem_cons_of_mem _ m)) k⟩
theorem amA(U:H.bJ.length=H.rs.length)(s:Sm):∀V y X,Au H bR res V s=.ok (y,X)->WS (yQ H) y:=by
 induction s using Sm.Cf with
 |_ s x T=>
  intro V y X h;obtain⟨t,Y,r,W,q,B,L,J,v⟩:=xY h;have M:=arG U L;obtain⟨F,g,m,o⟩:=ahk (QV L q);have j:Wz (yQ H) s.k r Y:=⟨F,λe=>by rw[e]at J;exact arH J,g,m,o⟩;rcases v with⟨_,b,z,c,l,p,rfl⟩|⟨_,b,l,rfl⟩|⟨_,_,_,rfl⟩;rw[E5];exact⟨j,M,E6 x l,E6 T p⟩;rw[E5];exact⟨j,M,E6 x l,by simp[Sm.el,WB]⟩;rw[E5];exact⟨j,M,by simp[Sm.bd,WB],by simp[Sm.el,WB]⟩
theorem Us(U:H.bJ.length=H.rs.length):∀{S:List Sg}{fs:List Fc}{bs:List Bd},qJ H S fs=.ok bs->∀b∈bs,WB (yQ H) b.code
 |[],fs,bs,h=>by
  grind [qJ]
 |_::_,[],bs,h=>by
  grind [qJ]
 |s::S,f::fs,bs,h=>by
  unfold qJ at h;split at h;cases h;rename_i c W k;split at h;cases h;rename_i l j;cases h;intro b g;rcases List.mem_cons.1 g with rfl|g
  grind [E6,amA]
  exact Us U j b g
end pX
namespace pX
open Ax Go V7 iQ iZ
def OnD(a b:Rs):Prop:=(∃l,b.out=a.out++l)/\a.aK<=b.aK
theorem OnD.on{a b c:Rs}(h:OnD a b)(k:On b c):OnD a c:=by
 obtain⟨⟨L,g⟩,j⟩:=h;obtain⟨p,l⟩:=k.out;exact⟨⟨L++p,by rw[l,g];simp⟩,Nat.le_trans j k.st⟩
def ext(w:List Int)(r:Rs):Rs:={ r with fm:=r.fm++w }
theorem amB(w:List Int)(r:Rs):OnD r (ext w r):=⟨⟨[],by simp[ext]⟩,acO _⟩
structure Kd where
 iy:Int->Int->Nat->Prop
 q:Int->Prop
structure qf (C C':Cx)(w:List Int)(iy:Kd):Prop where
 aU:C'.aU=C.aU
 bs:C'.bs=C.bs
 fuel:C.fuel<=C'.fuel
 A1:(C'.fuel=C.fuel/\iy.q 3)\/∀c,iy.iy 3 c C.fuel
 A2:w=[]\/∀n,iy.iy 2 5 n
 A3:∀e c n,iy.iy e c n->e≠0
 q0:iy.q 0
 q1:iy.q 1
 q2:iy.q 2
def yH(iy:Kd)(r:Rs):Prop:=iy.iy r.e r.code r.aK
variable {C C':Cx}{w:List Int}{iy:Kd}{n:Nat}
variable {fE BA:E->Fm->Rs->Int×Rs}{fS Iv:Sm->Rs×Fm->Rs×Fm}
def Ok(C:Cx)(iy:Kd)(r:Rs):Prop:=r.aK<=C.fuel/\iy.q r.e
def YW(C:Cx)(iy:Kd)(n:Nat)(r:Rs):Prop:=Ok C iy r/\C.fuel<=r.aK+n
def RE(C:Cx)(w:List Int)(iy:Kd)(x g:Int×Rs):Prop:=(g.1=x.1/\g.2=ext w x.2/\Ok C iy x.2)\/(yH iy x.2/\OnD x.2 g.2)
def RS(C:Cx)(w:List Int)(iy:Kd)(x g:Rs×Fm):Prop:=(g.1=ext w x.1/\g.2=x.2/\Ok C iy x.1)\/(yH iy x.1/\OnD x.1 g.1)
def RV(C:Cx)(w:List Int)(iy:Kd)(x g:Option (List Int)×Rs):Prop:=(g.1=x.1/\g.2=ext w x.2/\Ok C iy x.2)\/(x.1=none/\yH iy x.2/\OnD x.2 g.2)
structure Hyp (C C':Cx)(w:List Int)(iy:Kd)(n:Nat)(fE BA:E->Fm->Rs->Int×Rs)(fS Iv:Sm->Rs×Fm->Rs×Fm):Prop where
 E:∀e f r,YW C iy n r->RE C w iy (fE e f r) (BA e f (ext w r))
 S:∀s x,YW C iy n x.1->RS C w iy (fS s x) (Iv s (ext w x.1,x.2))
 oE:∀e f r,On r (fE e f r).2
 oS:∀s x,On x.1 (fS s x).1
 oE':∀e f r,On r (BA e f r).2
 oS':∀s x,On x.1 (Iv s x).1
variable{r:Rs}{x:Rs×Fm}
theorem YW.on{R:Rs}(h:YW C iy n r)(k:On r R)(j:Ok C iy R):YW C iy n R:=⟨j,by have:=h.2;have:=k.st;omega⟩
theorem Gi(h:r.e≠0):stop r=r:=by unfold stop;rw[U h]
theorem BB(r:Rs)(c:Int):eH (ext w r) c=ext w (eH r c):=by
 unfold eH ext;by_cases h:c≠0/\r.e=0;rw[af h,af h];rw[U h,U h]
theorem RL(r:Rs):bV (ext w r)=ext w (bV r):=rfl
theorem BC(r:Rs):stop (ext w r)=ext w (stop r):=by
 unfold stop ext;by_cases h:r.e=0;rw[af h,af h];rw[U h,U h]
theorem mW{C:Cx}:oB C r=true↔r.e=0/\r.aK<C.fuel:=by unfold oB;rw[Ee,aA,aA]
theorem E7(m:qf C C' w iy)(j:Ok C iy r)(z:¬oB C r=true):(¬oB C' (ext w r)=true/\Ok C iy (stop r))\/(yH iy (stop r)):=by
 by_cases U:r.e=0;have o:¬r.aK<C.fuel:=λh=>z (mW.2 ⟨U,h⟩);have g:r.aK=C.fuel:=by have:=j.1;omega
 rcases m.A1 with⟨h,k⟩|h;left;refine⟨?_,?_⟩;rw[mW];rintro⟨_,l⟩;have l:r.aK<C'.fuel:=l;omega;unfold stop;rw[af U];exact⟨j.1,k⟩;right;unfold yH stop;rw[af U,g];exact h _;left;refine⟨?_,by rw[Gi U];exact j⟩;rw[mW];exact λh=>U h.1
theorem BE(w:List Int)(r:Rs):OnD (stop r) (ext w r):=by
 unfold stop;split;exact⟨⟨[],by simp[ext]⟩,acO _⟩;exact amB w r
theorem Ut(g:qf C C' w iy)(h:oB C r=true):oB C' (ext w r)=true:=by
 rw[mW]at *;have:=g.fuel;exact⟨h.1,by show r.aK<_;omega⟩
theorem tK(q:qf C C' w iy)(H:Hyp C C' w iy n fE BA fS Iv)(f:Fm):∀(l:List E)(r:Rs),YW C iy n r->RV C w iy (vals fE f l r) (vals BA f l (ext w r))
 |[],r,h=>.inl ⟨rfl,rfl,h.1⟩|e::l,r,h=>by
  unfold vals;have P:On (BA e f (ext w r)).2 (if (BA e f (ext w r)).2.e≠0 then ((none,(BA e f (ext w r)).2):Option (List Int)×Rs) else match vals BA f l (BA e f (ext w r)).2 with
   |(some vs,R)=>(some ((BA e f (ext w r)).1::vs),R)
   |(none,R)=>(none,R)).2:=by
   split;exact .rfl' _;have:=jN H.oE' f l (BA e f (ext w r)).2;split<;>rename_i h<;>rw[h]at this<;>exact this
  rcases H.E e f r h with⟨j,o,p⟩|⟨j,o⟩;rw[j,o];by_cases g:(fE e f r).2.e≠0;rw[af g,af (show (ext w (fE e f r).2).e≠0 from g)];exact .inl ⟨rfl,rfl,p⟩;rw[U g,U (show ¬(ext w (fE e f r).2).e≠0 from g)];rcases tK q H f l _ (h.on (H.oE e f r) p) with⟨K,m,V⟩|⟨K,m,V⟩;generalize vals fE f l (fE e f r).2=X,vals BA f l (ext w (fE e f r).2)=B at *;obtain⟨a,b⟩:=X;obtain⟨k,s⟩:=B;simp only at K m V;subst K;subst m;cases k with
  |none=>exact .inl ⟨rfl,rfl,V⟩|some v=>exact .inl ⟨rfl,rfl,V⟩
  generalize vals fE f l (fE e f r).2=X,vals BA f l (ext w (fE e f r).2)=B at *;obtain⟨a,b⟩:=X;obtain⟨k,s⟩:=B;simp only at K m V;subst K;cases k with
  |none=>exact .inr ⟨rfl,m,V⟩|some v=>exact .inr ⟨rfl,m,V⟩
  have g:(fE e f r).2.e≠0:=q.A3 _ _ _ j;rw[af g];exact .inr ⟨rfl,j,o.on P⟩
theorem ME{l:List Sm}(h:x.1.e≠0):fN fS l x=x:=by
 cases l with
 |nil=>rfl|cons s l=>unfold fN;rw[af (.inr h)]
theorem BF(k:qf C C' w iy)(H:Hyp C C' w iy n fE BA fS Iv):∀(l:List Sm)(x:Rs×Fm),YW C iy n x.1->RS C w iy (fN fS l x) (fN Iv l (ext w x.1,x.2))
 |[],x,h=>.inl ⟨rfl,rfl,h.1⟩|s::l,x,h=>by
  unfold fN;by_cases m:x.2.done=true\/x.1.e≠0;rw[af m,af (show (ext w x.1,x.2).2.done=true\/(ext w x.1,x.2).1.e≠0 from m)];exact .inl ⟨rfl,rfl,h.1⟩;rw[U m,U (show ¬((ext w x.1,x.2).2.done=true\/(ext w x.1,x.2).1.e≠0) from m)];rcases H.S s x h with⟨g,j,o⟩|⟨g,j⟩;have:=BF k H l (fS s x) (h.on (H.oS s x) o);rw[<-g,<-j]at this;exact this;rw[ME (k.A3 _ _ _ g)];exact .inr ⟨g,j.on (kN H.oS' l _)⟩
theorem E8(g:qf C C' w iy)(h:Ok C iy r)(c:Int):Ok C iy (eH r c):=by
 unfold eH;split;exact⟨h.1,g.q2⟩;exact h
theorem RM(m:qf C C' w iy)(H:Hyp C C' w iy n fE BA fS Iv)(i:Int)(l:List Int)(r:Rs)(h:YW C iy n r):RE C w iy (dW C fS i l r) (dW C' Iv i l (ext w r)):=by
 unfold dW;by_cases g:40<=r.nf;rw[af g,af (show 40<=(ext w r).nf from g)];exact .inl ⟨rfl,BB r 6,E8 m h.1 6⟩;rw[U g,U (show ¬40<=(ext w r).nf from g),m.bs];have:=BF m H (C.bs.getD i.toNat B0).code ({ r with nf:=r.nf+1 },⟨l++acp ((C.bs.getD i.toNat B0).vars.length-l.length) 0,0,false⟩) h;rw[show (ext w { r with nf:=r.nf+1 })={ (ext w r) with nf:=(ext w r).nf+1 } from rfl]at this;generalize fN fS (C.bs.getD i.toNat B0).code ({ r with nf:=r.nf+1 },⟨l++acp ((C.bs.getD i.toNat B0).vars.length-l.length) 0,0,false⟩)=X,fN Iv (C.bs.getD i.toNat B0).code ({ (ext w r) with nf:=(ext w r).nf+1 },⟨l++acp ((C.bs.getD i.toNat B0).vars.length-l.length) 0,0,false⟩)=B at *;rcases this with⟨j,k,o⟩|⟨j,k⟩;refine .inl ⟨?_,?_,o⟩;simp only[k];simp only[j];rfl;exact .inr ⟨j,k⟩
theorem KN(p:qf C C' w iy)(H:Hyp C C' w iy n fE BA fS Iv)(k m ref R:Int)(f:Fm)(l:List Int)(r:Rs)(h:YW C iy n r)(I:r.e=0) :
  RE C w iy (ja C (dW C fS) k m ref R f l r) (ja C' (dW C' Iv) k m ref R f l (ext w r)):=by
 have g:∀x,RE C w iy (uq r x) (uq (ext w r) x):=λx=>.inl ⟨rfl,BB r x.2,E8 p h.1 x.2⟩;unfold ja;by_cases s:k=1\/k=2;rw[af s,af s];exact .inl ⟨rfl,rfl,h.1⟩;rw[U s,U s];by_cases V:k=3;rw[af V,af V];exact .inl ⟨rfl,rfl,h.1⟩;rw[U V,U V];by_cases t:k=4;rw[af t,af t];exact .inl ⟨rfl,rfl,h.1⟩;rw[U t,U t];by_cases v:k=5;rw[af v,af v];exact g _;rw[U v,U v];by_cases y:k=6;rw[af y,af y];exact g _;rw[U y,U y];by_cases z:k=7;rw[af z,af z];exact RM p H ref l r h;rw[U z,U z];by_cases B:k=8;rw[af B,af B,p.aU];exact .inl ⟨rfl,rfl,h.1⟩;rw[U B,U B];by_cases F:k=9;rw[af F,af F];unfold oC;by_cases q:qD l<0\/50<qD l;rw[af q,af q];exact .inl ⟨rfl,BB r 4,E8 p h.1 4⟩;rw[U q,U q];exact .inl ⟨rfl,rfl,h.1⟩;rw[U F,U F];by_cases K:k=10;rw[af K,af K];exact g _;rw[U K,U K];by_cases j:k=11;rw[af j,af j];unfold oD;cases J:r.fm with
 |cons a b=>
  rw[show (ext w r).fm=a::(b++w) by simp[ext,J]];exact .inl ⟨rfl,rfl,h.1⟩
 |nil=>
  rcases p.A2 with G|G;subst G;rw[show (ext [] r).fm=[] by simp[ext,J]];exact .inl ⟨rfl,BB r 5,E8 p h.1 5⟩;refine .inr ⟨?_,?_⟩;unfold yH eH;rw[af ⟨by omega,I⟩];exact G _;have L:OnD (eH r 5) (ext w r):=by
   unfold eH;rw[af ⟨by omega,I⟩];exact⟨⟨[],by simp[ext]⟩,acO _⟩
  exact L.on (Wu (ext w r))
 rw[U j,U j];by_cases o:k=12\/k=13;rw[af o,af o];exact .inl ⟨rfl,rfl,h.1⟩;rw[U o,U o];exact g _
theorem WA{f:Fm}:∀(l:List E)(r:Rs),r.e=0->∀vs g,vals fE f l r=(some vs,g)->g.e=0
 |[],r,h,vs,g,e=>by unfold vals at e;cases e;exact h|x::l,r,h,vs,g,e=>by
  unfold vals at e;by_cases j:(fE x f r).2.e≠0;rw[af j]at e;cases e;rw[U j]at e;split at e;rename_i W R k;cases e;exact WA l _ (by omega) _ _ k;cases e
theorem KO(j:qf C C' w iy)(H:Hyp C C' w iy n fE BA fS Iv)(e:E)(f:Fm)(r:Rs)(h:YW C iy n r)(U:r.e=0) :
  RE C w iy (jl C fE fS e f r) (jl C' BA Iv e f (ext w r)):=by
 unfold jl;have p:=tK j H f e.aN r h;have z:=jN H.oE f e.aN r;have o:=WA (fE:=fE) (f:=f) e.aN r U;generalize vals fE f e.aN r=X,vals BA f e.aN (ext w r)=B at *;obtain⟨a,b⟩:=X;obtain⟨g,l⟩:=B;rcases p with⟨K,m,V⟩|⟨K,m,V⟩;simp only at K m V z;subst K;subst m;cases g with
 |none=>exact .inl ⟨rfl,rfl,V⟩|some v=>exact KN j H e.k e.n e.ref e.ty.r f v b (h.on z V) (o v b rfl)
 simp only at K m V;subst K;cases g with
 |none=>exact .inr ⟨m,V⟩|some v=>exact .inr ⟨m,V.on (Wv (C:=C') H.oS' e.k e.n e.ref e.ty.r f v l)⟩
theorem ahn(x:Rs×Fm)(ref v:Int):cy (ext w x.1,x.2) ref v=(ext w (cy x ref v).1,(cy x ref v).2):=by
 unfold cy ext;split<;>rfl
theorem sE(h:Ok C iy x.1)(ref v:Int):Ok C iy (cy x ref v).1:=by unfold cy;split<;>exact h
theorem aho(m:qf C C' w iy)(H:Hyp C C' w iy n fE BA fS Iv)(k ref:Int)(g j:List Sm)(l:List Int)(x:Rs×Fm)(h:YW C iy n x.1) :
  RS C w iy (jz fS k ref g j l x) (jz Iv k ref g j l (ext w x.1,x.2)):=by
 unfold jz;by_cases K:k=2\/k=3;rw[af K,af K,ahn];exact .inl ⟨rfl,rfl,sE h.1 _ _⟩;rw[U K,U K];by_cases v:k=5;rw[af v,af v];by_cases p:qD l≠0;rw[af p,af p];exact BF m H g x h;rw[U p,U p];exact BF m H j x h;rw[U v,U v];by_cases z:k=7;rw[af z,af z];exact .inl ⟨rfl,rfl,h.1⟩;rw[U z,U z];by_cases B:k=8;rw[af B,af B];exact .inl ⟨rfl,rfl,h.1⟩;rw[U B,U B];exact .inl ⟨rfl,rfl,h.1⟩
theorem ahp(g:qf C C' w iy)(x:Rs×Fm)(k ref:Int)(l:List Int)(h:Ok C iy x.1):RS C w iy (oF x k ref l) (oF (ext w x.1,x.2) k ref l):=by
 have key:∀(T:List (List Int)) (c:Int),RS C w iy (eH { x.1 with s:=T } c,x.2) (eH { (ext w x.1) with s:=T } c,x.2):=λT c=>
  .inl ⟨BB { x.1 with s:=T } c,rfl,E8 g (r:={ x.1 with s:=T }) h c⟩
 unfold oF;by_cases v:k=5;rw[af v,af v];exact key _ _;rw[U v,U v];exact key _ _
theorem KQ(j:qf C C' w iy)(H:Hyp C C' w iy n fE BA fS Iv)(s:Sm)(x:Rs×Fm)(h:YW C iy n x.1):RS C w iy (gq fE fS s x) (gq BA Iv s (ext w x.1,x.2)):=by
 unfold gq;by_cases l:s.k=4;rw[af l,af l];have p:=tK j H x.2 ((jk s.es).aN++s.es.drop 1) x.1 h;generalize vals fE x.2 ((jk s.es).aN++s.es.drop 1) x.1=X at *;simp only;generalize vals BA x.2 ((jk s.es).aN++s.es.drop 1) (ext w x.1)=B at *;obtain⟨a,b⟩:=X;obtain⟨g,o⟩:=B;rcases p with⟨K,m,V⟩|⟨K,m,V⟩;simp only at K m V;subst K;subst m;cases g with
 |none=>exact .inl ⟨rfl,rfl,V⟩|some v=>exact ahp j (b,x.2) _ _ v V
 simp only at K m V;subst K;cases g with
 |none=>exact .inr ⟨m,V⟩|some v=>exact .inr ⟨m,V.on (adx (o,x.2) _ _ v)⟩
 rw[U l,U l];have p:=tK j H x.2 s.es x.1 h;have z:=jN H.oE x.2 s.es x.1;generalize vals fE x.2 s.es x.1=X at *;simp only;generalize vals BA x.2 s.es (ext w x.1)=B at *;obtain⟨a,b⟩:=X;obtain⟨g,o⟩:=B;rcases p with⟨K,m,V⟩|⟨K,m,V⟩;simp only at K m V z;subst K;subst m;cases g with
 |none=>exact .inl ⟨rfl,rfl,V⟩|some v=>exact aho j H s.k s.ref s.bd s.el v (b,x.2) (h.on z V)
 simp only at K m V;subst K;cases g with
 |none=>exact .inr ⟨m,V⟩|some v=>exact .inr ⟨m,V.on (adw H.oS' s.k s.ref s.bd s.el v (o,x.2))⟩
theorem Gj(h:oB C r=true):r.e=0/\r.aK<C.fuel:=mW.1 h
theorem Gk{c:E}{b:List Sm}:∀(k:Nat){x:Rs×Fm},x.1.e≠0->(cu C fE fS c b k x).1=x.1
 |0,x,h=>by
  unfold cu;split
  rfl
  exact Gi h
 |k+1,x,h=>by
  unfold cu;split
  rfl
  split;rename_i z;exact au (Gj z).1 h;exact Gi h
theorem BG(g:qf C C' w iy)(H:Hyp C C' w iy n fE BA fS Iv)(c:E)(b:List Sm)(m:Nat):∀(k:Nat)(x:Rs×Fm),Ok C iy x.1->C.fuel<=x.1.aK+k->C.fuel<=x.1.aK+(n+1)->
  RS C w iy (cu C fE fS c b k x) (cu C' BA Iv c b (k+m) (ext w x.1,x.2))
 |k,x,r,s,T=>by
  by_cases h:x.2.done=true;have p:cu C fE fS c b k x=x:=by cases k<;>(unfold cu;rw[af h])
  have q:cu C' BA Iv c b (k+m) (ext w x.1,x.2)=(ext w x.1,x.2):=by cases k+m<;>(unfold cu;rw[af (show (ext w x.1,x.2).2.done=true from h)])
  rw[p,q];exact .inl ⟨rfl,rfl,r⟩;by_cases z:oB C x.1=true;obtain⟨Z,hl⟩:=Gj z;match k,s with
  |0,s=>omega|k+1,s=>
   have q:k+1+m=(k+m)+1:=(by omega);rw[q];unfold cu;rw[U h,U (show ¬(ext w x.1,x.2).2.done=true from h),af z,af (Ut g z)];have S:YW C iy n (bV x.1):=⟨⟨by show x.1.aK+1<=_;omega,r.2⟩,by show _<=x.1.aK+1+n;omega⟩;have R:=H.E c x.2 (bV x.1) S;have F:=H.oE c x.2 (bV x.1);have O:=H.oE' c x.2 (ext w (bV x.1));show RS C w iy _ (if (BA c x.2 (ext w (bV x.1))).2.e≠0\/(BA c x.2 (ext w (bV x.1))).1=0 then ((BA c x.2 (ext w (bV x.1))).2,x.2) else cu C' BA Iv c b (k+m) (fN Iv b ((BA c x.2 (ext w (bV x.1))).2,x.2)));generalize fE c x.2 (bV x.1)=X,BA c x.2 (ext w (bV x.1))=M at *;have iH:x.1.aK+1<=X.2.aK:=F.st;rcases R with⟨V,W,J⟩|⟨V,W⟩;rw[V,W];by_cases l:X.2.e≠0\/X.1=0;rw[af l,af (show (ext w X.2).e≠0\/X.1=0 from l)];exact .inl ⟨rfl,rfl,J⟩;rw[U l,U (show ¬((ext w X.2).e≠0\/X.1=0) from l)];have K:=BF g H b (X.2,x.2) ⟨J,by show C.fuel<=X.2.aK+n;omega⟩;have v:=kN H.oS b (X.2,x.2);simp only at K;generalize fN fS b (X.2,x.2)=Y,fN Iv b (ext w X.2,x.2)=N at *;obtain⟨L,y2⟩:=Y;obtain⟨G,y⟩:=N;have P:X.2.aK<=L.aK:=v.st;rcases K with⟨B,o,I⟩|⟨B,o⟩;simp only at B o I;subst B;subst o;exact BG g H c b m k (L,y) I (by simp only;omega) (by simp only;omega);refine .inr ⟨?_,?_⟩;rw[Gk k (g.A3 _ _ _ B)];exact B;rw[Gk k (g.A3 _ _ _ B)];exact o.on (Cv H.oE' H.oS' c b _ (G,y));have l:X.2.e≠0\/X.1=0:=.inl (g.A3 _ _ _ V);rw[af l];refine .inr ⟨V,?_⟩;split;exact W;exact W.on ((kN H.oS' b (M.2,x.2)).trans (Cv H.oE' H.oS' c b _ _))
  have p:cu C fE fS c b k x=(stop x.1,x.2):=by
   cases k with
   |zero=>unfold cu;rw[U h]|succ k=>unfold cu;rw[U h,U z]
  rw[p];rcases E7 g r z with⟨t,Q⟩|t;have q:cu C' BA Iv c b (k+m) (ext w x.1,x.2)=(stop (ext w x.1),x.2):=by
   cases k+m with
   |zero=>unfold cu;rw[U (show ¬(ext w x.1,x.2).2.done=true from h)]|succ j=>unfold cu;rw[U (show ¬(ext w x.1,x.2).2.done=true from h),U t]
  rw[q];exact .inl ⟨BC _,rfl,Q⟩;exact .inr ⟨t,(BE w x.1).on (Cv H.oE' H.oS' c b _ (ext w x.1,x.2))⟩
theorem KR(g:qf C C' w iy)(m:Nat):∀n,Hyp C C' w iy n (ev C n).1 (ev C' (n+m)).1 (ev C n).2 (ev C' (n+m)).2
 |0=>by
  refine⟨λe f r h=>?_,λs x h=>?_,(lW 0).1,(lW 0).2,(lW _).1,(lW _).2⟩;have z:¬oB C r=true:=λk=>by have:=(Gj k).2;have:=h.2;omega
  show RE C w iy (0,stop r) _;rcases E7 g h.1 z with⟨l,V⟩|l;have q:(ev C' (0+m)).1 e f (ext w r)=(0,stop (ext w r)):=by
   cases 0+m with
   |zero=>rfl|succ j=>show (if oB C' (ext w r)=true then _ else _)=_;rw[U l]
  rw[q];exact .inl ⟨rfl,BC _,V⟩;exact .inr ⟨l,(BE w r).on ((lW (0+m)).1 e f (ext w r))⟩;have z:¬oB C x.1=true:=λk=>by have:=(Gj k).2;have:=h.2;omega
  by_cases K:s.k=1;have p:(ev C 0).2 s x=x:=by show (if s.k=1 then _ else _)=_;rw[af K]
  have q:(ev C' (0+m)).2 s (ext w x.1,x.2)=(ext w x.1,x.2):=by
   cases 0+m with
   |zero=>show (if s.k=1 then _ else _)=_;rw[af K]|succ j=>show (if s.k=1 then _ else _)=_;rw[af K]
  rw[p,q];exact .inl ⟨rfl,rfl,h.1⟩;by_cases o:s.k=6/\x.2.done=true;have p:(ev C 0).2 s x=x:=by
   show (if s.k=1 then _ else if s.k=6 then cu C _ _ _ _ 0 x else _)=_;rw[U K,af o.1];unfold cu;rw[af o.2]
  have q:(ev C' (0+m)).2 s (ext w x.1,x.2)=(ext w x.1,x.2):=by
   cases 0+m with
   |zero=>
    show (if s.k=1 then _ else if s.k=6 then cu C' _ _ _ _ 0 _ else _)=_;rw[U K,af o.1];unfold cu;rw[af (show (ext w x.1,x.2).2.done=true from o.2)]
   |succ j=>
    show (if s.k=1 then _ else if s.k=6 then cu C' _ _ _ _ (j+1) _ else _)=_;rw[U K,af o.1];unfold cu;rw[af (show (ext w x.1,x.2).2.done=true from o.2)]
  rw[p,q];exact .inl ⟨rfl,rfl,h.1⟩;have p:(ev C 0).2 s x=(stop x.1,x.2):=by
   show (if s.k=1 then _ else if s.k=6 then cu C _ _ _ _ 0 x else _)=_;rw[U K];by_cases y:s.k=6;rw[af y];unfold cu;rw[U λh=>o ⟨y,h⟩];rw[U y]
  rw[p];rcases E7 g h.1 z with⟨l,V⟩|l;have q:(ev C' (0+m)).2 s (ext w x.1,x.2)=(stop (ext w x.1),x.2):=by
   cases 0+m with
   |zero=>
    show (if s.k=1 then _ else if s.k=6 then cu C' _ _ _ _ 0 _ else _)=_;rw[U K];by_cases y:s.k=6;rw[af y];unfold cu;rw[U (show ¬(ext w x.1,x.2).2.done=true from λh=>o ⟨y,h⟩)];rw[U y]
   |succ j=>
    show (if s.k=1 then _ else if s.k=6 then cu C' _ _ _ _ (j+1) _ else if oB C' (ext w x.1)=true then _ else _)=_;rw[U K];by_cases y:s.k=6;rw[af y];unfold cu;rw[U (show ¬(ext w x.1,x.2).2.done=true from λh=>o ⟨y,h⟩),U l];rw[U y,U l]
  rw[q];exact .inl ⟨BC _,rfl,V⟩;exact .inr ⟨l,(BE w x.1).on ((lW (0+m)).2 s (ext w x.1,x.2))⟩
 |n+1=>by
  have H:=KR g m n;have M:n+1+m=(n+m)+1:=by omega
  rw[M];refine⟨λe f r h=>?_,λs x h=>?_,(lW _).1,(lW _).2,(lW _).1,(lW _).2⟩;show RE C w iy (if oB C r=true then jl C (ev C n).1 (ev C n).2 e f (bV r) else (0,stop r)) (if oB C' (ext w r)=true then jl C' (ev C' (n+m)).1 (ev C' (n+m)).2 e f (bV (ext w r)) else (0,stop (ext w r)));by_cases z:oB C r=true;rw[af z,af (Ut g z),RL];obtain⟨t,v⟩:=Gj z;exact KO g H e f (bV r) ⟨⟨by show r.aK+1<=_;omega,h.1.2⟩,by show _<=r.aK+1+n;have:=h.2;omega⟩ t;rw[U z];rcases E7 g h.1 z with⟨l,V⟩|l;rw[U l];exact .inl ⟨rfl,BC _,V⟩;exact .inr ⟨l,(BE w r).on ((lW (n+m+1)).1 e f (ext w r))⟩;show RS C w iy (if s.k=1 then x else if s.k=6 then cu C (ev C n).1 (ev C n).2 (jk s.es) s.bd (n+1) x else if oB C x.1=true then gq (ev C n).1 (ev C n).2 s (bV x.1,x.2) else (stop x.1,x.2))
   (if s.k=1 then (ext w x.1,x.2) else if s.k=6 then cu C' (ev C' (n+m)).1 (ev C' (n+m)).2 (jk s.es) s.bd (n+m+1) (ext w x.1,x.2) else if oB C' (ext w x.1)=true then gq (ev C' (n+m)).1 (ev C' (n+m)).2 s (bV (ext w x.1),x.2) else (stop (ext w x.1),x.2))
  by_cases K:s.k=1;rw[af K,af K];exact .inl ⟨rfl,rfl,h.1⟩;rw[U K,U K];by_cases y:s.k=6;rw[af y,af y,<-M];exact BG g H (jk s.es) s.bd m (n+1) x h.1 h.2 h.2;rw[U y,U y];by_cases z:oB C x.1=true;rw[af z,af (Ut g z),RL];obtain⟨t,v⟩:=Gj z;exact KQ g H s (bV x.1,x.2) ⟨⟨by show x.1.aK+1<=_;omega,h.1.2⟩,by show _<=x.1.aK+1+n;have:=h.2;omega⟩;rw[U z];rcases E7 g h.1 z with⟨l,V⟩|l;rw[U l];exact .inl ⟨BC _,rfl,V⟩;refine .inr ⟨l,(BE w x.1).on ?_⟩;split;exact(Iu (ext w x.1)).trans (Ww (lW _).1 (lW _).2 s (bV (ext w x.1),x.2));exact xK _
theorem OU(h:qf C C' w iy)(main:Int)(fm:List Int)(l:C'.ng=C.ng) :
  (run C' main (fm++w)=ext w (run C main fm)/\Ok C iy (run C main fm))\/(yH iy (run C main fm)/\OnD (run C main fm) (run C' main (fm++w))):=by
 obtain⟨m,s⟩:∃m,C'.fuel=C.fuel+m:=⟨C'.fuel-C.fuel,by have:=h.fuel;omega⟩;have H:=KR h m C.fuel;rw[<-s]at H;have r:r0 C' (fm++w)=ext w (r0 C fm):=by unfold r0 ext;rw[l]
 have q:=RM h H main [] (r0 C fm) ⟨⟨Nat.zero_le _,h.q0⟩,by show C.fuel<=0+C.fuel;omega⟩;unfold run;rw[r];generalize dW C (ev C C.fuel).2 main [] (r0 C fm)=X,dW C' (ev C' C'.fuel).2 main [] (ext w (r0 C fm))=B at *;rcases q with⟨k,j,o⟩|⟨k,j⟩;left;rw[j];unfold qo ext;by_cases g:X.2.e=0;rw[af g,af g];exact⟨rfl,o.1,h.q1⟩;rw[U g,U g];exact⟨rfl,o⟩;right;have g:¬X.2.e=0:=h.A3 _ _ _ k;have p:qo X.2=X.2:=by unfold qo;rw[U g]
 rw[p];refine⟨k,?_⟩;unfold qo;split;exact j;exact j
theorem ext_nil(r:Rs):ext [] r=r:=by simp[ext]
theorem RG(C:Cx)(k:Nat)(main:Int)(fm:List Int):((run C main fm).e=3/\(run C main fm).aK=C.fuel/\OnD (run C main fm) (run { C with fuel:=C.fuel+k } main fm))\/
  ((run C main fm).e≠3/\run { C with fuel:=C.fuel+k } main fm=run C main fm/\(run C main fm).aK<=C.fuel):=by
 have m:qf C { C with fuel:=C.fuel+k } [] ⟨λe _ n=>e=3/\n=C.fuel,λe=>e≠3⟩:=
  ⟨rfl,rfl,Nat.le_add_right _ _,.inr λ_=>⟨rfl,rfl⟩,.inl rfl,λe c n h=>by rw[h.1];decide,by show (0:Int)≠3;decide,by show (1:Int)≠3;decide,by show (2:Int)≠3;decide⟩
 have:=OU m main fm rfl;rw[List.append_nil,ext_nil]at this;rcases this with⟨g,j,l⟩|⟨⟨g,j⟩,l⟩;exact .inr ⟨l,g,j⟩;exact .inl ⟨g,j,l⟩
end pX
