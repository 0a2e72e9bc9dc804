/- Part of a proof. -/
import Derived.Test.YtpnadocbfbbboaaGreatP

open List renaming replicate->aak,length_append->abv,length_cons->abr,length_nil->aeP
open Nat renaming le_refl->aau
open Bool renaming and_eq_true->aac,or_eq_true->acJ
namespace tj
open Ax Go V7 kN lZ
structure Rs where
 mZ:List Int
 s:List (List Int)
 g:List Int
 nf:Nat
 e:Int
 code:Int
 out:List Int
 cC:Nat
structure Fm where
 vs:List Int
 cH:Int
 done:Bool
structure Cx where
 fuel:Nat
 bJ:List Nat
 bs:List Bd
 ng:Nat
def xY(b:Bool):Int:=if b then 1 else 0
def wR(op a b:Int):Int×Int:=
 if op=14 then (IntKind.i64.wrap (a+b),0)
 else if op=15 then (IntKind.i64.wrap (a-b),0)
 else if op=16 then (IntKind.i64.wrap (a*b),0)
 else if op=17 then (if b=0 then (0,3) else (IntKind.i64.wrap (a.tdiv b),0))
 else if op=18 then (if b=0 then (0,3) else (a.tmod b,0))
 else if op=19 then (xY (decide (a<b)),0)
 else if op=20 then (xY (decide (a<=b)),0)
 else if op=21 then (xY (decide (a=b)),0)
 else if op=22 then (xY (decide (a≠b)),0)
 else if op=23 then (xY (decide (a≠0)&&decide (b≠0)),0)
 else if op=24 then (xY (decide (a≠0)||decide (b≠0)),0)
 else (0,0)
def Yp(op a:Int):Int:=if op=12 then IntKind.i64.wrap (0-a) else if op=13 then xY (decide (a=0)) else 0
def xZ(T:List (List Int))(r:Int):Int×Int:=if 1<=r/\r<=(T.length:Int) then (((T.getD (r-1).toNat []).length:Int),0) else (0,1)
def m8(T:List (List Int))(r i:Int):Int:=if 1<=r/\r<=(T.length:Int) then (if 0<=i/\i<((T.getD (r-1).toNat []).length:Int) then 0 else 2) else 1
def lD(T:List (List Int))(r i:Int):Int×Int:=if m8 T r i=0 then ((T.getD (r-1).toNat []).getD i.toNat 0,0) else (0,m8 T r i)
def x0(T:List (List Int))(r i x:Int):List (List Int):=if m8 T r i=0 then T.set (r-1).toNat ((T.getD (r-1).toNat []).set i.toNat x) else T
def k7(n:Int):Nat:=if n<0 then 0 else if 8<n then 8 else n.toNat
def nU(C:Cx)(r:Rs):Bool:=decide (r.e=0)&&decide (r.cC<C.fuel)
def cG(r:Rs):Rs:={ r with cC:=r.cC+1 }
def stop(r:Rs):Rs:=if r.e=0 then { r with e:=3 } else r
def iU(r:Rs)(c:Int):Rs:=if c≠0/\r.e=0 then { r with e:=2,code:=c } else r
def A8(r:Rs)(x:Int×Int):Int×Rs:=(x.1,iU r x.2)
def nF(l:List Int):Int:=l.getD 0 0
def Gc(l:List Int):Int:=l.getD 1 0
def at2(l:List Int):Int:=l.getD 2 0
def A9(es:List E):E:=match es with|e::_=>e | []=>.mk 0 0 [] [] 0 [] 0 T0 0
def oR(f:Fm)(r:Rs)(ref:Int):Int:=if ref<0 then r.g.getD (-1-ref).toNat 0 else f.vs.getD ref.toNat 0
def bf(x:Rs×Fm)(ref v:Int):Rs×Fm:=if ref<0 then ({ x.1 with g:=x.1.g.set (-1-ref).toNat v },x.2) else (x.1,{ x.2 with vs:=x.2.vs.set ref.toNat v })
def vals(fE:E->Fm->Rs->Int×Rs)(f:Fm):List E->Rs->Option (List Int)×Rs
 |[],r=>(some [],r)
 |e::l,r=>if (fE e f r).2.e≠0 then (none,(fE e f r).2) else match vals fE f l (fE e f r).2 with
  |(some vs,r2)=>(some ((fE e f r).1::vs),r2)
  |(none,r2)=>(none,r2)
def pM(r:Rs)(n:Nat):Int×Rs:=((r.s.length:Int)+1,{ r with s:=r.s++[aak n 0] })
def tW(r:Rs)(n:Int):Int×Rs:=if n<0\/50<n then (0,iU r 4) else pM r n.toNat
def qW(r:Rs):Int×Rs:=match r.mZ with
 |[]=>(0,iU r 5)
 |n::l=>(n,{ r with mZ:=l })
def gf(C:Cx)(call:Int->List Int->Rs->Int×Rs)(k n ref alJ:Int)(f:Fm)(l:List Int)(r:Rs):Int×Rs:=
 if k=1\/k=2 then (n,r)
 else if k=3 then (0,r)
 else if k=4 then (oR f r ref,r)
 else if k=5 then A8 r (lD r.s (nF l) ref)
 else if k=6 then A8 r (lD r.s (nF l) (Gc l))
 else if k=7 then call ref l r
 else if k=8 then pM r (k7 (C.bJ.getD alJ.toNat 0:Nat))
 else if k=9 then tW r (nF l)
 else if k=10 then A8 r (xZ r.s (nF l))
 else if k=11 then qW r
 else if k=12\/k=13 then (Yp k (nF l),r)
 else A8 r (wR k (nF l) (Gc l))
def jI(fS:Sm->Rs×Fm->Rs×Fm):List Sm->Rs×Fm->Rs×Fm
 |[],x=>x|s::l,x=>if x.2.done=true\/x.1.e≠0 then x else jI fS l (fS s x)
def B0:Bd:=⟨[],[],0⟩
def ee(C:Cx)(fS:Sm->Rs×Fm->Rs×Fm)(i:Int)(l:List Int)(r:Rs):Int×Rs:=
 if 40<=r.nf then (0,iU r 6)
 else
  let x:=jI fS (C.bs.getD i.toNat B0).code ({ r with nf:=r.nf+1 },⟨l++aak ((C.bs.getD i.toNat B0).vars.length-l.length) 0,0,false⟩)
  (x.2.cH,{ x.1 with nf:=x.1.nf-1 })
def eK(C:Cx)(fE:E->Fm->Rs->Int×Rs)(fS:Sm->Rs×Fm->Rs×Fm)(c:E)(b:List Sm):Nat->Rs×Fm->Rs×Fm
 |0,x=>if x.2.done=true then x else (stop x.1,x.2)
 |k+1,x=>if x.2.done=true then x else if nU C x.1=true then
   (if (fE c x.2 (cG x.1)).2.e≠0\/(fE c x.2 (cG x.1)).1=0 then ((fE c x.2 (cG x.1)).2,x.2) else eK C fE fS c b k (jI fS b ((fE c x.2 (cG x.1)).2,x.2)))
  else (stop x.1,x.2)
def tn(x:Rs×Fm)(k ref:Int)(l:List Int):Rs×Fm:=
 if k=5 then (iU { x.1 with s:=x0 x.1.s (nF l) ref (Gc l) } (m8 x.1.s (nF l) ref),x.2)
 else (iU { x.1 with s:=x0 x.1.s (nF l) (Gc l) (at2 l) } (m8 x.1.s (nF l) (Gc l)),x.2)
def jR(fS:Sm->Rs×Fm->Rs×Fm)(k ref:Int)(bd el:List Sm)(l:List Int)(x:Rs×Fm):Rs×Fm:=
 if k=2\/k=3 then bf x ref (nF l)
 else if k=5 then (if nF l≠0 then jI fS bd x else jI fS el x)
 else if k=7 then (x.1,{ x.2 with done:=true,cH:=if l=[] then x.2.cH else nF l })
 else if k=8 then ({ x.1 with out:=x.1.out++[nF l] },x.2)
 else x
def ju(fE:E->Fm->Rs->Int×Rs)(fS:Sm->Rs×Fm->Rs×Fm)(s:Sm)(x:Rs×Fm):Rs×Fm:=
 if s.k=4 then match vals fE x.2 ((A9 s.es).aG++s.es.drop 1) x.1 with
  |(none,r)=>(r,x.2)
  |(some l,r)=>tn (r,x.2) (A9 s.es).k (A9 s.es).ref l
 else match vals fE x.2 s.es x.1 with
  |(none,r)=>(r,x.2)
  |(some l,r)=>jR fS s.k s.ref s.bd s.el l (r,x.2)
def mB(C:Cx)(fE:E->Fm->Rs->Int×Rs)(fS:Sm->Rs×Fm->Rs×Fm)(e:E)(f:Fm)(r:Rs):Int×Rs:=match vals fE f e.aG r with
 |(none,r)=>(0,r)
 |(some l,r)=>gf C (ee C fS) e.k e.n e.ref e.ty.r f l r
def ev(C:Cx):Nat->(E->Fm->Rs->Int×Rs)×(Sm->Rs×Fm->Rs×Fm)
 |0=>(λ_ _ r=>(0,stop r),λs x=>if s.k=1 then x else if s.k=6 then eK C (λ_ _ r=>(0,stop r)) (λ_ x=>x) (A9 s.es) s.bd 0 x else (stop x.1,x.2))
 |n+1=>(λe f r=>if nU C r=true then mB C (ev C n).1 (ev C n).2 e f (cG r) else (0,stop r),
   λs x=>if s.k=1 then x else if s.k=6 then eK C (ev C n).1 (ev C n).2 (A9 s.es) s.bd (n+1) x
    else if nU C x.1=true then ju (ev C n).1 (ev C n).2 s (cG x.1,x.2) else (stop x.1,x.2))
def r0(C:Cx)(mZ:List Int):Rs:=⟨mZ,[],aak C.ng 0,0,0,0,[],0⟩
def lE(r:Rs):Rs:=if r.e=0 then { r with e:=1 } else r
def run(C:Cx)(main:Int)(mZ:List Int):Rs:=lE (ee C (ev C C.fuel).2 main [] (r0 C mZ)).2
structure On (r r':Rs):Prop where
 out:∃l,r'.out=r.out++l
 st:r.cC<=r'.cC
 e:r.e≠0->r'.e=r.e/\r'.code=r.code
theorem On.rfl'(r:Rs):On r r:=⟨⟨[],by simp⟩,aau _,λ_=>⟨rfl,rfl⟩⟩
theorem On.trans{a b c:Rs}(h:On a b)(k:On b c):On a c:=by
 obtain⟨l1,h1⟩:=h.out;obtain⟨l2,h2⟩:=k.out;refine⟨⟨l1++l2,by rw[h2,h1];simp⟩,Nat.le_trans h.st k.st,λe=>?_⟩;obtain⟨e1,e2⟩:=h.e e;obtain⟨e3,e4⟩:=k.e (by rw[e1];exact e);exact⟨by rw[e3,e1],by rw[e4,e2]⟩
theorem On.of{a b:Rs}(h1:b.out=a.out)(h2:b.cC=a.cC)(h3:a.e≠0->b.e=a.e/\b.code=a.code):On a b:=⟨⟨[],by simp[h1]⟩,by omega,h3⟩
theorem wB(r:Rs):On r (stop r):=by
 unfold stop;split;rename_i h;exact .of rfl rfl λe=>aU h e;exact .rfl' r
theorem Jc(r:Rs):On r (cG r):=⟨⟨[],by simp[cG]⟩,by simp[cG],λ_=>⟨rfl,rfl⟩⟩
theorem Ba(r:Rs)(c:Int):On r (iU r c):=by
 unfold iU;split;rename_i h;exact .of rfl rfl λe=>aU h.2 e;exact .rfl' r
theorem U4(r:Rs)(n:Nat):On r (pM r n).2:=.of rfl rfl λ_=>⟨rfl,rfl⟩
theorem Yq(r:Rs)(n:Int):On r (tW r n).2:=by
 unfold tW;split;exact Ba r 4;exact U4 r _
theorem Yr(r:Rs):On r (qW r).2:=by
 unfold qW;split;exact Ba r 5;exact .of rfl rfl λ_=>⟨rfl,rfl⟩
theorem acR(x:Rs×Fm)(ref v:Int):On x.1 (bf x ref v).1:=by
 unfold bf;split;exact .of rfl rfl λ_=>⟨rfl,rfl⟩;exact .rfl' _
variable {C:Cx}{fE:E->Fm->Rs->Int×Rs}{fS:Sm->Rs×Fm->Rs×Fm}
theorem rH(hE:∀e f r,On r (fE e f r).2)(f:Fm):∀(l:List E)(r:Rs),On r (vals fE f l r).2
 |[],r=>.rfl' r|e::l,r=>by
  unfold vals;split;exact hE e f r;have:=rH hE f l (fE e f r).2;split<;>rename_i h<;>rw[h]at this<;>exact(hE e f r).trans this
theorem yH(hS:∀s x,On x.1 (fS s x).1):∀(l:List Sm)(x:Rs×Fm),On x.1 (jI fS l x).1
 |[],x=>.rfl' _|s::l,x=>by
  unfold jI;split;exact .rfl' _;exact(hS s x).trans (yH hS l _)
theorem Ys(hS:∀s x,On x.1 (fS s x).1)(i:Int)(l:List Int)(r:Rs):On r (ee C fS i l r).2:=by
 unfold ee;split;exact Ba r 6;have:=yH hS (C.bs.getD i.toNat B0).code ({ r with nf:=r.nf+1 },⟨l++aak ((C.bs.getD i.toNat B0).vars.length-l.length) 0,0,false⟩);exact⟨this.out,this.st,this.e⟩
theorem Yt(hS:∀s x,On x.1 (fS s x).1)(k n ref rc:Int)(f:Fm)(l:List Int)(r:Rs):On r (gf C (ee C fS) k n ref rc f l r).2:=by
 unfold gf A8;repeat' split
 all_goals first|exact .rfl' r|exact Ba r _|exact Ys hS _ _ _|exact U4 _ _|exact Yq _ _|exact Yr _
theorem Yu(hE:∀e f r,On r (fE e f r).2)(hS:∀s x,On x.1 (fS s x).1)(e:E)(f:Fm)(r:Rs):On r (mB C fE fS e f r).2:=by
 unfold mB;have:=rH hE f e.aG r;split<;>rename_i h<;>rw[h]at this;exact this;exact this.trans (Yt hS _ _ _ _ _ _ _)
theorem Jd(hE:∀e f r,On r (fE e f r).2)(hS:∀s x,On x.1 (fS s x).1)(c:E)(b:List Sm):∀(k:Nat)(x:Rs×Fm),On x.1 (eK C fE fS c b k x).1
 |0,x=>by
  unfold eK;split;exact .rfl' _;exact wB _
 |k+1,x=>by
  unfold eK;split;exact .rfl' _;split;have h1:=(Jc x.1).trans (hE c x.2 (cG x.1));split;exact h1;exact h1.trans ((yH hS b ((fE c x.2 (cG x.1)).2,x.2)).trans (Jd hE hS c b k _));exact wB _
theorem acS(hS:∀s x,On x.1 (fS s x).1)(k ref:Int)(bd el:List Sm)(l:List Int)(x:Rs×Fm):On x.1 (jR fS k ref bd el l x).1:=by
 unfold jR;split;exact acR _ _ _;split;split<;>exact yH hS _ _;split;exact .rfl' _;split;exact⟨⟨_,rfl⟩,aau _,λ_=>⟨rfl,rfl⟩⟩;exact .rfl' _
theorem Yv(r:Rs)(T:List (List Int))(c:Int):On r (iU { r with s:=T } c):=
 (On.of (a:=r) (b:={ r with s:=T }) rfl rfl λ_=>⟨rfl,rfl⟩).trans (Ba _ _)
theorem acT(x:Rs×Fm)(k ref:Int)(l:List Int):On x.1 (tn x k ref l).1:=by
 unfold tn;split<;>exact Yv _ _ _
theorem Yw(hE:∀e f r,On r (fE e f r).2)(hS:∀s x,On x.1 (fS s x).1)(s:Sm)(x:Rs×Fm):On x.1 (ju fE fS s x).1:=by
 unfold ju;split;have:=rH hE x.2 ((A9 s.es).aG++s.es.drop 1) x.1;split<;>rename_i h<;>rw[h]at this;exact this;exact this.trans (acT (_,x.2) _ _ _);have:=rH hE x.2 s.es x.1;split<;>rename_i h<;>rw[h]at this;exact this;exact this.trans (acS hS _ _ _ _ _ (_,x.2))
theorem Bb:∀n,(∀e f r,On r ((ev C n).1 e f r).2)/\(∀s x,On x.1 ((ev C n).2 s x).1)
 |0=>by
  refine⟨λe f r=>wB r,λs x=>?_⟩;show On x.1 ((if s.k=1 then x else if s.k=6 then eK C (λ_ _ r=>(0,stop r)) (λ_ x=>x) (A9 s.es) s.bd 0 x else (stop x.1,x.2)):Rs×Fm).1;split;exact .rfl' _;split;exact Jd (λ_ _ r=>wB r) (λ_ x=>.rfl' _) _ _ _ _;exact wB _
 |n+1=>by
  obtain⟨hE,hS⟩:=Bb n;refine⟨λe f r=>?_,λs x=>?_⟩;show On r ((if nU C r=true then mB C (ev C n).1 (ev C n).2 e f (cG r) else (0,stop r)):Int×Rs).2;split;exact(Jc r).trans (Yu hE hS e f _);exact wB r;show On x.1 ((if s.k=1 then x else if s.k=6 then eK C (ev C n).1 (ev C n).2 (A9 s.es) s.bd (n+1) x
   else if nU C x.1=true then ju (ev C n).1 (ev C n).2 s (cG x.1,x.2) else (stop x.1,x.2)):Rs×Fm).1
  split;exact .rfl' _;split;exact Jd hE hS _ _ _ _;split;exact(Jc x.1).trans (Yw hE hS s (cG x.1,x.2));exact wB _
end tj
namespace tj
open Ax Go V7 kN lZ
structure Gd (C:Cx)(d:Nat)(r:Rs):Prop where
 s:r.s.length+d<=r.cC
 o:r.out.length+d<=r.cC
 g:r.g.length=C.ng
 st:r.cC<=C.fuel
 nf:r.nf<=40
variable {C:Cx}{fE:E->Fm->Rs->Int×Rs}{fS:Sm->Rs×Fm->Rs×Fm}{d:Nat}
variable{r:Rs}{x:Rs×Fm}
theorem Gd.qG{d':Nat}(h:Gd C d r)(hd:d'<=d):Gd C d' r:=⟨by have:=h.s;omega,by have:=h.o;omega,h.g,h.st,h.nf⟩
theorem Gd.cG{r:Rs}(h:Gd C d r)(ho:nU C r=true):Gd C (d+1) (cG r):=by
 unfold nU at ho;rw[aac,aK,aK]at ho;exact⟨by have:=h.s;simp only[tj.cG];omega,by have:=h.o;simp only[tj.cG];omega,h.g,by simp only[tj.cG];omega,h.nf⟩
theorem Gd.stop{r:Rs}(h:Gd C d r):Gd C d (stop r)/\(tj.stop r).nf=r.nf:=by
 unfold tj.stop;split;exact⟨⟨h.s,h.o,h.g,h.st,h.nf⟩,rfl⟩;exact⟨h,rfl⟩
theorem Gd.Ll(h:Gd C d r)(c:Int):Gd C d (iU r c)/\(iU r c).nf=r.nf:=by
 unfold iU;split;exact⟨⟨h.s,h.o,h.g,h.st,h.nf⟩,rfl⟩;exact⟨h,rfl⟩
def GE(C:Cx)(fE:E->Fm->Rs->Int×Rs):Prop:=∀d e f r,Gd C d r->Gd C d (fE e f r).2/\(fE e f r).2.nf=r.nf
def GS(C:Cx)(fS:Sm->Rs×Fm->Rs×Fm):Prop:=∀d s x,Gd C d x.1->Gd C d (fS s x).1/\(fS s x).1.nf=x.1.nf/\(fS s x).2.vs.length=x.2.vs.length
theorem Je{T:List (List Int)}{r i x:Int}:(x0 T r i x).length=T.length:=by unfold x0;split<;>simp
theorem p6(hE:GE C fE)(f:Fm):∀(l:List E)(d:Nat)(r:Rs),Gd C d r->Gd C d (vals fE f l r).2/\(vals fE f l r).2.nf=r.nf
 |[],_,r,h=>⟨h,rfl⟩
 |e::l,d,r,h=>by
  unfold vals;obtain⟨h1,h2⟩:=hE d e f r h;split;exact⟨h1,h2⟩;have:=p6 hE f l d (fE e f r).2 h1;split<;>rename_i h3<;>rw[h3]at this<;>exact⟨this.1,by rw[this.2,h2]⟩
theorem tX(hS:GS C fS):∀(l:List Sm)(d:Nat)(x:Rs×Fm),Gd C d x.1->Gd C d (jI fS l x).1/\(jI fS l x).1.nf=x.1.nf/\(jI fS l x).2.vs.length=x.2.vs.length
 |[],_,x,h=>⟨h,rfl,rfl⟩
 |s::l,d,x,h=>by
  unfold jI;split;exact⟨h,rfl,rfl⟩;obtain⟨h1,h2,h3⟩:=hS d s x h;obtain⟨k1,k2,k3⟩:=tX hS l d _ h1;exact⟨k1,by rw[k2,h2],by rw[k3,h3]⟩
theorem O6(hS:GS C fS)(i:Int)(l:List Int)(r:Rs)(h:Gd C d r):Gd C d (ee C fS i l r).2/\(ee C fS i l r).2.nf=r.nf:=by
 unfold ee;split;exact h.Ll 6;rename_i hn;obtain⟨h1,h2,_⟩:=tX hS (C.bs.getD i.toNat B0).code d ({ r with nf:=r.nf+1 },⟨l++aak ((C.bs.getD i.toNat B0).vars.length-l.length) 0,0,false⟩) ⟨h.s,h.o,h.g,h.st,by show r.nf+1<=40;omega⟩;simp only at h2 ⊢;refine⟨⟨h1.s,h1.o,h1.g,h1.st,?_⟩,?_⟩;have:=h.nf;show _-1<=40;omega;show _-1=_;omega
theorem U5(h:Gd C (d+1) r)(n:Nat):Gd C d (pM r n).2/\(pM r n).2.nf=r.nf:=
 ⟨⟨by have:=h.s;simp only[pM,abv,abr,aeP];omega,by have:=h.o;simp only[pM];omega,h.g,h.st,h.nf⟩,rfl⟩
theorem Yx(hS:GS C fS)(k n ref rc:Int)(f:Fm)(l:List Int)(r:Rs)(h:Gd C (d+1) r):Gd C d (gf C (ee C fS) k n ref rc f l r).2/\(gf C (ee C fS) k n ref rc f l r).2.nf=r.nf:=by
 have h0:=h.qG (d':=d) (by omega);unfold gf A8;split;exact⟨h0,rfl⟩;split;exact⟨h0,rfl⟩;split;exact⟨h0,rfl⟩;split;exact h0.Ll _;split;exact h0.Ll _;split;exact O6 hS _ _ _ h0;split;exact U5 h _;split;unfold tW;split;exact h0.Ll _;exact U5 h _;split;exact h0.Ll _;split;unfold qW;split;exact h0.Ll _;exact⟨⟨h0.s,h0.o,h0.g,h0.st,h0.nf⟩,rfl⟩;split;exact⟨h0,rfl⟩;exact h0.Ll _
theorem Yy(hE:GE C fE)(hS:GS C fS)(e:E)(f:Fm)(r:Rs)(h:Gd C (d+1) r):Gd C d (mB C fE fS e f r).2/\(mB C fE fS e f r).2.nf=r.nf:=by
 unfold mB;have:=p6 hE f e.aG (d+1) r h;split<;>rename_i h1<;>rw[h1]at this;exact⟨this.1.qG (by omega),this.2⟩;obtain⟨k1,k2⟩:=Yx hS e.k e.n e.ref e.ty.r f _ _ this.1;exact⟨k1,by rw[k2];exact this.2⟩
theorem Jf(hE:GE C fE)(hS:GS C fS)(c:E)(b:List Sm):∀(k d:Nat)(x:Rs×Fm),Gd C d x.1->Gd C d (eK C fE fS c b k x).1/\(eK C fE fS c b k x).1.nf=x.1.nf/\(eK C fE fS c b k x).2.vs.length=x.2.vs.length
 |0,d,x,h=>by
  unfold eK;split;exact⟨h,rfl,rfl⟩;exact⟨h.stop.1,h.stop.2,rfl⟩
 |k+1,d,x,h=>by
  unfold eK;split;exact⟨h,rfl,rfl⟩;split;rename_i ho;obtain⟨h1,h2⟩:=hE d c x.2 (cG x.1) ((h.cG ho).qG (by omega));split;exact⟨h1,h2,rfl⟩;obtain⟨k1,k2,k3⟩:=tX hS b d ((fE c x.2 (cG x.1)).2,x.2) h1;obtain⟨j1,j2,j3⟩:=Jf hE hS c b k d _ k1;exact⟨j1,by rw[j2,k2];exact h2,by rw[j3,k3]⟩;exact⟨h.stop.1,h.stop.2,rfl⟩
theorem acU(h:Gd C d x.1)(ref v:Int):Gd C d (bf x ref v).1/\(bf x ref v).1.nf=x.1.nf/\(bf x ref v).2.vs.length=x.2.vs.length:=by
 unfold bf;split;exact⟨⟨h.s,h.o,by simp[h.g],h.st,h.nf⟩,rfl,rfl⟩;exact⟨h,rfl,by simp⟩
theorem acV(hS:GS C fS)(k ref:Int)(bd el:List Sm)(l:List Int)(x:Rs×Fm)(h:Gd C (d+1) x.1):Gd C d (jR fS k ref bd el l x).1/\(jR fS k ref bd el l x).1.nf=x.1.nf/\(jR fS k ref bd el l x).2.vs.length=x.2.vs.length:=by
 have h0:=h.qG (d':=d) (by omega);unfold jR;split;exact acU h0 _ _;split;split<;>exact tX hS _ _ _ h0;split;exact⟨h0,rfl,rfl⟩;split;exact⟨⟨h0.s,by have:=h.o;simp only[abv,abr,aeP];omega,h0.g,h0.st,h0.nf⟩,rfl,rfl⟩;exact⟨h0,rfl,rfl⟩
theorem O7(h:Gd C d r)(T:List (List Int))(hT:T.length=r.s.length)(c:Int):Gd C d (iU { r with s:=T } c)/\(iU { r with s:=T } c).nf=r.nf:=
 Gd.Ll (r:={ r with s:=T }) ⟨by show T.length+d<=_;rw[hT];exact h.s,h.o,h.g,h.st,h.nf⟩ c
theorem acW(h:Gd C d x.1)(k ref:Int)(l:List Int):Gd C d (tn x k ref l).1/\(tn x k ref l).1.nf=x.1.nf/\(tn x k ref l).2.vs.length=x.2.vs.length:=by
 unfold tn;split;obtain⟨h1,h2⟩:=O7 h (x0 x.1.s (nF l) ref (Gc l)) Je (m8 x.1.s (nF l) ref);exact⟨h1,h2,rfl⟩;obtain⟨h1,h2⟩:=O7 h (x0 x.1.s (nF l) (Gc l) (at2 l)) Je (m8 x.1.s (nF l) (Gc l));exact⟨h1,h2,rfl⟩
theorem Yz(hE:GE C fE)(hS:GS C fS)(s:Sm)(x:Rs×Fm)(h:Gd C (d+1) x.1):Gd C d (ju fE fS s x).1/\(ju fE fS s x).1.nf=x.1.nf/\(ju fE fS s x).2.vs.length=x.2.vs.length:=by
 unfold ju;split;have:=p6 hE x.2 ((A9 s.es).aG++s.es.drop 1) (d+1) x.1 h;split<;>rename_i h1<;>rw[h1]at this;exact⟨this.1.qG (by omega),this.2,rfl⟩;obtain⟨k1,k2,k3⟩:=acW (x:=(_,x.2)) (this.1.qG (d':=d) (by omega)) (A9 s.es).k (A9 s.es).ref _;exact⟨k1,by rw[k2];exact this.2,k3⟩;have:=p6 hE x.2 s.es (d+1) x.1 h;split<;>rename_i h1<;>rw[h1]at this;exact⟨this.1.qG (by omega),this.2,rfl⟩;obtain⟨k1,k2,k3⟩:=acV hS s.k s.ref s.bd s.el _ (_,x.2) this.1;exact⟨k1,by rw[k2];exact this.2,k3⟩
theorem zj:∀n,GE C (ev C n).1/\GS C (ev C n).2
 |0=>by
  refine⟨λd e f r h=>h.stop,λd s x h=>?_⟩;show Gd C d ((if s.k=1 then x else if s.k=6 then eK C (λ_ _ r=>(0,stop r)) (λ_ x=>x) (A9 s.es) s.bd 0 x else (stop x.1,x.2)):Rs×Fm).1/\((if s.k=1 then x else if s.k=6 then eK C (λ_ _ r=>(0,stop r)) (λ_ x=>x) (A9 s.es) s.bd 0 x else (stop x.1,x.2)):Rs×Fm).1.nf=_/\((if s.k=1 then x else if s.k=6 then eK C (λ_ _ r=>(0,stop r)) (λ_ x=>x) (A9 s.es) s.bd 0 x else (stop x.1,x.2)):Rs×Fm).2.vs.length=_;split;exact⟨h,rfl,rfl⟩;split;exact Jf (λd e f r h=>h.stop) (λd s x h=>⟨h,rfl,rfl⟩) _ _ _ _ _ h;exact⟨h.stop.1,h.stop.2,rfl⟩
 |n+1=>by
  obtain⟨hE,hS⟩:=zj n;refine⟨λd e f r h=>?_,λd s x h=>?_⟩;show Gd C d ((if nU C r=true then mB C (ev C n).1 (ev C n).2 e f (cG r) else (0,stop r)):Int×Rs).2/\((if nU C r=true then mB C (ev C n).1 (ev C n).2 e f (cG r) else (0,stop r)):Int×Rs).2.nf=_;split;rename_i ho;exact Yy hE hS e f _ (h.cG ho);exact h.stop;show Gd C d ((if s.k=1 then x else if s.k=6 then eK C (ev C n).1 (ev C n).2 (A9 s.es) s.bd (n+1) x else if nU C x.1=true then ju (ev C n).1 (ev C n).2 s (cG x.1,x.2) else (stop x.1,x.2)):Rs×Fm).1/\((if s.k=1 then x else if s.k=6 then eK C (ev C n).1 (ev C n).2 (A9 s.es) s.bd (n+1) x else if nU C x.1=true then ju (ev C n).1 (ev C n).2 s (cG x.1,x.2) else (stop x.1,x.2)):Rs×Fm).1.nf=_/\
   ((if s.k=1 then x else if s.k=6 then eK C (ev C n).1 (ev C n).2 (A9 s.es) s.bd (n+1) x else if nU C x.1=true then ju (ev C n).1 (ev C n).2 s (cG x.1,x.2) else (stop x.1,x.2)):Rs×Fm).2.vs.length=_
  split;exact⟨h,rfl,rfl⟩;split;exact Jf hE hS _ _ _ _ _ h;split;rename_i ho;obtain⟨k1,k2,k3⟩:=Yz hE hS s (cG x.1,x.2) (h.cG ho);exact⟨k1,k2,k3⟩;exact⟨h.stop.1,h.stop.2,rfl⟩
end tj
namespace tj
open Ax Go V7 kN lZ
structure Dm where
 ng:Nat
 nr:Nat
 ps:List Nat
def okK(D:Dm)(k ref:Int)(ty:T3)(m:Nat):Prop:=
 (1<=k/\k<=24)/\(k=4→-1-ref<D.ng)/\(k=5\/k=9\/k=10\/k=12\/k=13->m=1)/\(k=6\/14<=k->m=2)/\
 (k=7->0<=ref/\∃h:ref.toNat<D.ps.length,m=D.ps[ref.toNat])/\(k=8->0<=ty.r/\ty.r<D.nr)/\(k=5->0<=ref)
mutual
def WE(D:Dm):E->Prop
 |.mk k _ _ _ _ aG _ ty ref=>okK D k ref ty aG.length/\WL D aG
def WL(D:Dm):List E->Prop
 |[]=>True|e::l=>WE D e/\WL D l
end
def okS(D:Dm)(k ref:Int)(es:List E):Prop:=
 (1<=k/\k<=9)/\(k=3→-1-ref<D.ng)/\(k=2\/k=3\/k=5\/k=6\/k=8\/k=9->es.length=1)/\(k=4->∃a b,es=[a,b]/\(a.k=5\/a.k=6))/\(k=7->es.length<=1)
mutual
def WS(D:Dm):Sm->Prop
 |.mk k _ _ _ es bd el _ ref=>okS D k ref es/\WL D es/\WB D bd/\WB D el
def WB(D:Dm):List Sm->Prop
 |[]=>True|s::l=>WS D s/\WB D l
end
variable {D:Dm}{H:Hd}
theorem FF(e:E):WE D e↔okK D e.k e.ref e.ty e.aG.length/\WL D e.aG:=by
 obtain⟨k,_,nm,on,od,aG,a,ty,ref⟩:=e;unfold WE;exact Iff.rfl
theorem zQ:∀l:List E,WL D l↔∀e∈l,WE D e
 |[]=>by simp[WL]|e::l=>by simp[WL,zQ l]
theorem Lm(s:Sm):WS D s↔okS D s.k s.ref s.es/\WL D s.es/\WB D s.bd/\WB D s.el:=by
 obtain⟨k,nm,on,od,es,bd,el,a,ref⟩:=s;unfold WS;exact Iff.rfl
theorem Nr:∀l:List Sm,WB D l↔∀e∈l,WS D e
 |[]=>by simp[WB]|e::l=>by simp[WB,Nr l]
def wS(H:Hd):Dm:=⟨H.aI.length,H.bE.length,H.aY.map (·.ps.length)⟩
theorem HO{s:List UInt8}:∀{l:List Sg}{i k:Nat}{t:Sg},mV s i l=some (k,t)->i<=k/\∃h:k-i<l.length,l[k-i]=t
 |[],_,_,_,h=>by cases h|g::l,i,k,t,h=>by
  unfold mV at h;split at h;cases h;exact⟨aau _,by simp,by simp⟩;obtain⟨h1,h2,h3⟩:=HO h;have e:k-i=(k-(i+1))+1:=by omega
  refine⟨by omega,by simp only[abr];omega,?_⟩;simp only[e,List.getElem_cons_succ];exact h3
theorem FG:∀{l:List Vd}{ks:List E},iR l ks=true->ks.length=l.length
 |[],[],_=>rfl|_::_,_::_,h=>by simp only[iR,aac]at h;simp[FG h.2]|[],_::_,h=>by simp[iR]at h|_::_,[],h=>by simp[iR]at h
variable{k:Int}{t:T3}{V:List Vd}{nm:List UInt8}{es:List E}{cP:Bool}
theorem Ln{s:List UInt8}{l:List Vd}{k:Nat}(h:fN s 0 l=some (k,t)):k<l.length:=by have:=IY h;omega
theorem acX{on:List UInt8}{od n:Int}{ks:List E}{r:Int}(QI:H.bE.length=H.rs.length)(hk:gK k n ks.length=true)(h:lM H V k nm on od ks=some (t,r)):okK (wS H) k r t ks.length:=by
 have JD:1<=k/\k<=24:=by
  unfold gK at hk;split at hk;omega;split at hk;omega;split at hk;omega;split at hk;omega;simp only[aac,acJ,aK]at hk;omega
 refine⟨JD,λe=>?_,λe=>?_,λe=>?_,λe=>?_,λe=>?_,λe=>?_⟩;unfold lM at h;rw[U (by omega),U (by omega),U (by omega),ah e]at h;unfold uw at h;split at h;cases h;show _<(H.aI.length:Int);omega;split at h;rename_i hg;cases h;have:=Ln hg;show _<(H.aI.length:Int);omega;cases h;unfold gK at hk;rw[U (by omega),U (by omega),U (by omega),ah e]at hk;simpa using hk;unfold gK at hk;rw[U (by omega),U (by omega),U (by omega),U (by omega)]at hk;simp only[aac,aK]at hk;exact hk.2;unfold lM at h;rw[U (by omega),U (by omega),U (by omega),U (by omega),U (by omega),U (by omega),ah e]at h;unfold oY at h;split at h;rename_i i s hs;split at h;rename_i zX;cases h;obtain⟨_,h2,h3⟩:=HO hs;refine⟨by omega,by simp[wS];exact h2,?_⟩;simp only[wS,Int.toNat_natCast,List.getElem_map];simp only[Nat.sub_zero]at h3;rw[h3];exact FG zX;cases h;cases h;unfold lM at h;rw[U (by omega),U (by omega),U (by omega),U (by omega),U (by omega),U (by omega),U (by omega),ah e]at h;unfold DB at h;split at h;rename_i hc;cases h;simp only[aac,aK]at hc;obtain⟨⟨h1,h2⟩,h3⟩:=hc;have:=(ox H.rs on od);unfold cB at h1 h2 ⊢;split;rename_i c;rw[ah c]at h1;cases h1;split;rename_i c1 c2;rw[U c1,ah c2]at h2;simp at h2;split;rename_i c1 c2 c3;rw[U c1,U c2,ah c3]at h2;simp at h2;split;rename_i c1 c2 c3 c4;rw[U c1,U c2,U c3,ah c4]at h1;cases h1;simp only[wS,QI];rcases OP H.rs on with h5|⟨j,h5,h6⟩;rename_i c;omega;rw[h5];omega;cases h;unfold lM at h;rw[U (by omega),U (by omega),U (by omega),U (by omega),ah e]at h;unfold xO at h;split at h;split at h;split at h;cases h;omega;cases h;cases h;cases h
theorem U6(QI:H.bE.length=H.rs.length)(e:E):∀y,zh H V e=.ok y->WE (wS H) y:=by
 induction e using E.Ga with
 |_ e ih=>
  intro y h;obtain⟨ks,t,r,h1,h2,h3,rfl⟩:=BW h;rw[FF];have h4:gK e.k e.n ks.length=true:=by rw[pZ h2];exact h1
  refine⟨acX (n:=e.n) QI h4 h3,?_⟩;rw[zQ];exact tS h2 ih
theorem ahf{ys:List E}(QI:H.bE.length=H.rs.length)(h:uC H V k es=.ok ys):WL (wS H) ys:=by
 unfold uC at h;rw[zQ];split at h;split at h;rename_i e l;cases hx:zh H V e with
 |error a=>rw[hx]at h;cases h|ok y=>
  rw[hx]at h;cases h;intro z hz;rw[List.mem_singleton.1 hz];exact U6 QI e y hx
 cases h;simp;exact tS h λe _ y hy=>U6 QI e y hy
theorem YA(h:de cP k es=true):(1<=k/\k<=9)/\(k=2\/k=3\/k=5\/k=6\/k=8\/k=9->es.length=1)/\(k=4->∃a b,es=[a,b]/\(a.k=5\/a.k=6))/\(k=7->es.length<=1):=by
 unfold de at h;split at h;refine⟨by omega,λ_=>by omega,λ_=>by omega,λ_=>by omega⟩;split at h;split at h;rename_i a b;simp only[acJ,aK]at h;exact⟨by omega,λ_=>by omega,λ_=>⟨a,b,rfl,h⟩,λ_=>by omega⟩;cases h;split at h;simp only[acJ,aac,aK]at h;exact⟨by omega,λ_=>by omega,λ_=>by omega,λ_=>by omega⟩;split at h;split at h;exact⟨by omega,λ_=>by simp,λ_=>by omega,λ_=>by omega⟩;cases h;split at h;simp only[aK]at h;exact⟨by omega,λ_=>h,λ_=>by omega,λ_=>by omega⟩;cases h
theorem ahg{cH:T3}{W:List Vd}{r:Int}(h:k6 H cH V 3 nm es t=some (r,W)) : -1-r<(H.aI.length:Int):=by
 unfold k6 at h;rw[U (by omega),U (by omega),ah rfl]at h;split at h;rename_i hv;split at h;cases h;unfold uw at hv;split at hv;cases hv;omega;split at hv;rename_i hg;cases hv;have:=Ln hg;omega;cases hv;cases h;cases h
theorem Bc{cP:Bool}{cH:T3}:∀{l ys:List Sm}{V X:List Vd},(∀s∈l,∀V y W,zH H cP cH V s=.ok (y,W)->WS (wS H) y)->lB H cP cH V l=.ok (ys,X)->WB (wS H) ys
 |[],ys,V,X,_,h=>by
  unfold lB at h;cases h;simp[WB]
 |s::l,ys,V,X,hp,h=>by
  obtain⟨y,W,zs,h1,h2,rfl⟩:=AI h;unfold WB;exact⟨hp s List.mem_cons_self V y W h1,Bc (λt ht=>hp t (List.mem_cons_of_mem _ ht)) h2⟩
theorem acY{cH:T3}(QI:H.bE.length=H.rs.length)(s:Sm):∀V y X,zH H cP cH V s=.ok (y,X)->WS (wS H) y:=by
 induction s using Sm.Ga with
 |_ s Gb Bq=>
  intro V y X h;obtain⟨t,ys,r,W,hf,ht,tf,dL,hh⟩:=IV h;have jj:=ahf QI tf;obtain⟨f1,f2,f3,f4⟩:=YA (UB tf hf);have F7:okS (wS H) s.k r ys:=⟨f1,λe=>by rw[e]at dL;exact ahg dL,f2,f3,f4⟩;rcases hh with⟨_,b,W1,c,hb,hc,rfl⟩|⟨_,b,hb,rfl⟩|⟨_,_,_,rfl⟩;rw[Lm];exact⟨F7,jj,Bc Gb hb,Bc Bq hc⟩;rw[Lm];exact⟨F7,jj,Bc Gb hb,by simp[Sm.el,WB]⟩;rw[Lm];exact⟨F7,jj,by simp[Sm.bd,WB],by simp[Sm.el,WB]⟩
theorem U8(QI:H.bE.length=H.rs.length):∀{ss:List Sg}{fs:List Fc}{bs:List Bd},sQ H ss fs=.ok bs->∀b∈bs,WB (wS H) b.code
 |[],fs,bs,h=>by
  unfold sQ at h;cases h;simp
 |_::_,[],bs,h=>by
  unfold sQ at h;cases h;simp
 |s::ss,f::fs,bs,h=>by
  unfold sQ at h;split at h;cases h;rename_i c W hb;split at h;cases h;rename_i l hl;cases h;intro b hbm;rcases List.mem_cons.1 hbm with rfl|hbm;exact Bc (λs _=>acY QI s) hb;exact U8 QI hl b hbm
end tj
namespace tj
open Ax Go V7 kN lZ
def OnD(a b:Rs):Prop:=(∃l,b.out=a.out++l)/\a.cC<=b.cC
theorem OnD.on{a b c:Rs}(h:OnD a b)(k:On b c):OnD a c:=by
 obtain⟨⟨l1,h1⟩,h2⟩:=h;obtain⟨l2,h3⟩:=k.out;exact⟨⟨l1++l2,by rw[h3,h1];simp⟩,Nat.le_trans h2 k.st⟩
def ext(w:List Int)(r:Rs):Rs:={ r with mZ:=r.mZ++w }
structure Kd where
 nB:Int->Int->Nat->Prop
 q:Int->Prop
structure Sim (C C':Cx)(w:List Int)(nB:Kd):Prop where
 bJ:C'.bJ=C.bJ
 bs:C'.bs=C.bs
 fuel:C.fuel<=C'.fuel
 A1:(C'.fuel=C.fuel/\nB.q 3)\/∀c,nB.nB 3 c C.fuel
 A2:w=[]\/∀n,nB.nB 2 5 n
 A3:∀e c n,nB.nB e c n->e≠0
 q0:nB.q 0
 q1:nB.q 1
 q2:nB.q 2
def sU(nB:Kd)(r:Rs):Prop:=nB.nB r.e r.code r.cC
variable {C C':Cx}{w:List Int}{nB:Kd}{n:Nat}
variable {fE fE':E->Fm->Rs->Int×Rs}{fS fS':Sm->Rs×Fm->Rs×Fm}
def Ok(C:Cx)(nB:Kd)(r:Rs):Prop:=r.cC<=C.fuel/\nB.q r.e
def Bd'(C:Cx)(nB:Kd)(n:Nat)(r:Rs):Prop:=Ok C nB r/\C.fuel<=r.cC+n
def RE(C:Cx)(w:List Int)(nB:Kd)(x x':Int×Rs):Prop:=(x'.1=x.1/\x'.2=ext w x.2/\Ok C nB x.2)\/(sU nB x.2/\OnD x.2 x'.2)
def RS(C:Cx)(w:List Int)(nB:Kd)(x x':Rs×Fm):Prop:=(x'.1=ext w x.1/\x'.2=x.2/\Ok C nB x.1)\/(sU nB x.1/\OnD x.1 x'.1)
structure Hyp (C C':Cx)(w:List Int)(nB:Kd)(n:Nat)(fE fE':E->Fm->Rs->Int×Rs)(fS fS':Sm->Rs×Fm->Rs×Fm):Prop where
 E:∀e f r,Bd' C nB n r->RE C w nB (fE e f r) (fE' e f (ext w r))
 S:∀s x,Bd' C nB n x.1->RS C w nB (fS s x) (fS' s (ext w x.1,x.2))
 oE:∀e f r,On r (fE e f r).2
 oS:∀s x,On x.1 (fS s x).1
 oE':∀e f r,On r (fE' e f r).2
 oS':∀s x,On x.1 (fS' s x).1
theorem Bd'.on{r r':Rs}(h:Bd' C nB n r)(k:On r r')(hk:Ok C nB r'):Bd' C nB n r':=⟨hk,by have:=h.2;have:=k.st;omega⟩
theorem p7{C:Cx}{r:Rs}:nU C r=true↔r.e=0/\r.cC<C.fuel:=by unfold nU;rw[aac,aK,aK]
theorem DH{f:Fm}:∀(l:List E)(r:Rs),r.e=0->∀vs r2,vals fE f l r=(some vs,r2)->r2.e=0
 |[],r,h,vs,r2,e=>by unfold vals at e;cases e;exact h|x::l,r,h,vs,r2,e=>by
  unfold vals at e;by_cases he:(fE x f r).2.e≠0;rw[ah he]at e;cases e;rw[U he]at e;split at e;rename_i vs' r2' h2;cases e;exact DH l _ (by omega) _ _ h2;cases e
end tj
