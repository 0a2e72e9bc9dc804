/- Part of a proof. -/
import Derived.Test.YtpnadocbfbbboaaGreatP

namespace zj
open Ax Go V7 lf mG
structure Rs where
 qG:List Int
 s:List (List Int)
 g:List Int
 nf:Nat
 e:Int
 code:Int
 out:List Int
 cZ:Nat
structure Fm where
 vs:List Int
 res:Int
 done:Bool
structure Cx where
 eC:Nat
 bz:List Nat
 bs:List Bd
 ng:Nat
def Ah(b:Bool):Int:=if b then 1 else 0
def NG(op a b:Int):Int×Int:=
 if op=14 then (IntKind.i64.wrap (a+b),0)
 else if op=15 then (IntKind.i64.wrap (a-b),0)
 else if op=16 then (IntKind.i64.wrap (a*b),0)
 else if op=17 then (if b=0 then (0,3) else (IntKind.i64.wrap (a.tdiv b),0))
 else if op=18 then (if b=0 then (0,3) else (a.tmod b,0))
 else if op=19 then (Ah (decide (a<b)),0)
 else if op=20 then (Ah (decide (a<=b)),0)
 else if op=21 then (Ah (decide (a=b)),0)
 else if op=22 then (Ah (decide (a≠b)),0)
 else if op=23 then (Ah (decide (a≠0)&&decide (b≠0)),0)
 else if op=24 then (Ah (decide (a≠0)||decide (b≠0)),0)
 else (0,0)
def unI(op a:Int):Int:=if op=12 then IntKind.i64.wrap (0-a) else if op=13 then Ah (decide (a=0)) else 0
def NH(T:List (List Int))(r:Int):Int×Int:=if 1<=r/\r<=(T.length:Int) then (((T.getD (r-1).toNat []).length:Int),0) else (0,1)
def uv(T:List (List Int))(r i:Int):Int:=if 1<=r/\r<=(T.length:Int) then (if 0<=i/\i<((T.getD (r-1).toNat []).length:Int) then 0 else 2) else 1
def vL(T:List (List Int))(r i:Int):Int×Int:=if uv T r i=0 then ((T.getD (r-1).toNat []).getD i.toNat 0,0) else (0,uv T r i)
def F7(T:List (List Int))(r i x:Int):List (List Int):=if uv T r i=0 then T.set (r-1).toNat ((T.getD (r-1).toNat []).set i.toNat x) else T
def vv(n:Int):Nat:=if n<0 then 0 else if 8<n then 8 else n.toNat
def tg(C:Cx)(r:Rs):Bool:=decide (r.e=0)&&decide (r.cZ<C.eC)
def dm(r:Rs):Rs:={ r with cZ:=r.cZ+1 }
def stop(r:Rs):Rs:=if r.e=0 then { r with e:=3 } else r
def kL(r:Rs)(c:Int):Rs:=if c≠0/\r.e=0 then { r with e:=2,code:=c } else r
def F8(r:Rs)(x:Int×Int):Int×Rs:=(x.1,kL r x.2)
def r9(l:List Int):Int:=l.getD 0 0
def Mp(l:List Int):Int:=l.getD 1 0
def at2(l:List Int):Int:=l.getD 2 0
def zk(es:List E):E:=match es with|e::_=>e | []=>.mk 0 0 [] [] 0 [] 0 T0 0
def Af(f:Fm)(r:Rs)(ref:Int):Int:=if ref<0 then r.g.getD (-1-ref).toNat 0 else f.vs.getD ref.toNat 0
def bt(x:Rs×Fm)(ref v:Int):Rs×Fm:=if ref<0 then ({ x.1 with g:=x.1.g.set (-1-ref).toNat v },x.2) else (x.1,{ x.2 with vs:=x.2.vs.set ref.toNat v })
def vals(fE:E->Fm->Rs->Int×Rs)(f:Fm):List E->Rs->Option (List Int)×Rs
 |[],r=>(some [],r)
 |e::l,r=>if (fE e f r).2.e≠0 then (none,(fE e f r).2) else match vals fE f l (fE e f r).2 with
  |(some vs,r2)=>(some ((fE e f r).1::vs),r2)
  |(none,r2)=>(none,r2)
def Ai(r:Rs)(n:Nat):Int×Rs:=((r.s.length:Int)+1,{ r with s:=r.s++[List.replicate n 0] })
def Aj(r:Rs)(n:Int):Int×Rs:=if n<0\/50<n then (0,kL r 4) else Ai r n.toNat
def wT(r:Rs):Int×Rs:=match r.qG with
 |[]=>(0,kL r 5)
 |n::l=>(n,{ r with qG:=l })
def j6(C:Cx)(call:Int->List Int->Rs->Int×Rs)(k n ref anf:Int)(f:Fm)(l:List Int)(r:Rs):Int×Rs:=
 if k=1\/k=2 then (n,r)
 else if k=3 then (0,r)
 else if k=4 then (Af f r ref,r)
 else if k=5 then F8 r (vL r.s (r9 l) ref)
 else if k=6 then F8 r (vL r.s (r9 l) (Mp l))
 else if k=7 then call ref l r
 else if k=8 then Ai r (vv (C.bz.getD anf.toNat 0:Nat))
 else if k=9 then Aj r (r9 l)
 else if k=10 then F8 r (NH r.s (r9 l))
 else if k=11 then wT r
 else if k=12\/k=13 then (unI k (r9 l),r)
 else F8 r (NG k (r9 l) (Mp l))
def m8(fS:Sm->Rs×Fm->Rs×Fm):List Sm->Rs×Fm->Rs×Fm
 |[],x=>x|s::l,x=>if x.2.done=true\/x.1.e≠0 then x else m8 fS l (fS s x)
def B0:Bd:=⟨[],[],0⟩
def fQ(C:Cx)(fS:Sm->Rs×Fm->Rs×Fm)(i:Int)(l:List Int)(r:Rs):Int×Rs:=
 if 40<=r.nf then (0,kL r 6)
 else
  let x:=m8 fS (C.bs.getD i.toNat B0).code ({ r with nf:=r.nf+1 },⟨l++List.replicate ((C.bs.getD i.toNat B0).vars.length-l.length) 0,0,false⟩)
  (x.2.res,{ x.1 with nf:=x.1.nf-1 })
def fA(C:Cx)(fE:E->Fm->Rs->Int×Rs)(fS:Sm->Rs×Fm->Rs×Fm)(c:E)(b:List Sm):Nat->Rs×Fm->Rs×Fm
 |0,x=>if x.2.done=true then x else (stop x.1,x.2)
 |k+1,x=>if x.2.done=true then x else if tg C x.1=true then
   (if (fE c x.2 (dm x.1)).2.e≠0\/(fE c x.2 (dm x.1)).1=0 then ((fE c x.2 (dm x.1)).2,x.2) else fA C fE fS c b k (m8 fS b ((fE c x.2 (dm x.1)).2,x.2)))
  else (stop x.1,x.2)
def Ak(x:Rs×Fm)(k ref:Int)(l:List Int):Rs×Fm:=
 if k=5 then (kL { x.1 with s:=F7 x.1.s (r9 l) ref (Mp l) } (uv x.1.s (r9 l) ref),x.2)
 else (kL { x.1 with s:=F7 x.1.s (r9 l) (Mp l) (at2 l) } (uv x.1.s (r9 l) (Mp l)),x.2)
def nW(fS:Sm->Rs×Fm->Rs×Fm)(k ref:Int)(bd el:List Sm)(l:List Int)(x:Rs×Fm):Rs×Fm:=
 if k=2\/k=3 then bt x ref (r9 l)
 else if k=5 then (if r9 l≠0 then m8 fS bd x else m8 fS el x)
 else if k=7 then (x.1,{ x.2 with done:=true,res:=if l=[] then x.2.res else r9 l })
 else if k=8 then ({ x.1 with out:=x.1.out++[r9 l] },x.2)
 else x
def kM(fE:E->Fm->Rs->Int×Rs)(fS:Sm->Rs×Fm->Rs×Fm)(s:Sm)(x:Rs×Fm):Rs×Fm:=
 if s.k=4 then match vals fE x.2 ((zk s.es).ay++s.es.drop 1) x.1 with
  |(none,r)=>(r,x.2)
  |(some l,r)=>Ak (r,x.2) (zk s.es).k (zk s.es).ref l
 else match vals fE x.2 s.es x.1 with
  |(none,r)=>(r,x.2)
  |(some l,r)=>nW fS s.k s.ref s.bd s.el l (r,x.2)
def mK(C:Cx)(fE:E->Fm->Rs->Int×Rs)(fS:Sm->Rs×Fm->Rs×Fm)(e:E)(f:Fm)(r:Rs):Int×Rs:=match vals fE f e.ay r with
 |(none,r)=>(0,r)
 |(some l,r)=>j6 C (fQ C fS) e.k e.n e.ref e.ty.r f l r
def ev(C:Cx):Nat->(E->Fm->Rs->Int×Rs)×(Sm->Rs×Fm->Rs×Fm)
 |0=>(λ_ _ r=>(0,stop r),λs x=>if s.k=1 then x else if s.k=6 then fA C (λ_ _ r=>(0,stop r)) (λ_ x=>x) (zk s.es) s.bd 0 x else (stop x.1,x.2))
 |n+1=>(λe f r=>if tg C r=true then mK C (ev C n).1 (ev C n).2 e f (dm r) else (0,stop r),
   λs x=>if s.k=1 then x else if s.k=6 then fA C (ev C n).1 (ev C n).2 (zk s.es) s.bd (n+1) x
    else if tg C x.1=true then kM (ev C n).1 (ev C n).2 s (dm x.1,x.2) else (stop x.1,x.2))
def r0(C:Cx)(qG:List Int):Rs:=⟨qG,[],List.replicate C.ng 0,0,0,0,[],0⟩
def uw(r:Rs):Rs:=if r.e=0 then { r with e:=1 } else r
def run(C:Cx)(main:Int)(qG:List Int):Rs:=uw (fQ C (ev C C.eC).2 main [] (r0 C qG)).2
structure On (r r':Rs):Prop where
 out:∃l,r'.out=r.out++l
 st:r.cZ<=r'.cZ
 e:r.e≠0->r'.e=r.e/\r'.code=r.code
theorem On.rfl'(r:Rs):On r r:=⟨⟨[],by simp⟩,Nat.le_refl _,λ_=>⟨rfl,rfl⟩⟩
theorem On.trans{a b c:Rs}(h:On a b)(k:On b c):On a c:=by
 obtain⟨l1,h1⟩:=h.out;obtain⟨l2,h2⟩:=k.out;refine⟨⟨l1++l2,by rw[h2,h1];simp⟩,Nat.le_trans h.st k.st,λe=>?_⟩;obtain⟨e1,e2⟩:=h.e e;obtain⟨e3,e4⟩:=k.e (by rw[e1];exact e);exact⟨by rw[e3,e1],by rw[e4,e2]⟩
theorem On.of{a b:Rs}(h1:b.out=a.out)(h2:b.cZ=a.cZ)(h3:a.e≠0->b.e=a.e/\b.code=a.code):On a b:=⟨⟨[],by simp[h1]⟩,by omega,h3⟩
theorem vz(r:Rs):On r (stop r):=by
 unfold stop;split;rename_i h;exact .of rfl rfl λe=>absurd h e;exact .rfl' r
theorem Jg(r:Rs):On r (dm r):=⟨⟨[],by simp[dm]⟩,by simp[dm],λ_=>⟨rfl,rfl⟩⟩
theorem Al(r:Rs)(c:Int):On r (kL r c):=by
 unfold kL;split;rename_i h;exact .of rfl rfl λe=>absurd h.2 e;exact .rfl' r
theorem VD(r:Rs)(n:Nat):On r (Ai r n).2:=.of rfl rfl λ_=>⟨rfl,rfl⟩
theorem Y9(r:Rs)(n:Int):On r (Aj r n).2:=by
 unfold Aj;split;exact Al r 4;exact VD r _
theorem Za(r:Rs):On r (wT r).2:=by
 unfold wT;split;exact Al r 5;exact .of rfl rfl λ_=>⟨rfl,rfl⟩
theorem adS(x:Rs×Fm)(ref v:Int):On x.1 (bt x ref v).1:=by
 unfold bt;split;exact .of rfl rfl λ_=>⟨rfl,rfl⟩;exact .rfl' _
variable {C:Cx}{fE:E->Fm->Rs->Int×Rs}{fS:Sm->Rs×Fm->Rs×Fm}
theorem xS(hE:∀e f r,On r (fE e f r).2)(f:Fm):∀(l:List E)(r:Rs),On r (vals fE f l r).2
 |[],r=>.rfl' r|e::l,r=>by
  unfold vals;split;exact hE e f r;have:=xS hE f l (fE e f r).2;split<;>rename_i h<;>rw[h]at this<;>exact(hE e f r).trans this
theorem Am(hS:∀s x,On x.1 (fS s x).1):∀(l:List Sm)(x:Rs×Fm),On x.1 (m8 fS l x).1
 |[],x=>.rfl' _|s::l,x=>by
  unfold m8;split;exact .rfl' _;exact(hS s x).trans (Am hS l _)
theorem Zb(hS:∀s x,On x.1 (fS s x).1)(i:Int)(l:List Int)(r:Rs):On r (fQ C fS i l r).2:=by
 unfold fQ;split;exact Al r 6;have:=Am hS (C.bs.getD i.toNat B0).code ({ r with nf:=r.nf+1 },⟨l++List.replicate ((C.bs.getD i.toNat B0).vars.length-l.length) 0,0,false⟩);exact⟨this.out,this.st,this.e⟩
theorem Zc(hS:∀s x,On x.1 (fS s x).1)(k n ref rc:Int)(f:Fm)(l:List Int)(r:Rs):On r (j6 C (fQ C fS) k n ref rc f l r).2:=by
 unfold j6 F8;repeat' split
 all_goals first|exact .rfl' r|exact Al r _|exact Zb hS _ _ _|exact VD _ _|exact Y9 _ _|exact Za _
theorem Zd(hE:∀e f r,On r (fE e f r).2)(hS:∀s x,On x.1 (fS s x).1)(e:E)(f:Fm)(r:Rs):On r (mK C fE fS e f r).2:=by
 unfold mK;have:=xS hE f e.ay r;split<;>rename_i h<;>rw[h]at this;exact this;exact this.trans (Zc hS _ _ _ _ _ _ _)
theorem Jh(hE:∀e f r,On r (fE e f r).2)(hS:∀s x,On x.1 (fS s x).1)(c:E)(b:List Sm):∀(k:Nat)(x:Rs×Fm),On x.1 (fA C fE fS c b k x).1
 |0,x=>by
  unfold fA;split;exact .rfl' _;exact vz _
 |k+1,x=>by
  unfold fA;split;exact .rfl' _;split;have h1:=(Jg x.1).trans (hE c x.2 (dm x.1));split;exact h1;exact h1.trans ((Am hS b ((fE c x.2 (dm x.1)).2,x.2)).trans (Jh hE hS c b k _));exact vz _
theorem adT(hS:∀s x,On x.1 (fS s x).1)(k ref:Int)(bd el:List Sm)(l:List Int)(x:Rs×Fm):On x.1 (nW fS k ref bd el l x).1:=by
 unfold nW;split;exact adS _ _ _;split;split<;>exact Am hS _ _;split;exact .rfl' _;split;exact⟨⟨_,rfl⟩,Nat.le_refl _,λ_=>⟨rfl,rfl⟩⟩;exact .rfl' _
theorem Ze(r:Rs)(T:List (List Int))(c:Int):On r (kL { r with s:=T } c):=
 (On.of (a:=r) (b:={ r with s:=T }) rfl rfl λ_=>⟨rfl,rfl⟩).trans (Al _ _)
theorem adU(x:Rs×Fm)(k ref:Int)(l:List Int):On x.1 (Ak x k ref l).1:=by
 unfold Ak;split<;>exact Ze _ _ _
theorem Zf(hE:∀e f r,On r (fE e f r).2)(hS:∀s x,On x.1 (fS s x).1)(s:Sm)(x:Rs×Fm):On x.1 (kM fE fS s x).1:=by
 unfold kM;split;have:=xS hE x.2 ((zk s.es).ay++s.es.drop 1) x.1;split<;>rename_i h<;>rw[h]at this;exact this;exact this.trans (adU (_,x.2) _ _ _);have:=xS hE x.2 s.es x.1;split<;>rename_i h<;>rw[h]at this;exact this;exact this.trans (adT hS _ _ _ _ _ (_,x.2))
theorem LJ:∀n,(∀e f r,On r ((ev C n).1 e f r).2)/\(∀s x,On x.1 ((ev C n).2 s x).1)
 |0=>by
  refine⟨λe f r=>vz r,λs x=>?_⟩;show On x.1 ((if s.k=1 then x else if s.k=6 then fA C (λ_ _ r=>(0,stop r)) (λ_ x=>x) (zk s.es) s.bd 0 x else (stop x.1,x.2)):Rs×Fm).1;split;exact .rfl' _;split;exact Jh (λ_ _ r=>vz r) (λ_ x=>.rfl' _) _ _ _ _;exact vz _
 |n+1=>by
  obtain⟨hE,hS⟩:=LJ n;refine⟨λe f r=>?_,λs x=>?_⟩;show On r ((if tg C r=true then mK C (ev C n).1 (ev C n).2 e f (dm r) else (0,stop r)):Int×Rs).2;split;exact(Jg r).trans (Zd hE hS e f _);exact vz r;show On x.1 ((if s.k=1 then x else if s.k=6 then fA C (ev C n).1 (ev C n).2 (zk s.es) s.bd (n+1) x
   else if tg C x.1=true then kM (ev C n).1 (ev C n).2 s (dm x.1,x.2) else (stop x.1,x.2)):Rs×Fm).1
  split;exact .rfl' _;split;exact Jh hE hS _ _ _ _;split;exact(Jg x.1).trans (Zf hE hS s (dm x.1,x.2));exact vz _
end zj
namespace zj
open Ax Go V7 lf mG
structure Gd (C:Cx)(d:Nat)(r:Rs):Prop where
 s:r.s.length+d<=r.cZ
 o:r.out.length+d<=r.cZ
 g:r.g.length=C.ng
 st:r.cZ<=C.eC
 nf:r.nf<=40
variable {C:Cx}{fE:E->Fm->Rs->Int×Rs}{fS:Sm->Rs×Fm->Rs×Fm}{d:Nat}
theorem Gd.u0{d':Nat}{r:Rs}(h:Gd C d r)(hd:d'<=d):Gd C d' r:=⟨by have:=h.s;omega,by have:=h.o;omega,h.g,h.st,h.nf⟩
theorem Gd.dm{r:Rs}(h:Gd C d r)(ho:tg C r=true):Gd C (d+1) (dm r):=by
 unfold tg at ho;rw[Bool.and_eq_true,decide_eq_true_eq,decide_eq_true_eq]at ho;exact⟨by have:=h.s;simp only[zj.dm];omega,by have:=h.o;simp only[zj.dm];omega,h.g,by simp only[zj.dm];omega,h.nf⟩
theorem Gd.stop{r:Rs}(h:Gd C d r):Gd C d (stop r)/\(zj.stop r).nf=r.nf:=by
 unfold zj.stop;split;exact⟨⟨h.s,h.o,h.g,h.st,h.nf⟩,rfl⟩;exact⟨h,rfl⟩
theorem Gd.LL{r:Rs}(h:Gd C d r)(c:Int):Gd C d (kL r c)/\(kL r c).nf=r.nf:=by
 unfold kL;split;exact⟨⟨h.s,h.o,h.g,h.st,h.nf⟩,rfl⟩;exact⟨h,rfl⟩
def GE(C:Cx)(fE:E->Fm->Rs->Int×Rs):Prop:=∀d e f r,Gd C d r->Gd C d (fE e f r).2/\(fE e f r).2.nf=r.nf
def GS(C:Cx)(fS:Sm->Rs×Fm->Rs×Fm):Prop:=∀d s x,Gd C d x.1->Gd C d (fS s x).1/\(fS s x).1.nf=x.1.nf/\(fS s x).2.vs.length=x.2.vs.length
theorem Ji{T:List (List Int)}{r i x:Int}:(F7 T r i x).length=T.length:=by unfold F7;split<;>simp
theorem vA(hE:GE C fE)(f:Fm):∀(l:List E)(d:Nat)(r:Rs),Gd C d r->Gd C d (vals fE f l r).2/\(vals fE f l r).2.nf=r.nf
 |[],_,r,h=>⟨h,rfl⟩
 |e::l,d,r,h=>by
  unfold vals;obtain⟨h1,h2⟩:=hE d e f r h;split;exact⟨h1,h2⟩;have:=vA hE f l d (fE e f r).2 h1;split<;>rename_i h3<;>rw[h3]at this<;>exact⟨this.1,by rw[this.2,h2]⟩
theorem xT(hS:GS C fS):∀(l:List Sm)(d:Nat)(x:Rs×Fm),Gd C d x.1->Gd C d (m8 fS l x).1/\(m8 fS l x).1.nf=x.1.nf/\(m8 fS l x).2.vs.length=x.2.vs.length
 |[],_,x,h=>⟨h,rfl,rfl⟩
 |s::l,d,x,h=>by
  unfold m8;split;exact⟨h,rfl,rfl⟩;obtain⟨h1,h2,h3⟩:=hS d s x h;obtain⟨k1,k2,k3⟩:=xT hS l d _ h1;exact⟨k1,by rw[k2,h2],by rw[k3,h3]⟩
theorem Pe(hS:GS C fS)(i:Int)(l:List Int)(r:Rs)(h:Gd C d r):Gd C d (fQ C fS i l r).2/\(fQ C fS i l r).2.nf=r.nf:=by
 unfold fQ;split;exact h.LL 6;rename_i hn;obtain⟨h1,h2,_⟩:=xT hS (C.bs.getD i.toNat B0).code d ({ r with nf:=r.nf+1 },⟨l++List.replicate ((C.bs.getD i.toNat B0).vars.length-l.length) 0,0,false⟩) ⟨h.s,h.o,h.g,h.st,by show r.nf+1<=40;omega⟩;simp only at h2 ⊢;refine⟨⟨h1.s,h1.o,h1.g,h1.st,?_⟩,?_⟩;have:=h.nf;show _-1<=40;omega;show _-1=_;omega
theorem VE{r:Rs}(h:Gd C (d+1) r)(n:Nat):Gd C d (Ai r n).2/\(Ai r n).2.nf=r.nf:=
 ⟨⟨by have:=h.s;simp only[Ai,List.length_append,List.length_cons,List.length_nil];omega,by have:=h.o;simp only[Ai];omega,h.g,h.st,h.nf⟩,rfl⟩
theorem Zg(hS:GS C fS)(k n ref rc:Int)(f:Fm)(l:List Int)(r:Rs)(h:Gd C (d+1) r):Gd C d (j6 C (fQ C fS) k n ref rc f l r).2/\(j6 C (fQ C fS) k n ref rc f l r).2.nf=r.nf:=by
 have h0:=h.u0 (d':=d) (by omega);unfold j6 F8;split;exact⟨h0,rfl⟩;split;exact⟨h0,rfl⟩;split;exact⟨h0,rfl⟩;split;exact h0.LL _;split;exact h0.LL _;split;exact Pe hS _ _ _ h0;split;exact VE h _;split;unfold Aj;split;exact h0.LL _;exact VE h _;split;exact h0.LL _;split;unfold wT;split;exact h0.LL _;exact⟨⟨h0.s,h0.o,h0.g,h0.st,h0.nf⟩,rfl⟩;split;exact⟨h0,rfl⟩;exact h0.LL _
theorem Zh(hE:GE C fE)(hS:GS C fS)(e:E)(f:Fm)(r:Rs)(h:Gd C (d+1) r):Gd C d (mK C fE fS e f r).2/\(mK C fE fS e f r).2.nf=r.nf:=by
 unfold mK;have:=vA hE f e.ay (d+1) r h;split<;>rename_i h1<;>rw[h1]at this;exact⟨this.1.u0 (by omega),this.2⟩;obtain⟨k1,k2⟩:=Zg hS e.k e.n e.ref e.ty.r f _ _ this.1;exact⟨k1,by rw[k2];exact this.2⟩
theorem Jj(hE:GE C fE)(hS:GS C fS)(c:E)(b:List Sm):∀(k d:Nat)(x:Rs×Fm),Gd C d x.1->Gd C d (fA C fE fS c b k x).1/\(fA C fE fS c b k x).1.nf=x.1.nf/\(fA C fE fS c b k x).2.vs.length=x.2.vs.length
 |0,d,x,h=>by
  unfold fA;split;exact⟨h,rfl,rfl⟩;exact⟨h.stop.1,h.stop.2,rfl⟩
 |k+1,d,x,h=>by
  unfold fA;split;exact⟨h,rfl,rfl⟩;split;rename_i ho;obtain⟨h1,h2⟩:=hE d c x.2 (dm x.1) ((h.dm ho).u0 (by omega));split;exact⟨h1,h2,rfl⟩;obtain⟨k1,k2,k3⟩:=xT hS b d ((fE c x.2 (dm x.1)).2,x.2) h1;obtain⟨j1,j2,j3⟩:=Jj hE hS c b k d _ k1;exact⟨j1,by rw[j2,k2];exact h2,by rw[j3,k3]⟩;exact⟨h.stop.1,h.stop.2,rfl⟩
theorem adV{x:Rs×Fm}(h:Gd C d x.1)(ref v:Int):Gd C d (bt x ref v).1/\(bt x ref v).1.nf=x.1.nf/\(bt x ref v).2.vs.length=x.2.vs.length:=by
 unfold bt;split;exact⟨⟨h.s,h.o,by simp[h.g],h.st,h.nf⟩,rfl,rfl⟩;exact⟨h,rfl,by simp⟩
theorem adW(hS:GS C fS)(k ref:Int)(bd el:List Sm)(l:List Int)(x:Rs×Fm)(h:Gd C (d+1) x.1):Gd C d (nW fS k ref bd el l x).1/\(nW fS k ref bd el l x).1.nf=x.1.nf/\(nW fS k ref bd el l x).2.vs.length=x.2.vs.length:=by
 have h0:=h.u0 (d':=d) (by omega);unfold nW;split;exact adV h0 _ _;split;split<;>exact xT hS _ _ _ h0;split;exact⟨h0,rfl,rfl⟩;split;exact⟨⟨h0.s,by have:=h.o;simp only[List.length_append,List.length_cons,List.length_nil];omega,h0.g,h0.st,h0.nf⟩,rfl,rfl⟩;exact⟨h0,rfl,rfl⟩
theorem Pf{r:Rs}(h:Gd C d r)(T:List (List Int))(hT:T.length=r.s.length)(c:Int):Gd C d (kL { r with s:=T } c)/\(kL { r with s:=T } c).nf=r.nf:=
 Gd.LL (r:={ r with s:=T }) ⟨by show T.length+d<=_;rw[hT];exact h.s,h.o,h.g,h.st,h.nf⟩ c
theorem adX{x:Rs×Fm}(h:Gd C d x.1)(k ref:Int)(l:List Int):Gd C d (Ak x k ref l).1/\(Ak x k ref l).1.nf=x.1.nf/\(Ak x k ref l).2.vs.length=x.2.vs.length:=by
 unfold Ak;split;obtain⟨h1,h2⟩:=Pf h (F7 x.1.s (r9 l) ref (Mp l)) Ji (uv x.1.s (r9 l) ref);exact⟨h1,h2,rfl⟩;obtain⟨h1,h2⟩:=Pf h (F7 x.1.s (r9 l) (Mp l) (at2 l)) Ji (uv x.1.s (r9 l) (Mp l));exact⟨h1,h2,rfl⟩
theorem Zi(hE:GE C fE)(hS:GS C fS)(s:Sm)(x:Rs×Fm)(h:Gd C (d+1) x.1):Gd C d (kM fE fS s x).1/\(kM fE fS s x).1.nf=x.1.nf/\(kM fE fS s x).2.vs.length=x.2.vs.length:=by
 unfold kM;split;have:=vA hE x.2 ((zk s.es).ay++s.es.drop 1) (d+1) x.1 h;split<;>rename_i h1<;>rw[h1]at this;exact⟨this.1.u0 (by omega),this.2,rfl⟩;obtain⟨k1,k2,k3⟩:=adX (x:=(_,x.2)) (this.1.u0 (d':=d) (by omega)) (zk s.es).k (zk s.es).ref _;exact⟨k1,by rw[k2];exact this.2,k3⟩;have:=vA hE x.2 s.es (d+1) x.1 h;split<;>rename_i h1<;>rw[h1]at this;exact⟨this.1.u0 (by omega),this.2,rfl⟩;obtain⟨k1,k2,k3⟩:=adW hS s.k s.ref s.bd s.el _ (_,x.2) this.1;exact⟨k1,by rw[k2];exact this.2,k3⟩
theorem Ho:∀n,GE C (ev C n).1/\GS C (ev C n).2
 |0=>by
  refine⟨λd e f r h=>h.stop,λd s x h=>?_⟩;show Gd C d ((if s.k=1 then x else if s.k=6 then fA C (λ_ _ r=>(0,stop r)) (λ_ x=>x) (zk s.es) s.bd 0 x else (stop x.1,x.2)):Rs×Fm).1/\((if s.k=1 then x else if s.k=6 then fA C (λ_ _ r=>(0,stop r)) (λ_ x=>x) (zk s.es) s.bd 0 x else (stop x.1,x.2)):Rs×Fm).1.nf=_/\((if s.k=1 then x else if s.k=6 then fA C (λ_ _ r=>(0,stop r)) (λ_ x=>x) (zk s.es) s.bd 0 x else (stop x.1,x.2)):Rs×Fm).2.vs.length=_;split;exact⟨h,rfl,rfl⟩;split;exact Jj (λd e f r h=>h.stop) (λd s x h=>⟨h,rfl,rfl⟩) _ _ _ _ _ h;exact⟨h.stop.1,h.stop.2,rfl⟩
 |n+1=>by
  obtain⟨hE,hS⟩:=Ho n;refine⟨λd e f r h=>?_,λd s x h=>?_⟩;show Gd C d ((if tg C r=true then mK C (ev C n).1 (ev C n).2 e f (dm r) else (0,stop r)):Int×Rs).2/\((if tg C r=true then mK C (ev C n).1 (ev C n).2 e f (dm r) else (0,stop r)):Int×Rs).2.nf=_;split;rename_i ho;exact Zh hE hS e f _ (h.dm ho);exact h.stop;show Gd C d ((if s.k=1 then x else if s.k=6 then fA C (ev C n).1 (ev C n).2 (zk s.es) s.bd (n+1) x else if tg C x.1=true then kM (ev C n).1 (ev C n).2 s (dm x.1,x.2) else (stop x.1,x.2)):Rs×Fm).1/\((if s.k=1 then x else if s.k=6 then fA C (ev C n).1 (ev C n).2 (zk s.es) s.bd (n+1) x else if tg C x.1=true then kM (ev C n).1 (ev C n).2 s (dm x.1,x.2) else (stop x.1,x.2)):Rs×Fm).1.nf=_/\
   ((if s.k=1 then x else if s.k=6 then fA C (ev C n).1 (ev C n).2 (zk s.es) s.bd (n+1) x else if tg C x.1=true then kM (ev C n).1 (ev C n).2 s (dm x.1,x.2) else (stop x.1,x.2)):Rs×Fm).2.vs.length=_
  split;exact⟨h,rfl,rfl⟩;split;exact Jj hE hS _ _ _ _ _ h;split;rename_i ho;obtain⟨k1,k2,k3⟩:=Zi hE hS s (dm x.1,x.2) (h.dm ho);exact⟨k1,k2,k3⟩;exact⟨h.stop.1,h.stop.2,rfl⟩
end zj
namespace zj
open Ax Go V7 lf mG
structure Dm where
 ng:Nat
 nr:Nat
 ps:List Nat
def okK(D:Dm)(k ref:Int)(ty:T3)(m:Nat):Prop:=
 (1<=k/\k<=24)/\(k=4→-1-ref<D.ng)/\(k=5\/k=9\/k=10\/k=12\/k=13->m=1)/\(k=6\/14<=k->m=2)/\
 (k=7->0<=ref/\∃h:ref.toNat<D.ps.length,m=D.ps[ref.toNat])/\(k=8->0<=ty.r/\ty.r<D.nr)/\(k=5->0<=ref)
mutual
def WE(D:Dm):E->Prop
 |.mk k _ _ _ _ ay _ ty ref=>okK D k ref ty ay.length/\WL D ay
def WL(D:Dm):List E->Prop
 |[]=>True|e::l=>WE D e/\WL D l
end
def okS(D:Dm)(k ref:Int)(es:List E):Prop:=
 (1<=k/\k<=9)/\(k=3→-1-ref<D.ng)/\(k=2\/k=3\/k=5\/k=6\/k=8\/k=9->es.length=1)/\(k=4->∃a b,es=[a,b]/\(a.k=5\/a.k=6))/\(k=7->es.length<=1)
mutual
def WS(D:Dm):Sm->Prop
 |.mk k _ _ _ es bd el _ ref=>okS D k ref es/\WL D es/\WB D bd/\WB D el
def WB(D:Dm):List Sm->Prop
 |[]=>True|s::l=>WS D s/\WB D l
end
variable {D:Dm}{H:Hd}
theorem Ph(e:E):WE D e↔okK D e.k e.ref e.ty e.ay.length/\WL D e.ay:=by
 obtain⟨k,_,nm,on,od,ay,a,ty,ref⟩:=e;unfold WE;exact Iff.rfl
theorem Bo:∀l:List E,WL D l↔∀e∈l,WE D e
 |[]=>by simp[WL]|e::l=>by simp[WL,Bo l]
theorem Pj(s:Sm):WS D s↔okS D s.k s.ref s.es/\WL D s.es/\WB D s.bd/\WB D s.el:=by
 obtain⟨k,nm,on,od,es,bd,el,a,ref⟩:=s;unfold WS;exact Iff.rfl
theorem VF:∀l:List Sm,WB D l↔∀e∈l,WS D e
 |[]=>by simp[WB]|e::l=>by simp[WB,VF l]
def yb(H:Hd):Dm:=⟨H.aH.length,H.bZ.length,H.cu.map (·.ps.length)⟩
theorem Hp{s:List UInt8}:∀{l:List Sg}{i k:Nat}{t:Sg},qj s i l=some (k,t)->i<=k/\∃h:k-i<l.length,l[k-i]=t
 |[],_,_,_,h=>by cases h|g::l,i,k,t,h=>by
  unfold qj at h;split at h;cases h;exact⟨Nat.le_refl _,by simp,by simp⟩;obtain⟨h1,h2,h3⟩:=Hp h;have e:k-i=(k-(i+1))+1:=by omega
  refine⟨by omega,by simp only[List.length_cons];omega,?_⟩;simp only[e,List.getElem_cons_succ];exact h3
theorem E2:∀{l:List Vd}{ks:List E},kT l ks=true->ks.length=l.length
 |[],[],_=>rfl|_::_,_::_,h=>by simp only[kT,Bool.and_eq_true]at h;simp[E2 h.2]|[],_::_,h=>by simp[kT]at h|_::_,[],h=>by simp[kT]at h
theorem LM{s:List UInt8}{l:List Vd}{k:Nat}{t:T3}(h:js s 0 l=some (k,t)):k<l.length:=by have:=IQ h;omega
theorem adY{V:List Vd}{k:Int}{nm on:List UInt8}{od n:Int}{ks:List E}{t:T3}{r:Int}(Rj:H.bZ.length=H.rs.length)(hk:dR k n ks.length=true)(h:pL H V k nm on od ks=some (t,r)):okK (yb H) k r t ks.length:=by
 have WM:1<=k/\k<=24:=by
  unfold dR at hk;split at hk;omega;split at hk;omega;split at hk;omega;split at hk;omega;simp only[Bool.and_eq_true,Bool.or_eq_true,decide_eq_true_eq]at hk;omega
 refine⟨WM,λe=>?_,λe=>?_,λe=>?_,λe=>?_,λe=>?_,λe=>?_⟩;unfold pL at h;rw[if_neg (by omega),if_neg (by omega),if_neg (by omega),if_pos e]at h;unfold CG at h;split at h;cases h;show _<(H.aH.length:Int);omega;split at h;rename_i hg;cases h;have:=LM hg;show _<(H.aH.length:Int);omega;cases h;unfold dR at hk;rw[if_neg (by omega),if_neg (by omega),if_neg (by omega),if_pos e]at hk;simpa using hk;unfold dR at hk;rw[if_neg (by omega),if_neg (by omega),if_neg (by omega),if_neg (by omega)]at hk;simp only[Bool.and_eq_true,decide_eq_true_eq]at hk;exact hk.2;unfold pL at h;rw[if_neg (by omega),if_neg (by omega),if_neg (by omega),if_neg (by omega),if_neg (by omega),if_neg (by omega),if_pos e]at h;unfold ED at h;split at h;rename_i i s hs;split at h;rename_i HZ;cases h;obtain⟨_,h2,h3⟩:=Hp hs;refine⟨by omega,by simp[yb];exact h2,?_⟩;simp only[yb,Int.toNat_natCast,List.getElem_map];simp only[Nat.sub_zero]at h3;rw[h3];exact E2 HZ;cases h;cases h;unfold pL at h;rw[if_neg (by omega),if_neg (by omega),if_neg (by omega),if_neg (by omega),if_neg (by omega),if_neg (by omega),if_neg (by omega),if_pos e]at h;unfold Le at h;split at h;rename_i hc;cases h;simp only[Bool.and_eq_true,decide_eq_true_eq]at hc;obtain⟨⟨h1,h2⟩,h3⟩:=hc;have:=(pz H.rs on od);unfold dA at h1 h2 ⊢;split;rename_i c;rw[if_pos c]at h1;cases h1;split;rename_i c1 c2;rw[if_neg c1,if_pos c2]at h2;simp at h2;split;rename_i c1 c2 c3;rw[if_neg c1,if_neg c2,if_pos c3]at h2;simp at h2;split;rename_i c1 c2 c3 c4;rw[if_neg c1,if_neg c2,if_neg c3,if_pos c4]at h1;cases h1;simp only[yb,Rj];rcases OQ H.rs on with h5|⟨j,h5,h6⟩;rename_i c;omega;rw[h5];omega;cases h;unfold pL at h;rw[if_neg (by omega),if_neg (by omega),if_neg (by omega),if_neg (by omega),if_pos e]at h;unfold Bf at h;split at h;split at h;split at h;cases h;omega;cases h;cases h;cases h
theorem VG{V:List Vd}(Rj:H.bZ.length=H.rs.length)(e:E):∀y,xM H V e=.ok y->WE (yb H) y:=by
 induction e using E.xN with
 |_ e ih=>
  intro y h;obtain⟨ks,t,r,h1,h2,h3,rfl⟩:=EF h;rw[Ph];have h4:dR e.k e.n ks.length=true:=by rw[z6 h2];exact h1
  refine⟨adY (n:=e.n) Rj h4 h3,?_⟩;rw[Bo];exact vq h2 ih
theorem ail{V:List Vd}{k:Int}{es ys:List E}(Rj:H.bZ.length=H.rs.length)(h:zY H V k es=.ok ys):WL (yb H) ys:=by
 unfold zY at h;rw[Bo];split at h;split at h;rename_i e l;cases hx:xM H V e with
 |error a=>rw[hx]at h;cases h|ok y=>
  rw[hx]at h;cases h;intro z hz;rw[List.mem_singleton.1 hz];exact VG Rj e y hx
 cases h;simp;exact vq h λe _ y hy=>VG Rj e y hy
theorem Zj{ct:Bool}{k:Int}{es:List E}(h:eu ct k es=true):(1<=k/\k<=9)/\(k=2\/k=3\/k=5\/k=6\/k=8\/k=9->es.length=1)/\(k=4->∃a b,es=[a,b]/\(a.k=5\/a.k=6))/\(k=7->es.length<=1):=by
 unfold eu at h;split at h;refine⟨by omega,λ_=>by omega,λ_=>by omega,λ_=>by omega⟩;split at h;split at h;rename_i a b;simp only[Bool.or_eq_true,decide_eq_true_eq]at h;exact⟨by omega,λ_=>by omega,λ_=>⟨a,b,rfl,h⟩,λ_=>by omega⟩;cases h;split at h;simp only[Bool.or_eq_true,Bool.and_eq_true,decide_eq_true_eq]at h;exact⟨by omega,λ_=>by omega,λ_=>by omega,λ_=>by omega⟩;split at h;split at h;exact⟨by omega,λ_=>by simp,λ_=>by omega,λ_=>by omega⟩;cases h;split at h;simp only[decide_eq_true_eq]at h;exact⟨by omega,λ_=>h,λ_=>by omega,λ_=>by omega⟩;cases h
theorem aim{res:T3}{V W:List Vd}{nm:List UInt8}{es:List E}{t:T3}{r:Int}(h:mH H res V 3 nm es t=some (r,W)) : -1-r<(H.aH.length:Int):=by
 unfold mH at h;rw[if_neg (by omega),if_neg (by omega),if_pos rfl]at h;split at h;rename_i hv;split at h;cases h;unfold CG at hv;split at hv;cases hv;omega;split at hv;rename_i hg;cases hv;have:=LM hg;omega;cases hv;cases h;cases h
theorem An{ct:Bool}{res:T3}:∀{l ys:List Sm}{V X:List Vd},(∀s∈l,∀V y W,zh H ct res V s=.ok (y,W)->WS (yb H) y)->kW H ct res V l=.ok (ys,X)->WB (yb H) ys
 |[],ys,V,X,_,h=>by
  unfold kW at h;cases h;simp[WB]
 |s::l,ys,V,X,hp,h=>by
  obtain⟨y,W,zs,h1,h2,rfl⟩:=z7 h;unfold WB;exact⟨hp s List.mem_cons_self V y W h1,An (λt ht=>hp t (List.mem_cons_of_mem _ ht)) h2⟩
theorem adZ{ct:Bool}{res:T3}(Rj:H.bZ.length=H.rs.length)(s:Sm):∀V y X,zh H ct res V s=.ok (y,X)->WS (yb H) y:=by
 induction s using Sm.xN with
 |_ s C8 nB=>
  intro V y X h;obtain⟨t,ys,r,W,hf,ht,YG,cI,hh⟩:=IK h;have mO:=ail Rj YG;obtain⟨f1,f2,f3,f4⟩:=Zj (U0 YG hf);have XD:okS (yb H) s.k r ys:=⟨f1,λe=>by rw[e]at cI;exact aim cI,f2,f3,f4⟩;rcases hh with⟨_,b,W1,c,hb,hc,rfl⟩|⟨_,b,hb,rfl⟩|⟨_,_,_,rfl⟩;rw[Pj];exact⟨XD,mO,An C8 hb,An nB hc⟩;rw[Pj];exact⟨XD,mO,An C8 hb,by simp[Sm.el,WB]⟩;rw[Pj];exact⟨XD,mO,by simp[Sm.bd,WB],by simp[Sm.el,WB]⟩
theorem VH(Rj:H.bZ.length=H.rs.length):∀{ss:List Sg}{fs:List Fc}{bs:List Bd},pM H ss fs=.ok bs->∀b∈bs,WB (yb H) b.code
 |[],fs,bs,h=>by
  unfold pM at h;cases h;simp
 |_::_,[],bs,h=>by
  unfold pM at h;cases h;simp
 |s::ss,f::fs,bs,h=>by
  unfold pM at h;split at h;cases h;rename_i c W hb;split at h;cases h;rename_i l hl;cases h;intro b hbm;rcases List.mem_cons.1 hbm with rfl|hbm;exact An (λs _=>adZ Rj s) hb;exact VH Rj hl b hbm
end zj
namespace zj
open Ax Go V7 lf mG
def OnD(a b:Rs):Prop:=(∃l,b.out=a.out++l)/\a.cZ<=b.cZ
theorem OnD.on{a b c:Rs}(h:OnD a b)(k:On b c):OnD a c:=by
 obtain⟨⟨l1,h1⟩,h2⟩:=h;obtain⟨l2,h3⟩:=k.out;exact⟨⟨l1++l2,by rw[h3,h1];simp⟩,Nat.le_trans h2 k.st⟩
def ext(w:List Int)(r:Rs):Rs:={ r with qG:=r.qG++w }
structure Kd where
 mV:Int->Int->Nat->Prop
 q:Int->Prop
structure Sim (C C':Cx)(w:List Int)(mV:Kd):Prop where
 bz:C'.bz=C.bz
 bs:C'.bs=C.bs
 eC:C.eC<=C'.eC
 A1:(C'.eC=C.eC/\mV.q 3)\/∀c,mV.mV 3 c C.eC
 A2:w=[]\/∀n,mV.mV 2 5 n
 A3:∀e c n,mV.mV e c n->e≠0
 q0:mV.q 0
 q1:mV.q 1
 q2:mV.q 2
def vU(mV:Kd)(r:Rs):Prop:=mV.mV r.e r.code r.cZ
variable {C C':Cx}{w:List Int}{mV:Kd}{n:Nat}
variable {fE fE':E->Fm->Rs->Int×Rs}{fS fS':Sm->Rs×Fm->Rs×Fm}
def Ok(C:Cx)(mV:Kd)(r:Rs):Prop:=r.cZ<=C.eC/\mV.q r.e
def Bd'(C:Cx)(mV:Kd)(n:Nat)(r:Rs):Prop:=Ok C mV r/\C.eC<=r.cZ+n
def RE(C:Cx)(w:List Int)(mV:Kd)(x x':Int×Rs):Prop:=(x'.1=x.1/\x'.2=ext w x.2/\Ok C mV x.2)\/(vU mV x.2/\OnD x.2 x'.2)
def RS(C:Cx)(w:List Int)(mV:Kd)(x x':Rs×Fm):Prop:=(x'.1=ext w x.1/\x'.2=x.2/\Ok C mV x.1)\/(vU mV x.1/\OnD x.1 x'.1)
structure Hyp (C C':Cx)(w:List Int)(mV:Kd)(n:Nat)(fE fE':E->Fm->Rs->Int×Rs)(fS fS':Sm->Rs×Fm->Rs×Fm):Prop where
 E:∀e f r,Bd' C mV n r->RE C w mV (fE e f r) (fE' e f (ext w r))
 S:∀s x,Bd' C mV n x.1->RS C w mV (fS s x) (fS' s (ext w x.1,x.2))
 oE:∀e f r,On r (fE e f r).2
 oS:∀s x,On x.1 (fS s x).1
 oE':∀e f r,On r (fE' e f r).2
 oS':∀s x,On x.1 (fS' s x).1
theorem Bd'.on{r r':Rs}(h:Bd' C mV n r)(k:On r r')(hk:Ok C mV r'):Bd' C mV n r':=⟨hk,by have:=h.2;have:=k.st;omega⟩
theorem Ao{C:Cx}{r:Rs}:tg C r=true↔r.e=0/\r.cZ<C.eC:=by unfold tg;rw[Bool.and_eq_true,decide_eq_true_eq,decide_eq_true_eq]
theorem De{f:Fm}:∀(l:List E)(r:Rs),r.e=0->∀vs r2,vals fE f l r=(some vs,r2)->r2.e=0
 |[],r,h,vs,r2,e=>by unfold vals at e;cases e;exact h|x::l,r,h,vs,r2,e=>by
  unfold vals at e;by_cases he:(fE x f r).2.e≠0;rw[if_pos he]at e;cases e;rw[if_neg he]at e;split at e;rename_i vs' r2' h2;cases e;exact De l _ (by omega) _ _ h2;cases e
end zj
