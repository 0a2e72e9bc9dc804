/- Part of a proof. -/
import Derived.Test.YtgblgbgjmgjfkaaGreatH
import Derived.Test.YtgblgbgjmgjfkaaGreatK

open List renaming length->Q
open Option renaming some->Z,none->K
open Bool renaming true->Y
open List renaming replicate->aag,getElem?_take->abv,getD_eq_getElem?_getD->aay,length_append->aaq,getElem?_eq_getElem->aae,length_singleton->ajF
open Nat renaming le_add_right->aiV,add_assoc->afx
open Int renaming toNat_natCast->abu
set_option maxHeartbeats 2000000
namespace qR
open Ax Go V7 jb jn qA
open qu (Rs Fm Cx Dm WE WL WS WB Vh XE mG ev jD vals eF ju gj cz gQ jQ pL cG rF eP vg rG pJ pK pI stop mN kq lJ)
open gy (Ms MP Fr lP qt mP jC gO nB gC nu gi qp uG rD eB nQ pF)
def ms(r:Rs)(fr:Fr)(L:List Fr)(st:Nat):Ms:=⟨r.fB,r.s,r.g,fr::L,0,0,r.out,st⟩
def Rn(X:MP)(k:Nat)(m m':Ms):Prop:=mP X k m=m'/\m'.aL=m.aL+k
variable {X:MP}{C:Cx}{k j:Nat}{m m' m'':Ms}
theorem Rn.zero(m):Rn X 0 m m:=⟨rfl,rfl⟩
theorem Rn.trans(h:Rn X k m m')(g:Rn X j m' m''):Rn X (k+j) m m'':=by
 refine⟨?_,by rw[g.2,h.2];omega⟩;rw[jC,h.1,g.1]
theorem ai7(m):(lP X m).aL=m.aL:=by
 unfold lP;split;exact(gy.akv _ _).st
 rfl
theorem Rn.one(B:m.e=0):Rn X 1 m (lP X (gy.cj m)):=by
 refine⟨?_,?_⟩;simp_all [mP,lP,gy.cj];rw[ai7];rfl
structure Pl (X:MP)(C:Cx)(is:List In)(pos ns:Nat)(o:nj):Prop where
 is:∀(j:Nat) (i:In),o.is[j]?=some i->is[pos+j]?=some i
 ss:∀(k:Nat) (t:T3),o.ss[k]?=some t->t.b=3->t.d=0->X.cells.getD (ns+k) 0=C.aR.getD t.r.toNat 0
theorem Pl.left{is pos ns x y}(h:Pl X C is pos ns (x.eD y)):Pl X C is pos ns x:=
 ⟨λj i g=>h.is j i (nP g),λk t l=>h.ss k t (nP l)⟩
theorem Pl.right{is pos ns}{x y:nj}(h:Pl X C is pos ns (x.eD y)):Pl X C is (pos+Q x.is) (ns+Q x.ss) y:=by
 refine⟨λj i g=>?_,λk t l=>?_⟩;have:=h.is (Q x.is+j) i (by show (x.is++y.is)[Q x.is+j]?=_;grind)
 grind
 have:=h.ss (Q x.ss+k) t (by show (x.ss++y.ss)[Q x.ss+k]?=_;grind)
 grind
structure KP (X:MP)(C:Cx)(D:Dm)(H:Hd)(cs:List Cd)(M:Nat):Prop where
 fZ:∀(j:Nat) (c:Cd),cs[j]?=some c->(dW.jo (X.aJ.getD j gy.C0).fZ)=c.is.map nR
 nv:∀(j:Nat) (c:Cd),cs[j]?=some c->nQ X j=c.vars.length
 code:∀(j:Nat) (b:Bd),C.bs[j]?=some b->∃s ns,H.aZ[j]?=some s/\cs[j]?=some (eR ns s b)/\Pl X C (eR ns s b).is 0 ns (eO ns b)
 len:D.ps.length=C.bs.length
 ps:∀(j:Nat) (p:Nat) (b:Bd),D.ps[j]?=some p->C.bs[j]?=some b->p<=6/\p<=b.vars.length
 M:∀(j:Nat) (b:Bd),C.bs[j]?=some b->Sm.eJ b.code<=M
 ng:D.ng=C.ng
variable {D:Dm}{H:Hd}{cs:List Cd}{M:Nat}
theorem KP.at(g:KP X C D H cs M){fn c}(h:cs[fn]?=Z c){p:Nat}{i}(hi:c.is[p]?=Z i)(to vs):pF X ⟨fn,p,to,vs⟩=nR i:=by
 show (dW.jo (X.aJ.getD fn gy.C0).fZ).getD (p:Int).toNat gy.I0=_;rw[g.fZ fn c h]
 grind
theorem aeY{r fr L st}:lP X (gy.cj (ms r fr L st))=qt X (ms r { fr with at_:=fr.at_+1 } L (st+1)) fr.vs (pF X fr):=rfl
theorem KP.step(g:KP X C D H cs M){fn c}(l:cs[fn]?=Z c){p:Nat}{i}(n:c.is[p]?=Z i)(r to vs L st):
  Rn X 1 (ms r ⟨fn,p,to,vs⟩ L st) (qt X (ms r ⟨fn,((p+1:Nat)),to,vs⟩ L (st+1)) vs (nR i)):=by
 have h:=Rn.one (X:=X) (m:=ms r ⟨fn,(p:Int),to,vs⟩ L st) rfl;rw[aeY]at h;have e:pF X ⟨fn,(p:Int),to,vs⟩=nR i:=g.at l n to vs
 grind
theorem do_1{m v i}(h:i.op=1):qt X m v i=gO m i.a i.n:=by
 unfold qt
 grind
theorem atA{m v i}(h:i.op=2):qt X m v i=gO m i.a 0:=by
 simp_all [qt]
theorem azj{m v i}(h:i.op=3):qt X m v i=gO m i.a (eB v i.b):=by
 simp_all [qt]
theorem azk{m v i}(h:i.op=4):qt X m v i=nB m i.a (gy.AT i.n (eB v i.b) (eB v i.c)):=by
 simp_all [qt]
theorem azl{m v i}(h:i.op=5):qt X m v i=gO m i.a (gy.unI i.n (eB v i.b)):=by
 simp_all [qt]
theorem azm{m v i}(h:i.op=6):qt X m v i=nB m i.a (gy.lO m.s (eB v i.b) i.c):=by
 simp_all [qt]
theorem azn{m v i}(h:i.op=7):qt X m v i=gC { m with s:=gy.uF m.s (eB v i.a) i.c (eB v i.b) } (gy.kU m.s (eB v i.a) i.c):=by
 simp_all [qt]
theorem azo{m v i}(h:i.op=8):qt X m v i=nB m i.a (gy.lO m.s (eB v i.b) (eB v i.c)):=by
 simp_all [qt]
theorem azp{m v i}(h:i.op=9):qt X m v i=gC { m with s:=gy.uF m.s (eB v i.a) (eB v i.b) (eB v i.c) } (gy.kU m.s (eB v i.a) (eB v i.b)):=by
 simp_all [qt]
theorem atB{m v i}(h:i.op=10):qt X m v i=nB m i.a (gy.AU m.s (eB v i.b)):=by
 simp_all [qt]
theorem atC{m v i}(h:i.op=11):qt X m v i=gO { m with s:=m.s++[aag (gy.lX (X.cells.getD i.n.toNat 0)) 0] } i.a (Q m.s+1):=by
 simp_all [qt]
theorem akD{m v i}(h:i.op=12):qt X m v i=(if eB v i.b<0\/50<eB v i.b then gC m 4 else gO { m with s:=m.s++[aag (eB v i.b).toNat 0] } i.a (Q m.s+1)):=by
 simp_all [qt]
theorem akE{m v i}(h:i.op=13):qt X m v i=uG X m v i:=by
 simp_all [qt]
theorem akF{m v i}(h:i.op=14):qt X m v i=rD m i.a:=by
 simp_all [qt]
theorem atD{m v i}(h:i.op=15):qt X m v i={ m with out:=m.out++[eB v i.a] }:=by
 simp_all [qt]
theorem akG{m v i}(h:i.op=16):qt X m v i=nu m i.n:=by
 simp_all [qt]
theorem akH{m v i}(h:i.op=17):qt X m v i=nu m (if eB v i.a≠0 then i.n else i.c):=by
 simp_all [qt]
theorem akI{m v i}(h:i.op=18):qt X m v i=gi m (if i.a<0 then 0 else eB v i.a):=by
 simp_all [qt]
theorem atE{m v i}(h:i.op=19):qt X m v i=gO m i.a (eB m.g i.n):=by
 simp_all [qt]
theorem atF{m v i}(h:i.op=20):qt X m v i={ m with g:=m.g.set i.n.toNat (eB v i.a) }:=by
 simp_all [qt]
end qR
namespace qR
open Ax Go V7 jb jn qA
open qu (Rs Fm Cx Dm WE WL WS WB Vh XE mG ev jD vals eF ju gj cz gQ jQ pL cG rF eP vg rG pJ pK pI stop cj mN kq lJ)
open gy (Ms MP Fr lP qt mP jC gO nB gC nu gi qp uG rD eB nQ pF)
variable {X:MP}{C:Cx}{D:Dm}{H:Hd}{cs:List Cd}{M:Nat}
mutual
def NE:E->Prop
 |.mk k _ _ _ _ g _ ty _=>(ty=T0->k=7)/\(k=8->ty.b=3/\ty.d=0)/\(k=1\/k=2\/k=3\/k=4\/k=8\/k=11->g=[])/\NL g
def NL:List E->Prop
 |[]=>True|e::l=>(NE e/\e.ty≠T0)/\NL l
end
theorem aeZ(e):NE e↔(e.ty=T0->e.k=7)/\(e.k=8->e.ty.b=3/\e.ty.d=0)/\(e.k=1\/e.k=2\/e.k=3\/e.k=4\/e.k=8\/e.k=11->e.aP=[])/\NL e.aP:=by
 obtain⟨k,_,N,O,o,g,a,ty,ref⟩:=e;unfold NE;exact Iff.rfl
theorem PW:∀l:List E,NL l↔∀e∈l,NE e/\e.ty≠T0
 |[]=>by simp[NL]|e::l=>by simp[NL,PW l]
def loc(y:E):Nat:=if y.k=4/\0<=y.ref then 2 else 0
def kT(X:MP)(r r':Rs)(m:Ms)(s w:Nat):Prop:=
 (r'.e=2/\∃k m',Rn X k m m'/\m'.e=2/\m'.code=r'.code/\m'.out=r'.out/\3*r.aL+k<=3*r'.aL+s)\/
 (r'.e=3/\∃k m',Rn X k m m'/\m'.e=0/\m'.out=r'.out/\3*r.aL+k<=3*r'.aL+s/\r'.aL<=r.aL+8*k+w)
theorem kT.jh{r R r' m n s S w W j}(h:kT X R r' n s w)(l:Rn X j m n)(o:3*r.aL+j+s<=3*R.aL+S)(q:R.aL+w<=r.aL+8*j+W):kT X r r' m S W:=by
 rcases h with⟨e,k,m',y,z,g,G,t⟩|⟨e,k,m',y,z,g,G,t⟩;exact .inl ⟨e,j+k,m',l.trans y,z,g,G,by omega⟩;exact .inr ⟨e,j+k,m',l.trans y,z,g,by omega,by omega⟩
theorem kT.e{r r' m s w}(h:kT X r r' m s w):r'.e≠0:=by
 rcases h with⟨e,_⟩|⟨e,_⟩<;>rw[e]<;>decide
structure At (C:Cx)(cs:List Cd)(fn:Nat)(c:Cd)(nv:Nat)(f:Fm)(r:Rs)(vs:List Int)(L:List Fr):Prop where
 hc:cs[fn]?=some c
 hl:vs.length=c.vars.length
 hn:f.vs.length<=nv
 fv:vs.take f.vs.length=f.vs
 e:r.e=0
 nf:r.nf=L.length+1
 n40:r.nf<=40
 g:r.g.length=C.ng
def Gj(nv:Nat)(vs v:List Int):Prop:=Q v=Q vs/\∀j,j<nv->v[j]?=vs[j]?
theorem Gj.rfl'{nv vs}:Gj nv vs vs:=⟨rfl,λ_ _=>rfl⟩
theorem Gj.trans{a b vs v g}(h:Gj a vs v)(k:Gj b v g)(W:a<=b):Gj a vs g:=
 ⟨by rw[k.1,h.1],λj l=>by rw[k.2 j (by omega),h.2 j l]⟩
theorem Gj.take{nv n vs v}(h:Gj nv vs v)(g:n<=nv):v.take n=vs.take n:=by
 apply List.ext_getElem?;intro j;rw[abv,abv];split;exact h.2 j (by omega)
 rfl
theorem At.oq{fn c nv n f r r' vs v L}(h:At C cs fn c nv f r vs L)(k:Gj nv vs v)(hn:nv<=n)(B:r'.e=0)(l:r'.nf=r.nf)(U:Q r'.g=C.ng):At C cs fn c n f r' v L:=
 ⟨h.hc,by rw[k.1];exact h.hl,Nat.le_trans h.hn hn,by rw[k.take h.hn];exact h.fv,B,by rw[l];exact h.nf,by rw[l];exact h.n40,U⟩
theorem ae0{nv vs v}{a:Int}(h:Gj nv vs v)(B:0<=a)(g:a<nv):eB v a=eB vs a:=by
 unfold eB;rw[aay,aay,h.2 _ (by omega)]
def OE(X:MP)(C:Cx)(M:Nat)(y:E)(o:Int×nj)(fn pos nv:Nat)(to:Int)(vs:List Int)(L:List Fr)(st:Nat)(r:Rs)(x:Int×Rs):Prop:=
 (x.2.e=0/\x.2.nf=r.nf/\Q x.2.g=C.ng/\∃k v,Rn X k (ms r ⟨fn,(pos:Nat),to,vs⟩ L st) (ms x.2 ⟨fn,((pos+Q o.2.is:Nat):Int),to,v⟩ L (st+k))/\Gj nv vs v/\
  (y.ty≠T0->eB v o.1=x.1/\0<=o.1/\o.1<((nv+Q o.2.vs:Nat):Int))/\3*r.aL+k<=3*x.2.aL/\x.2.aL+1<=r.aL+8*k+loc y)\/
 kT X r x.2 (ms r ⟨fn,(pos:Nat),to,vs⟩ L st) 0 (E.sz y+(40-r.nf)*M)
def SE(X:MP)(C:Cx)(D:Dm)(cs:List Cd)(M:Nat)(fE:E->Fm->Rs->Int×Rs):Prop:=∀(y:E)(f:Fm)(r:Rs)(fn:Nat)(c:Cd)(pos nv ns:Nat)(to:Int)(vs:List Int)(L:List Fr)(st:Nat),
 At C cs fn c nv f r vs L->NE y->WE D y->DD (Q f.vs) y->Pl X C c.is pos ns (cE nv ns y).2->nv+Q (cE nv ns y).2.vs<=Q c.vars->OE X C M y (cE nv ns y) fn pos nv to vs L st r (fE y f r)
theorem PX:∀ys nv ns,Q (lT nv ns ys).1=Q ys
 |[],nv,ns=>by unfold lT;rfl|y::ys,nv,ns=>by rw[qB];simp[PX ys]
variable {fE:E->Fm->Rs->Int×Rs}{fS:Sm->Rs×Fm->Rs×Fm}
theorem uI(O:SE X C D cs M fE):∀ys f r fn c pos nv ns to vs L st,
  At C cs fn c nv f r vs L->NL ys->WL D ys->AF (Q f.vs) ys->Pl X C c.is pos ns (lT nv ns ys).2->nv+Q (lT nv ns ys).2.vs<=Q c.vars->
  (∃l R,vals fE f ys r=(Z l,R)/\R.e=0/\R.nf=r.nf/\Q R.g=C.ng/\∃k v,Rn X k (ms r ⟨fn,pos,to,vs⟩ L st) (ms R ⟨fn,((pos+Q (lT nv ns ys).2.is:Nat)),to,v⟩ L (st+k))/\Gj nv vs v/\
   l=(lT nv ns ys).1.map (eB v)/\(∀a∈(lT nv ns ys).1,0<=a/\a<((nv+Q (lT nv ns ys).2.vs:Nat)))/\3*r.aL+k<=3*R.aL/\R.aL<=r.aL+8*k+Q ys)\/
  (∃R,vals fE f ys r=(K,R)/\kT X r R (ms r ⟨fn,pos,to,vs⟩ L st) 0 (E.eJ ys+(40-r.nf)*M))
 |[],f,r,fn,c,pos,nv,ns,to,vs,L,st,o,_,_,_,_,_=>by
  left;have e:lT nv ns []=([],O0):=by unfold lT;rfl
  refine⟨[],r,rfl,o.e,rfl,o.g,0,vs,?_,.rfl',?_,?_,by omega,by simp⟩;rw[e];exact .zero _;all_goals grind
 |y::ys,f,r,fn,c,pos,nv,ns,to,vs,L,st,o,hN,hW,hR,F,P=>by
  have n:(NE y/\y.ty≠T0)/\NL ys:=by grind [NL]
  have s:WE D y/\WL D ys:=by grind [WL]
  have q:DD (Q f.vs) y/\AF (Q f.vs) ys:=by grind [AF]
  rw[qB]at F P ⊢;have T:E.eJ (y::ys)=E.sz y+E.eJ ys:=by simp[E.eJ]
  have t:=O y f r fn c pos nv ns to vs L st o n.1.1 s.1 q.1 F.left (by grind [nj.eD,aaq]);have h:vals fE f (y::ys) r=if (fE y f r).2.e≠0 then (K,(fE y f r).2) else match vals fE f ys (fE y f r).2 with
   |(Z vs,R)=>(Z ((fE y f r).1::vs),R)
   |(K,R)=>(K,R):=rfl
  generalize hx:cE nv ns y=x at *;simp only at F P ⊢;have w:=F.right;rcases t with⟨W,G,e2,k,v,J,N,g3,g4,g5⟩|t;rw[U (by grind)]at h;obtain⟨v1,v2,v3⟩:=g3 n.1.2;have S:=o.oq (r':=(fE y f r).2) N (aiV nv (Q x.2.vs)) W G e2;have ih:=uI O ys f (fE y f r).2 fn c (pos+Q x.2.is) (nv+Q x.2.vs) (ns+Q x.2.ss) to v L (st+k) S n.2 s.2 q.2 w (by grind [nj.eD,aaq]);generalize hz:lT (nv+Q x.2.vs) (ns+Q x.2.ss) ys=z at *;rcases ih with⟨l,R,I,B,i2,i3,k2,LO,j1,j2,j3,j4,j5,j6⟩|⟨R,I,B⟩;left;rw[I]at h;refine⟨(fE y f r).1::l,R,h,B,by rw[i2,G],i3,k+k2,LO,?_,N.trans j2 (aiV _ _),?_,?_,by omega,?_⟩;have:=J.trans j1
  grind [nj.eD,afx]
  grind [ae0]
  intro a ha;simp only[nj.eD,aaq]
  grind
  grind [loc,List.length_cons]
  right;rw[I]at h;refine⟨R,h,B.jh J (by omega) ?_⟩
  grind [loc,E.KU]
  right;rw[af t.e]at h;refine⟨(fE y f r).2,h,t.jh (.zero _) (by omega) (by grind)⟩
end qR
namespace qR
open Ax Go V7 jb jn qA
open qu (Rs Fm Cx Dm WE WL WS WB Vh XE mG ev jD vals eF ju gj cz gQ jQ pL cG rF eP vg rG pJ pK pI stop cj mN kq lJ)
open gy (Ms MP Fr lP qt mP jC gO nB gC nu gi qp uG rD eB nQ pF)
variable {X:MP}{C:Cx}{D:Dm}{H:Hd}{cs:List Cd}{M:Nat}
variable {fE:E->Fm->Rs->Int×Rs}{fS:Sm->Rs×Fm->Rs×Fm}
mutual
def NS:Sm->Prop
 |.mk k _ _ _ g B h _ _=>(∀e∈g,NE e)/\(k≠9->∀e∈g,e.ty≠T0)/\(k=9->∀e∈g,e.k=7)/\(k=1\/k=2->True)/\NB B/\NB h
def NB:List Sm->Prop
 |[]=>True|s::l=>NS s/\NB l
end
theorem XN(s):NS s↔(∀e∈s.es,NE e)/\(s.k≠9->∀e∈s.es,e.ty≠T0)/\(s.k=9->∀e∈s.es,e.k=7)/\(s.k=1\/s.k=2->True)/\NB s.bd/\NB s.el:=by
 obtain⟨k,N,O,o,h,B,g,a,ref⟩:=s;unfold NS;exact Iff.rfl
def OS(X:MP)(C:Cx)(M w:Nat)(o:nj)(fn pos:Nat)(to:Int)(vs:List Int)(L:List Fr)(st:Nat)(r:Rs)(f:Fm)(x:Rs×Fm):Prop:=
 (x.1.e=0/\x.1.nf=r.nf/\Q x.1.g=C.ng/\Q x.2.vs=Q f.vs/\x.2.done=false/\x.2.res=f.res/\
  ∃k v,Rn X k (ms r ⟨fn,(pos:Nat),to,vs⟩ L st) (ms x.1 ⟨fn,((pos+Q o.is:Nat):Int),to,v⟩ L (st+k))/\Q v=Q vs/\v.take (Q f.vs)=x.2.vs/\3*r.aL+k<=3*x.1.aL/\x.1.aL<=r.aL+8*k)\/
 (x.1.e=0/\x.1.nf=r.nf/\Q x.1.g=C.ng/\Q x.2.vs=Q f.vs/\x.2.done=Y/\
  ∃k,Rn X k (ms r ⟨fn,(pos:Nat),to,vs⟩ L st) (gi (ms x.1 ⟨fn,0,to,[]⟩ L (st+k)) x.2.res)/\3*r.aL+k<=3*x.1.aL/\x.1.aL<=r.aL+8*k)\/
 kT X r x.1 (ms r ⟨fn,(pos:Nat),to,vs⟩ L st) 0 (w+(40-r.nf)*M)
def SS(X:MP)(C:Cx)(D:Dm)(cs:List Cd)(M:Nat)(fS:Sm->Rs×Fm->Rs×Fm):Prop:=∀(s:Sm)(f:Fm)(r:Rs)(fn:Nat)(c:Cd)(pos nv ns:Nat)(to:Int)(vs:List Int)(L:List Fr)(st:Nat),
 At C cs fn c nv f r vs L->f.done=false->f.res=0->NS s->WS D s->IE (Q f.vs) s->Pl X C c.is pos ns (cS nv pos ns s)->nv+Q (cS nv pos ns s).vs<=Q c.vars->OS X C M (Sm.sz s) (cS nv pos ns s) fn pos to vs L st r f (fS s (r,f))
theorem Gk{r fr L st v}:gi (ms r fr L st) v=gi (ms r ⟨fr.f,0,fr.to,[]⟩ L st) v:=by
 grind [gi,ms]
theorem zJ(hS:SS X C D cs M fS):∀l f r fn c pos nv N to vs L st,
  At C cs fn c nv f r vs L->f.done=false->f.res=0->NB l->WB D l->sA (Q f.vs) l->Pl X C c.is pos N (cB nv pos N l)->nv+Q (cB nv pos N l).vs<=Q c.vars->OS X C M (Sm.eJ l) (cB nv pos N l) fn pos to vs L st r f (gj fS l (r,f))
 |[],f,r,fn,c,pos,nv,N,to,vs,L,st,h,I,_,_,_,_,_,_=>by
  left;refine⟨h.e,rfl,h.g,rfl,I,rfl,0,vs,?_,rfl,h.fv,by show 3*r.aL+0<=3*r.aL;omega,by show r.aL<=_;omega⟩;rw[K6];exact .zero _
 |s::l,f,r,fn,c,pos,nv,N,to,vs,L,st,h,I,h0,hN,hW,hR,F,hv=>by
  have t:NS s/\NB l:=by grind [NB]
  have v:WS D s/\WB D l:=by grind [WB]
  have hR':IE (Q f.vs) s/\sA (Q f.vs) l:=by grind [sA]
  rw[FF]at F hv ⊢;unfold K5 at F hv ⊢;dsimp only at F hv ⊢;have T:Sm.eJ (s::l)=Sm.sz s+Sm.eJ l:=by simp[Sm.eJ]
  have Yi:gj fS (s::l) (r,f)=gj fS l (fS s (r,f)):=by
   (conv=>lhs;unfold gj)<;>rw[U (by rintro (q|q);rw[I]at q;cases q;exact q h.e)]
  rw[Yi,T];have B:=hS s f r fn c pos nv N to vs L st h I h0 t.1 v.1 hR'.1 F.left (by grind [nj.eD]);have W:=F.right;generalize hx:cS nv pos N s=x at *;generalize fS s (r,f)=p at *;rcases B with⟨J,n,O,o,P,e5,k,w,G,S,g3,g4,g5⟩|⟨J,n,O,o,P,k,G,S,g3⟩|B;obtain⟨r2,R⟩:=p;simp only at J n O o P e5 G g3 g4 g5;have Lz:At C cs fn c (nv+Q x.vs) R r2 w L:=⟨h.hc,by rw[S];exact h.hl,by rw[o];have:=h.hn;omega,by grind,J,by rw[n];exact h.nf,by rw[n];exact h.n40,O⟩;have ih:=zJ hS l R r2 fn c (pos+Q x.is) (nv+Q x.vs) (N+Q x.ss) to w L (st+k) Lz P (by grind) t.2 v.2 (by grind) W (by grind [nj.eD]);generalize cB (nv+Q x.vs) (pos+Q x.is) (N+Q x.ss) l=z,gj fS l (r2,R)=y at *;rcases ih with⟨i0,i1,i2,i3,i4,i5,k2,LO,j1,j2,j3,j4,j5⟩|⟨i0,i1,i2,i3,i4,k2,j1,j2,j3⟩|ih;left;refine⟨i0,by rw[i1,n],i2,by rw[i3,o],i4,by rw[i5,e5],k+k2,LO,?_,by rw[j2,S],by grind,by omega,by omega⟩;have:=G.trans j1
  grind [nj.eD]
  right;left;refine⟨i0,by rw[i1,n],i2,by rw[i3,o],i4,k+k2,?_,by omega,by omega⟩;rw[<-afx];exact G.trans j1;right;right;exact ih.jh G (by omega) (by grind);right;left;have:gj fS l p=p:=by
   cases l with
   |nil=>rfl|cons a b=>simp_all [gj]
  grind
  right;right;rw[qu.Nt B.e];exact B.jh (.zero _) (by omega) (by omega)
end qR
namespace qR
open Ax Go V7 jb jn qA
open qu (Rs Fm Cx Dm WE WL WS WB Vh XE mG ev jD vals eF ju gj cz gQ jQ pL cG rF eP vg rG pJ pK pI stop cj mN kq lJ)
open gy (Ms MP Fr lP qt mP jC gO nB gC nu gi qp uG rD eB nQ pF)
variable {X:MP}{C:Cx}{D:Dm}{H:Hd}{cs:List Cd}{M:Nat}
variable {fE:E->Fm->Rs->Int×Rs}{fS:Sm->Rs×Fm->Rs×Fm}
theorem Jp{r fr L st n v}:gO (ms r fr L st) n v=ms r { fr with vs:=fr.vs.set n.toNat v } L st:=rfl
structure TP (C:Cx)(D:Dm):Prop where
 nb:∀b∈C.bs,NB b.code/\WB D b.code/\sA b.vars.length b.code
theorem S1(n:KP X C D H cs M)(hT:TP C D)(hS:SS X C D cs M fS){j b}(P:C.bs[j]?=Z b){l}(hl:Q l<=Q b.vars){r}(he:r.e=0){L}(XO:r.nf=Q L)(h40:r.nf<40)(hg:Q r.g=C.ng)(a st):
  let x:=gj fS b.code ({ r with nf:=r.nf+1 },⟨l++aag (Q b.vars-Q l) 0,0,false⟩)
  (x.1.e=0/\x.1.nf=r.nf+1/\Q x.1.g=C.ng/\∃k,Rn X k (ms r ⟨j,0,a,l++aag (nQ X j-Q l) 0⟩ L st) (gi (ms x.1 ⟨j,0,a,[]⟩ L (st+k)) x.2.res)/\3*r.aL+k<=3*x.1.aL+2/\x.1.aL<=r.aL+8*k)\/
  kT X r x.1 (ms r ⟨j,0,a,l++aag (nQ X j-Q l) 0⟩ L st) 0 (Sm.eJ b.code+(40-(r.nf+1))*M):=by
 intro x;obtain⟨s,N,hs,q,hP⟩:=n.code j b P;obtain⟨t1,t2,t3⟩:=hT.nb b (mem_of P);have hnv:=n.nv j _ q;have Tf:Q (eR N s b).vars=Q b.vars+Q (eO N b).vs+Q (if s.bY then [s.res] else []):=by simp[eR,afx]
 have R:Q (l++aag (nQ X j-Q l) (0:Int))=Q (eR N s b).vars:=by
  grind
 have DT:Q (l++aag (Q b.vars-Q l) (0:Int))=Q b.vars:=by simp;omega
 have hA:At C cs j (eR N s b) (Q b.vars) ⟨l++aag (Q b.vars-Q l) 0,0,false⟩ { r with nf:=r.nf+1 } (l++aag (nQ X j-Q l) 0) L:=by
  refine⟨q,R,by grind,?_,he,by grind,by grind,hg⟩
  grind
 have h:=zJ hS b.code _ { r with nf:=r.nf+1 } j (eR N s b) 0 (Q b.vars) N a _ L st hA rfl rfl t1 t2 (by grind) hP (by
  grind [eO])
 have hB:cB (Q b.vars) 0 N b.code=eO N b:=rfl;rw[hB]at h;change OS X C M (Sm.eJ b.code) (eO N b) j 0 a (l++aag (nQ X j-Q l) 0) L st { r with nf:=r.nf+1 } _ x at h;have T:∀fr L st,ms { r with nf:=r.nf+1 } fr L st=ms r fr L st:=λ_ _ _=>rfl;unfold OS at h;simp only[T]at h;generalize x=y at *;clear x;rcases h with⟨z,F,I,S,U,W,k,v,G,g2,g3,g4,g5⟩|⟨z,F,I,S,U,k,G,g2,g3⟩|h;left;refine⟨z,F,I,?_⟩;rw[W];have g4':3*r.aL+k<=3*y.1.aL:=g4;have g5':y.1.aL<=r.aL+8*k:=g5;have hz:((0:Nat):Int)=0:=rfl;rw[hz,Nat.zero_add]at G;have B:∀(p:Nat) (i:In),(xu s (Q b.vars+Q (eO N b).vs))[p]?=Z i->(eR N s b).is[Q (eO N b).is+p]?=Z i:=λp i hi=>by
  show ((eO N b).is++_)[_]?=_
  grind
 cases w:s.bY with
 |false=>
  have t:=n.step q (B 0 ⟨18,-1,0,0,0,[]⟩ (by simp[xu,w])) y.1 a v L (st+k);have h2:=G.trans t;refine⟨k+1,?_,by omega,by omega⟩;have J:qt X (ms y.1 ⟨j,(((Q (eO N b).is+0)+1:Nat):Int),a,v⟩ L (st+k+1)) v (nR ⟨18,-1,0,0,0,[]⟩)=gi (ms y.1 ⟨j,0,a,[]⟩ L (st+(k+1))) 0:=by
   rw[<-afx];show gi (ms y.1 _ L (st+k+1)) 0=_;rw[Gk]
  grind
 |true=>
  have Eb:Q b.vars+Q (eO N b).vs<Q v:=by grind
  have o:((Q b.vars+Q (eO N b).vs:Nat):Int).toNat=Q b.vars+Q (eO N b).vs:=abu _;have t:=n.step q (B 0 ⟨if lS s.res then 2 else 1,((Q b.vars+Q (eO N b).vs:Nat):Int),0,0,0,[]⟩ (by simp[xu,w])) y.1 a v L (st+k);have J:qt X (ms y.1 ⟨j,(((Q (eO N b).is+0)+1:Nat):Int),a,v⟩ L (st+k+1)) v (nR ⟨if lS s.res then 2 else 1,((Q b.vars+Q (eO N b).vs:Nat):Int),0,0,0,[]⟩) =
    ms y.1 ⟨j,(((Q (eO N b).is+0)+1:Nat):Int),a,v.set (Q b.vars+Q (eO N b).vs) 0⟩ L (st+k+1):=by
   cases lS s.res;rw[do_1 rfl,Jp];show ms y.1 ⟨j,_,a,v.set ((Q b.vars+Q (eO N b).vs:Nat):Int).toNat 0⟩ L _=_;rw[o];rw[atA rfl,Jp];show ms y.1 ⟨j,_,a,v.set ((Q b.vars+Q (eO N b).vs:Nat):Int).toNat 0⟩ L _=_;rw[o]
  rw[J]at t;have O:=n.step q (B 1 ⟨18,((Q b.vars+Q (eO N b).vs:Nat):Int),0,0,0,[]⟩ (by simp[xu,w])) y.1 a (v.set (Q b.vars+Q (eO N b).vs) 0) L (st+k+1);have h5:qt X (ms y.1 ⟨j,(((Q (eO N b).is+1)+1:Nat):Int),a,v.set (Q b.vars+Q (eO N b).vs) 0⟩ L (st+k+1+1)) (v.set (Q b.vars+Q (eO N b).vs) 0) (nR ⟨18,((Q b.vars+Q (eO N b).vs:Nat):Int),0,0,0,[]⟩)=gi (ms y.1 ⟨j,0,a,[]⟩ L (st+(k+2))) 0:=by
   show gi (ms y.1 _ L (st+k+1+1)) (if ((Q b.vars+Q (eO N b).vs:Nat):Int)<0 then 0 else eB (v.set (Q b.vars+Q (eO N b).vs) 0) ((Q b.vars+Q (eO N b).vs:Nat):Int))=_;rw[ah,Gk]
   grind [eB,eO,List.getElem?_set_self]
  rw[h5]at O;exact⟨k+(1+1),G.trans (t.trans O),by omega,by omega⟩
 grind
 right;exact h
end qR
namespace qR
open Ax Go V7 jb jn qA
open qu (Rs Fm Cx Dm WE WL WS WB Vh XE mG ev jD vals eF ju gj cz gQ jQ pL cG rF eP vg rG pJ pK pI stop cj mN kq lJ)
open gy (Ms MP Fr lP qt mP jC gO nB gC nu gi qp uG rD eB nQ pF)
variable {X:MP}{C:Cx}{D:Dm}{H:Hd}{cs:List Cd}{M:Nat}
variable {fE:E->Fm->Rs->Int×Rs}{fS:Sm->Rs×Fm->Rs×Fm}
def OP(X:MP)(C:Cx)(M:Nat)(ty:T3)(fn p nv:Nat)(to:Int)(vs:List Int)(L:List Fr)(st:Nat)(r:Rs)(x:Int×Rs):Prop:=
 (x.2.e=0/\x.2.nf=r.nf/\Q x.2.g=C.ng/\∃k v,Rn X k (ms r ⟨fn,(p:Nat),to,vs⟩ L st) (ms x.2 ⟨fn,((p+1:Nat):Int),to,v⟩ L (st+k))/\Gj nv vs v/\
  (ty≠T0->eB v nv=x.1)/\1<=k/\3*r.aL+k<=3*x.2.aL+3/\x.2.aL+8<=r.aL+8*k)\/
 kT X r x.2 (ms r ⟨fn,(p:Nat),to,vs⟩ L st) 3 ((40-r.nf)*M)
theorem S2{nv vs v}:Gj nv vs (vs.set nv v):=⟨by simp,λj h=>List.getElem?_set_ne (by omega)⟩
theorem XP{nv}{vs:List Int}{v}(h:nv<Q vs):eB (vs.set nv v) nv=v:=by
 unfold eB
 grind
variable {f:Fm}{r:Rs}{fn p nv:Nat}{c:Cd}{to:Int}{vs:List Int}{L:List Fr}{st:Nat}{ty:T3}{i:In}
theorem CG(l:KP X C D H cs M)(n:At C cs fn c nv f r vs L)(t:c.is[p]?=Z i)(w:nv<Q c.vars){v r'}(o:r'.e=0)(q:r'.nf=r.nf)(s:Q r'.g=C.ng)(x:r'.aL=r.aL)(h:∀fr st,qt X (ms r fr L st) vs (nR i)=gO (ms r' fr L st) nv v):OP X C M ty fn p nv to vs L st r (v,r'):=by
 left;refine⟨o,q,s,1,vs.set nv v,?_,S2,λ_=>XP (by rw[n.hl];exact w),Nat.le_refl _,by grind,by grind⟩;have:=l.step n.hc t r to vs L st
 grind [Jp,abu]
theorem Jq(g:KP X C D H cs M)(l:At C cs fn c nv f r vs L)(o:c.is[p]?=Z i){v a}(n:a≠0)(h:∀fr st,qt X (ms r fr L st) vs (nR i)=gC (ms r fr L st) a):OP X C M ty fn p nv to vs L st r (v,eP r a):=by
 right;left;have e:eP r a={ r with e:=2,code:=a }:=by unfold eP;rw[af ⟨n,l.e⟩]
 simp only[e];have:=g.step l.hc o r to vs L st;rw[h]at this;refine⟨trivial,1,_,this,?_,?_,?_,by grind⟩<;>(unfold gC;rw[U n]<;>rfl)
theorem PY(l:KP X C D H cs M)(n:At C cs fn c nv f r vs L)(o:c.is[p]?=Z i)(q:nv<Q c.vars){x}(h:∀fr st,qt X (ms r fr L st) vs (nR i)=nB (ms r fr L st) nv x):OP X C M ty fn p nv to vs L st r (vg r x):=by
 unfold vg;by_cases s:x.2=0;have e:eP r x.2=r:=by simp_all [eP]
 rw[e];refine CG l n o q n.e rfl n.g rfl λfr st=>?_;simp_all [nB];refine Jq l n o s λfr st=>?_;simp_all [nB]
theorem ai8{a l}:qu.rE ((a::l).map (eB vs))=eB vs a:=rfl
theorem XQ(n:KP X C D H cs M)(hT:TP C D)(W:SS X C D cs M fS)(o:At C cs fn c nv f r vs L){a}{j:Nat}{A}(F:c.is[p]?=Z ⟨13,a,0,j,0,A⟩)(ha:a = -1\/a=nv)(I:ty≠T0->a=nv/\nv<Q c.vars)(hj:∃h,Q A=D.ps[j]):OP X C M ty fn p nv to vs L st r (eF C fS j (A.map (eB vs)) r):=by
 have q:=n.step o.hc F r to vs L st;rw[akE rfl]at q;have x:dI (nR ⟨13,a,0,j,0,A⟩).args=A:=Vb A;unfold uG at q;have J:Q (ms r ⟨fn,((p+1:Nat):Int),to,vs⟩ L (st+1)).l=r.nf:=by rw[o.nf];rfl
 rw[J]at q;by_cases v:40<=r.nf;have e:eF C fS (j:Int) (A.map (eB vs)) r=(0,eP r 6):=by unfold eF;grind
 rw[e];refine Jq n o F (by decide) λfr st=>?_;rw[akE rfl];simp_all [uG,ms]
 ·rw[U v]at q;obtain⟨B,Bn⟩:=hj;have z:j<Q C.bs:=by rw[<-n.len];exact B
  have w:C.bs[j]?=Z C.bs[j]:=aae z;obtain⟨q1,q2⟩:=n.ps j D.ps[j] C.bs[j] (aae B) w;have s:Q (A.map (eB vs))<=Q C.bs[j].vars:=by grind
  have hM:=n.M j C.bs[j] w;have h:=S1 n hT W w s o.e (L:=⟨fn,((p+1:Nat):Int),to,vs⟩::L) (by rw[o.nf];rfl) (by omega) o.g a (st+1);have t:qp X (ms r ⟨fn,((p+1:Nat):Int),to,vs⟩ L (st+1)) (nR ⟨13,a,0,j,0,A⟩).c (nR ⟨13,a,0,j,0,A⟩).a ((dI (nR ⟨13,a,0,j,0,A⟩).args).map (eB vs)) =
    ms r ⟨j,0,a,A.map (eB vs)++aag (nQ X j-Q (A.map (eB vs))) 0⟩ (⟨fn,((p+1:Nat):Int),to,vs⟩::L) (st+1):=by
   rw[x];unfold qp;show Ms.mk _ _ _ (⟨((j:Nat):Int).toNat,0,a,_⟩::_) _ _ _ _=_;rw[abu];rfl
  rw[t]at q;have e:eF C fS (j:Int) (A.map (eB vs)) r=((gj fS C.bs[j].code ({ r with nf:=r.nf+1 },⟨A.map (eB vs)++aag (Q C.bs[j].vars-Q (A.map (eB vs))) 0,0,false⟩)).2.res,{ (gj fS C.bs[j].code ({ r with nf:=r.nf+1 },⟨A.map (eB vs)++aag (Q C.bs[j].vars-Q (A.map (eB vs))) 0,0,false⟩)).1 with nf:=(gj fS C.bs[j].code ({ r with nf:=r.nf+1 },⟨A.map (eB vs)++aag (Q C.bs[j].vars-Q (A.map (eB vs))) 0,0,false⟩)).1.nf-1 }):=by
   simp_all [eF,U,qu.B0,abu,aay]
  rw[e];generalize gj fS C.bs[j].code ({ r with nf:=r.nf+1 },⟨A.map (eB vs)++aag (Q C.bs[j].vars-Q (A.map (eB vs))) 0,0,false⟩)=y at *;rcases h with⟨N,e1,O,k,P,g2,g3⟩|h
  ·left;have G:=q.trans P;have hl:gi (ms y.1 ⟨j,0,a,[]⟩ (⟨fn,((p+1:Nat):Int),to,vs⟩::L) (st+1+k)) y.2.res=ms y.1 ⟨fn,((p+1:Nat):Int),to,if 0<=a then vs.set a.toNat y.2.res else vs⟩ L (st+(1+k)):=by
    show Ms.mk _ _ _ ((if 0<=a then _ else _)::L) _ _ _ _=_;rw[afx];split<;>rfl
   rw[hl]at G;refine⟨N,by grind,O,1+k,_,G,?_,λht=>?_,by omega,?_,?_⟩;rcases ha with rfl|rfl;exact .rfl';simp_all [abu,S2];obtain⟨R,S⟩:=I ht;rw[R,dM,abu];exact XP (by rw[o.hl];exact S);all_goals grind
  right;have T:kT X r y.1 (ms r ⟨fn,(p:Nat),to,vs⟩ L st) 3 ((40-r.nf)*M):=h.jh q (by omega) (by
   have:(40-r.nf)*M=M+(40-(r.nf+1))*M:=by
    have:40-r.nf=(40-(r.nf+1))+1:=by omega
    grind
   omega)
  exact T
end qR
namespace qR
open Ax Go V7 jb jn qA
open qu (Rs Fm Cx Dm WE WL WS WB Vh XE mG ev jD vals eF ju gj cz gQ jQ pL cG rF eP vg rG pJ pK pI stop cj mN kq lJ Cs nU)
open gy (Ms MP Fr lP qt mP jC gO nB gC nu gi qp uG rD eB nQ pF)
variable {X:MP}{C:Cx}{D:Dm}{H:Hd}{cs:List Cd}{M:Nat}
variable {fE:E->Fm->Rs->Int×Rs}{fS:Sm->Rs×Fm->Rs×Fm}
variable {f:Fm}{r:Rs}{fn p nv:Nat}{c:Cd}{to:Int}{vs:List Int}{L:List Fr}{st:Nat}{ty:T3}{i:In}
variable{l:List Int}
theorem LA(h:Q l=1):∃a,l=[a]:=by
 match l,h with
 |[a],_=>grind
theorem zZ(h:Q l=2):∃a b,l=[a,b]:=by
 match l,h with
 |[a,b],_=>grind
theorem Lu(h:KP X C D H cs M)(N:TP C D)(J:SS X C D cs M fS)(t:At C cs fn c nv f r vs L){k n ref ty}{ns m:Nat}{A}(S:ty=T0->k=7)(T:Vh D k ref ty m)(x:Q A=m)(F:¬(k=4/\0<=ref))(R:ty=T0->c.is[p]?=Z ⟨13,-1,0,ref,0,A⟩)(O:ty≠T0->c.is[p]?=Z (mB k n ref nv ns A))(P:ty≠T0->nv<Q c.vars)(W:k=8->X.cells.getD ns 0=C.aR.getD ty.r.toNat 0):
  OP X C M ty fn p nv to vs L st r (ju C (eF C fS) k n ref ty.r f (A.map (eB vs)) r):=by
 obtain⟨⟨k1,k24⟩,kg,w,z,kc,kn,kf⟩:=T;unfold ju;by_cases c7:k=7;subst c7;rw[U (by decide),U (by decide),U (by decide),U (by decide),U (by decide),af rfl];obtain⟨r0,hk⟩:=kc rfl;obtain⟨j,rfl⟩:∃j:Nat,ref=j:=⟨ref.toNat,(Int.toNat_of_nonneg r0).symm⟩;rw[abu]at hk;by_cases y:ty=T0;exact XQ h N J t (R y) (.inl rfl) (λq=>bH y q) (by grind);have o:=O y;unfold mB at o;rw[U (by decide),U (by decide),U (by decide),U (by decide),U (by decide),af rfl]at o;exact XQ h N J t o (.inr rfl) (λq=>⟨rfl,P q⟩) (by grind);have y:ty≠T0:=λq=>c7 (S q);have o:=O y;have v:=P y;unfold mB at o;by_cases c1:k=1\/k=2;rw[af c1]at o ⊢;exact CG h t o v t.e rfl t.g rfl λfr st=>do_1 rfl;rw[U c1]at o ⊢;by_cases c3:k=3;rw[af c3]at o ⊢;exact CG h t o v t.e rfl t.g rfl λfr st=>atA rfl;rw[U c3]at o ⊢;by_cases c4:k=4;rw[af c4]at o ⊢;refine CG h t o v t.e rfl t.g rfl λfr st=>?_;rw[atE rfl];have hr:ref<0:=Int.not_le.1 λq=>F ⟨c4,q⟩;have:rF f r ref=eB r.g (-1-ref):=by unfold rF;rw[af hr];rfl
 rw[this];rfl;rw[U c4]at o ⊢;by_cases G:k=5;rw[af G]at o ⊢;obtain⟨a,rfl⟩:=LA (x.trans (w (.inl G)));exact PY h t o v λfr st=>azm rfl;rw[U G]at o ⊢;by_cases c6:k=6;rw[af c6]at o ⊢;obtain⟨a,b,rfl⟩:=zZ (x.trans (z (.inl c6)));exact PY h t o v λfr st=>azo rfl;rw[U c6]at o ⊢;rw[U c7]at o ⊢;by_cases c8:k=8;rw[af c8]at o ⊢;refine CG h t o v (r':={ r with s:=r.s++[aag (qu.lX (C.aR.getD ty.r.toNat 0:Nat)) 0] }) t.e rfl t.g rfl λfr st=>?_;rw[atC rfl];show gO { ms r fr L st with s:=r.s++[aag (gy.lX (X.cells.getD ((ns:Nat):Int).toNat 0:Nat)) 0] } _ _=_;rw[abu,W c8]
 rfl
 rw[U c8]at o ⊢;by_cases c9:k=9;rw[af c9]at o ⊢;obtain⟨a,rfl⟩:=LA (x.trans (w (by omega)));unfold pJ;rw[ai8];by_cases B:eB vs a<0\/50<eB vs a;rw[af B];refine Jq h t o (by decide) λfr st=>?_;rw[akD rfl];exact af B;rw[U B];refine CG h t o v (r':={ r with s:=r.s++[aag (eB vs a).toNat 0] }) t.e rfl t.g rfl λfr st=>?_;rw[akD rfl];exact U B;rw[U c9]at o ⊢;by_cases D4:k=10;rw[af D4]at o ⊢;obtain⟨a,rfl⟩:=LA (x.trans (w (by omega)));exact PY h t o v λfr st=>atB rfl;rw[U D4]at o ⊢;by_cases Mg:k=11;rw[af Mg]at o ⊢;unfold pK;cases I:r.fB with
 |nil=>
  refine Jq h t o (by decide) λfr st=>?_;rw[akF rfl];unfold rD;show (match r.fB with | []=>_|n::l=>_)=_;rw[I]
 |cons n l=>
  refine CG h t o v (r':={ r with fB:=l }) t.e rfl t.g rfl λfr st=>?_;rw[akF rfl];unfold rD;show (match r.fB with | []=>_|n::l=>_)=_;rw[I]
  rfl
 rw[U Mg]at o ⊢;by_cases Ew:k=12\/k=13;rw[af Ew]at o ⊢;obtain⟨a,rfl⟩:=LA (x.trans (w (by omega)));exact CG h t o v t.e rfl t.g rfl λfr st=>azl rfl;rw[U Ew]at o ⊢;obtain⟨a,b,rfl⟩:=zZ (x.trans (z (by omega)));exact PY h t o v λfr st=>azk rfl
theorem Lv(o:KP X C D H cs M)(hT:TP C D)(hE:SE X C D cs M fE)(hS:SS X C D cs M fS){gE}(hg:∀e f r,gE e f r=if pI C r=Y then jD C fE fS e f (cj r) else (0,stop r)):SE X C D cs M gE:=by
 intro y f r fn c pos nv ns to vs L st s w N hR F P;rw[hg];by_cases O:¬pI C r=Y;rw[U O];right;right;have e:stop r={ r with e:=3 }:=by unfold stop;rw[af s.e]
 rw[e];exact⟨rfl,0,_,.zero _,rfl,rfl,by grind,by grind⟩;have O:pI C r=Y:=Decidable.byContradiction O;rw[af O];have B:At C cs fn c nv f (cj r) vs L:=⟨s.hc,s.hl,s.hn,s.fv,s.e,s.nf,s.n40,s.g⟩;have TW:ms (cj r)=ms r:=rfl;have hts:(cj r).aL=r.aL+1:=rfl;rw[aeZ]at w;rw[Cs]at N;rw[yd]at hR;have hsk:=E.sx y;by_cases I:y.k=4/\0<=y.ref;rw[D5,af I]at F P ⊢;have VO:y.ref<Q f.vs:=hR.1 I.1;have R:y.aP=[]:=w.2.2.1 (by omega);unfold jD;rw[R];show OE X C M y (y.ref,O0) fn pos nv to vs L st r (ju C (eF C fS) y.k y.n y.ref y.ty.r f [] (cj r));have hp:ju C (eF C fS) y.k y.n y.ref y.ty.r f [] (cj r)=(rF f (cj r) y.ref,cj r):=by
  simp_all [ju]
 rw[hp];left;refine⟨s.e,rfl,s.g,0,vs,.zero _,.rfl',λ_=>⟨?_,I.2,?_⟩,by grind,?_⟩;unfold rF;rw[ah];unfold eB;have h1:f.vs[y.ref.toNat]?=vs[y.ref.toNat]?:=by
  rw[<-s.fv,abv,dM]
 grind
 show y.ref<((nv+0:Nat):Int);have:=s.hn;omega;simp_all [loc];have aaQ:loc y=0:=by unfold loc;grind
 rw[D5,U I]at F P ⊢;unfold jD;have J:∀{nv ns:Nat} {ys:List E},Q (lT nv ns ys).1=Q ys:=fun {nv ns ys}=>PX ys nv ns;have t:∀x:List Int×nj,(cK nv ns y.k y.n y.ref y.ty x).2=x.2.eD ⟨if y.ty=T0 then [] else [y.ty],[if y.ty=T0 then ⟨13,-1,0,y.ref,0,x.1⟩ else mB y.k y.n y.ref ((nv+Q x.2.vs:Nat):Int) ((ns+Q x.2.ss:Nat):Int) x.1],if y.ty=T0 then [] else if y.k=8\/y.k=9 then [y.ty] else []⟩:=λx=>by
  unfold cK;by_cases q:y.ty=T0;rw[af q,af q,af q,af q];rfl
  grind
 have S:∀x:List Int×nj,y.ty≠T0->(cK nv ns y.k y.n y.ref y.ty x).1=((nv+Q x.2.vs:Nat):Int):=λx q=>by unfold cK;grind
 rw[t]at F P;have Nw:=F.left;have G:=F.right;have h:=uI hE y.aP f (cj r) fn c pos nv ns to vs L st B w.2.2.2 N.2 hR.2 Nw (by grind [nj.eD,aaq]);have hAl:=J (nv:=nv) (ns:=ns) (ys:=y.aP);generalize hx:lT nv ns y.aP=x at *;rw[TW]at h;rcases h with⟨l,r2,v0,e0,T,e2,k,vs',g1,g2,g3,g4,g5,g6⟩|⟨r2,v0,h⟩;simp only[v0];rw[g3];have Lz:At C cs fn c (nv+Q x.2.vs) f r2 vs' L:=B.oq g2 (aiV _ _) e0 T e2;have v:=G.is 0 _ rfl;rw[Nat.add_zero]at v;have W:=Lu (f:=f) (to:=to) (st:=st+k) o hT hS Lz (k:=y.k) (n:=y.n) (ref:=y.ref) (ty:=y.ty) (ns:=ns+Q x.2.ss) (A:=x.1) w.1 N.1 hAl I (λq=>by rw[af q]at v;exact v) (λq=>by grind)
  (λq=>by rw[U q]at P;grind [nj.eD,aaq,ajF]) (λq=>by
   have q2:y.ty≠T0:=λz=>by grind
   have:=G.ss 0 y.ty (by grind) (w.2.1 q).1 (w.2.1 q).2
   grind)
 rcases W with⟨i0,i1,i2,k2,LO,j1,j2,j3,j4,j5,j6⟩|W;left;refine⟨i0,by rw[i1,T];rfl,i2,k+k2,LO,?_,g2.trans j2 (aiV _ _),λq=>?_,by omega,?_⟩;have:=g1.trans j1;rw[t];have e:(pos+Q x.2.is+1:Nat)=pos+Q (x.2.eD ⟨if y.ty=T0 then [] else [y.ty],[if y.ty=T0 then ⟨13,-1,0,y.ref,0,x.1⟩ else mB y.k y.n y.ref ((nv+Q x.2.vs:Nat):Int) ((ns+Q x.2.ss:Nat):Int) x.1],if y.ty=T0 then [] else if y.k=8\/y.k=9 then [y.ty] else []⟩).is:=by simp[nj.eD,afx]
 simp_all [afx];rw[S x q,t];refine⟨j3 q,by omega,?_⟩;rw[U q]
 grind [nj.eD,aaq,ajF]
 have hm:Q y.aP<=6:=by
  obtain⟨⟨k1,k24⟩,kg,k1a,k2a,kc,kn,kf⟩:=N.1;by_cases q7:y.k=7;obtain⟨_,q1,q2⟩:=kc q7;have hjb:y.ref.toNat<Q C.bs:=by rw[<-o.len];exact q1
  have:=(o.ps _ _ _ (aae q1) (aae hjb)).1;omega
  grind
 grind
 right;refine W.jh g1 (by omega) ?_;have:Q y.aP<=E.eJ y.aP:=by grind [E.mq]
 rw[T];show r2.aL+(40-r.nf)*M<=_;omega;right
 grind [kT,cj,ms,E.eJ]
end qR
