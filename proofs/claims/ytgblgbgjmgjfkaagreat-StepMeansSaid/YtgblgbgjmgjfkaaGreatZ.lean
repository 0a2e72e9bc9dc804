/- Part of a proof. -/
import Derived.Test.YtgblgbgjmgjfkaaGreatH
import Derived.Test.YtgblgbgjmgjfkaaGreatK

open List renaming replicate->acp,getElem?_take->aeq,getD_eq_getElem?_getD->aen,length_append->adV,getElem?_eq_getElem->aas,length_singleton->akN
open Nat renaming le_add_right->ajN,add_assoc->af0
open Int renaming toNat_natCast->aeu
set_option maxHeartbeats 2000000
namespace qf
open Ax Go V7 iQ iZ qb
open pX (Rs Fm Cx Dm WE WL WS WB Ur Wz lM ev jl vals dW ja fN cu gq jz oF cy qE eH uq qF oC oD oB stop lW jN kN)
open iq (Ms MP Fr kR pF nu jZ gj mG fY mB fT pE tJ qC dQ nt oy)
def ms(r:Rs)(fr:Fr)(L:List Fr)(st:Nat):Ms:=⟨r.fm,r.s,r.g,fr::L,0,0,r.out,st⟩
def Rn(X:MP)(k:Nat)(m m':Ms):Prop:=nu X k m=m'/\m'.aK=m.aK+k
variable {X:MP}{C:Cx}{k j:Nat}{m m' m'':Ms}
theorem Rn.zero(m:Ms):Rn X 0 m m:=⟨rfl,rfl⟩
theorem Rn.trans(h:Rn X k m m')(g:Rn X j m' m''):Rn X (k+j) m m'':=by
 refine⟨?_,by rw[g.2,h.2];omega⟩;rw[jZ,h.1,g.1]
theorem ahN(m:Ms):(kR X m).aK=m.aK:=by
 unfold kR;split;exact(iq.ai5 _ _).st
 rfl
theorem Rn.one(U:m.e=0):Rn X 1 m (kR X (iq.bV m)):=by
 refine⟨?_,?_⟩;simp_all [nu,kR,iq.bV,af];rw[ahN];rfl
structure Pl (X:MP)(C:Cx)(is:List In)(pos ns:Nat)(o:jt):Prop where
 is:∀(j:Nat) (i:In),o.is[j]?=some i->is[pos+j]?=some i
 ss:∀(k:Nat) (t:T3),o.ss[k]?=some t->t.b=3->t.d=0->X.cells.getD (ns+k) 0=C.aU.getD t.r.toNat 0
variable{is:List In}{v:List Int}
theorem Pl.left{pos ns:Nat}{x y:jt}(h:Pl X C is pos ns (x.dO y)):Pl X C is pos ns x:=
 ⟨λj i g=>h.is j i (lZ g),λk t l=>h.ss k t (lZ l)⟩
theorem Pl.right{pos ns:Nat}{x y:jt}(h:Pl X C is pos ns (x.dO y)):Pl X C is (pos+x.is.length) (ns+x.ss.length) y:=by
 refine⟨λj i g=>?_,λk t l=>?_⟩;have:=h.is (x.is.length+j) i (by show (x.is++y.is)[x.is.length+j]?=_;grind)
 grind
 have:=h.ss (x.ss.length+k) t (by show (x.ss++y.ss)[x.ss.length+k]?=_;grind)
 grind
structure KP (X:MP)(C:Cx)(D:Dm)(H:Hd)(cs:List Cd)(M:Nat):Prop where
 jr:∀(j:Nat) (c:Cd),cs[j]?=some c->(dh.mF (X.aR.getD j iq.C0).jr)=c.is.map mV
 nv:∀(j:Nat) (c:Cd),cs[j]?=some c->nt X j=c.vars.length
 code:∀(j:Nat) (b:Bd),C.bs[j]?=some b->∃s ns,H.aW[j]?=some s/\cs[j]?=some (eJ ns s b)/\Pl X C (eJ ns s b).is 0 ns (eG ns b)
 len:D.ps.length=C.bs.length
 ps:∀(j:Nat) (p:Nat) (b:Bd),D.ps[j]?=some p->C.bs[j]?=some b->p<=6/\p<=b.vars.length
 M:∀(j:Nat) (b:Bd),C.bs[j]?=some b->Sm.eD b.code<=M
 ng:D.ng=C.ng
variable {D:Dm}{H:Hd}{cs:List Cd}{M:Nat}
theorem KP.at(K:KP X C D H cs M){fn:Nat}{c:Cd}(h:cs[fn]?=some c){p:Nat}{i:In}(hi:c.is[p]?=some i)(to:Int)(vs:List Int):oy X ⟨fn,(p:Int),to,vs⟩=mV i:=by
 show (dh.mF (X.aR.getD fn iq.C0).jr).getD (p:Int).toNat iq.I0=_;rw[K.jr fn c h]
 grind
theorem adM{r:Rs}{fr:Fr}{L:List Fr}{st:Nat}:kR X (iq.bV (ms r fr L st))=pF X (ms r { fr with at_:=fr.at_+1 } L (st+1)) fr.vs (oy X fr):=rfl
theorem KP.step(K:KP X C D H cs M){fn:Nat}{c:Cd}(g:cs[fn]?=some c){p:Nat}{i:In}(l:c.is[p]?=some i)(r:Rs)(to:Int)(vs:List Int)(L:List Fr)(st:Nat) :
  Rn X 1 (ms r ⟨fn,(p:Int),to,vs⟩ L st) (pF X (ms r ⟨fn,((p+1:Nat):Int),to,vs⟩ L (st+1)) vs (mV i)):=by
 have h:=Rn.one (X:=X) (m:=ms r ⟨fn,(p:Int),to,vs⟩ L st) rfl;rw[adM]at h;have e:oy X ⟨fn,(p:Int),to,vs⟩=mV i:=K.at g l to vs
 grind
theorem do_1{m:Ms}{i:dh.ID}(h:i.op=1):pF X m v i=gj m i.a i.n:=by
 unfold pF
 grind
theorem arU{m:Ms}{i:dh.ID}(h:i.op=2):pF X m v i=gj m i.a 0:=by
 simp_all [pF,U,af]
theorem axI{m:Ms}{i:dh.ID}(h:i.op=3):pF X m v i=gj m i.a (dQ v i.b):=by
 simp_all [pF,U,af]
theorem axJ{m:Ms}{i:dh.ID}(h:i.op=4):pF X m v i=mG m i.a (iq.zV i.n (dQ v i.b) (dQ v i.c)):=by
 simp_all [pF,U,af]
theorem axK{m:Ms}{i:dh.ID}(h:i.op=5):pF X m v i=gj m i.a (iq.Zs i.n (dQ v i.b)):=by
 simp_all [pF,U,af]
theorem axL{m:Ms}{i:dh.ID}(h:i.op=6):pF X m v i=mG m i.a (iq.kQ m.s (dQ v i.b) i.c):=by
 simp_all [pF,U,af]
theorem axM{m:Ms}{i:dh.ID}(h:i.op=7):pF X m v i=fY { m with s:=iq.tH m.s (dQ v i.a) i.c (dQ v i.b) } (iq.ko m.s (dQ v i.a) i.c):=by
 simp_all [pF,U,af]
theorem axN{m:Ms}{i:dh.ID}(h:i.op=8):pF X m v i=mG m i.a (iq.kQ m.s (dQ v i.b) (dQ v i.c)):=by
 simp_all [pF,U,af]
theorem axO{m:Ms}{i:dh.ID}(h:i.op=9):pF X m v i=fY { m with s:=iq.tH m.s (dQ v i.a) (dQ v i.b) (dQ v i.c) } (iq.ko m.s (dQ v i.a) (dQ v i.b)):=by
 simp_all [pF,U,af]
theorem arV{m:Ms}{i:dh.ID}(h:i.op=10):pF X m v i=mG m i.a (iq.zW m.s (dQ v i.b)):=by
 simp_all [pF,U,af]
theorem arW{m:Ms}{i:dh.ID}(h:i.op=11):pF X m v i=gj { m with s:=m.s++[acp (iq.kU (X.cells.getD i.n.toNat 0:Nat)) 0] } i.a ((m.s.length:Int)+1):=by
 simp_all [pF,U,af]
theorem ajc{m:Ms}{i:dh.ID}(h:i.op=12):pF X m v i=(if dQ v i.b<0\/50<dQ v i.b then fY m 4 else gj { m with s:=m.s++[acp (dQ v i.b).toNat 0] } i.a ((m.s.length:Int)+1)):=by
 simp_all [pF,U,af]
theorem ajd{m:Ms}{i:dh.ID}(h:i.op=13):pF X m v i=tJ X m v i:=by
 simp_all [pF,U,af]
theorem aje{m:Ms}{i:dh.ID}(h:i.op=14):pF X m v i=qC m i.a:=by
 simp_all [pF,U,af]
theorem arX{m:Ms}{i:dh.ID}(h:i.op=15):pF X m v i={ m with out:=m.out++[dQ v i.a] }:=by
 simp_all [pF,U,af]
theorem ajf{m:Ms}{i:dh.ID}(h:i.op=16):pF X m v i=mB m i.n:=by
 simp_all [pF,U,af]
theorem ajg{m:Ms}{i:dh.ID}(h:i.op=17):pF X m v i=mB m (if dQ v i.a≠0 then i.n else i.c):=by
 simp_all [pF,U,af]
theorem ajh{m:Ms}{i:dh.ID}(h:i.op=18):pF X m v i=fT m (if i.a<0 then 0 else dQ v i.a):=by
 simp_all [pF,U,af]
theorem arY{m:Ms}{i:dh.ID}(h:i.op=19):pF X m v i=gj m i.a (dQ m.g i.n):=by
 simp_all [pF,U,af]
theorem arZ{m:Ms}{i:dh.ID}(h:i.op=20):pF X m v i={ m with g:=m.g.set i.n.toNat (dQ v i.a) }:=by
 simp_all [pF,U,af]
end qf
namespace qf
open Ax Go V7 iQ iZ qb
open pX (Rs Fm Cx Dm WE WL WS WB Ur Wz lM ev jl vals dW ja fN cu gq jz oF cy qE eH uq qF oC oD oB stop bV lW jN kN)
open iq (Ms MP Fr kR pF nu jZ gj mG fY mB fT pE tJ qC dQ nt oy)
variable {X:MP}{C:Cx}{D:Dm}{H:Hd}{cs:List Cd}{M:Nat}
mutual
def NE:E->Prop
 |.mk k _ _ _ _ g _ ty _=>(ty=T0->k=7)/\(k=8->ty.b=3/\ty.d=0)/\(k=1\/k=2\/k=3\/k=4\/k=8\/k=11->g=[])/\NL g
def NL:List E->Prop
 |[]=>True|e::l=>(NE e/\e.ty≠T0)/\NL l
end
theorem adN(e:E):NE e↔(e.ty=T0->e.k=7)/\(e.k=8->e.ty.b=3/\e.ty.d=0)/\(e.k=1\/e.k=2\/e.k=3\/e.k=4\/e.k=8\/e.k=11->e.aN=[])/\NL e.aN:=by
 obtain⟨k,_,N,O,o,g,a,ty,ref⟩:=e;unfold NE;exact Iff.rfl
theorem O2:∀l:List E,NL l↔∀e∈l,NE e/\e.ty≠T0
 |[]=>by simp[NL]|e::l=>by simp[NL,O2 l]
def loc(y:E):Nat:=if y.k=4/\0<=y.ref then 2 else 0
def kj(X:MP)(r r':Rs)(m:Ms)(s w:Nat):Prop:=
 (r'.e=2/\∃k m',Rn X k m m'/\m'.e=2/\m'.code=r'.code/\m'.out=r'.out/\3*r.aK+k<=3*r'.aK+s)\/
 (r'.e=3/\∃k m',Rn X k m m'/\m'.e=0/\m'.out=r'.out/\3*r.aK+k<=3*r'.aK+s/\r'.aK<=r.aK+8*k+w)
theorem kj.iP{r R r':Rs}{m l:Ms}{s S w n j:Nat}(h:kj X R r' l s w)(g:Rn X j m l)(o:3*r.aK+j+s<=3*R.aK+S)(q:R.aK+w<=r.aK+8*j+n):kj X r r' m S n:=by
 rcases h with⟨e,k,m',V,W,Y,J,t⟩|⟨e,k,m',V,W,Y,J,t⟩;exact .inl ⟨e,j+k,m',g.trans V,W,Y,J,by omega⟩;exact .inr ⟨e,j+k,m',g.trans V,W,Y,by omega,by omega⟩
theorem kj.e{r r':Rs}{m:Ms}{s w:Nat}(h:kj X r r' m s w):r'.e≠0:=by
 rcases h with⟨e,_⟩|⟨e,_⟩<;>rw[e]<;>decide
structure At (C:Cx)(cs:List Cd)(fn:Nat)(c:Cd)(nv:Nat)(f:Fm)(r:Rs)(vs:List Int)(L:List Fr):Prop where
 hc:cs[fn]?=some c
 hl:vs.length=c.vars.length
 hn:f.vs.length<=nv
 fv:vs.take f.vs.length=f.vs
 e:r.e=0
 nf:r.nf=L.length+1
 n40:r.nf<=40
 g:r.g.length=C.ng
def Ff(nv:Nat)(vs W:List Int):Prop:=W.length=vs.length/\∀j,j<nv->W[j]?=vs[j]?
theorem Ff.rfl'{nv:Nat}{vs:List Int}:Ff nv vs vs:=⟨rfl,λ_ _=>rfl⟩
theorem Ff.trans{a b:Nat}{vs W g:List Int}(h:Ff a vs W)(k:Ff b W g)(v:a<=b):Ff a vs g:=
 ⟨by rw[k.1,h.1],λj l=>by rw[k.2 j (by omega),h.2 j l]⟩
theorem Ff.take{nv n:Nat}{vs W:List Int}(h:Ff nv vs W)(g:n<=nv):W.take n=vs.take n:=by
 apply List.ext_getElem?;intro j;rw[aeq,aeq];split;exact h.2 j (by omega)
 rfl
theorem At.ny{fn:Nat}{c:Cd}{nv n:Nat}{f:Fm}{r r':Rs}{vs W:List Int}{L:List Fr}(h:At C cs fn c nv f r vs L)(k:Ff nv vs W)(hn:nv<=n)(U:r'.e=0)(l:r'.nf=r.nf)(O:r'.g.length=C.ng):At C cs fn c n f r' W L:=
 ⟨h.hc,by rw[k.1];exact h.hl,Nat.le_trans h.hn hn,by rw[k.take h.hn];exact h.fv,U,by rw[l];exact h.nf,by rw[l];exact h.n40,O⟩
theorem adO{nv:Nat}{vs W:List Int}{a:Int}(h:Ff nv vs W)(g:0<=a)(l:a<nv):dQ W a=dQ vs a:=by
 unfold dQ;rw[aen,aen,h.2 _ (by omega)]
def OE(X:MP)(C:Cx)(M:Nat)(y:E)(o:Int×jt)(fn pos nv:Nat)(to:Int)(vs:List Int)(L:List Fr)(st:Nat)(r:Rs)(x:Int×Rs):Prop:=
 (x.2.e=0/\x.2.nf=r.nf/\x.2.g.length=C.ng/\∃k W,Rn X k (ms r ⟨fn,(pos:Nat),to,vs⟩ L st) (ms x.2 ⟨fn,((pos+o.2.is.length:Nat):Int),to,W⟩ L (st+k))/\Ff nv vs W/\
  (y.ty≠T0->dQ W o.1=x.1/\0<=o.1/\o.1<((nv+o.2.vs.length:Nat):Int))/\3*r.aK+k<=3*x.2.aK/\x.2.aK+1<=r.aK+8*k+loc y)\/
 kj X r x.2 (ms r ⟨fn,(pos:Nat),to,vs⟩ L st) 0 (E.sz y+(40-r.nf)*M)
def SE(X:MP)(C:Cx)(D:Dm)(cs:List Cd)(M:Nat)(fE:E->Fm->Rs->Int×Rs):Prop:=∀(y:E)(f:Fm)(r:Rs)(fn:Nat)(c:Cd)(pos nv ns:Nat)(to:Int)(vs:List Int)(L:List Fr)(st:Nat),
 At C cs fn c nv f r vs L->NE y->WE D y->CN f.vs.length y->Pl X C c.is pos ns (cE nv ns y).2->nv+(cE nv ns y).2.vs.length<=c.vars.length->OE X C M y (cE nv ns y) fn pos nv to vs L st r (fE y f r)
theorem O3:∀(ys:List E)(nv ns:Nat),(kT nv ns ys).1.length=ys.length
 |[],nv,ns=>by unfold kT;rfl|y::ys,nv,ns=>by rw[pN];simp[O3 ys]
variable {fE:E->Fm->Rs->Int×Rs}{fS:Sm->Rs×Fm->Rs×Fm}
theorem tK(F:SE X C D cs M fE):∀(ys:List E)(f:Fm)(r:Rs)(fn:Nat)(c:Cd)(pos nv ns:Nat)(to:Int)(vs:List Int)(L:List Fr)(st:Nat),
  At C cs fn c nv f r vs L->NL ys->WL D ys->zJ f.vs.length ys->Pl X C c.is pos ns (kT nv ns ys).2->nv+(kT nv ns ys).2.vs.length<=c.vars.length->
  (∃l R,vals fE f ys r=(some l,R)/\R.e=0/\R.nf=r.nf/\R.g.length=C.ng/\∃k W,Rn X k (ms r ⟨fn,(pos:Nat),to,vs⟩ L st) (ms R ⟨fn,((pos+(kT nv ns ys).2.is.length:Nat):Int),to,W⟩ L (st+k))/\Ff nv vs W/\
   l=(kT nv ns ys).1.map (dQ W)/\(∀a∈(kT nv ns ys).1,0<=a/\a<((nv+(kT nv ns ys).2.vs.length:Nat):Int))/\3*r.aK+k<=3*R.aK/\R.aK<=r.aK+8*k+ys.length)\/
  (∃R,vals fE f ys r=(none,R)/\kj X r R (ms r ⟨fn,(pos:Nat),to,vs⟩ L st) 0 (E.eD ys+(40-r.nf)*M))
 |[],f,r,fn,c,pos,nv,ns,to,vs,L,st,o,_,_,_,_,_=>by
  left;have e:kT nv ns []=([],O0):=by unfold kT;rfl
  refine⟨[],r,rfl,o.e,rfl,o.g,0,vs,?_,.rfl',?_,?_,by omega,by simp⟩;rw[e];exact .zero _;all_goals grind
 |y::ys,f,r,fn,c,pos,nv,ns,to,vs,L,st,o,hN,hW,hR,Y,J=>by
  have n:(NE y/\y.ty≠T0)/\NL ys:=by grind [NL]
  have s:WE D y/\WL D ys:=by grind [WL]
  have q:CN f.vs.length y/\zJ f.vs.length ys:=by grind [zJ]
  rw[pN]at Y J ⊢;have N:E.eD (y::ys)=E.sz y+E.eD ys:=by simp[E.eD]
  have t:=F y f r fn c pos nv ns to vs L st o n.1.1 s.1 q.1 Y.left (by grind [jt.dO,adV]);have h:vals fE f (y::ys) r=if (fE y f r).2.e≠0 then (none,(fE y f r).2) else match vals fE f ys (fE y f r).2 with
   |(some vs,R)=>(some ((fE y f r).1::vs),R)
   |(none,R)=>(none,R):=rfl
  generalize hx:cE nv ns y=x at *;simp only at Y J ⊢;have v:=Y.right;rcases t with⟨O,B,P,k,W,V,G,Q,g4,g5⟩|t;rw[U (by grind)]at h;obtain⟨v1,v2,v3⟩:=Q n.1.2;have K:=o.ny (r':=(fE y f r).2) G (ajN nv x.2.vs.length) O B P;have Z:=tK F ys f (fE y f r).2 fn c (pos+x.2.is.length) (nv+x.2.vs.length) (ns+x.2.ss.length) to W L (st+k) K n.2 s.2 q.2 v (by grind [jt.dO,adV]);generalize hz:kT (nv+x.2.vs.length) (ns+x.2.ss.length) ys=z at *;rcases Z with⟨l,R,I,w,S,T,k2,K3,j1,j2,j3,j4,j5,j6⟩|⟨R,I,w⟩;left;rw[I]at h;refine⟨(fE y f r).1::l,R,h,w,by rw[S,B],T,k+k2,K3,?_,G.trans j2 (ajN _ _),?_,?_,by omega,?_⟩;have:=V.trans j1
  grind [jt.dO,af0]
  grind [adO]
  intro a ha;simp only[jt.dO,adV]
  grind
  grind [loc,List.length_cons]
  right;rw[I]at h;refine⟨R,h,w.iP V (by omega) ?_⟩
  grind [loc,E.Kb]
  right;rw[af t.e]at h;refine⟨(fE y f r).2,h,t.iP (.zero _) (by omega) (by grind)⟩
end qf
namespace qf
open Ax Go V7 iQ iZ qb
open pX (Rs Fm Cx Dm WE WL WS WB Ur Wz lM ev jl vals dW ja fN cu gq jz oF cy qE eH uq qF oC oD oB stop bV lW jN kN)
open iq (Ms MP Fr kR pF nu jZ gj mG fY mB fT pE tJ qC dQ nt oy)
variable {X:MP}{C:Cx}{D:Dm}{H:Hd}{cs:List Cd}{M:Nat}
variable {fE:E->Fm->Rs->Int×Rs}{fS:Sm->Rs×Fm->Rs×Fm}
mutual
def NS:Sm->Prop
 |.mk k _ _ _ g B l _ _=>(∀e∈g,NE e)/\(k≠9->∀e∈g,e.ty≠T0)/\(k=9->∀e∈g,e.k=7)/\(k=1\/k=2->True)/\NB B/\NB l
def NB:List Sm->Prop
 |[]=>True|s::l=>NS s/\NB l
end
theorem WJ(s:Sm):NS s↔(∀e∈s.es,NE e)/\(s.k≠9->∀e∈s.es,e.ty≠T0)/\(s.k=9->∀e∈s.es,e.k=7)/\(s.k=1\/s.k=2->True)/\NB s.bd/\NB s.el:=by
 obtain⟨k,N,O,o,g,B,l,a,ref⟩:=s;unfold NS;exact Iff.rfl
def OS(X:MP)(C:Cx)(M w:Nat)(o:jt)(fn pos:Nat)(to:Int)(vs:List Int)(L:List Fr)(st:Nat)(r:Rs)(f:Fm)(x:Rs×Fm):Prop:=
 (x.1.e=0/\x.1.nf=r.nf/\x.1.g.length=C.ng/\x.2.vs.length=f.vs.length/\x.2.done=false/\x.2.res=f.res/\
  ∃k W,Rn X k (ms r ⟨fn,(pos:Nat),to,vs⟩ L st) (ms x.1 ⟨fn,((pos+o.is.length:Nat):Int),to,W⟩ L (st+k))/\W.length=vs.length/\W.take f.vs.length=x.2.vs/\3*r.aK+k<=3*x.1.aK/\x.1.aK<=r.aK+8*k)\/
 (x.1.e=0/\x.1.nf=r.nf/\x.1.g.length=C.ng/\x.2.vs.length=f.vs.length/\x.2.done=true/\
  ∃k,Rn X k (ms r ⟨fn,(pos:Nat),to,vs⟩ L st) (fT (ms x.1 ⟨fn,0,to,[]⟩ L (st+k)) x.2.res)/\3*r.aK+k<=3*x.1.aK/\x.1.aK<=r.aK+8*k)\/
 kj X r x.1 (ms r ⟨fn,(pos:Nat),to,vs⟩ L st) 0 (w+(40-r.nf)*M)
def SS(X:MP)(C:Cx)(D:Dm)(cs:List Cd)(M:Nat)(fS:Sm->Rs×Fm->Rs×Fm):Prop:=∀(s:Sm)(f:Fm)(r:Rs)(fn:Nat)(c:Cd)(pos nv ns:Nat)(to:Int)(vs:List Int)(L:List Fr)(st:Nat),
 At C cs fn c nv f r vs L->f.done=false->f.res=0->NS s->WS D s->HK f.vs.length s->Pl X C c.is pos ns (cS nv pos ns s)->nv+(cS nv pos ns s).vs.length<=c.vars.length->OS X C M (Sm.sz s) (cS nv pos ns s) fn pos to vs L st r f (fS s (r,f))
theorem Fg{r:Rs}{fr:Fr}{L:List Fr}{st:Nat}{v:Int}:fT (ms r fr L st) v=fT (ms r ⟨fr.f,0,fr.to,[]⟩ L st) v:=by
 grind [fT,ms]
theorem yS(hS:SS X C D cs M fS):∀(l:List Sm)(f:Fm)(r:Rs)(fn:Nat)(c:Cd)(pos nv N:Nat)(to:Int)(vs:List Int)(L:List Fr)(st:Nat),
  At C cs fn c nv f r vs L->f.done=false->f.res=0->NB l->WB D l->rq f.vs.length l->Pl X C c.is pos N (cB nv pos N l)->nv+(cB nv pos N l).vs.length<=c.vars.length->OS X C M (Sm.eD l) (cB nv pos N l) fn pos to vs L st r f (fN fS l (r,f))
 |[],f,r,fn,c,pos,nv,N,to,vs,L,st,h,B,_,_,_,_,_,_=>by
  left;refine⟨h.e,rfl,h.g,rfl,B,rfl,0,vs,?_,rfl,h.fv,by show 3*r.aK+0<=3*r.aK;omega,by show r.aK<=_;omega⟩;rw[Kp];exact .zero _
 |s::l,f,r,fn,c,pos,nv,N,to,vs,L,st,h,B,h0,hN,hW,hR,Y,R=>by
  have t:NS s/\NB l:=by grind [NB]
  have v:WS D s/\WB D l:=by grind [WB]
  have Q:HK f.vs.length s/\rq f.vs.length l:=by grind [rq]
  rw[EG]at Y R ⊢;unfold Ko at Y R ⊢;dsimp only at Y R ⊢;have F:Sm.eD (s::l)=Sm.sz s+Sm.eD l:=by simp[Sm.eD]
  have Xh:fN fS (s::l) (r,f)=fN fS l (fS s (r,f)):=by
   (conv=>lhs;unfold fN)<;>rw[U (by rintro (q|q);rw[B]at q;cases q;exact q h.e)]
  rw[Xh,F];have w:=hS s f r fn c pos nv N to vs L st h B h0 t.1 v.1 Q.1 Y.left (by grind [jt.dO]);have P:=Y.right;generalize hx:cS nv pos N s=x at *;generalize fS s (r,f)=p at *;rcases w with⟨G,n,I,o,J,e5,k,W,V,O,g3,g4,g5⟩|⟨G,n,I,o,J,k,V,O,g3⟩|w;obtain⟨r2,K⟩:=p;simp only at G n I o J e5 V g3 g4 g5;have KT:At C cs fn c (nv+x.vs.length) K r2 W L:=⟨h.hc,by rw[O];exact h.hl,by rw[o];have:=h.hn;omega,by grind,G,by rw[n];exact h.nf,by rw[n];exact h.n40,I⟩;have ih:=yS hS l K r2 fn c (pos+x.is.length) (nv+x.vs.length) (N+x.ss.length) to W L (st+k) KT J (by grind) t.2 v.2 (by grind) P (by grind [jt.dO]);generalize cB (nv+x.vs.length) (pos+x.is.length) (N+x.ss.length) l=z,fN fS l (r2,K)=y at *;rcases ih with⟨S,T,Z,i3,i4,i5,k2,K3,j1,j2,j3,j4,j5⟩|⟨S,T,Z,i3,i4,k2,j1,j2,j3⟩|ih;left;refine⟨S,by rw[T,n],Z,by rw[i3,o],i4,by rw[i5,e5],k+k2,K3,?_,by rw[j2,O],by grind,by omega,by omega⟩;have:=V.trans j1
  grind [jt.dO]
  right;left;refine⟨S,by rw[T,n],Z,by rw[i3,o],i4,k+k2,?_,by omega,by omega⟩;rw[<-af0];exact V.trans j1;right;right;exact ih.iP V (by omega) (by grind);right;left;have:fN fS l p=p:=by
   cases l with
   |nil=>rfl|cons a b=>simp_all [fN]
  grind
  right;right;rw[pX.ME w.e];exact w.iP (.zero _) (by omega) (by omega)
end qf
namespace qf
open Ax Go V7 iQ iZ qb
open pX (Rs Fm Cx Dm WE WL WS WB Ur Wz lM ev jl vals dW ja fN cu gq jz oF cy qE eH uq qF oC oD oB stop bV lW jN kN)
open iq (Ms MP Fr kR pF nu jZ gj mG fY mB fT pE tJ qC dQ nt oy)
variable {X:MP}{C:Cx}{D:Dm}{H:Hd}{cs:List Cd}{M:Nat}
variable {fE:E->Fm->Rs->Int×Rs}{fS:Sm->Rs×Fm->Rs×Fm}
theorem Ix{r:Rs}{fr:Fr}{L:List Fr}{st:Nat}{n v:Int}:gj (ms r fr L st) n v=ms r { fr with vs:=fr.vs.set n.toNat v } L st:=rfl
structure TP (C:Cx)(D:Dm):Prop where
 nb:∀b∈C.bs,NB b.code/\WB D b.code/\rq b.vars.length b.code
theorem RU(K:KP X C D H cs M)(hT:TP C D)(hS:SS X C D cs M fS){j:Nat}{b:Bd}(I:C.bs[j]?=some b){l:List Int}(hl:l.length<=b.vars.length){r:Rs}(he:r.e=0){L:List Fr}(WK:r.nf=L.length)(h40:r.nf<40)(hg:r.g.length=C.ng)(a:Int)(st:Nat) :
  let x:=fN fS b.code ({ r with nf:=r.nf+1 },⟨l++acp (b.vars.length-l.length) 0,0,false⟩)
  (x.1.e=0/\x.1.nf=r.nf+1/\x.1.g.length=C.ng/\∃k,Rn X k (ms r ⟨j,0,a,l++acp (nt X j-l.length) 0⟩ L st) (fT (ms x.1 ⟨j,0,a,[]⟩ L (st+k)) x.2.res)/\3*r.aK+k<=3*x.1.aK+2/\x.1.aK<=r.aK+8*k)\/
  kj X r x.1 (ms r ⟨j,0,a,l++acp (nt X j-l.length) 0⟩ L st) 0 (Sm.eD b.code+(40-(r.nf+1))*M):=by
 intro x;obtain⟨s,N,hs,o,hP⟩:=K.code j b I;obtain⟨t1,t2,t3⟩:=hT.nb b (mem_of I);have hnv:=K.nv j _ o;have Se:(eJ N s b).vars.length=b.vars.length+(eG N b).vs.length+(if s.bR then [s.res] else []).length:=by simp[eJ,af0]
 have J:(l++acp (nt X j-l.length) (0:Int)).length=(eJ N s b).vars.length:=by
  grind
 have C5:(l++acp (b.vars.length-l.length) (0:Int)).length=b.vars.length:=by simp;omega
 have hA:At C cs j (eJ N s b) b.vars.length ⟨l++acp (b.vars.length-l.length) 0,0,false⟩ { r with nf:=r.nf+1 } (l++acp (nt X j-l.length) 0) L:=by
  refine⟨o,J,by grind,?_,he,by grind,by grind,hg⟩
  grind
 have h:=yS hS b.code _ { r with nf:=r.nf+1 } j (eJ N s b) 0 b.vars.length N a _ L st hA rfl rfl t1 t2 (by grind) hP (by
  grind [eG])
 have hB:cB b.vars.length 0 N b.code=eG N b:=rfl;rw[hB]at h;change OS X C M (Sm.eD b.code) (eG N b) j 0 a (l++acp (nt X j-l.length) 0) L st { r with nf:=r.nf+1 } _ x at h;have S:∀fr L st,ms { r with nf:=r.nf+1 } fr L st=ms r fr L st:=λ_ _ _=>rfl;unfold OS at h;simp only[S]at h;generalize x=y at *;clear x;rcases h with⟨v,w,B,O,P,Q,k,W,V,R,Y,T,g5⟩|⟨v,w,B,O,P,k,V,R,Y⟩|h;left;refine⟨v,w,B,?_⟩;rw[Q];have Z:3*r.aK+k<=3*y.1.aK:=T;have g5':y.1.aK<=r.aK+8*k:=g5;have hz:((0:Nat):Int)=0:=rfl;rw[hz,Nat.zero_add]at V;have z:∀(p:Nat) (i:In),(wG s (b.vars.length+(eG N b).vs.length))[p]?=some i->(eJ N s b).is[(eG N b).is.length+p]?=some i:=λp i hi=>by
  show ((eG N b).is++_)[_]?=_
  grind
 cases t:s.bR with
 |false=>
  have q:=K.step o (z 0 ⟨18,-1,0,0,0,[]⟩ (by simp[wG,t])) y.1 a W L (st+k);have h2:=V.trans q;refine⟨k+1,?_,by omega,by omega⟩;have F:pF X (ms y.1 ⟨j,((((eG N b).is.length+0)+1:Nat):Int),a,W⟩ L (st+k+1)) W (mV ⟨18,-1,0,0,0,[]⟩)=fT (ms y.1 ⟨j,0,a,[]⟩ L (st+(k+1))) 0:=by
   rw[<-af0];show fT (ms y.1 _ L (st+k+1)) 0=_;rw[Fg]
  grind
 |true=>
  have Dq:b.vars.length+(eG N b).vs.length<W.length:=by grind
  have n:((b.vars.length+(eG N b).vs.length:Nat):Int).toNat=b.vars.length+(eG N b).vs.length:=aeu _;have q:=K.step o (z 0 ⟨if mh s.res then 2 else 1,((b.vars.length+(eG N b).vs.length:Nat):Int),0,0,0,[]⟩ (by simp[wG,t])) y.1 a W L (st+k);have F:pF X (ms y.1 ⟨j,((((eG N b).is.length+0)+1:Nat):Int),a,W⟩ L (st+k+1)) W (mV ⟨if mh s.res then 2 else 1,((b.vars.length+(eG N b).vs.length:Nat):Int),0,0,0,[]⟩) =
    ms y.1 ⟨j,((((eG N b).is.length+0)+1:Nat):Int),a,W.set (b.vars.length+(eG N b).vs.length) 0⟩ L (st+k+1):=by
   cases mh s.res;rw[do_1 rfl,Ix];show ms y.1 ⟨j,_,a,W.set ((b.vars.length+(eG N b).vs.length:Nat):Int).toNat 0⟩ L _=_;rw[n];rw[arU rfl,Ix];show ms y.1 ⟨j,_,a,W.set ((b.vars.length+(eG N b).vs.length:Nat):Int).toNat 0⟩ L _=_;rw[n]
  rw[F]at q;have G:=K.step o (z 1 ⟨18,((b.vars.length+(eG N b).vs.length:Nat):Int),0,0,0,[]⟩ (by simp[wG,t])) y.1 a (W.set (b.vars.length+(eG N b).vs.length) 0) L (st+k+1);have h5:pF X (ms y.1 ⟨j,((((eG N b).is.length+1)+1:Nat):Int),a,W.set (b.vars.length+(eG N b).vs.length) 0⟩ L (st+k+1+1)) (W.set (b.vars.length+(eG N b).vs.length) 0) (mV ⟨18,((b.vars.length+(eG N b).vs.length:Nat):Int),0,0,0,[]⟩)=fT (ms y.1 ⟨j,0,a,[]⟩ L (st+(k+2))) 0:=by
   show fT (ms y.1 _ L (st+k+1+1)) (if ((b.vars.length+(eG N b).vs.length:Nat):Int)<0 then 0 else dQ (W.set (b.vars.length+(eG N b).vs.length) 0) ((b.vars.length+(eG N b).vs.length:Nat):Int))=_;rw[U (by omega),Fg]
   grind [dQ,eG,List.getElem?_set_self]
  rw[h5]at G;exact⟨k+(1+1),V.trans (q.trans G),by omega,by omega⟩
 grind
 right;exact h
end qf
namespace qf
open Ax Go V7 iQ iZ qb
open pX (Rs Fm Cx Dm WE WL WS WB Ur Wz lM ev jl vals dW ja fN cu gq jz oF cy qE eH uq qF oC oD oB stop bV lW jN kN)
open iq (Ms MP Fr kR pF nu jZ gj mG fY mB fT pE tJ qC dQ nt oy)
variable {X:MP}{C:Cx}{D:Dm}{H:Hd}{cs:List Cd}{M:Nat}
variable {fE:E->Fm->Rs->Int×Rs}{fS:Sm->Rs×Fm->Rs×Fm}
def OP(X:MP)(C:Cx)(M:Nat)(ty:T3)(fn p nv:Nat)(to:Int)(vs:List Int)(L:List Fr)(st:Nat)(r:Rs)(x:Int×Rs):Prop:=
 (x.2.e=0/\x.2.nf=r.nf/\x.2.g.length=C.ng/\∃k W,Rn X k (ms r ⟨fn,(p:Nat),to,vs⟩ L st) (ms x.2 ⟨fn,((p+1:Nat):Int),to,W⟩ L (st+k))/\Ff nv vs W/\
  (ty≠T0->dQ W nv=x.1)/\1<=k/\3*r.aK+k<=3*x.2.aK+3/\x.2.aK+8<=r.aK+8*k)\/
 kj X r x.2 (ms r ⟨fn,(p:Nat),to,vs⟩ L st) 3 ((40-r.nf)*M)
variable{v a:Int}
theorem RW{nv:Nat}{vs:List Int}:Ff nv vs (vs.set nv v):=⟨by simp,λj h=>List.getElem?_set_ne (by omega)⟩
theorem WM{nv:Nat}{vs:List Int}(h:nv<vs.length):dQ (vs.set nv v) nv=v:=by
 unfold dQ
 grind
variable {f:Fm}{r:Rs}{fn p nv:Nat}{c:Cd}{to:Int}{vs:List Int}{L:List Fr}{st:Nat}{ty:T3}{i:In}
theorem BO(K:KP X C D H cs M)(l:At C cs fn c nv f r vs L)(s:c.is[p]?=some i)(t:nv<c.vars.length){r':Rs}(n:r'.e=0)(o:r'.nf=r.nf)(q:r'.g.length=C.ng)(w:r'.aK=r.aK)
  (h:∀fr st,pF X (ms r fr L st) vs (mV i)=gj (ms r' fr L st) nv v):OP X C M ty fn p nv to vs L st r (v,r'):=by
 left;refine⟨n,o,q,1,vs.set nv v,?_,RW,λ_=>WM (by rw[l.hl];exact t),Nat.le_refl _,by grind,by grind⟩;have:=K.step l.hc s r to vs L st
 grind [Ix,aeu]
theorem Iy(K:KP X C D H cs M)(g:At C cs fn c nv f r vs L)(n:c.is[p]?=some i)(l:a≠0)
  (h:∀fr st,pF X (ms r fr L st) vs (mV i)=fY (ms r fr L st) a):OP X C M ty fn p nv to vs L st r (v,eH r a):=by
 right;left;have e:eH r a={ r with e:=2,code:=a }:=by unfold eH;rw[af ⟨l,g.e⟩]
 simp only[e];have:=K.step g.hc n r to vs L st;rw[h]at this;refine⟨trivial,1,_,this,?_,?_,?_,by grind⟩<;>(unfold fY;rw[U l]<;>rfl)
theorem O4(K:KP X C D H cs M)(l:At C cs fn c nv f r vs L)(n:c.is[p]?=some i)(o:nv<c.vars.length){x:Int×Int}
  (h:∀fr st,pF X (ms r fr L st) vs (mV i)=mG (ms r fr L st) nv x):OP X C M ty fn p nv to vs L st r (uq r x):=by
 unfold uq;by_cases q:x.2=0;have e:eH r x.2=r:=by simp_all [eH,U]
 rw[e];refine BO K l n o l.e rfl l.g rfl λfr st=>?_;simp_all [mG,af];refine Iy K l n q λfr st=>?_;simp_all [mG,U]
theorem ahO{l:List Int}:pX.qD ((a::l).map (dQ vs))=dQ vs a:=rfl
theorem WN(K:KP X C D H cs M)(R:TP C D)(Q:SS X C D cs M fS)(n:At C cs fn c nv f r vs L){j:Nat}{A:List Int}(z:c.is[p]?=some ⟨13,a,0,j,0,A⟩)(S:a = -1\/a=nv)(B:ty≠T0->a=nv/\nv<c.vars.length)
  (T:∃h:j<D.ps.length,A.length=D.ps[j]):OP X C M ty fn p nv to vs L st r (dW C fS (j:Int) (A.map (dQ vs)) r):=by
 have t:=K.step n.hc z r to vs L st;rw[ajd rfl]at t;have w:dI (mV ⟨13,a,0,j,0,A⟩).args=A:=Um A;unfold tJ at t;have F:(ms r ⟨fn,((p+1:Nat):Int),to,vs⟩ L (st+1)).l.length=r.nf:=by rw[n.nf];rfl
 rw[F]at t;by_cases s:40<=r.nf;have e:dW C fS (j:Int) (A.map (dQ vs)) r=(0,eH r 6):=by unfold dW;grind
 rw[e];refine Iy K n z (by decide) λfr st=>?_;rw[ajd rfl];simp_all [tJ,ms,af]
 ·rw[U s]at t;obtain⟨Z,Ao⟩:=T;have x:j<C.bs.length:=by rw[<-K.len];exact Z
  have v:C.bs[j]?=some C.bs[j]:=aas x;obtain⟨q1,q2⟩:=K.ps j D.ps[j] C.bs[j] (aas Z) v;have o:(A.map (dQ vs)).length<=C.bs[j].vars.length:=by grind
  have hM:=K.M j C.bs[j] v;have h:=RU K R Q v o n.e (L:=⟨fn,((p+1:Nat):Int),to,vs⟩::L) (by rw[n.nf];rfl) (by omega) n.g a (st+1);have q:pE X (ms r ⟨fn,((p+1:Nat):Int),to,vs⟩ L (st+1)) (mV ⟨13,a,0,j,0,A⟩).c (mV ⟨13,a,0,j,0,A⟩).a ((dI (mV ⟨13,a,0,j,0,A⟩).args).map (dQ vs)) =
    ms r ⟨j,0,a,A.map (dQ vs)++acp (nt X j-(A.map (dQ vs)).length) 0⟩ (⟨fn,((p+1:Nat):Int),to,vs⟩::L) (st+1):=by
   rw[w];unfold pE;show Ms.mk _ _ _ (⟨((j:Nat):Int).toNat,0,a,_⟩::_) _ _ _ _=_;rw[aeu];rfl
  rw[q]at t;have e:dW C fS (j:Int) (A.map (dQ vs)) r=((fN fS C.bs[j].code ({ r with nf:=r.nf+1 },⟨A.map (dQ vs)++acp (C.bs[j].vars.length-(A.map (dQ vs)).length) 0,0,false⟩)).2.res,{ (fN fS C.bs[j].code ({ r with nf:=r.nf+1 },⟨A.map (dQ vs)++acp (C.bs[j].vars.length-(A.map (dQ vs)).length) 0,0,false⟩)).1 with nf:=(fN fS C.bs[j].code ({ r with nf:=r.nf+1 },⟨A.map (dQ vs)++acp (C.bs[j].vars.length-(A.map (dQ vs)).length) 0,0,false⟩)).1.nf-1 }):=by
   simp_all [dW,U,pX.B0,aeu,aen]
  rw[e];generalize fN fS C.bs[j].code ({ r with nf:=r.nf+1 },⟨A.map (dQ vs)++acp (C.bs[j].vars.length-(A.map (dQ vs)).length) 0,0,false⟩)=y at *;rcases h with⟨G,e1,I,k,V,g2,g3⟩|h
  ·left;have J:=t.trans V;have W:fT (ms y.1 ⟨j,0,a,[]⟩ (⟨fn,((p+1:Nat):Int),to,vs⟩::L) (st+1+k)) y.2.res=ms y.1 ⟨fn,((p+1:Nat):Int),to,if 0<=a then vs.set a.toNat y.2.res else vs⟩ L (st+(1+k)):=by
    show Ms.mk _ _ _ ((if 0<=a then _ else _)::L) _ _ _ _=_;rw[af0];split<;>rfl
   rw[W]at J;refine⟨G,by grind,I,1+k,_,J,?_,λY=>?_,by omega,?_,?_⟩;rcases S with rfl|rfl;exact .rfl';simp_all [af,aeu,RW];obtain⟨N,O⟩:=B Y;rw[N,af (by omega),aeu];exact WM (by rw[n.hl];exact O);all_goals grind
  right;have P:kj X r y.1 (ms r ⟨fn,(p:Nat),to,vs⟩ L st) 3 ((40-r.nf)*M):=h.iP t (by omega) (by
   have:(40-r.nf)*M=M+(40-(r.nf+1))*M:=by
    have:40-r.nf=(40-(r.nf+1))+1:=by omega
    grind
   omega)
  exact P
end qf
namespace qf
open Ax Go V7 iQ iZ qb
open pX (Rs Fm Cx Dm WE WL WS WB Ur Wz lM ev jl vals dW ja fN cu gq jz oF cy qE eH uq qF oC oD oB stop bV lW jN kN Bz mW)
open iq (Ms MP Fr kR pF nu jZ gj mG fY mB fT pE tJ qC dQ nt oy)
variable {X:MP}{C:Cx}{D:Dm}{H:Hd}{cs:List Cd}{M:Nat}
variable {fE:E->Fm->Rs->Int×Rs}{fS:Sm->Rs×Fm->Rs×Fm}
variable {f:Fm}{r:Rs}{fn p nv:Nat}{c:Cd}{to:Int}{vs:List Int}{L:List Fr}{st:Nat}{ty:T3}{i:In}
variable{l:List Int}
theorem KU(h:l.length=1):∃a,l=[a]:=by
 match l,h with
 |[a],_=>grind
theorem y9(h:l.length=2):∃a b,l=[a,b]:=by
 match l,h with
 |[a,b],_=>grind
theorem KN(K:KP X C D H cs M)(F:TP C D)(B:SS X C D cs M fS)(h:At C cs fn c nv f r vs L){k n ref:Int}{ty:T3}{ns m:Nat}{A:List Int}(P:ty=T0->k=7)(Q:Ur D k ref ty m)(v:A.length=m)(Z:¬(k=4/\0<=ref))
  (N:ty=T0->c.is[p]?=some ⟨13,-1,0,ref,0,A⟩)(G:ty≠T0->c.is[p]?=some (lJ k n ref nv ns A))(I:ty≠T0->nv<c.vars.length)(R:k=8->X.cells.getD ns 0=C.aU.getD ty.r.toNat 0) :
  OP X C M ty fn p nv to vs L st r (ja C (dW C fS) k n ref ty.r f (A.map (dQ vs)) r):=by
 obtain⟨⟨Y,V⟩,kg,t,x,W,kn,kf⟩:=Q;unfold ja;by_cases c7:k=7;subst c7;rw[U (by decide),U (by decide),U (by decide),U (by decide),U (by decide),af rfl];obtain⟨r0,S⟩:=W rfl;obtain⟨j,rfl⟩:∃j:Nat,ref=j:=⟨ref.toNat,(Int.toNat_of_nonneg r0).symm⟩;rw[aeu]at S;by_cases w:ty=T0;exact WN K F B h (N w) (.inl rfl) (λq=>au w q) (by grind);have J:=G w;unfold lJ at J;rw[U (by decide),U (by decide),U (by decide),U (by decide),U (by decide),af rfl]at J;exact WN K F B h J (.inr rfl) (λq=>⟨rfl,I q⟩) (by grind);have w:ty≠T0:=λq=>c7 (P q);have J:=G w;have o:=I w;unfold lJ at J;by_cases c1:k=1\/k=2;rw[af c1]at J ⊢;exact BO K h J o h.e rfl h.g rfl λfr st=>do_1 rfl;rw[U c1]at J ⊢;by_cases c3:k=3;rw[af c3]at J ⊢;exact BO K h J o h.e rfl h.g rfl λfr st=>arU rfl;rw[U c3]at J ⊢;by_cases c4:k=4;rw[af c4]at J ⊢;refine BO K h J o h.e rfl h.g rfl λfr st=>?_;rw[arY rfl];have T:ref<0:=Int.not_le.1 λq=>Z ⟨c4,q⟩;have:qE f r ref=dQ r.g (-1-ref):=by unfold qE;rw[af T];rfl
 rw[this];rfl;rw[U c4]at J ⊢;by_cases z:k=5;rw[af z]at J ⊢;obtain⟨a,rfl⟩:=KU (v.trans (t (.inl z)));exact O4 K h J o λfr st=>axL rfl;rw[U z]at J ⊢;by_cases c6:k=6;rw[af c6]at J ⊢;obtain⟨a,b,rfl⟩:=y9 (v.trans (x (.inl c6)));exact O4 K h J o λfr st=>axN rfl;rw[U c6]at J ⊢;rw[U c7]at J ⊢;by_cases c8:k=8;rw[af c8]at J ⊢;refine BO K h J o (r':={ r with s:=r.s++[acp (pX.kU (C.aU.getD ty.r.toNat 0:Nat)) 0] }) h.e rfl h.g rfl λfr st=>?_;rw[arW rfl];show gj { ms r fr L st with s:=r.s++[acp (iq.kU (X.cells.getD ((ns:Nat):Int).toNat 0:Nat)) 0] } _ _=_;rw[aeu,R c8]
 rfl
 rw[U c8]at J ⊢;by_cases c9:k=9;rw[af c9]at J ⊢;obtain⟨a,rfl⟩:=KU (v.trans (t (by omega)));unfold oC;rw[ahO];by_cases y:dQ vs a<0\/50<dQ vs a;rw[af y];refine Iy K h J (by decide) λfr st=>?_;rw[ajc rfl];exact af y;rw[U y];refine BO K h J o (r':={ r with s:=r.s++[acp (dQ vs a).toNat 0] }) h.e rfl h.g rfl λfr st=>?_;rw[ajc rfl];exact U y;rw[U c9]at J ⊢;by_cases Df:k=10;rw[af Df]at J ⊢;obtain⟨a,rfl⟩:=KU (v.trans (t (by omega)));exact O4 K h J o λfr st=>arV rfl;rw[U Df]at J ⊢;by_cases Lu:k=11;rw[af Lu]at J ⊢;unfold oD;cases O:r.fm with
 |nil=>
  refine Iy K h J (by decide) λfr st=>?_;rw[aje rfl];unfold qC;show (match r.fm with | []=>_|n::l=>_)=_;rw[O]
 |cons n l=>
  refine BO K h J o (r':={ r with fm:=l }) h.e rfl h.g rfl λfr st=>?_;rw[aje rfl];unfold qC;show (match r.fm with | []=>_|n::l=>_)=_;rw[O]
  rfl
 rw[U Lu]at J ⊢;by_cases DJ:k=12\/k=13;rw[af DJ]at J ⊢;obtain⟨a,rfl⟩:=KU (v.trans (t (by omega)));exact BO K h J o h.e rfl h.g rfl λfr st=>axK rfl;rw[U DJ]at J ⊢;obtain⟨a,b,rfl⟩:=y9 (v.trans (x (by omega)));exact O4 K h J o λfr st=>axJ rfl
theorem KO(K:KP X C D H cs M)(hT:TP C D)(hE:SE X C D cs M fE)(hS:SS X C D cs M fS){gE:E->Fm->Rs->Int×Rs}(hg:∀e f r,gE e f r=if oB C r=true then jl C fE fS e f (bV r) else (0,stop r)):SE X C D cs M gE:=by
 intro y f r fn c pos nv ns to vs L st o v I S Y N;rw[hg];by_cases J:¬oB C r=true;rw[U J];right;right;have e:stop r={ r with e:=3 }:=by unfold stop;rw[af o.e]
 rw[e];exact⟨rfl,0,_,.zero _,rfl,rfl,by grind,by grind⟩;have J:oB C r=true:=Decidable.byContradiction J;rw[af J];have w:At C cs fn c nv f (bV r) vs L:=⟨o.hc,o.hl,o.hn,o.fv,o.e,o.nf,o.n40,o.g⟩;have S4:ms (bV r)=ms r:=rfl;have hts:(bV r).aK=r.aK+1:=rfl;rw[adN]at v;rw[Bz]at I;rw[xB]at S;have hsk:=E.rj y;by_cases F:y.k=4/\0<=y.ref;rw[Dg,af F]at Y N ⊢;have Sj:y.ref<f.vs.length:=S.1 F.1;have V:y.aN=[]:=v.2.2.1 (by omega);unfold jl;rw[V];show OE X C M y (y.ref,O0) fn pos nv to vs L st r (ja C (dW C fS) y.k y.n y.ref y.ty.r f [] (bV r));have hp:ja C (dW C fS) y.k y.n y.ref y.ty.r f [] (bV r)=(qE f (bV r) y.ref,bV r):=by
  simp_all [ja,U,af]
 rw[hp];left;refine⟨o.e,rfl,o.g,0,vs,.zero _,.rfl',λ_=>⟨?_,F.2,?_⟩,by grind,?_⟩;unfold qE;rw[U (by omega)];unfold dQ;have h1:f.vs[y.ref.toNat]?=vs[y.ref.toNat]?:=by
  rw[<-o.fv,aeq,af (by omega)]
 grind
 show y.ref<((nv+0:Nat):Int);have:=o.hn;omega;simp_all [loc,af];have ZO:loc y=0:=by unfold loc;grind
 rw[Dg,U F]at Y N ⊢;unfold jl;have G:∀{nv ns:Nat} {ys:List E},(kT nv ns ys).1.length=ys.length:=fun {nv ns ys}=>O3 ys nv ns;have s:∀x:List Int×jt,(cK nv ns y.k y.n y.ref y.ty x).2=x.2.dO ⟨if y.ty=T0 then [] else [y.ty],[if y.ty=T0 then ⟨13,-1,0,y.ref,0,x.1⟩ else lJ y.k y.n y.ref ((nv+x.2.vs.length:Nat):Int) ((ns+x.2.ss.length:Nat):Int) x.1],if y.ty=T0 then [] else if y.k=8\/y.k=9 then [y.ty] else []⟩:=λx=>by
  unfold cK;by_cases q:y.ty=T0;rw[af q,af q,af q,af q];rfl
  grind
 have O:∀x:List Int×jt,y.ty≠T0->(cK nv ns y.k y.n y.ref y.ty x).1=((nv+x.2.vs.length:Nat):Int):=λx q=>by unfold cK;grind
 rw[s]at Y N;have MH:=Y.left;have B:=Y.right;have h:=tK hE y.aN f (bV r) fn c pos nv ns to vs L st w v.2.2.2 I.2 S.2 MH (by grind [jt.dO,adV]);have R:=G (nv:=nv) (ns:=ns) (ys:=y.aN);generalize hx:kT nv ns y.aN=x at *;rw[S4]at h;rcases h with⟨l,W,v0,e0,P,e2,k,Z,g1,g2,g3,g4,g5,g6⟩|⟨W,v0,h⟩;simp only[v0];rw[g3];have KT:At C cs fn c (nv+x.2.vs.length) f W Z L:=w.ny g2 (ajN _ _) e0 P e2;have t:=B.is 0 _ rfl;rw[Nat.add_zero]at t;have Q:=KN (f:=f) (to:=to) (st:=st+k) K hT hS KT (k:=y.k) (n:=y.n) (ref:=y.ref) (ty:=y.ty) (ns:=ns+x.2.ss.length) (A:=x.1) v.1 I.1 R F (λq=>by rw[af q]at t;exact t) (λq=>by grind)
  (λq=>by rw[U q]at N;grind [jt.dO,adV,akN]) (λq=>by
   have q2:y.ty≠T0:=λz=>by grind
   have:=B.ss 0 y.ty (by grind) (v.2.1 q).1 (v.2.1 q).2
   grind)
 rcases Q with⟨i0,i1,i2,k2,K3,j1,j2,j3,j4,j5,j6⟩|Q;left;refine⟨i0,by rw[i1,P];rfl,i2,k+k2,K3,?_,g2.trans j2 (ajN _ _),λq=>?_,by omega,?_⟩;have:=g1.trans j1;rw[s];have e:(pos+x.2.is.length+1:Nat)=pos+(x.2.dO ⟨if y.ty=T0 then [] else [y.ty],[if y.ty=T0 then ⟨13,-1,0,y.ref,0,x.1⟩ else lJ y.k y.n y.ref ((nv+x.2.vs.length:Nat):Int) ((ns+x.2.ss.length:Nat):Int) x.1],if y.ty=T0 then [] else if y.k=8\/y.k=9 then [y.ty] else []⟩).is.length:=by simp[jt.dO,af0]
 simp_all [af0];rw[O x q,s];refine⟨j3 q,by omega,?_⟩;rw[U q]
 grind [jt.dO,adV,akN]
 have hm:y.aN.length<=6:=by
  obtain⟨⟨k1,k24⟩,kg,k1a,k2a,kc,kn,kf⟩:=I.1;by_cases q7:y.k=7;obtain⟨_,q1,q2⟩:=kc q7;have T:y.ref.toNat<C.bs.length:=by rw[<-K.len];exact q1
  have:=(K.ps _ _ _ (aas q1) (aas T)).1;omega
  grind
 grind
 right;refine Q.iP g1 (by omega) ?_;have:y.aN.length<=E.eD y.aN:=by grind [E.lF]
 rw[P];show W.aK+(40-r.nf)*M<=_;omega;right
 grind [kj,bV,ms,E.eD]
end qf
