/- Part of a proof. -/
import Derived.Test.YtgblgbgjmgjfkaaGreatG
import Derived.Test.YtgblgbgjmgjfkaaGreatK
import Derived.Test.YtgblgbgjmgjfkaaGreatS

open List renaming length->Q
open Option renaming some->Z,none->K
open Bool renaming true->Y,false->X
open Decidable renaming decide->V
open List renaming mem_append->aaw,getElem_mem->aah,getElem?_append_left->aaj,getElem?_set_ne->aao,getElem?_set_self->aar,mem_append_right->aj1,nodup_append->akO,cons_append->abb,nil_append->aeN,nodup_cons->ahK,getElem_append_left->ais,take->afJ,take_of_length_le->aas,set_set->akU,replicate->aag,drop_eq_getElem_cons->aan
open Nat renaming le_refl->aal
open Int renaming toNat_natCast->abu
open Bool renaming and_eq_true->E6
set_option maxRecDepth 100000
set_option maxHeartbeats 4000000
namespace Gm
open Ax Go aM V7 jb jn qu
inductive Lb|no|p|g|o|st|fr
 deriving DecidableEq
structure v9 where
 p:Nat
 q:Nat
 v:Nat
 g:Nat
 o:Nat
 ov:Nat
 gm:List Nat
 fl:List (Nat×Nat)
 ku:Nat->Lb
 iv:AV
structure Px where
 H:Hd
 m:Int
 bs:List Bd
 fu:Nat
def lV(s:List (List Int))(q v:Nat):AV:=if s=[] then .aF else .mu q v
def oV(o:List Int)(i v:Nat):AV:=if o=[] then .aF else .mu i v
def vV(f:Fm)(a:Nat×Nat):AV:=if f.vs=[] then .aF else .mu a.1 a.2
def jY(T:Px)(h:AV)(e code:Int)(out:AV)(aL:Nat)(l:AV)(g:Nat)(nf:Nat)(vs:AV)(done:Bool)(res:Int):List AV:=
 [aN 2 (T.H.bN.map gh),cM T.H.ax,aN 6 (T.H.aZ.map Sg.aK),.int .i64 T.m,aN 3 (T.bs.map Bd.aK),h,.int .i64 T.fu,.int .i64 e,.int .i64 code,out,.int .i64 aL,l,.mu g 0,.int .i64 nf,vs,.bool done,.int .i64 res]
def f0:Fm:=⟨[],0,X⟩
def p5(L:List Fm):Fm:=L.headD f0
def uK(I:v9):Nat×Nat:=I.fl.headD (0,0)
def cQ(T:Px)(L:List Fm)(r:Rs)(I:v9):List AV:=jY T I.iv r.e r.code (oV r.out I.o I.ov) r.aL (lV r.s I.q I.v) I.g r.nf (vV (p5 L) (uK I)) (p5 L).done (p5 L).res
def vh(st:aO):List Fm->List (Nat×Nat)->Prop
 |[],[]=>True|f::l,a::b=>(f.vs≠[]->st[a.1]?=Z (.rows a.2 1 (aT f.vs)))/\vh st l b|_,_=>False
def kX:List Fm->List (Nat×Nat)->List Nat
 |f::l,a::b=>(if f.vs=[] then [] else [a.1])++kX l b|_,_=>[]
structure ee (T:Px)(ai:Nat)(L:List Fm)(r:Rs)(I:v9)(st:aO):Prop where
 P:st[I.p]?=some (.rows 0 17 [cQ T L r I])
 iv:mX I.iv=true/\cL I.iv=true/\dI I.iv=r.fB
 sl:I.gm.length=r.s.length
 S:r.s≠[]->st[I.q]?=some (.rows I.v 1 (I.gm.map λi=>[.mu i 0]))
 el:∀k (h:k<I.gm.length) (h2:k<r.s.length),st[I.gm[k]]?=some (.rows 0 1 (aT r.s[k]))
 G:st[I.g]?=some (.rows 0 1 (aT r.g))
 FR:vh st L I.fl
 O:r.out≠[]->st[I.o]?=some (.rows I.ov 1 (aT r.out))
 lp:I.ku I.p=.p
 lg:I.ku I.g=.g
 lo:r.out≠[]->I.ku I.o=.o
 lq:r.s≠[]->I.ku I.q=.st
 li:∀i∈I.gm,I.ku i=.st
 qn:r.s≠[]->I.q ∉ I.gm
 sn:I.gm.Nodup
 lr:∀i∈kX L I.fl,I.ku i=.fr
 nd:(kX L I.fl).Nodup
 low:∀i,I.ku i≠.no->ai<=i
variable {T:Px}{ai:Nat}{L:List Fm}{r:Rs}{I:v9}{st st':aO}{f:Fm}
theorem vh.oq:∀{l:List Fm}{F:List _},vh st l F->(∀i∈kX l F,st'[i]?=st[i]?)->vh st' l F
 |[],[],_,_=>trivial|f::l,a::b,h,k=>⟨λe=>by rw[k a.1 (by simp[kX,e])];exact h.1 e,vh.oq h.2 λi H=>k i (by simp only[kX,aaw];exact .inr H)⟩
 |[],_::_,h,_=>h.elim|_::_,[],h,_=>h.elim
theorem jm{i o}(h:st[i]?=Z o):i<Q st:=(List.getElem?_eq_some_iff.1 h).1
theorem vh.lt:∀{l:List Fm}{F:List _},vh st l F->∀i∈kX l F,i<Q st
 |[],[],_=>by simp[kX]|f::_,a::b,h=>by
  intro i H;simp only[kX,aaw]at H;rcases H with H|H;by_cases e:f.vs=[];rw[af e]at H;simp at H;rw[U e]at H;simp at H;rw[H];exact jm (h.1 e);exact vh.lt h.2 i H
 |[],_::_,h=>h.elim|_::_,[],h=>h.elim
structure Lts (L:List Fm)(I:v9)(r:Rs)(n:Nat):Prop where
 p:I.p<n
 g:I.g<n
 q:r.s≠[]->I.q<n
 gm:∀i∈I.gm,i<n
 fr:∀i∈kX L I.fl,i<n
 o:r.out≠[]->I.o<n
theorem ee.SX(h:ee T ai L r I st):Lts L I r (Q st):=
 ⟨jm h.P,jm h.G,λe=>jm (h.S e),λi H=>by
  obtain⟨k,m,rfl⟩:=List.mem_iff_getElem.1 H;exact jm (h.el k m (by rw[<-h.sl];exact m)),h.FR.lt,λe=>jm (h.O e)⟩
theorem ee.Hz(h:ee T ai L r I st):ai<=I.p:=h.low _ (by rw[h.lp];decide)
theorem ee.aji(h:ee T ai L r I st):ai<=Q st:=Nat.le_trans h.Hz (Nat.le_of_lt h.SX.p)
theorem ee.BS(h:ee T ai L r I st)(k:∀i,i<Q st->I.ku i≠.no->I.ku i≠.p->st'[i]?=st[i]?)(F:st'[I.p]?=Z (.rows 0 17 [cQ T L r I])):ee T ai L r I st':=by
 have B:=h.SX;have kk:∀i,i<Q st->∀b,I.ku i=b->b≠Lb.no->b≠Lb.p->st'[i]?=st[i]?:=λi H b l v w=>k i H (by rw[l];exact v) (by rw[l];exact w);refine⟨F,h.iv,h.sl,λe=>?_,λj m t=>?_,?_,h.FR.oq λi H=>kk i (B.fr i H) _ (h.lr i H) (by decide) (by decide),λe=>?_,h.lp,h.lg,h.lo,h.lq,h.li,h.qn,h.sn,h.lr,h.nd,h.low⟩;rw[kk _ (B.q e) _ (h.lq e) (by decide) (by decide)];exact h.S e;have s:=aah m;rw[kk _ (B.gm _ s) _ (h.li _ s) (by decide) (by decide)];exact h.el j m t;rw[kk _ B.g _ h.lg (by decide) (by decide)];exact h.G;rw[kk _ (B.o e) _ (h.lo e) (by decide) (by decide)];exact h.O e
theorem ee.oq(h:ee T ai L r I st)(k:∀i,i<Q st->I.ku i≠.no->st'[i]?=st[i]?):ee T ai L r I st':=
 h.BS (λi H g _=>k i H g) (by rw[k _ h.SX.p (by rw[h.lp];decide)];exact h.P)
theorem ee.eD(h:ee T ai L r I st)(t):ee T ai L r I (st++t):=h.oq λ_ H _=>aaj H
theorem ee.aK(h:ee T ai (f::L) r I st)(R B z)(l:R.s=r.s)(U:R.g=r.g)(v:R.out=r.out)(y:B.vs=f.vs)(H:mX z=Y/\cL z=Y/\dI z=R.fB):
  ee T ai (B::L) R { I with iv:=z } (st.set I.p (.rows 0 17 [cQ T (B::L) R { I with iv:=z }])):=by
 have k:∀i,I.ku i≠.p->(st.set I.p (.rows 0 17 [cQ T (B::L) R { I with iv:=z }]))[i]?=st[i]?:=λi H=>
  aao λe=>H (by rw[<-e];exact h.lp)
 have m:∀fl,kX (B::L) fl=kX (f::L) fl:=λfl=>by
  cases fl with
  |nil=>rfl|cons a b=>simp only[kX,y]
 have N:vh st (B::L) I.fl:=by
  have:=h.FR;cases w:I.fl with
  |nil=>rw[w]at this;exact this.elim|cons a b=>
   rw[w]at this;exact⟨by rw[y];exact this.1,this.2⟩
 refine⟨aar (jm h.P),H,by rw[l];exact h.sl,λe=>?_,λj x F=>?_,?_,?_,λe=>?_,h.lp,h.lg,by rw[v];exact h.lo,by rw[l];exact h.lq,h.li,by rw[l];exact h.qn,h.sn,?_,?_,h.low⟩;rw[l]at e;exact(k I.q (by rw[h.lq e];decide)).trans (h.S e);have t:j<Q r.s:=by rw[<-l];exact F
 have J:R.s[j]=r.s[j]:=by simp only[l]
 rw[J];exact(k _ (by rw[h.li _ (aah x)];decide)).trans (h.el j x t);rw[U];exact(k I.g (by rw[h.lg];decide)).trans h.G;refine N.oq λi H=>k i ?_;rw[m]at H;rw[h.lr i H];decide;rw[v]at e;rw[v];exact(k I.o (by rw[h.lo e];decide)).trans (h.O e);intro i H;rw[m]at H;exact h.lr i H;rw[m];exact h.nd
theorem ee.top(h:ee T ai (f::L) r I st):∃a b,I.fl=a::b/\(f.vs≠[]->st[a.1]?=Z (.rows a.2 1 (aT f.vs))/\I.ku a.1=.fr/\a.1 ∉ kX L b)/\vh st L b/\(∀i∈kX L b,I.ku i=.fr)/\(kX L b).Nodup:=by
 have g:=h.FR;cases j:I.fl with
 |nil=>rw[j]at g;exact g.elim|cons a b=>
  rw[j]at g;have H:=h.nd;have l:=h.lr;rw[j]at H l;simp only[kX]at H l;refine⟨a,b,rfl,λe=>?_,g.2,λi k=>l i (aj1 _ k),(akO.1 H).2.1⟩;rw[U e]at H l;simp only[abb,aeN,ahK]at H;exact⟨g.1 e,l a.1 (by simp),H.1⟩
theorem ee.XI(h:ee T ai (f::L) r I st){vs'}(v:Q vs'=Q f.vs)(o:f.vs≠[]):ee T ai ({ f with vs:=vs' }::L) r I (st.set (uK I).1 (.rows (uK I).2 1 (aT vs'))):=by
 obtain⟨a,b,p,y,z,N,R⟩:=h.top;obtain⟨w,x,F⟩:=y o;have l:vs'≠[]:=by
  intro q;rw[q]at v;exact o (List.eq_nil_of_length_eq_zero v.symm)
 have J:uK I=a:=by unfold uK;rw[p];rfl
 rw[J];have k:∀i,i≠a.1->(st.set a.1 (.rows a.2 1 (aT vs')))[i]?=st[i]?:=λi H=>aao λe=>H e.symm;have m:∀i,I.ku i≠.fr->(st.set a.1 (.rows a.2 1 (aT vs')))[i]?=st[i]?:=λi H=>k i λe=>H (by rw[e];exact x);have s:kX ({ f with vs:=vs' }::L) I.fl=kX (f::L) I.fl:=by rw[p];simp only[kX,U o,U l]
 have M:cQ T ({ f with vs:=vs' }::L) r I=cQ T (f::L) r I:=by
  unfold cQ;show jY T I.iv r.e r.code _ r.aL _ I.g r.nf (if vs'=[] then AV.aF else _) f.done f.res=jY T I.iv r.e r.code _ r.aL _ I.g r.nf (if f.vs=[] then AV.aF else _) f.done f.res;rw[U o,U l]
 refine⟨?_,h.iv,h.sl,λe=>?_,λj t B=>?_,?_,?_,λe=>?_,h.lp,h.lg,h.lo,h.lq,h.li,h.qn,h.sn,by rw[s];exact h.lr,by rw[s];exact h.nd,h.low⟩;rw[M,m _ (by rw[h.lp];decide)];exact h.P;rw[m _ (by rw[h.lq e];decide)];exact h.S e;rw[m _ (by rw[h.li _ (aah t)];decide)];exact h.el j t B;rw[m _ (by rw[h.lg];decide)];exact h.G;rw[p];refine⟨λ_=>aar (jm w),z.oq λi H=>k i λe=>F (e ▸ H)⟩;rw[m _ (by rw[h.lo e];decide)];exact h.O e
theorem ee.aiv(h:ee T ai L r I st)(g):ee T ai L { r with g:=g } I (st.set I.g (.rows 0 1 (aT g))):=by
 have k:∀i,I.ku i≠.g->(st.set I.g (.rows 0 1 (aT g)))[i]?=st[i]?:=λi H=>aao λe=>H (by rw[<-e];exact h.lg);refine⟨?_,h.iv,h.sl,λe=>?_,λj l B=>?_,aar (jm h.G),h.FR.oq λi H=>k i (by rw[h.lr i H];decide),λe=>?_,h.lp,h.lg,h.lo,h.lq,h.li,h.qn,h.sn,h.lr,h.nd,h.low⟩;rw[k _ (by rw[h.lp];decide)];exact h.P;rw[k _ (by rw[h.lq e];decide)];exact h.S e;rw[k _ (by rw[h.li _ (aah l)];decide)];exact h.el j l B;rw[k _ (by rw[h.lo e];decide)];exact h.O e
theorem ee.atL(h:ee T ai L r I st)(k o w):ee T ai L { r with s:=r.s.set k w } I (st.set I.gm[k] (.rows 0 1 (aT w))):=by
 have m:=aah o;have N:∀i,I.ku i≠.st->(st.set I.gm[k] (.rows 0 1 (aT w)))[i]?=st[i]?:=λi H=>aao λe=>H (by rw[<-e];exact h.li _ m);have U:r.s.set k w=[]↔r.s=[]:=by
  constructor;intro e;have:=congrArg List.length e;simp at this;exact this;intro e;rw[e];rfl
 have v:cQ T L { r with s:=r.s.set k w } I=cQ T L r I:=by
  unfold cQ lV;simp only[U]
 refine⟨?_,h.iv,?_,λe=>?_,λj l B=>?_,?_,h.FR.oq λi H=>N i (by rw[h.lr i H];decide),λe=>?_,h.lp,h.lg,h.lo,λe=>h.lq λc=>e (U.2 c),h.li,λe=>h.qn λc=>e (U.2 c),h.sn,h.lr,h.nd,h.low⟩;rw[v,N _ (by rw[h.lp];decide)];exact h.P;simp[h.sl];have g:r.s≠[]:=λc=>e (U.2 c);rw[aao λ(c:I.gm[k]=I.q)=>h.qn g (c ▸ m)];exact h.S g;have t:j<Q r.s:=by simpa using B
 by_cases q:j=k;subst q;have p:=jm (h.el j l t);show _=Z (iW.rows 0 1 (aT (r.s.set j w)[j]));rw[aar p,List.getElem_set_self];have x:I.gm[k]≠I.gm[j]:=λc=>q ((List.getElem_inj h.sn).1 c).symm;show _=Z (iW.rows 0 1 (aT (r.s.set k w)[j]));rw[aao x,List.getElem_set_ne (λc=>q c.symm)];exact h.el j l t;rw[N _ (by rw[h.lg];decide)];exact h.G;rw[N _ (by rw[h.lo e];decide)];exact h.O e
theorem ee.alloc(h:ee T ai L r I st){w n q v}(hn:Q st<=n)(F:(r.s≠[]/\q=I.q)\/Q st<=q)(z:q≠n)(k:∀j,j<Q st->j≠I.p->(r.s≠[]->j≠I.q)->st'[j]?=st[j]?)(hp:st'[I.p]?=Z (.rows 0 17 [jY T I.iv r.e r.code (oV r.out I.o I.ov) r.aL (.mu q v) I.g r.nf (vV (p5 L) (uK I)) (p5 L).done (p5 L).res]))(h1:st'[n]?=Z (.rows 0 1 (aT w)))(h2:st'[q]?=Z (.rows v 1 ((I.gm++[n]).map λi=>[.mu i 0]))):
  ee T ai L { r with s:=r.s++[w] } { I with q:=q,v:=v,gm:=I.gm++[n],ku:=λj=>if j=n\/j=q then .st else I.ku j } st':=by
 have B:=h.SX;have hle:=h.aji;have m:∀j,j<Q st->(r.s≠[]->I.ku j≠.st)->(if j=n\/j=q then Lb.st else I.ku j)=I.ku j:=λj H iT=>by
  by_cases c:j=n\/j=q;rcases c with c|c;omega;rcases F with⟨e,d⟩|d;exact bH (by rw[c,d];exact h.lq e) (iT e);omega;exact U c
 have S:∀j,j<Q st->I.ku j≠.p->(r.s≠[]->j≠I.q)->st'[j]?=st[j]?:=λj H N P=>k j H (λc=>N (by rw[c];exact h.lp)) P;have M:∀j,j<Q st->I.ku j≠.p->I.ku j≠.st->st'[j]?=st[j]?:=λj H N P=>S j H N λe c=>P (by rw[c];exact h.lq e);have It:∀j∈I.gm,(if j=n\/j=q then Lb.st else I.ku j)=.st:=λj H=>by
  by_cases c:j=n\/j=q;exact af c;rw[U c];exact h.li j H
 have J:q ∉ I.gm:=λc=>by
  rcases F with⟨e,d⟩|d;exact h.qn e (d ▸ c);have:=B.gm q c;omega
 refine⟨?_,h.iv,by simp[h.sl],λ_=>h2,λj H W=>?_,?_,h.FR.oq λi t=>M i (B.fr i t) (by rw[h.lr i t];decide) (by rw[h.lr i t];decide),λe=>?_,(m _ B.p λ_=>by rw[h.lp];decide).trans h.lp,(m _ B.g λ_=>by rw[h.lg];decide).trans h.lg,
  λe=>(m _ (B.o e) λ_=>by rw[h.lo e];decide).trans (h.lo e),λ_=>af (.inr rfl),λj H=>?_,λ_=>?_,?_,λj H=>(m _ (B.fr j H) λ_=>by rw[h.lr j H];decide).trans (h.lr j H),h.nd,λj H=>?_⟩
 have:lV (r.s++[w]) q v=.mu q v:=U (by simp);show st'[I.p]?=Z (.rows 0 17 [jY T I.iv r.e r.code (oV r.out I.o I.ov) r.aL (lV (r.s++[w]) q v) I.g r.nf (vV (p5 L) (uK I)) (p5 L).done (p5 L).res]);rw[this];exact hp;by_cases e:j<Q I.gm;have l:j<Q r.s:=by rw[<-h.sl];exact e
 show st'[(I.gm++[n])[j]]?=Z (.rows 0 1 (aT (r.s++[w])[j]));rw[ais e,ais l];have y:=aah e;rw[S _ (B.gm _ y) (by rw[h.li _ y];decide) λe c=>h.qn e (c ▸ y)];exact h.el j e l;have x:j=Q I.gm:=by simp at H;omega
 subst x;show st'[(I.gm++[n])[Q I.gm]]?=Z (.rows 0 1 (aT (r.s++[w])[Q I.gm]));have e1:(I.gm++[n])[Q I.gm]=n:=by simp
 have e2:(r.s++[w])[Q I.gm]'(by simpa using W)=w:=by
  rw[List.getElem_append_right (by rw[h.sl];exact aal _)];simp
 rw[e1,e2];exact h1;exact(M _ B.g (by rw[h.lg];decide) (by rw[h.lg];decide)).trans h.G;exact(M _ (B.o e) (by rw[h.lo e];decide) (by rw[h.lo e];decide)).trans (h.O e);rcases aaw.1 H with H|H;exact It j H;simp at H;subst H;exact af (.inl rfl);simp only[aaw,List.mem_singleton,not_or];exact⟨J,z⟩;refine akO.2 ⟨h.sn,by simp,λa ha b R=>?_⟩;simp at R;subst R;intro e;have:=B.gm a ha;omega;simp only at H;by_cases c:j=n\/j=q;rcases c with c|c;omega;rcases F with⟨e,d⟩|d;rw[c,d];exact h.low _ (by rw[h.lq e];decide);omega;rw[U c]at H;exact h.low j H
theorem ee.push(h:ee T ai L r I st){a v g nf}(s:g.vs≠[]->Q st<=a)(k:∀j,j<Q st->j≠I.p->st'[j]?=st[j]?)(J:st'[I.p]?=Z (.rows 0 17 [cQ T (g::L) { r with nf:=nf } { I with fl:=(a,v)::I.fl }]))(y:g.vs≠[]->st'[a]?=Z (.rows v 1 (aT g.vs))):
  ee T ai (g::L) { r with nf:=nf } { I with fl:=(a,v)::I.fl,ku:=λj=>if g.vs≠[]/\j=a then .fr else I.ku j } st':=by
 have B:=h.SX;have z:=h.aji;have l:∀j,j<Q st->(if g.vs≠[]/\j=a then Lb.fr else I.ku j)=I.ku j:=λj H=>U λc=>by have:=s c.1;omega
 have m:∀j,j<Q st->I.ku j≠.p->st'[j]?=st[j]?:=λj H F=>k j H λc=>F (by rw[c];exact h.lp);refine⟨J,h.iv,h.sl,λe=>(m _ (B.q e) (by rw[h.lq e];decide)).trans (h.S e),λj H x=>?_,(m _ B.g (by rw[h.lg];decide)).trans h.G,⟨y,h.FR.oq λi t=>m i (B.fr i t) (by rw[h.lr i t];decide)⟩,λe=>(m _ (B.o e) (by rw[h.lo e];decide)).trans (h.O e),
  (l _ B.p).trans h.lp,(l _ B.g).trans h.lg,λe=>(l _ (B.o e)).trans (h.lo e),λe=>(l _ (B.q e)).trans (h.lq e),λj H=>(l _ (B.gm j H)).trans (h.li j H),h.qn,h.sn,λj H=>?_,?_,λj H=>?_⟩
 have w:=aah H;exact(m _ (B.gm _ w) (by rw[h.li _ w];decide)).trans (h.el j H x);simp only[kX,aaw]at H;rcases H with H|H;by_cases e:g.vs=[];rw[af e]at H;simp at H;rw[U e]at H;simp at H;exact af ⟨e,H⟩;exact(l _ (B.fr j H)).trans (h.lr j H);simp only[kX];by_cases e:g.vs=[];rw[af e];exact h.nd;rw[U e];simp only[abb,aeN,ahK];exact⟨λc=>by have:=B.fr a c;have:=s e;omega,h.nd⟩;simp only at H;by_cases c:g.vs≠[]/\j=a;have:=s c.1;omega;rw[U c]at H;exact h.low j H
theorem ee.pop(h:ee T ai (f::L) r I st){c fl nf}(x:I.fl=c::fl)(k:∀j,j<Q st->j≠I.p->st'[j]?=st[j]?)(z:st'[I.p]?=Z (.rows 0 17 [cQ T L { r with nf:=nf } { I with fl:=fl }])):ee T ai L { r with nf:=nf } { I with fl:=fl } st':=by
 have B:=h.SX;have m:=h.FR;have U:=h.nd;have H:=h.lr;have N:=B.fr;rw[x]at m U H N;simp only[kX]at U H N;have s:∀j,j<Q st->I.ku j≠.p->st'[j]?=st[j]?:=λj l y=>k j l λc=>y (by rw[c];exact h.lp);refine⟨z,h.iv,h.sl,λe=>(s _ (B.q e) (by rw[h.lq e];decide)).trans (h.S e),λj l w=>?_,(s _ B.g (by rw[h.lg];decide)).trans h.G,m.2.oq λi t=>s i (N i (aj1 _ t)) (by rw[H i (aj1 _ t)];decide),λe=>(s _ (B.o e) (by rw[h.lo e];decide)).trans (h.O e),
  h.lp,h.lg,h.lo,h.lq,h.li,h.qn,h.sn,λj l=>H j (aj1 _ l),(akO.1 U).2.1,h.low⟩
 have v:=aah l;exact(s _ (B.gm _ v) (by rw[h.li _ v];decide)).trans (h.el j l w)
theorem ee.Gh(h:ee T ai L r I st){o ov out}(_:out≠[])(t:(r.out≠[]/\o=I.o)\/Q st<=o)(k:∀j,j<Q st->j≠I.p->(r.out≠[]->j≠I.o)->st'[j]?=st[j]?)(F:st'[I.p]?=Z (.rows 0 17 [cQ T L { r with out:=out } { I with o:=o,ov:=ov }]))(z:st'[o]?=Z (.rows ov 1 (aT out))):
  ee T ai L { r with out:=out } { I with o:=o,ov:=ov,ku:=λj=>if j=o then .o else I.ku j } st':=by
 have B:=h.SX;have x:=h.aji;have l:∀j,j<Q st->(r.out≠[]->I.ku j≠.o)->(if j=o then Lb.o else I.ku j)=I.ku j:=λj H y=>by
  by_cases q:j=o;rcases t with⟨c,d⟩|d;exact bH (by rw[q,d];exact h.lo c) (y c);omega;exact U q
 have v:∀j,j<Q st->I.ku j≠.p->I.ku j≠.o->st'[j]?=st[j]?:=λj H N J=>k j H (λq=>N (by rw[q];exact h.lp)) (λc q=>J (by rw[q];exact h.lo c));refine⟨F,h.iv,h.sl,λe=>(v _ (B.q e) (by rw[h.lq e];decide) (by rw[h.lq e];decide)).trans (h.S e),λj H w=>?_,(v _ B.g (by rw[h.lg];decide) (by rw[h.lg];decide)).trans h.G,
  h.FR.oq λi m=>v i (B.fr i m) (by rw[h.lr i m];decide) (by rw[h.lr i m];decide),λ_=>z,(l _ B.p λ_=>by rw[h.lp];decide).trans h.lp,(l _ B.g λ_=>by rw[h.lg];decide).trans h.lg,λ_=>af rfl,
  λe=>(l _ (B.q e) λ_=>by rw[h.lq e];decide).trans (h.lq e),λj H=>(l _ (B.gm j H) λ_=>by rw[h.li j H];decide).trans (h.li j H),h.qn,h.sn,
  λj H=>(l _ (B.fr j H) λ_=>by rw[h.lr j H];decide).trans (h.lr j H),h.nd,λj H=>?_⟩
 have s:=aah H;exact(v _ (B.gm _ s) (by rw[h.li _ s];decide) (by rw[h.li _ s];decide)).trans (h.el j H w);simp only at H;by_cases q:j=o;rcases t with⟨c,d⟩|d;rw[q,d];exact h.low _ (by rw[h.lo c];decide);omega;rw[U q]at H;exact h.low j H
end Gm
namespace Gm
open Ax Go aM V7 jb jn qu
variable {T:Px}{ai:Nat}{L:List Fm}{r:Rs}{I:v9}{st st':aO}{f:Fm}
theorem ud(w l)(h:ee T ai L r I st):(bh S).call w l 41 [.ptr I.p 0 0 0] st=Z (.bool (V (r.e≠0)),st):=by
 have F:=h.P;refine aG (sf:=s41) rfl rfl rfl ?_;simp[s41,F,cQ,jY,cut]
theorem sI(h:ee T ai (f::L) r I st)(c):
  ∃st',Q st'=Q st/\(∀l,(bh S).call 0 l 93 [.ptr I.p 0 0 0,.int .i64 c] st=Z (.fC [],st'))/\ee T ai (f::L) (eP r c) I st':=by
 have k:=λw l=>ud w l h;by_cases g:c=0;subst g;refine⟨st,rfl,λl=>?_,by simpa [eP] using h⟩;refine aG (sf:=s93) rfl rfl rfl ?_;simp[s93];by_cases j:r.e=0;have F:=h.P;have R:=jm F;have o:eP r c={ r with e:=2,code:=c }:=by simp_all [eP]
 have H:=h.aK { r with e:=2,code:=c } f I.iv rfl rfl rfl rfl h.iv;rw[o];refine⟨_,?_,λl=>?_,H⟩;simp;refine aG (sf:=s93) rfl rfl rfl ?_;have U:∀y,afJ (Q st) (st.set I.p y)=st.set I.p y:=λy=>aas (by simp);have G:∀y z,(st.set I.p y).set I.p z=st.set I.p z:=λy z=>akU ..
 have m:∀y,(st.set I.p y)[I.p]?=Z y:=λy=>aar R;simp[s93,k,g,j,F,cQ,jY,p5,uK,bw,AV.aD,AV.aH,aB,U,G,m];refine⟨st,rfl,λl=>?_,by simp_all [eP]⟩;refine aG (sf:=s93) rfl rfl rfl ?_;simp[s93,k,g,j]
theorem oC(h:ee T ai (f::L) r I st)(t:T.fu<1000000000)(C)(s:C.fuel=T.fu):
  ∃st',Q st'=Q st/\(∀l,(bh S).call 0 l 158 [.ptr I.p 0 0 0] st=Z (.bool (pI C r),st'))/\ee T ai (f::L) (if pI C r=Y then cj r else stop r) I st':=by
 have j:=λwl l=>ud wl l h;have F:=h.P;have R:=jm F;have q:∀y,afJ (Q st) (st.set I.p y)=st.set I.p y:=λy=>aas (by simp);by_cases g:r.e=0;by_cases o:r.aL<T.fu;have z:pI C r=Y:=by simp[pI,g,s,o]
 have m:=h.aK (cj r) f I.iv rfl rfl rfl rfl h.iv;rw[z,af rfl];have v:=wk r.aL (by omega);have H:¬(T.fu:Int)<=(r.aL:Int):=by omega
 refine⟨_,?_,λl=>?_,m⟩;simp;refine aG (sf:=Uj) rfl rfl rfl ?_;simp[Uj,j,g,F,cQ,jY,p5,uK,cut,H,v,cj,bw,AV.aD,AV.aH,aB,q,aA,ay];have z:pI C r=X:=by simp[pI,g,s,o]
 have k:stop r={ r with e:=3 }:=by unfold stop;grind
 have m:=h.aK { r with e:=3 } f I.iv rfl rfl rfl rfl h.iv;rw[z,U (by simp),k];have H:(T.fu:Int)<=(r.aL:Int):=by omega
 refine⟨_,?_,λl=>?_,m⟩;simp;refine aG (sf:=Uj) rfl rfl rfl ?_;simp[Uj,j,g,F,cQ,jY,p5,uK,cut,H,bw,AV.aD,AV.aH,aB,q,aA,ay];have z:pI C r=X:=by simp[pI,g]
 have k:stop r=r:=by unfold stop;grind
 rw[z,U (by simp),k];refine⟨st,rfl,λl=>?_,h⟩;refine aG (sf:=Uj) rfl rfl rfl ?_;simp[Uj,j,g]
theorem tO(h:ee T ai (f::L) r I st)(v c):
  ∃st',Q st'=Q st/\(∀l,(bh S).call 0 l 169 [.ptr I.p 0 0 0,.int .i64 v,.int .i64 c] st=Z (.int .i64 v,st'))/\ee T ai (f::L) (eP r c) I st':=by
 obtain⟨j,g,B,R⟩:=sI h c;have U:afJ (Q st) j=j:=aas (by omega);refine⟨j,g,λl=>?_,R⟩;refine aG (sf:=al7) rfl rfl rfl ?_;simp[al7,B,U]
theorem L1{s q v}(h:s≠[]):lV s q v=.mu q v:=U h
theorem Ht(W w)(h:ee T ai L r I st)(y:Q r.s<1000000)(a):
  (bh S).call W w 74 [.ptr I.p 0 0 11,.int .i64 a] st=Z (.fC [.int .i64 (AU r.s a).1,.int .i64 (AU r.s a).2],st):=by
 have F:=h.P;refine aG (sf:=s74) rfl rfl rfl ?_;unfold AU;by_cases r0:a<1;rw[ah];simp[s74,r0];by_cases H:r.s=[];have B:0<a:=by omega
 rw[H,U (by simp;omega)];have g:lV r.s I.q I.v=.aF:=by rw[H];rfl
 simp[s74,r0,F,cQ,jY,g,cut,B];have g:=h.S H;have m:=h.sl;by_cases R:(Q r.s:Int)<a;rw[ah];simp[s74,r0,F,cQ,jY,L1 H,g,cut,m,R];obtain⟨k,rfl⟩:∃k:Nat,a=(k:Int)+1:=⟨(a-1).toNat,by omega⟩;have o:k<Q I.gm:=by omega
 have j:k<Q r.s:=by omega
 rw[dM];have t:IntKind.i64.wrap (k:Int)=(k:Int):=by rw[dg]<;>omega
 have x:((k:Int)+1-1).toNat=k:=by omega
 have l:=h.el k o j;simp[s74,r0,F,cQ,jY,L1 H,g,cut,m,R,t,j,l]
theorem AZ(w l)(h:ee T ai L r I st)(O:Q r.s<1000000)(a j):
  (bh S).call w l 72 [.ptr I.p 0 0 11,.int .i64 a,.int .i64 j] st=Z (.fC [.int .i64 (lO r.s a j).1,.int .i64 (lO r.s a j).2],st):=by
 have F:=h.P;have o:=λw l=>Ht w l h O a;have v:=h.sl;refine aG (sf:=s72) rfl rfl rfl ?_;unfold lO kU;by_cases x:1<=a/\a<=(Q r.s:Int);have q:r.s≠[]:=by grind
 have M:=h.S q;obtain⟨k,rfl⟩:∃k:Nat,a=(k:Int)+1:=⟨(a-1).toNat,by omega⟩;have t:k<Q I.gm:=by omega
 have rI:k<Q r.s:=by omega
 have G:=h.el k t rI;have z:((k:Int)+1-1).toNat=k:=by omega
 have B:r.s.getD k []=r.s[k]:=by grind
 have g:AU r.s ((k:Int)+1)=((Q r.s[k]:Int),0):=by simp_all [AU]
 rw[g]at o;rw[af x,z,B];have R:IntKind.i64.wrap (k:Int)=(k:Int):=by rw[dg]<;>omega
 by_cases j0:j<0;have H:¬(0<=j/\j<(Q r.s[k]:Int)):=by omega
 simp_all [s72];by_cases j1:j<(Q r.s[k]:Int);obtain⟨m,rfl⟩:∃m:Nat,j=m:=⟨j.toNat,by omega⟩;have N:m<Q r.s[k]:=by omega
 have H:0<=(m:Int)/\(m:Int)<(Q r.s[k]:Int):=by omega
 have J:¬(Q r.s[k]:Int)<=(m:Int):=by omega
 have y:¬Q r.s[k]<=m:=by omega
 have e3:r.s[k].getD m 0=r.s[k][m]:=by grind
 rw[af H];have W:((m:Int)<0)=False:=eq_false (by omega);simp[s72,o,W,J,F,cQ,jY,L1 q,M,cut,R,t,G,aT,N];have H:¬(0<=j/\j<(Q r.s[k]:Int)):=by omega
 rw[U H];have J:(Q r.s[k]:Int)<=j:=by omega
 simp[s72,o,j0,J];simp_all [AU,U,s72]
theorem yF(h:ee T ai L r I st)(hs:Q r.s<1000000)(a j v):
  ∃st',Q st'=Q st/\(∀l,(bh S).call 0 l 73 [.ptr I.p 0 0 11,.int .i64 a,.int .i64 j,.int .i64 v] st=Z (.int .i64 (kU r.s a j),st'))/\ee T ai L { r with s:=uF r.s a j v } I st':=by
 have J:=h.P;have o:=λwl l=>AZ wl l h hs a j;have z:=h.sl;have uB:∀i y,afJ (Q st) (st.set i y)=st.set i y:=λi y=>aas (by simp);by_cases w:kU r.s a j=0;have N:(1<=a/\a<=(Q r.s:Int))/\(0<=j/\j<(Q (r.s.getD (a-1).toNat []):Int)):=by
  unfold kU at w;omega
 obtain⟨h1,G⟩:=N;have x:r.s≠[]:=by grind
 have R:=h.S x;obtain⟨k,rfl⟩:∃k:Nat,a=(k:Int)+1:=⟨(a-1).toNat,by omega⟩;obtain⟨m,rfl⟩:∃m:Nat,j=m:=⟨j.toNat,by omega⟩;have H:k<Q I.gm:=by omega
 have rI:k<Q r.s:=by omega
 have O:=h.el k H rI;have B:((k:Int)+1-1).toNat=k:=by omega
 have F:r.s.getD k []=r.s[k]:=by grind
 rw[B,F]at G;have hm:m<Q r.s[k]:=by omega
 have hw:IntKind.i64.wrap (k:Int)=(k:Int):=by rw[dg]<;>omega
 have M:=h.atL k H (r.s[k].set m v);have t:uF r.s ((k:Int)+1) m v=r.s.set k (r.s[k].set m v):=by simp_all [uF]
 have q:(lO r.s ((k:Int)+1) m).2=0:=by unfold lO;grind
 rw[q]at o;rw[t,w];refine⟨_,by simp,λl=>?_,M⟩;refine aG (sf:=s73) rfl rfl rfl ?_;have W:∀g:List Int,aT (g.set m v)=(aT g).set m [.int .i64 v]:=λg=>by simp[aT,List.map_set]
 have U:m<Q (aT r.s[k]):=by simp_all
 have Xh:(aT r.s[k])[m]?=Z [.int .i64 r.s[k][m]]:=by simp_all
 simp[s73,o,J,cQ,jY,L1 x,R,cut,hw,H,O,hm,bw,AV.aD,AV.aH,aB,uB,W];have t:uF r.s a j v=r.s:=by unfold uF;grind
 have q:(lO r.s a j).2=kU r.s a j:=by unfold lO;grind
 rw[q]at o;rw[t];refine⟨st,rfl,λl=>?_,h⟩;refine aG (sf:=s73) rfl rfl rfl ?_;simp[s73,o,w]
end Gm
namespace Gm
open Ax Go aM V7 jb jn qu
variable {T:Px}{ai:Nat}{L:List Fm}{r:Rs}{I:v9}{st st':aO}{f:Fm}
theorem Gg(w l b st):(bh S).call w l 120 [.bool b] st=Z (.int .i64 (mG b),st):=by
 refine bu (sf:=amm) rfl rfl rfl rfl rfl ?_;cases b<;>simp[amm,mG]
theorem aoF(w l op a b)(M:op=17\/op=18)(st):(bh S).call w l 119 [.int .i64 op,.int .i64 a,.int .i64 b] st=Z (.fC [.int .i64 (AT op a b).1,.int .i64 (AT op a b).2],st):=by
 refine bu (sf:=acV) rfl rfl rfl rfl rfl ?_;unfold AT;by_cases J:b=0;subst J;rcases M with rfl|rfl<;>simp[acV];by_cases B:b = -1
 ·subst B;rcases M with rfl|rfl;all_goals simp_all [acV]
 rcases M with rfl|rfl<;>simp[acV,J,B]
theorem Vs(w l op a b st):(bh S).call w l 70 [.int .i64 op,.int .i64 a,.int .i64 b] st=Z (.fC [.int .i64 (AT op a b).1,.int .i64 (AT op a b).2],st):=by
 have H:=λw l b st=>Gg w l b st;have p:=λw l h st=>aoF w l op a b h st;refine bu (sf:=Qe) rfl rfl rfl rfl rfl ?_;by_cases v:op=17;simp_all [Qe];by_cases B:op=18;simp_all [Qe];clear p;unfold AT;by_cases g:op=14;subst g;simp[Qe];by_cases k:op=15;subst k;simp[Qe];by_cases y:op=16;subst y;simp[Qe];by_cases x:op=19;subst x;simp[Qe,H];by_cases z:op=20;subst z;simp[Qe,H];by_cases N:op=21;subst N;simp[Qe,H];by_cases o:op=22;subst o;simp[Qe,H];by_cases m:op=23;subst m;by_cases j:a=0;simp_all [Qe];by_cases J:b=0;simp_all [Qe];simp_all [Qe];by_cases U:op=24;subst U;by_cases j:a=0;subst j;by_cases J:b=0;simp_all [Qe];simp[Qe,H,J];simp[Qe,H,j];simp_all [Qe]
theorem XJ(w l op a st):(bh S).call w l 71 [.int .i64 op,.int .i64 a] st=Z (.int .i64 (unI op a),st):=by
 have H:=λw l b st=>Gg w l b st;refine bu (sf:=s71) rfl rfl rfl rfl rfl ?_;unfold unI;by_cases t:op=12;subst t;simp[s71];by_cases z:op=13;subst z;simp[s71,H];simp[s71,t,z]
def S5(n m:Nat):List iW:=[.rows 0 1 (aag n [.int .i64 0]),.rows 0 1 [[.mu m 0]]]
def S6(T:Px)(L:List Fm)(r:Rs)(I:v9)(q v:Nat):iW:=.rows 0 17 [jY T I.iv r.e r.code (oV r.out I.o I.ov) r.aL (.mu q v) I.g r.nf (vV (p5 L) (uK I)) (p5 L).done (p5 L).res]
def sA0(T:Px)(L:List Fm)(r:Rs)(I:v9)(st:aO)(n:Nat):aO:=st.set I.p (S6 T L r I (Q st+2) 0)++(S5 n (Q st)++[.rows 0 1 [[.mu (Q st) 0]]])
def sA1(T:Px)(L:List Fm)(r:Rs)(I:v9)(st:aO)(n:Nat):aO:=(st.set I.q (.rows (I.v+1) 1 ((I.gm.map λi=>[.mu i 0])++[[.mu (Q st) 0]]))).set I.p (S6 T L r I I.q (I.v+1))++S5 n (Q st)
def IA0(I:v9)(n:Nat):v9:={ I with q:=n+2,v:=0,gm:=I.gm++[n],ku:=λj=>if j=n\/j=n+2 then .st else I.ku j }
def IA1(I:v9)(n:Nat):v9:={ I with q:=I.q,v:=I.v+1,gm:=I.gm++[n],ku:=λj=>if j=n\/j=I.q then .st else I.ku j }
theorem ae6(n):aT (aag n 0)=aag n [.int .i64 0]:=by simp[aT]
theorem al0(h:ee T ai L r I st)(H:r.s=[])(n):ee T ai L { r with s:=r.s++[aag n 0] } (IA0 I (Q st)) (sA0 T L r I st n):=by
 have l:=jm h.P;have g:I.gm=[]:=by
  have:=h.sl
  grind
 refine h.alloc (aal _) (.inr (by omega)) (by omega) (λj k m _=>?_) ?_ ?_ ?_
 grind [sA0]
 grind [sA0,S6]
 all_goals simp_all [sA0,S5,ae6]
theorem al1(h:ee T ai L r I st)(H:r.s≠[])(n):ee T ai L { r with s:=r.s++[aag n 0] } (IA1 I (Q st)) (sA1 T L r I st n):=by
 have m:=jm h.P;have o:=jm (h.S H);have k:I.q≠I.p:=λe=>by
  have g:=h.lq H;rw[e,h.lp]at g;cases g
 refine h.alloc (aal _) (.inl ⟨H,rfl⟩) (by omega) (λj l t z=>?_) ?_ ?_ ?_
 grind [sA1,aaj]
 grind [sA1,S6]
 grind [sA1,S5,ae6]
 grind [sA1,aar]
theorem Vp(w l)(_ n:Int)(st P)(h:n<0\/50<n):(bh S).call w l 77 [P,.int .i64 n] st=Z (.fC [.int .i64 0,.int .i64 4],st):=by
 refine aG (sf:=s77) rfl rfl rfl ?_;by_cases N:n<0;simp[s77,N];have g:50<n:=by omega
 simp[s77,N,g]
theorem Vq(h:ee T ai L r I st)(hs:Q r.s<1000000)(n:Nat)(hn:n<=50):
  ∃st' t,Q st<=Q st'/\(∀g,g<=ai->(bh S).call 0 g 77 [.ptr I.p 0 0 11,.int .i64 n] st=Z (.fC [.int .i64 (rG r n).1,.int .i64 0],st'))/\t.p=I.p/\t.fl=I.fl/\ee T ai L (rG r n).2 t st':=by
 have F:=h.P;have Jo:=h.Hz;have ZW:=jm F;have hc:(n:Int)*8<=dj:=by unfold dj;omega
 have g1:(st++[iW.rows 0 1 (aag n [.int .i64 0]),.rows 0 1 [[.mu (Q st) 0]]])[Q st+1]?=Z (.rows 0 1 [[.mu (Q st) 0]]):=by simp
 have n0:¬((n:Int)<0):=by omega
 have n1:¬((50:Int)<(n:Int)):=by omega
 have N:=λl=>xI.pM F l;have J:=λl y=>xI.v8 F l y;by_cases H:r.s=[];refine⟨sA0 T L r I st n,IA0 I (Q st),by simp[sA0],λg Ml=>?_,rfl,rfl,al0 h H n⟩;have j:g<=I.p:=by omega
 have w:=λbx=>xI.Vk (ai:=g) (bx:=bx) g1;have U:∀x l,(st.set I.p x++l)[I.p]?=Z x:=λx l=>by
  grind
 have E2:∀x a b c,(st.set I.p x++[a,b,c])[Q st+2]?=Z c:=λx a b c=>by
  simp_all
 have W:lV r.s I.q I.v=.aF:=by rw[H];rfl
 have k:(rG r n).1=1:=by grind [rG]
 rw[k];refine aG (sf:=s77) rfl rfl rfl ?_;simp[s77,n0,n1];rw[iu];simp[cY,F,cQ,jY,W,cut,j,N,J,hc,xI.Hu,w,fh,cA,bw,AV.aD,AV.aH,aB,bP,eu.aX];refine⟨_,_,⟨rfl,rfl⟩,?_⟩;simp[F,cQ,jY,W,cut,N,bO,AV.cP,AV.aj,kz.de,AV.de,U,sA0,S5,S6];refine⟨sA1 T L r I st n,IA1 I (Q st),by simp[sA1],λg Ml=>?_,rfl,rfl,al1 h H n⟩;have B:=h.S H;have j:g<=I.p:=by omega
 have mI:g<=I.q:=by
  have:=h.low I.q (by rw[h.lq H];decide);omega
 have Qy:I.p≠I.q:=λe=>by
  grind
 have Tl:=jm B;have m:=h.sl;have G:=λl=>xI.pM B l;have O:=λl y=>xI.v8 B l y;have o:∀y,(st.set I.q y)[I.p]?=Z (.rows 0 17 [cQ T L r I]):=λy=>by grind
 have Vn:=λy l=>xI.pM (o y) l;have M:=λy l z=>xI.v8 (o y) l z;have U:∀y x l,((st.set I.q y).set I.p x++l)[I.p]?=Z x:=λy x l=>by
  grind
 have R:∀y x l,((st.set I.q y).set I.p x++l)[I.q]?=Z y:=λy x l=>by
  grind
 have w:=λbx=>xI.Vl (ai:=g) (bx:=bx) g1 (G _) (by simp[m,dj];omega) mI;have k:(rG r n).1=(Q r.s:Int)+1:=rfl;rw[k];refine aG (sf:=s77) rfl rfl rfl ?_;simp[s77,n0,n1];rw[iu];simp only[cQ,jY,L1 H]at F o Vn N J;simp[cY,F,cut,j,O,Vn,M,hc,xI.Hu,w,fh,cA,bw,AV.aD,AV.aH,aB,bP,eu.aX];refine⟨_,_,⟨rfl,rfl⟩,?_⟩;simp[F,cut,N,bO,AV.cP,AV.aj,kz.de,AV.de,U,R,m,sA1,S5,S6,jY]
end Gm
namespace Gm
open Ax Go aM V7 jb jn qu
variable {T:Px}{ai:Nat}{L:List Fm}{r:Rs}{I:v9}{st st':aO}{f:Fm}
theorem ajk(m):(if (if 8<m then 8 else m)<0 then 0 else (if 8<m then 8 else m))=(lX m):=by
 unfold lX;repeat' split
 all_goals omega
theorem ajl(m):(if 0<(if 8<m then 8 else m) then (if 8<m then 8 else m) else 0)=(lX m):=by
 unfold lX;repeat' split
 all_goals omega
theorem Vo(h:ee T ai L r I st)(hs:Q r.s<1000000)(m):
  ∃st' B,Q st<=Q st'/\(∀g,g<=ai->(bh S).call 0 g 75 [.ptr I.p 0 0 11,.int .i64 m] st=Z (.int .i64 (rG r (lX m)).1,st'))/\B.p=I.p/\B.fl=I.fl/\ee T ai L (rG r (lX m)).2 B st':=by
 have aEK:=ajk m;have k:=ajl m;have hn:lX m<=50:=by
  unfold lX;repeat' split
  all_goals omega
 generalize lX m=n at *;have F:=h.P;have Jo:=h.Hz;have t:=jm F;have hc:(n:Int)*8<=dj:=by unfold dj;omega
 have g1:(st++[iW.rows 0 1 (aag n [.int .i64 0]),.rows 0 1 [[.mu (Q st) 0]]])[Q st+1]?=Z (.rows 0 1 [[.mu (Q st) 0]]):=by simp
 have N:=λl=>xI.pM F l;have J:=λl y=>xI.v8 F l y;by_cases H:r.s=[];refine⟨sA0 T L r I st n,IA0 I (Q st),by simp[sA0],λg Ml=>?_,rfl,rfl,al0 h H n⟩;have w:g<=I.p:=by omega
 have M:=λbx=>xI.Vk (ai:=g) (bx:=bx) g1;have oQ:∀x l,(st.set I.p x++l)[I.p]?=Z x:=λx l=>by
  rw[aaj (by simpa using t),aar t]
 have E2:∀x a b c,(st.set I.p x++[a,b,c])[Q st+2]?=Z c:=λx a b c=>by
  rw[List.getElem?_append_right (by simp)];simp
 have Qf:lV r.s I.q I.v=.aF:=by rw[H];rfl
 have G:(rG r n).1=1:=by unfold rG;rw[H];rfl
 rw[G];refine aG (sf:=s75) rfl rfl rfl ?_;simp[s75];rw[iu];simp[cY,F,cQ,jY,Qf,cut,w,N,J,hc,xI.Hu,M,fh,cA,bw,AV.aD,AV.aH,aB,bP,eu.aX,k];refine⟨_,_,⟨rfl,rfl⟩,?_⟩;simp[F,cQ,jY,Qf,cut,N,bO,AV.cP,AV.aj,kz.de,AV.de,oQ,sA0,S5,S6];refine⟨sA1 T L r I st n,IA1 I (Q st),by simp[sA1],λg Ml=>?_,rfl,rfl,al1 h H n⟩;have O:=h.S H;have w:g<=I.p:=by omega
 have mI:g<=I.q:=by
  have:=h.low I.q (by rw[h.lq H];decide);omega
 have Qy:I.p≠I.q:=λe=>by
  have h1:=h.lq H;rw[<-e,h.lp]at h1;cases h1
 have Tl:=jm O;have j:=h.sl;have R:=λl=>xI.pM O l;have W:=λl y=>xI.v8 O l y;have o:∀y,(st.set I.q y)[I.p]?=Z (.rows 0 17 [cQ T L r I]):=λy=>by rw[aao Qy.symm];exact F
 have Vn:=λy l=>xI.pM (o y) l;have U:=λy l z=>xI.v8 (o y) l z;have oQ:∀y x l,((st.set I.q y).set I.p x++l)[I.p]?=Z x:=λy x l=>by
  rw[aaj (by simpa using t),aar (by simpa using t)]
 have hsq:∀y x l,((st.set I.q y).set I.p x++l)[I.q]?=Z y:=λy x l=>by
  rw[aaj (by simpa using Tl),aao Qy,aar Tl]
 have M:=λbx=>xI.Vl (ai:=g) (bx:=bx) g1 (R _) (by simp[j,dj];omega) mI;have G:(rG r n).1=(Q r.s:Int)+1:=rfl;rw[G];refine aG (sf:=s75) rfl rfl rfl ?_;simp[s75];rw[iu];simp only[cQ,jY,L1 H]at F o Vn N J;simp[cY,F,cut,w,W,Vn,U,hc,xI.Hu,M,fh,cA,bw,AV.aD,AV.aH,aB,bP,eu.aX,k];refine⟨_,_,⟨rfl,rfl⟩,?_⟩;simp[F,cut,N,bO,AV.cP,AV.aj,kz.de,AV.de,oQ,hsq,j,sA1,S5,S6,jY]
end Gm
namespace Gm
open Ax Go aM V7 jb jn qu K9 S9
structure Prg (T:Px)(C:Cx)(D:Dm):Prop where
 fuel:C.fuel=T.fu
 fu:T.fu<1000000
 bs:C.bs=T.bs
 aR:C.aR=T.H.bN.map (·.2.length)
 ng:C.ng=D.ng
 gl:D.ng<1000000
 nr:D.nr=T.H.bN.length
 rs:∀s∈T.H.bN,s.2.length<1000000
 ps:D.ps.length=T.bs.length
 pv:∀(i:Nat) (h:i<D.ps.length) (h2:i<T.bs.length),D.ps[i]<=T.bs[i].vars.length
 wb:∀b∈T.bs,WB D b.code/\sA b.vars.length b.code/\Sm.eJ b.code<1000000000/\b.vars.length<1000000
 nb:T.bs.length<1000000000
variable {C:Cx}{fE:E->Fm->Rs->Int×Rs}{fS:Sm->Rs×Fm->Rs×Fm}
def Fz(f:Fm):Prop:=f.done=X->f.res=0
def PE(T:Px)(C:Cx)(D:Dm)(n:Nat)(fE:E->Fm->Rs->Int×Rs):Prop:=∀(ai:Nat)(L:List Fm)(r:Rs)(I:v9)(st:aO)(f:Fm)(e:E),ee T ai (f::L) r I st->WE D e->DD (Q f.vs) e->E.sz e<1000000000->Gd C 0 r->C.fuel<=r.aL+n->
 f.done=X->f.res=0->∃st' t,(bh S).call 0 ai 159 [.ptr I.p 0 0 0,.agg e.aK] st=Z (.int .i64 (fE e f r).1,st')/\t.p=I.p/\t.fl=I.fl/\ee T ai (f::L) (fE e f r).2 t st'
def PS(T:Px)(C:Cx)(D:Dm)(n:Nat)(fS:Sm->Rs×Fm->Rs×Fm):Prop:=∀(ai:Nat)(L:List Fm)(r:Rs)(I:v9)(st:aO)(f:Fm)(s:Sm),ee T ai (f::L) r I st->WS D s->IE (Q f.vs) s->Sm.sz s<1000000000->Gd C 0 r->C.fuel<=r.aL+n->
 f.done=X->f.res=0->∃st' t,(bh S).call 0 ai 139 [.ptr I.p 0 0 0,.agg s.aK] st=Z (.fC [],st')/\t.p=I.p/\t.fl=I.fl/\ee T ai ((fS s (r,f)).2::L) (fS s (r,f)).1 t st'
theorem P8(z:∀s x,Fz x.2->Fz (fS s x).2):∀l x,Fz x.2->Fz (gj fS l x).2
 |[],_,h=>h|s::l,x,h=>by
  unfold gj;split;exact h;exact P8 z l _ (z s x h)
theorem Vw(z:∀s x,Fz x.2->Fz (fS s x).2)(c b):∀k x,Fz x.2->Fz (cz C fE fS c b k x).2
 |0,x,h=>by
  grind [cz]
 |k+1,x,h=>by
  unfold cz;split;exact h;split;split;exact h;exact Vw z c b k _ (P8 z b _ h);exact h
theorem atN(z:∀s x,Fz x.2->Fz (fS s x).2)(k ref B m l x)(h:Fz x.2):Fz (jQ fS k ref B m l x).2:=by
 unfold jQ;split;unfold cG;split<;>exact h;split
 grind [P8]
 split;intro e;cases e
 grind
theorem aoG(z:∀s x,Fz x.2->Fz (fS s x).2)(s x)(h:Fz x.2):Fz (gQ fE fS s x).2:=by
 grind [gQ,pL,atN]
theorem ajm:∀n,∀s x,Fz x.2->Fz ((ev C n).2 s x).2
 |0,s,x,h=>by
  show Fz ((if s.k=1 then x else if s.k=6 then cz C (λ_ _ r=>(0,stop r)) (λ_ x=>x) (jR s.es) s.bd 0 x else (stop x.1,x.2)):Rs×Fm).2
  grind [Vw]
 |n+1,s,x,h=>by
  show Fz ((if s.k=1 then x else if s.k=6 then cz C (ev C n).1 (ev C n).2 (jR s.es) s.bd (n+1) x
    else if pI C x.1=Y then gQ (ev C n).1 (ev C n).2 s (cj x.1,x.2) else (stop x.1,x.2)):Rs×Fm).2
  split;exact h;split;exact Vw (ajm n) _ _ _ _ h;split;exact aoG (ajm n) s _ h;exact h
structure Hy (T:Px)(C:Cx)(D:Dm)(n:Nat)(fE:E->Fm->Rs->Int×Rs)(fS:Sm->Rs×Fm->Rs×Fm):Prop where
 oE:∀e f r,On r (fE e f r).2
 oS:∀s x,On x.1 (fS s x).1
 gE:GE C fE
 gS:GS C fS
 zS:∀s x,Fz x.2->Fz (fS s x).2
 E:PE T C D n fE
 S:PS T C D n fS
variable {T:Px}{D:Dm}{n:Nat}{ai:Nat}{L:List Fm}{r:Rs}{I:v9}{st st':aO}{f:Fm}
def G6(a:List Int)(x:Option (List Int)×Rs):Option (List Int)×Rs:=match x with|(Z l,r)=>(Z (a++l),r)|(K,r)=>(K,r)
theorem HA{e l}:vals fE f (e::l) r=if (fE e f r).2.e≠0 then (K,(fE e f r).2) else match vals fE f l (fE e f r).2 with
  |(Z vs,g)=>(Z ((fE e f r).1::vs),g)
  |(K,g)=>(K,g):=rfl
theorem Z6{s l x}:gj fS (s::l) x=if x.2.done=Y\/x.1.e≠0 then x else gj fS l (fS s x):=rfl
theorem ym(H:Hy T C D n fE fS)(l)(h:ee T ai (f::L) r I st)(hw:WL D l)(hr:AF (Q f.vs) l)(fM:E.eJ l<1000000000)(hG:Gd C 0 r)(hn:C.fuel<=r.aL+n)(hd:f.done=X)(h0:f.res=0)(he:r.e=0):
  ∃st' t vs,(bh S).call 0 ai 161 [.ptr I.p 0 0 0,bL l] st=Z (cw 1 (aT vs),st')/\t.p=I.p/\t.fl=I.fl/\ee T ai (f::L) (vals fE f l r).2 t st'/\(((vals fE f l r).1=Z vs/\(vals fE f l r).2.e=0)\/((vals fE f l r).1=K/\(vals fE f l r).2.e≠0)):=by
 have hz:cU 11 (bL l)=Y:=ox;have F:bn (bL l)=Y:=cu;have G:(bL l).aj=bL l:=ck;have z:bf (bL l)=E.rows l:=br;have hlen:=E.mq l;rw[xC]at hw;rw[nh]at hr;obtain⟨v',st',s,t,vs,rfl,h2⟩:∃v' st',(bh S).call 0 ai 161 [.ptr I.p 0 0 0,bL l] st=Z (v',st')/\∃t vs,v'=cw 1 (aT vs)/\t.p=I.p/\t.fl=I.fl/\ee T ai (f::L) (vals fE f l r).2 t st'/\
   (((vals fE f l r).1=Z vs/\(vals fE f l r).2.e=0)\/((vals fE f l r).1=K/\(vals fE f l r).2.e≠0)):=by
  refine ki (sf:=ami) rfl rfl rfl ?_;generalize bL l=lv at *;simp[ami];refine bM Wx.eq_1 (λx:Nat×List Int×Rs×v9×aO=>⟨[(0,.val (.ptr I.p 0 0 0)),(1,.val lv),(5,.val (cw 1 (aT x.2.1))),(6,.val (.int .i64 x.1))],[],x.2.2.2.2⟩)
   (λx=>x.1<=Q l/\Q x.2.1=x.1/\((x.2.2.1.e=0/\G6 x.2.1 (vals fE f (l.drop x.1) x.2.2.1)=vals fE f l r)\/(x.2.2.1.e≠0/\vals fE f l r=(K,x.2.2.1)))/\x.2.2.2.1.p=I.p/\x.2.2.2.1.fl=I.fl/\ee T ai (f::L) x.2.2.1 x.2.2.2.1 x.2.2.2.2/\Gd C 0 x.2.2.1/\C.fuel<=x.2.2.1.aL+n) (λx=>Q l-x.1) (0,[],r,I,st) (by simp[cw,aT]) ⟨by simp,rfl,.inl ⟨he,?_⟩,rfl,rfl,h,hG,hn⟩ ?_
  simp only[List.drop_zero];rcases vals fE f l r with⟨_|v,y⟩<;>rfl;rintro⟨k,g,R,I1,s1⟩ ⟨hk,o,j,w,il,s,M,n1⟩ ih;simp only at hk o j w il s M n1 ih;have P:=λwl li=>ud wl li s;rw[w]at P;have gg0:bn (cw 1 (aT g))=Y:=ey;by_cases B:k<Q l;rcases j with⟨q0,j⟩|⟨q0,j⟩;have DE:=wk k (by omega);have N:=aah B;obtain⟨s2,I2,J,ip2,W,h2⟩:=H.E ai L R I1 s1 f l[k] s (hw _ N) (hr _ N) (by have:=E.sw N;omega) M n1 hd h0;have S7:=H.oE l[k] f R;have g2:=(H.gE 0 l[k] f R M).1;rw[w]at J;rw[aan B,HA]at j;have mY:k<Q (E.rows l):=by simpa [jI] using B
  have DI:=Ch B mY;have e1:bn (bL l[k].aP)=Y:=cu;have e2:(bL l[k].aP).aj=bL l[k].aP:=ck;have tV:wS 1 8 (cw 1 (aT g)) [[.int .i64 (fE l[k] f R).1]]=Z (cw 1 (aT (g++[(fE l[k] f R).1]))):=by
   rw[iw (by rfl) (by simp[dj];omega)];simp
  rw[E.aU]at J DI;have iD:=ih (k+1,g++[(fE l[k] f R).1],(fE l[k] f R).2,I2,s2) ⟨by grind,by simp[o],?_,by rw[ip2,w],by rw[W,il],h2,g2,by have:=S7.st;grind⟩ (by grind);simp only at iD;generalize fE l[k] f R=y at *;generalize l[k]=x at *;generalize bL x.aP=xe at *;have gg1:bn (cw 1 (aT (g++[y.1])))=Y:=ey;generalize cw 1 (aT (g++[y.1]))=m1 at *;generalize cw 1 (aT g)=m0 at *;simp[B,DE,hz,F,G,z,DI,J,e2,P,q0,tV,AV.aj];exact iD;by_cases q:(fE l[k] f R).2.e=0;rw[U (by grind)]at j
  grind [G6]
  rw[af (by grind)]at j;exact .inr ⟨q,by rw[<-j];rfl⟩;rw[j];generalize O:cw 1 (aT g)=m0 at *;simp[B,F,G,z,P,q0,gw]
  grind
  have dQ:k=Q l:=by omega
  have m:(R.e=0/\vals fE f l r=(Z g,R))\/(R.e≠0/\vals fE f l r=(K,R)):=by
   grind [vals,G6]
  generalize O:cw 1 (aT g)=m0 at *;rcases m with⟨q0,m⟩|⟨q0,m⟩;rw[m];simp[B,F,G,z,q0,gw]
  grind
  rw[m];simp[B,F,G,z,q0,gw]
  grind
 grind
theorem Gn(H:Hy T C D n fE fS)(l)(h:ee T ai (f::L) r I st)(hw:WB D l)(hr:sA (Q f.vs) l)(fM:Sm.eJ l<1000000000)(hG:Gd C 0 r)(hn:C.fuel<=r.aL+n)(N:Fz f):
  ∃st' t,(bh S).call 0 ai 94 [.ptr I.p 0 0 0,cn l] st=Z (.fC [],st')/\t.p=I.p/\t.fl=I.fl/\ee T ai ((gj fS l (r,f)).2::L) (gj fS l (r,f)).1 t st':=by
 have hz:cU 9 (cn l)=Y:=O2;have y:bn (cn l)=Y:=cW;have z:(cn l).aj=cn l:=bZ;have v:bf (cn l)=Sm.rows l:=br;have hlen:=Sm.mq l;rw[aeL]at hw;rw[xd]at hr;obtain⟨v',st',m,rfl,t,h2⟩:∃v' st',(bh S).call 0 ai 94 [.ptr I.p 0 0 0,cn l] st=Z (v',st')/\v'=.fC []/\∃t,t.p=I.p/\t.fl=I.fl/\ee T ai ((gj fS l (r,f)).2::L) (gj fS l (r,f)).1 t st':=by
  refine ki (sf:=s94) rfl rfl rfl ?_;generalize cn l=lv at *;simp[s94];refine bM ace.eq_1 (λx:Nat×(Rs×Fm)×v9×aO=>⟨[(0,.val (.ptr I.p 0 0 0)),(1,.val lv),(4,.val (.int .i64 x.1))],[],x.2.2.2⟩)
   (λx=>x.1<=Q l/\gj fS (l.drop x.1) x.2.1=gj fS l (r,f)/\x.2.2.1.p=I.p/\x.2.2.1.fl=I.fl/\ee T ai (x.2.1.2::L) x.2.1.1 x.2.2.1 x.2.2.2/\Gd C 0 x.2.1.1/\Q x.2.1.2.vs=Q f.vs/\C.fuel<=x.2.1.1.aL+n/\Fz x.2.1.2) (λx=>Q l-x.1) (0,(r,f),I,st) (by simp) ⟨by simp,by simp,rfl,rfl,h,hG,rfl,hn,N⟩ ?_
  rintro⟨k,⟨g,F⟩,I1,s1⟩ ⟨hk,j,w,il,m,J,v1,n1,z1⟩ ih;simp only at hk j w il m J v1 n1 z1 ih;have s:=λwl li=>ud wl li m;rw[w]at s;have M:=m.P;rw[w]at M;by_cases R:k<Q l;rw[aan R,Z6]at j;by_cases q:F.done=Y\/g.e≠0;rw[af q]at j;rw[<-j];by_cases B:g.e=0;have o:F.done=Y:=by grind
  simp[R,y,z,v,s,B,M,cQ,jY,p5,cut,o,mA]
  grind
  simp[R,y,z,v,s,B,mA]
  grind
  rw[U q]at j;have DE:=wk k (by omega);have hm:=aah R;have mY:k<Q (Sm.rows l):=by simpa using R
  have DI:=Dc R mY;obtain⟨e1,b1,l1⟩:bn (bL l[k].es)=Y/\bn (cn l[k].bd)=Y/\bn (cn l[k].el)=Y:=⟨cu,cW,cW⟩;have e2:(bL l[k].es).aj=bL l[k].es:=ck;have b2:(cn l[k].bd).aj=cn l[k].bd:=bZ;have l2:(cn l[k].el).aj=cn l[k].el:=bZ;have o:F.done=X:=by grind
  have B:g.e=0:=Decidable.byContradiction λc=>q (.inr c);obtain⟨s2,I2,G,O,W,h2⟩:=H.S ai L g I1 s1 F l[k] m (hw _ hm) (by grind) (by have:=Sm.sw hm;omega) J n1 o (z1 o);have S7:=H.oS l[k] (g,F);obtain⟨g2,_,v2⟩:=H.gS 0 l[k] (g,F) J;rw[w]at G;have iD:=ih (k+1,fS l[k] (g,F),I2,s2) ⟨by grind,j,by rw[O,w],by rw[W,il],h2,g2,by grind,by have:=S7.st;grind,H.zS _ _ z1⟩ (by grind);simp only at iD;rw[Sm.aU]at G DI;generalize l[k]=x at *;generalize bL x.es=xe,cn x.bd=xb,cn x.el=xl at *;simp[R,DE,hz,y,z,v,DI,G,e2,b2,l2,s,B,M,cQ,jY,p5,cut,o,AV.aj];exact iD;have dQ:k=Q l:=by omega
  rw[dQ,List.drop_length]at j;have Yu:gj fS l (r,f)=(g,F):=by rw[<-j];rfl
  rw[Yu];simp[R,y,z,v,mA]
  grind
 grind
end Gm
namespace Gm
open Ax Go aM V7 jb jn qu K9 S9
variable {T:Px}{C:Cx}{D:Dm}{n:Nat}{fE:E->Fm->Rs->Int×Rs}{fS:Sm->Rs×Fm->Rs×Fm}{ai:Nat}{L:List Fm}{r:Rs}{I:v9}{st st':aO}{f:Fm}
mutual
theorem Nx:∀a:AV,a.de a=Y
 |.agg a|.fC a=>by simp only[AV.de];exact xD a|.eE s a|.iY s a|.raw s a=>by simp only[AV.de,E6,beq_self_eq_true,true_and];exact yy a|.uL s a i k=>by simp only[AV.de,E6,beq_self_eq_true,true_and,and_true];exact yy a|.fn f a b=>by simp only[AV.de,E6,beq_self_eq_true,true_and];exact⟨xD a,xD b⟩|.undef|.gone|.ff|.aF|.gR|.jx|.me|.pP=>rfl|.bool a=>by simp[AV.de]|.int k a=>by simp[AV.de]|.str a=>by simp[AV.de]|.mu i v=>by simp[AV.de]|.ptr a b c d=>by simp[AV.de]|.map i=>by simp[AV.de]
theorem xD:∀l:List AV,AV.vk l l=Y
 |[]=>rfl|a::l=>by simp only[AV.vk,E6];exact⟨Nx a,xD l⟩
theorem yy:∀l:List (List AV),AV.rM l l=Y
 |[]=>rfl|a::l=>by simp only[AV.rM,E6];exact⟨xD a,yy l⟩
end
theorem ae8(a b):aT (a++b)=aT a++aT b:=by simp[aT]
theorem ae9(l)(m:Nat)(z:Q l+m<1000000)(st j)(w:j<=Q st):∃(M v:AV)(x g:List iW)(a:Nat×Nat),
  (∀B,bD 0 j (.j8 1 8) [.val .aF,.val (aN 1 (aT l))] st B=Z (.val M,st++x,B))/\
  (∀B,bD 0 j (.xK 1 8 [.int .i64 0]) [.val M,.val (.int .i64 m)] (st++x) B=Z (.val v,st++g,B))/\
  (∀d r,v=vV ⟨l++aag m 0,r,d⟩ a)/\(l++aag m 0≠[]->a.1=Q st/\(st++g)[Q st]?=Z (.rows a.2 1 (aT (l++aag m 0))))/\AV.aD [v]=V (l++aag m 0=[]):=by
 have p:aT (aag m 0)=aag m [.int .i64 0]:=ae6 m;have s:dO st (aN 1 (aT l))=Z (aT l):=by simp_all
 have y:cy 1 (aT l)=Y:=by simp_all
 have t:cy 1 (aag m [AV.int .i64 0])=Y:=by simp[cy]
 have F:(aT l).all AV.aD=Y:=by simp[aT,AV.aD,AV.aH]
 have R:(m:Int)*8<=dj:=by unfold dj;omega
 have J:(Q l+m)*8<=dj:=by unfold dj;omega
 have N:Q l*8<=dj:=by grind
 have O:m*8<=dj:=by grind
 by_cases k:l=[]
 ·subst k;have H:∀B,bD 0 j (.j8 1 8) [.val .aF,.val (aN 1 (aT []))] st B=Z (.val .aF,st++[],B):=λB=>by
   rw[tc,s,List.append_nil];rfl
  by_cases q:m=0;subst q;refine⟨.aF,.aF,[],[],(0,0),H,λB=>?_,λd r=>rfl,λh=>bH rfl h,rfl⟩
  grind [CY,AV.aD,AV.aH,uN]
  ·refine⟨.aF,.mu (Q st) 0,[],[.rows 0 1 (aag m [.int .i64 0])],(Q st,0),H,λB=>?_,λd r=>?_,λ_=>⟨rfl,by simp[p]⟩,?_⟩;all_goals simp_all [uN,vV]
 ·have G:l++aag m 0≠[]:=by simp[k]
  have S:(aT l).isEmpty=X:=by cases l with|nil=>grind|cons a b=>rfl
  have o:Q (aT l)=Q l:=by simp[aT]
  refine⟨.mu (Q st) 0,.mu (Q st) 1,[.rows 0 1 (aT l)],[.rows 1 1 (aT l++aag m [.int .i64 0])],(Q st,1),λB=>?_,λB=>?_,λd r=>?_,λ_=>⟨rfl,by simp[ae8,p]⟩,?_⟩;simp_all;rw[CY];have U:(st++[iW.rows 0 1 (aT l)])[Q st]?=Z (.rows 0 1 (aT l)):=by simp
  have W:(st++[iW.rows 0 1 (aT l)]).set (Q st) (.rows 1 1 (aT l++aag m [.int .i64 0]))=st++[.rows 1 1 (aT l++aag m [.int .i64 0])]:=by
   grind
  grind [AV.aD,AV.aH,uN]
  all_goals simp_all [vV]
theorem S8(f a):(vV f a).cells=[vV f a]/\(vV f a).cT=Y:=by unfold vV;split<;>simp_all
theorem XT(f a):(vV f a).aj=vV f a:=by unfold vV;split<;>rfl
theorem xW(q:Prg T C D)(H:Hy T C D n fE fS)(i l){AL}(hAL:AL.aj=aN 1 (aT l))(_:bn AL=Y)(h:ee T ai (f::L) r I st)(hi:0<=i)(hb)(hl:Q l<=Q (T.bs[i.toNat]).vars)(N:Gd C 0 r)(hn:C.fuel<=r.aL+n)(hd:f.done=X)(h0:f.res=0):
  ∃st' I',(bh S).call 0 ai 40 [.ptr I.p 0 0 0,.int .i64 i,AL] st=Z (.int .i64 (eF C fS i l r).1,st')/\I'.p=I.p/\I'.fl=I.fl/\ee T ai (f::L) (eF C fS i l r).2 I' st':=by
 have G:=h.P;have XO:=N.nf;by_cases h40:40<=r.nf;obtain⟨s1,l1,t1,r1⟩:=sI h 6;have ec:eF C fS i l r=(0,eP r 6):=by unfold eF;grind
 rw[ec];have t:(40:Int)<=(r.nf:Int):=by omega
 refine⟨s1,I,?_,rfl,rfl,r1⟩;refine aG (sf:=s40) rfl rfl rfl ?_;simp[s40,G,cQ,jY,cut,t,t1];obtain⟨k,rfl⟩:∃k:Nat,i=k:=⟨i.toNat,by omega⟩;have hk:k<Q T.bs:=by omega
 simp only[abu]at hl hb;obtain⟨w1,w2,w3,w4⟩:=q.wb _ (aah hk);have egd:C.bs.getD k B0=T.bs[k]:=by rw[q.bs];simp[hk]
 have t:¬(40:Int)<=(r.nf:Int):=by omega
 have UW:=wk r.nf (by omega);obtain⟨m,hm⟩:∃m,m=Q T.bs[k].vars-Q l:=⟨_,rfl⟩;have hwm:IntKind.i64.wrap ((Q T.bs[k].vars:Int)-(Q l:Int))=(m:Int):=by rw[dg]<;>omega
 have Jo:=h.Hz;have Qa:=jm G;obtain⟨MV,F,XM,x,a,hA,hZ,hV,hX,_⟩:=ae9 l m (by omega) st ai h.aji;obtain⟨g,hg⟩:∃g:Fm,g=⟨l++aag m 0,0,X⟩:=⟨_,rfl⟩;obtain⟨nr,w⟩:∃nr:iW,nr=.rows 0 17 [cQ T (g::f::L) { r with nf:=r.nf+1 } { I with fl:=a::I.fl }]:=⟨_,rfl⟩;obtain⟨s3,B⟩:∃s,s=(st++x).set I.p nr:=⟨_,rfl⟩;have o3:∀j,j<Q st->j≠I.p->s3[j]?=st[j]?:=λj hj iT=>by grind
 have J:s3[I.p]?=Z nr:=by grind
 have R3:=h.push (st':=s3) (a:=a.1) (v:=a.2) (g:=g) (nf:=r.nf+1) (λe=>by grind) o3 (by rw[J,w]) (λe=>by
  grind)
 have G3:Gd C 0 { r with nf:=r.nf+1 }:=⟨N.s,N.o,N.g,N.st,by grind⟩;have VO:Q g.vs=Q T.bs[k].vars:=by grind
 obtain⟨s4,W,fN,ip,il,R4⟩:=Gn H T.bs[k].code R3 w1 (by grind) w3 G3 hn (by rw[hg];intro _;rfl);have ec:eF C fS (k:Int) l r=((gj fS T.bs[k].code ({ r with nf:=r.nf+1 },g)).2.res,{ (gj fS T.bs[k].code ({ r with nf:=r.nf+1 },g)).1 with nf:=(gj fS T.bs[k].code ({ r with nf:=r.nf+1 },g)).1.nf-1 }):=by
  unfold eF;rw[U h40,abu,egd,hg,hm]
 have G4:=Dq H.gS T.bs[k].code 0 ({ r with nf:=r.nf+1 },g) G3;rw[ec];generalize gj fS T.bs[k].code ({ r with nf:=r.nf+1 },g)=y at *;obtain⟨R,y2⟩:=y;simp only at R4 G4 ip il fN ⊢;obtain⟨_,G4n,_⟩:=G4;have P4:=R4.P;rw[ip]at P4;have azG:=jm P4;have rJ:IntKind.i64.wrap ((R.nf:Int)-1)=((R.nf-1:Nat):Int):=by rw[dg]<;>omega
 obtain⟨s5,O⟩:∃s,s=s4.set I.p (.rows 0 17 [cQ T (f::L) { R with nf:=R.nf-1 } { W with fl:=I.fl }]):=⟨_,rfl⟩;have R5:=R4.pop (st':=s5) (nf:=R.nf-1) il (λj hj iT=>by grind) (by grind);refine⟨s5,{ W with fl:=I.fl },?_,ip,rfl,R5⟩;have M:(T.bs.map Bd.aK)[k]'(by grind)=[cM T.bs[k].vars,cn T.bs[k].code,.int .i64 T.bs[k].a]:=by simp[Bd.aK]
 have z1:bn (cM T.bs[k].vars)=Y:=iQ;have z2:(cM T.bs[k].vars).aj=cM T.bs[k].vars:=l8;have z3:bn (cn T.bs[k].code)=Y:=cW;have z4:(cn T.bs[k].code).aj=cn T.bs[k].code:=bZ;have z5:bf (cM T.bs[k].vars)=T.bs[k].vars.map Vd.aK:=br;have b1:cU 3 (aN 3 (T.bs.map Bd.aK))=Y:=jz (by simp[cy,Bd.aK]);have b2:(aN 3 (T.bs.map Bd.aK)).aj=aN 3 (T.bs.map Bd.aK):=cg;have b3:bf (aN 3 (T.bs.map Bd.aK))=T.bs.map Bd.aK:=br;have b4:bn (aN 3 (T.bs.map Bd.aK))=Y:=bU;have a1:bn (aN 1 (aT l))=Y:=bU;have a2:(aN 1 (aT l)).aj=aN 1 (aT l):=cg;have a3:bf (aN 1 (aT l))=aT l:=br;have a4:Q (aT l)=Q l:=by simp[aT]
 have htf:p5 (g::f::L)=g:=rfl;have Lr:uK { I with fl:=a::I.fl }=a:=rfl;have hvg:vV g a=F:=by grind
 have hgd:g.done=X:=by rw[hg]
 have hgr:g.res=0:=by rw[hg]
 have v0:=XT f (uK I);have v1:F.aj=F:=by grind [XT]
 obtain⟨c1,c2⟩:F.cells=[F]/\F.cT=Y:=by grind [S8]
 obtain⟨c3,c4⟩:=S8 f (uK I);simp only[cQ,jY,htf,Lr,hvg,hgd,hgr]at w;have azH:p5 (f::L)=f:=rfl;have azI:uK { W with fl:=I.fl }=uK I:=rfl;simp only[cQ,jY,azH,azI,hd,h0]at G O;simp only[cQ,jY]at P4;have Vm:=λl=>xI.pM G l;have Bt:∀y z,((st++x).set I.p y).set I.p z=(st++x).set I.p z:=λy z=>akU ..
 have EH:∀y,((st++x).set I.p y)[I.p]?=Z y:=λy=>aar (by simp;omega);have azJ:∀y z,(s4.set I.p y).set I.p z=s4.set I.p z:=λy z=>akU ..
 have azK:∀y,(s4.set I.p y)[I.p]?=Z y:=λy=>aar azG;rw[w]at B J
 push_cast at B J
 have azL:=S9.kL J;generalize vV f (uK I)=VV,vV (p5 (y2::f::L)) (uK W)=VY at *;refine aG (sf:=s40) rfl rfl rfl ?_;generalize aN 3 (T.bs.map Bd.aK)=BV,aN 1 (aT l)=LL at *;simp[s40,G,cut,t,v0];rw[iu];simp[-tc,-zh,-CY,cY,Vm,cut,hA,hZ,Jo,hAL,a1,a3,a4,b1,b2,b3,z1,z2,z5,hk,M,hwm,fh,cA,bw,AV.aD,aB,bP,eu.aX,c1,c2];refine⟨_,_,⟨rfl,rfl⟩,?_⟩;simp[-tc,-zh,-CY,G,Vm,cut,bO,AV.cP,AV.aj,kz.de,AV.de,a1,a3,a4,b1,b2,b3,z1,z2,z4,z5,hk,M,Jo,bw,AV.aD,AV.aH,aB,Bt,EH,UW,B.symm,J,azL,Nx,yy,p5,fN,P4,azJ,azK,rJ,O.symm,c3,c4]
end Gm
