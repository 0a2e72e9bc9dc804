/- Part of a proof. -/
import Derived.Test.YtgblgbgjmgjfkaaGreatG
import Derived.Test.YtgblgbgjmgjfkaaGreatH

open List renaming length->Q
open Option renaming some->Z
open Bool renaming true->Y
open Decidable renaming decide->V
open List renaming flatMap_cons->aj3,getElem?_eq_some_iff->aad,getElem?_set_ne->aao,getElem?_set_self->aar,take->afJ,take_of_length_le->aas
set_option maxRecDepth 100000
set_option maxHeartbeats 4000000
namespace uJ
open Ax Go aM dW gy
inductive Lb|no|p|g|fs|o|mp|st|fr
 deriving DecidableEq
structure v9 where
 p:Nat
 s:Nat
 q:Nat
 v:Nat
 g:Nat
 fq:Nat
 fv:Nat
 o:Nat
 ov:Nat
 mp:Nat
 gm:List Nat
 fl:List (Nat×Nat)
 ku:Nat->Lb
 iv:AV
def jl(x:XD)(cl:AV)(s:Nat)(h:AV)(g:Nat)(fr:AV)(mp:Nat)(e code:Int)(out:AV)(aL:Nat):List AV:=
 [x.aR,x.ax,x.aJ,x.aI,.int .i64 x.main,cl,.ptr s 0 0 0,h,.mu g 0,fr,.map mp,.int .i64 e,.int .i64 code,out,.int .i64 aL]
def rH(f:Fr)(b:Nat):List AV:=[.int .i64 f.f,.int .i64 f.at_,.mu b 0,.int .i64 f.to]
def Vr:List (AV×AV):=[(.int .i64 1,.fn 50 [] []),(.int .i64 2,.fn 51 [] []),(.int .i64 3,.fn 52 [] []),(.int .i64 4,.fn 53 [] []),(.int .i64 5,.fn 54 [] []),
 (.int .i64 6,.fn 55 [] []),(.int .i64 7,.fn 56 [] []),(.int .i64 8,.fn 57 [] []),(.int .i64 9,.fn 58 [] []),(.int .i64 10,.fn 59 [] []),(.int .i64 11,.fn 60 [] []),
 (.int .i64 12,.fn 61 [] []),(.int .i64 13,.fn 62 [] []),(.int .i64 14,.fn 63 [] []),(.int .i64 15,.fn 64 [] []),(.int .i64 16,.fn 65 [] []),(.int .i64 17,.fn 66 [] []),
 (.int .i64 18,.fn 67 [] []),(.int .i64 19,.fn 68 [] []),(.int .i64 20,.fn 69 [] [])]
def vh(st:aO):List Fr->List (Nat×Nat)->Prop
 |[],[]=>True|f::l,a::b=>st[a.1]?=Z (.rows 0 4 [rH f a.2])/\st[a.2]?=Z (.rows 0 1 (aT f.vs))/\vh st l b|_,_=>False
def kX(F:List (Nat×Nat)):List Nat:=F.flatMap λa=>[a.1,a.2]
structure ee (x:XD)(cl:AV)(ai:Nat)(m:Ms)(I:v9)(st:aO):Prop where
 P:st[I.p]?=some (.rows 0 15 [jl x cl I.s I.iv I.g (.mu I.fq I.fv) I.mp m.e m.code (if m.out=[] then .aF else .mu I.o I.ov) m.aL])
 iv:mX I.iv=true/\cL I.iv=true/\dI I.iv=m.fB
 S:xI.Rp st I.s m.s I.q I.v I.gm
 G:st[I.g]?=some (.rows 0 1 (aT m.g))
 F:st[I.fq]?=some (.rows I.fv 1 (I.fl.reverse.map λf=>[.ptr f.1 0 0 0]))
 FR:vh st m.l I.fl
 O:m.out≠[]->st[I.o]?=some (.rows I.ov 1 (aT m.out))
 M:st[I.mp]?=some (.map Vr)
 lp:I.ku I.p=.p
 lg:I.ku I.g=.g
 lf:I.ku I.fq=.fs
 lo:m.out≠[]->I.ku I.o=.o
 lm:I.ku I.mp=.mp
 ls:I.ku I.s=.st
 lq:m.s≠[]->I.ku I.q=.st
 li:∀i∈I.gm,I.ku i=.st
 lr:∀i∈kX I.fl,I.ku i=.fr
 nd:(kX I.fl).Nodup
 low:∀i,I.ku i≠.no->ai<=i
variable {x:XD}{cl:AV}{ai:Nat}{m:Ms}{I:v9}{st st':aO}{f:Fr}{l:List Fr}
theorem vh.oq:∀{l:List Fr}{F:List _},vh st l F->(∀i∈kX F,st'[i]?=st[i]?)->vh st' l F
 |[],[],_,_=>trivial|f::l,a::b,h,k=>⟨by rw[k a.1 (by simp[kX])];exact h.1,by rw[k a.2 (by simp[kX])];exact h.2.1,vh.oq h.2.2 λi H=>k i (by grind [kX])⟩
 |[],_::_,h,_=>h.elim|_::_,[],h,_=>h.elim
theorem vh.len:∀{l:List Fr}{F:List _},vh st l F->Q F=Q l
 |[],[],_=>rfl|_::_,_::_,h=>by simp[vh.len h.2.2]|[],_::_,h=>h.elim|_::_,[],h=>h.elim
theorem vh.lt:∀{l:List Fr}{F:List _},vh st l F->∀i∈kX F,i<Q st
 |[],[],_=>by simp[kX]|_::_,a::b,h=>by
  intro i H;simp only[kX,aj3,List.mem_append]at H;rcases H with H|H;simp at H;rcases H with rfl|rfl;exact(aad.1 h.1).1;exact(aad.1 h.2.1).1;exact vh.lt h.2.2 i H
 |[],_::_,h=>h.elim|_::_,[],h=>h.elim
theorem CB{L:Nat->Lb}{a b c d}(H:L a=c)(g:L b=d)(h:c≠d):a≠b:=λe=>h (by grind)
variable{T:List (List Int)}{g:List Nat}
theorem _root_.xI.Rp.oq{p q v:Nat}(h:xI.Rp st p T q v g)(n:st'[p]?=st[p]?)(o:T≠[]->st'[q]?=st[q]?)(r:∀i∈g,st'[i]?=st[i]?):xI.Rp st' p T q v g:=
 ⟨h.len,by rw[n];exact h.bX,λH=>by rw[o H];exact h.eE H,λk j R=>by rw[r _ (List.getElem_mem j)];exact h.el k j R,h.pq,h.pn,h.qn,h.nd⟩
theorem _root_.xI.Rp.lt{p q v:Nat}(h:xI.Rp st p T q v g):p<Q st/\(T≠[]->q<Q st)/\∀i∈g,i<Q st:=
 ⟨(aad.1 h.bX).1,λj=>(aad.1 (h.eE j)).1,λi n=>by
  obtain⟨k,H,rfl⟩:=List.mem_iff_getElem.1 n;exact(aad.1 (h.el k H (by rw[<-h.len];exact H))).1⟩
theorem jm{i o}(h:st[i]?=Z o):i<Q st:=by grind
theorem ee.eD(h:ee x cl ai m I st)(t):ee x cl ai m I (st++t):=by
 have k:∀i,i<Q st->(st++t)[i]?=st[i]?:=λi H=>List.getElem?_append_left H;have s:=h.S.lt;refine⟨?_,h.iv,h.S.oq (k _ s.1) (λe=>k _ (s.2.1 e)) (λi H=>k i (s.2.2 i H)),?_,?_,h.FR.oq λi H=>k i (h.FR.lt i H),λe=>?_,?_,h.lp,h.lg,h.lf,h.lo,h.lm,h.ls,h.lq,h.li,h.lr,h.nd,h.low⟩;rw[k _ (jm h.P)];exact h.P;rw[k _ (jm h.G)];exact h.G;rw[k _ (jm h.F)];exact h.F;rw[k _ (jm (h.O e))];exact h.O e;rw[k _ (jm h.M)];exact h.M
theorem ee.aK(h:ee x cl ai m I st)(j z)(r:j.s=m.s)(U:j.g=m.g)(t:j.l=m.l)(q:j.out=m.out)(H:mX z=Y/\cL z=Y/\dI z=j.fB):
  ee x cl ai j { I with iv:=z } (st.set I.p (.rows 0 15 [jl x cl I.s z I.g (.mu I.fq I.fv) I.mp j.e j.code (if j.out=[] then .aF else .mu I.o I.ov) j.aL])):=by
 have k:∀i,I.ku i≠.p->(st.set I.p (.rows 0 15 [jl x cl I.s z I.g (.mu I.fq I.fv) I.mp j.e j.code (if j.out=[] then .aF else .mu I.o I.ov) j.aL]))[i]?=st[i]?:=λi H=>
  aao λe=>H (by rw[<-e];exact h.lp)
 refine⟨aar (jm h.P),H,?_,?_,?_,?_,λe=>?_,?_,h.lp,h.lg,h.lf,by rw[q];exact h.lo,h.lm,h.ls,by rw[r];exact h.lq,h.li,h.lr,h.nd,h.low⟩;rw[r];exact h.S.oq (k _ (by rw[h.ls];decide)) (λe=>k _ (by rw[h.lq e];decide)) (λi H=>k i (by rw[h.li i H];decide));rw[U,k _ (by rw[h.lg];decide)];exact h.G;show _=Z (iW.rows I.fv 1 _);rw[k _ (by rw[h.lf];decide)];exact h.F;rw[t];exact h.FR.oq λi H=>k i (by rw[h.lr i H];decide);have n:m.out≠[]:=by grind
 exact(k I.o (by rw[h.lo n];decide)).trans (by rw[q];exact h.O n);rw[k _ (by rw[h.lm];decide)];exact h.M
theorem ee.top(h:ee x cl ai m I st)(e:m.l=f::l):∃a b,I.fl=a::b/\st[a.1]?=Z (.rows 0 4 [rH f a.2])/\st[a.2]?=Z (.rows 0 1 (aT f.vs))/\vh st l b/\a.1≠a.2/\I.ku a.1=.fr/\I.ku a.2=.fr/\
  (∀i∈kX b,i≠a.1/\i≠a.2):=by
 have H:=h.FR;rw[e]at H;cases k:I.fl with
 |nil=>rw[k]at H;exact H.elim|cons a b=>
  rw[k]at H;have g:=h.nd;have j:=h.lr;rw[k]at g j;simp only[kX,aj3,List.cons_append,List.nil_append,List.nodup_cons,List.mem_cons,not_or]at g;exact⟨a,b,rfl,H.1,H.2.1,H.2.2,g.1.1,j _ (by simp[kX]),j _ (by simp[kX]),λi n=>⟨λe=>g.1.2 (e ▸ n),λe=>g.2.1 (e ▸ n)⟩⟩
theorem ee.XI(h:ee x cl ai m I st){B}(e:m.l=f::l){a b}(j:I.fl=a::b)(k:∀i,i≠a.1->i≠a.2->st'[i]?=st[i]?)(o:st'[a.1]?=Z (.rows 0 4 [rH B a.2]))(p:st'[a.2]?=Z (.rows 0 1 (aT B.vs))):ee x cl ai { m with l:=B::l } I st':=by
 obtain⟨q,r,L,y,z,n,s,t,D,g⟩:=h.top e;rw[j]at L;cases L;have C:∀i,I.ku i≠.fr->st'[i]?=st[i]?:=λi H=>k i (λe=>H (by grind)) (λe=>H (by grind));refine⟨?_,h.iv,h.S.oq (C _ (by rw[h.ls];decide)) (λe=>C _ (by rw[h.lq e];decide)) (λi H=>C i (by rw[h.li i H];decide)),?_,?_,?_,λe=>?_,?_,h.lp,h.lg,h.lf,h.lo,h.lm,h.ls,h.lq,h.li,h.lr,h.nd,h.low⟩;rw[C _ (by rw[h.lp];decide)];exact h.P;rw[C _ (by rw[h.lg];decide)];exact h.G;rw[C _ (by rw[h.lf];decide)];exact h.F;rw[j];exact⟨o,p,n.oq λi H=>k i (g i H).1 (g i H).2⟩;rw[C _ (by rw[h.lo e];decide)];exact h.O e;rw[C _ (by rw[h.lm];decide)];exact h.M
structure Lts (I:v9)(m:Ms)(n:Nat):Prop where
 p:I.p<n
 g:I.g<n
 fq:I.fq<n
 mp:I.mp<n
 s:I.s<n
 q:m.s≠[]->I.q<n
 gm:∀i∈I.gm,i<n
 fr:∀i∈kX I.fl,i<n
 o:m.out≠[]->I.o<n
theorem ee.SX(h:ee x cl ai m I st):Lts I m (Q st):=
 ⟨jm h.P,jm h.G,jm h.F,jm h.M,h.S.lt.1,h.S.lt.2.1,h.S.lt.2.2,h.FR.lt,λe=>jm (h.O e)⟩
theorem ee.take(h:ee x cl ai m I st){n}(k:Lts I m n):ee x cl ai m I (st.take n):=by
 have kk:∀i,i<n->(st.take n)[i]?=st[i]?:=λi hi=>by grind
 refine⟨?_,h.iv,h.S.oq (kk _ k.s) (λe=>kk _ (k.q e)) (λi hi=>kk i (k.gm i hi)),?_,?_,h.FR.oq λi hi=>kk i (k.fr i hi),λe=>?_,?_,h.lp,h.lg,h.lf,h.lo,h.lm,h.ls,h.lq,h.li,h.lr,h.nd,h.low⟩;rw[kk _ k.p];exact h.P;rw[kk _ k.g];exact h.G;rw[kk _ k.fq];exact h.F;rw[kk _ (k.o e)];exact h.O e;rw[kk _ k.mp];exact h.M
theorem ee.cut(h:ee x cl ai m I st){M}(r:ee x cl ai M I st')(j:M.s=[]↔m.s=[])(z:M.out=[]↔m.out=[]):ee x cl ai M I (st'.take (Q st)):=by
 have k:=h.SX;exact r.take ⟨k.p,k.g,k.fq,k.mp,k.s,λe=>k.q λq=>e (j.2 q),k.gm,k.fr,λe=>k.o λq=>e (z.2 q)⟩
theorem aoh(n v):(gO m n v).s=m.s/\(gO m n v).out=m.out:=by unfold gO;grind
theorem aiM(c):(gC m c).s=m.s/\(gC m c).out=m.out:=by unfold gC;grind
theorem CC(n c):(nB m n c).s=m.s/\(nB m n c).out=m.out:=by
 grind [nB,aoh,aiM]
end uJ
namespace uJ
open Ax Go aM dW gy
variable {x:XD}{cl:AV}{ai:Nat}{m:Ms}{I:v9}{st st':aO}{f:Fr}{l:List Fr}
theorem ee.fl(h:ee x cl ai m I st){a b}(j:I.fl=a::b)(n:Q m.l<=1000):
  ∃R,st[I.fq]?=Z (.rows I.fv 1 (R++[[.ptr a.1 0 0 0]]))/\Q R=Q b/\(R++[[AV.ptr a.1 0 0 0]])[Q b]?=Z [.ptr a.1 0 0 0]/\Q b<=1000/\R=b.reverse.map λf=>[.ptr f.1 0 0 0]:=by
 have H:=h.F;have g:=h.FR.len;rw[j]at H g;simp only[List.reverse_cons,List.map_append,List.map_cons,List.map_nil]at H;simp at g;exact⟨_,H,by simp,by simp,by omega,rfl⟩
theorem Hv(C L)(h:ee x cl ai m I st){a b}(g:I.fl=a::b)(n:Q m.l<=1000):
  (bh S).call C L 22 [.ptr I.p 0 0 0] st=Z (.ptr a.1 0 0 0,st):=by
 have F:=h.P;obtain⟨R,H,z,U,k,_⟩:=h.fl g n;have j:IntKind.i64.wrap (Q b:Int)=(Q b:Int):=by rw[dg]<;>omega
 have B:(Q b:Int)<(Q b:Int)+1:=by omega
 refine aG (sf:=s22) rfl rfl rfl ?_;simp[s22,F,H,jl,cut,aA,ay,z,j,B]
theorem zH(C L)(h:ee x cl ai m I st)(e:m.l=f::l)(q:Q m.l<=1000)(n)(g:qf (Q f.vs) n):
  (bh S).call C L 108 [.ptr I.p 0 0 0,.int .i64 n] st=Z (.int .i64 (eB f.vs n),st):=by
 obtain⟨a,b,o,H,j,_⟩:=h.top e;have s:=λC L=>Hv C L h o q;obtain⟨k,rfl⟩:∃k:Nat,n=k:=⟨n.toNat,by have:=g.1;omega⟩;have r:k<Q f.vs:=by have:=g.2;omega
 refine aG (sf:=amw) rfl rfl rfl ?_;simp[amw,s,H,j,rH,cut,r,eB]
theorem tL(h:ee x cl ai m I st)(e:m.l=f::l)(s:Q m.l<=1000)(n v)(o:qf (Q f.vs) n):
  ∃st',Q st'=Q st/\(∀L,(bh S).call 0 L 107 [.ptr I.p 0 0 0,.int .i64 n,.int .i64 v] st=Z (.fC [],st'))/\ee x cl ai (gO m n v) I st':=by
 obtain⟨a,b,j,H,g,D,r,O,E,N⟩:=h.top e;have z:=λC L=>Hv C L h j s;obtain⟨k,rfl⟩:∃k:Nat,n=k:=⟨n.toNat,by have:=o.1;omega⟩;have t:k<Q f.vs:=by have:=o.2;omega
 have w:(aT f.vs).set k [.int .i64 v]=aT (f.vs.set k v):=by simp[aT,List.map_set]
 have R:=jm g;have U:∀y,afJ (Q st) (st.set a.2 y)=st.set a.2 y:=λy=>aas (by simp);refine⟨st.set a.2 (.rows 0 1 (aT (f.vs.set k v))),by simp,λL=>?_,?_⟩;refine aG (sf:=al6) rfl rfl rfl ?_;simp[al6,z,H,g,rH,cut,t,bw,AV.aD,AV.aH,aB,w,U];have em:gO m (k:Int) v={ m with l:={ f with vs:=f.vs.set k v }::l }:=by unfold gO;rw[e];rfl
 rw[em];exact h.XI e j (λi F B=>aao (λq=>B q.symm)) (by rw[aao (λq=>r q.symm)];exact H) (aar R)
theorem sI(h:ee x cl ai m I st)(c):
  ∃st',Q st'=Q st/\(∀L,(bh S).call 0 L 113 [.ptr I.p 0 0 0,.int .i64 c] st=Z (.bool (V (c≠0)),st'))/\ee x cl ai (gC m c) I st'/\(c=0->st'=st):=by
 by_cases C:c=0;subst C;refine⟨st,rfl,λL=>?_,h,λ_=>rfl⟩;refine aG (sf:=acj) rfl rfl rfl ?_;simp[acj];have F:=h.P;have R:=jm F;have H:=h.aK (gC m c) I.iv (by simp[gC,C]) (by simp[gC,C]) (by simp[gC,C]) (by simp[gC,C]) (by simp[gC,C];exact h.iv);refine⟨_,?_,λL=>?_,H,λq=>bH q C⟩;simp;refine aG (sf:=acj) rfl rfl rfl ?_;have U:∀y,afJ (Q st) (st.set I.p y)=st.set I.p y:=λy=>aas (by simp);have G:∀y z,(st.set I.p y).set I.p z=st.set I.p z:=λy z=>List.set_set ..
 have E:∀y,(st.set I.p y)[I.p]?=Z y:=λy=>aar R;simp[acj,C,F,jl,bw,AV.aD,AV.aH,aB,U,G,E,gC]
end uJ
namespace uJ
open Ax Go aM dW gy
theorem Gg(C L b st):(bh S).call C L 143 [.bool b] st=Z (.int .i64 (mG b),st):=by
 refine bu (sf:=amv) rfl rfl rfl rfl rfl ?_;cases b<;>simp[amv,mG]
theorem Vs(C L op a b st):(bh S).call C L 110 [.int .i64 op,.int .i64 a,.int .i64 b] st=Z (.fC [.int .i64 (AT op a b).1,.int .i64 (AT op a b).2],st):=by
 have H:=λC L b st=>Gg C L b st;refine bu (sf:=zk) rfl rfl rfl rfl rfl ?_;unfold AT;by_cases g:op=14;subst g;simp[zk];by_cases h:op=15;subst h;simp[zk];by_cases y:op=16;subst y;simp[zk];by_cases v:op=17;subst v;by_cases J:b=0;subst J;simp[zk];simp[zk,J];by_cases B:op=18;subst B;by_cases J:b=0;subst J;simp[zk];simp[zk,J];by_cases k:op=19;subst k;simp[zk,H];by_cases z:op=20;subst z;simp[zk,H];by_cases n:op=21;subst n;simp[zk,H];by_cases N:op=22;subst N;simp[zk,H];by_cases M:op=23;subst M;by_cases j:a=0;subst j;simp[zk,H];by_cases J:b=0;subst J;simp[zk,H,j];simp[zk,H,j,J];by_cases U:op=24;subst U;by_cases j:a=0;subst j;by_cases J:b=0;subst J;simp[zk,H];simp[zk,H,J];simp[zk,H,j];simp[zk,g,h,y,v,B,k,z,n,N,M,U]
theorem XJ(C L op a st):(bh S).call C L 111 [.int .i64 op,.int .i64 a] st=Z (.int .i64 (unI op a),st):=by
 have H:=λC L b st=>Gg C L b st;refine bu (sf:=ach) rfl rfl rfl rfl rfl ?_;unfold unI;by_cases t:op=12;subst t;simp[ach];by_cases w:op=13;subst w;simp[ach,H];simp[ach,t,w]
variable {x:XD}{cl:AV}{ai:Nat}{m:Ms}{I:v9}{st st':aO}{f:Fr}{l:List Fr}
theorem Dr(h:ee x cl ai m I st)(e:m.l=f::l)(H:Q m.l<=1000)(n v c)(k:qf (Q f.vs) n){b1 b2}(D:st[b1]?=Z (.rows 0 1 [[.ptr I.p 0 0 0]]))(F:st[b2]?=Z (.rows 0 1 [[.int .i64 n]])):
  ∃st',Q st'=Q st/\(∀L,(bh S).call 0 L 142 [.int .i64 v,.int .i64 c,.ptr b1 0 0 0,.ptr b2 0 0 0] st=Z (.fC [],st'))/\ee x cl ai (nB m n (v,c)) I st':=by
 obtain⟨j,o,B,R,z⟩:=sI h c;by_cases C:c=0;have E:=z C;subst E;obtain⟨s,q,t,r⟩:=tL h e H n v k;have w:gC m c=m:=by simp[gC,C]
 have U:nB m n (v,c)=gO m n v:=by simp[nB,C]
 have g:afJ (Q j) s=s:=aas (by omega);refine⟨s,q,λL=>?_,by rw[U];exact r⟩;refine aG (sf:=acA) rfl rfl rfl ?_;subst C;simp[acA,D,F,cut,B,t,g];have U:nB m n (v,c)=gC m c:=by simp[nB,C]
 have g:afJ (Q st) j=j:=aas (by omega);refine⟨j,o,λL=>?_,by rw[U];exact R⟩;refine aG (sf:=acA) rfl rfl rfl ?_;simp[acA,D,cut,B,C,g]
theorem tO(C L p n st):(bh S).call C L 109 [.ptr p 0 0 0,.int .i64 n] st =
  Z (.fn 142 [] [.ptr (Q st) 0 0 0,.ptr (Q st+1) 0 0 0],st++[.rows 0 1 [[.ptr p 0 0 0]],.rows 0 1 [[.int .i64 n]]]):=by
 refine aG (sf:=amo) rfl rfl rfl ?_;simp[amo]
end uJ
namespace uJ
open Ax Go aM dW gy
variable {x:XD}{cl:AV}{ai:Nat}{m:Ms}{I:v9}{st st':aO}{f:Fr}{l:List Fr}{i:ID}
theorem SY(h:ee x cl ai m I st)(e:m.l=f::l)(g:Q m.l<=1000)(k:mX i.args=Y)(E:cL i.args=Y)(o:qf (Q f.vs) i.a):
  ∃st',Q st'=Q st/\(∀L,(bh S).call 0 L 50 [.ptr I.p 0 0 0,.agg i.cells] st=Z (.fC [],st'))/\ee x cl ai (gO m i.a i.n) I st':=by
 have H:=dY k;have r:=bQ E H;obtain⟨j,q,B,R⟩:=tL h e g i.a i.n o;have U:afJ (Q st) j=j:=aas (by omega);refine⟨j,q,λL=>?_,R⟩;refine aG (sf:=s50) rfl rfl rfl ?_;simp[s50,ID.cells,H,B,U]
theorem aiN(h:ee x cl ai m I st)(e:m.l=f::l)(n:Q m.l<=1000)(g:mX i.args=Y)(E:cL i.args=Y)(k:qf (Q f.vs) i.a):
  ∃st',Q st'=Q st/\(∀L,(bh S).call 0 L 51 [.ptr I.p 0 0 0,.agg i.cells] st=Z (.fC [],st'))/\ee x cl ai (gO m i.a 0) I st':=by
 have H:=dY g;have q:=bQ E H;obtain⟨j,o,B,R⟩:=tL h e n i.a 0 k;have U:afJ (Q st) j=j:=aas (by omega);refine⟨j,o,λL=>?_,R⟩;refine aG (sf:=s51) rfl rfl rfl ?_;simp[s51,ID.cells,H,B,U]
theorem ZZ(h:ee x cl ai m I st)(e:m.l=f::l)(n:Q m.l<=1000)(g:mX i.args=Y)(E:cL i.args=Y)(k:qf (Q f.vs) i.a)(H:qf (Q f.vs) i.b):
  ∃st',Q st'=Q st/\(∀L,(bh S).call 0 L 52 [.ptr I.p 0 0 0,.agg i.cells] st=Z (.fC [],st'))/\ee x cl ai (gO m i.a (eB f.vs i.b)) I st':=by
 have o:=dY g;have r:=bQ E o;obtain⟨j,q,B,R⟩:=tL h e n i.a (eB f.vs i.b) k;have v1:=λC L=>zH C L h e n i.b H;have U:afJ (Q st) j=j:=aas (by omega);refine⟨j,q,λL=>?_,R⟩;refine aG (sf:=s52) rfl rfl rfl ?_;simp_all [s52,ID.cells,aA,ay]
theorem U1(h:ee x cl ai m I st)(e:m.l=f::l)(H:Q m.l<=1000)(o:mX i.args=Y)(E:cL i.args=Y)(q:qf (Q f.vs) i.a)(g:qf (Q f.vs) i.b)(k:qf (Q f.vs) i.c):
  ∃st',Q st'=Q st/\(∀L,(bh S).call 0 L 53 [.ptr I.p 0 0 0,.agg i.cells] st=Z (.fC [],st'))/\ee x cl ai (nB m i.a (AT i.n (eB f.vs i.b) (eB f.vs i.c))) I st':=by
 have j:=dY o;have r:=bQ E j;have M:=h.eD [.rows 0 1 [[.ptr I.p 0 0 0]],.rows 0 1 [[.int .i64 i.a]]];obtain⟨s,w,t,R⟩:=Dr M e H i.a (AT i.n (eB f.vs i.b) (eB f.vs i.c)).1 (AT i.n (eB f.vs i.b) (eB f.vs i.c)).2 q (b1:=Q st) (b2:=Q st+1) (by simp) (by simp);have v1:=λC L=>zH C L M e H i.b g;have v:=λC L=>zH C L M e H i.c k;have G:=λC L=>tO C L I.p i.a st;have B:=λC L st=>Vs C L i.n (eB f.vs i.b) (eB f.vs i.c) st;refine⟨s.take (Q st),?_,λL=>?_,?_⟩
 grind
 refine aG (sf:=s53) rfl rfl rfl ?_;simp[s53,ID.cells,j,G,v1,v,B,t,aA,ay];exact h.cut R (by rw[(CC _ _).1]) (by rw[(CC _ _).2])
theorem Ur(h:ee x cl ai m I st)(e:m.l=f::l)(H:Q m.l<=1000)(k:mX i.args=Y)(E:cL i.args=Y)(o:qf (Q f.vs) i.a)(g:qf (Q f.vs) i.b):
  ∃st',Q st'=Q st/\(∀L,(bh S).call 0 L 54 [.ptr I.p 0 0 0,.agg i.cells] st=Z (.fC [],st'))/\ee x cl ai (gO m i.a (unI i.n (eB f.vs i.b))) I st':=by
 have q:=dY k;have s:=bQ E q;obtain⟨j,r,B,R⟩:=tL h e H i.a (unI i.n (eB f.vs i.b)) o;have v1:=λC L=>zH C L h e H i.b g;have t:=λC L st=>XJ C L i.n (eB f.vs i.b) st;have U:afJ (Q st) j=j:=aas (by omega);refine⟨j,r,λL=>?_,R⟩;refine aG (sf:=s54) rfl rfl rfl ?_;simp_all [s54,ID.cells,aA,ay]
theorem aiO(T r j):lO T r j=(if xI.qX T r j=0 then (T.getD (r-1).toNat []).getD j.toNat 0 else 0,xI.qX T r j):=by
 unfold lO;have:kU T r j=xI.qX T r j:=rfl
 grind
theorem akx(C L)(h:ee x cl ai m I st)(H:Q m.s<1000000)(r j):
  (bh S).call C L 112 [.ptr I.s 0 0 0,.int .i64 r,.int .i64 j] st=Z (.fC [.int .i64 (lO m.s r j).1,.int .i64 (lO m.s r j).2],st):=by
 rw[aiO];exact xI.AZ C L h.S r j (by omega)
theorem AZ(h:ee x cl ai m I st)(e:m.l=f::l)(n:Q m.l<=1000)(k:Q m.s<1000000)(q:mX i.args=Y)(E:cL i.args=Y)(r:qf (Q f.vs) i.a)(o:qf (Q f.vs) i.b):
  ∃st',Q st'=Q st/\(∀L,(bh S).call 0 L 55 [.ptr I.p 0 0 0,.agg i.cells] st=Z (.fC [],st'))/\ee x cl ai (nB m i.a (lO m.s (eB f.vs i.b) i.c)) I st':=by
 have j:=dY q;have v:=bQ E j;have M:=h.eD [.rows 0 1 [[.ptr I.p 0 0 0]],.rows 0 1 [[.int .i64 i.a]]];obtain⟨t,w,T,R⟩:=Dr M e n i.a (lO m.s (eB f.vs i.b) i.c).1 (lO m.s (eB f.vs i.b) i.c).2 r (b1:=Q st) (b2:=Q st+1) (by simp) (by simp);have v1:=λC L=>zH C L M e n i.b o;have G:=λC L=>tO C L I.p i.a st;have B:=λC L=>akx C L M k (eB f.vs i.b) i.c;have F:=M.P;refine⟨t.take (Q st),?_,λL=>?_,?_⟩
 grind
 have H:=h.P;have g:=R.P;refine aG (sf:=s55) rfl rfl rfl ?_;simp[s55,ID.cells,j];rw[iu];simp[cY,fh,cA,bP,eu.aX,G,F,jl,cut,v1,B,T];refine⟨_,_,⟨rfl,rfl⟩,?_⟩;simp[H,F,jl,cut,bO,AV.cP,AV.aj,kz.de,AV.de];exact h.cut R (by rw[(CC _ _).1]) (by rw[(CC _ _).2])
theorem aiQ(h:ee x cl ai m I st)(e:m.l=f::l)(n:Q m.l<=1000)(k:Q m.s<1000000)(r:mX i.args=Y)(E:cL i.args=Y)(t:qf (Q f.vs) i.a)(o:qf (Q f.vs) i.b)(q:qf (Q f.vs) i.c):
  ∃st',Q st'=Q st/\(∀L,(bh S).call 0 L 57 [.ptr I.p 0 0 0,.agg i.cells] st=Z (.fC [],st'))/\ee x cl ai (nB m i.a (lO m.s (eB f.vs i.b) (eB f.vs i.c))) I st':=by
 have j:=dY r;have y:=bQ E j;have M:=h.eD [.rows 0 1 [[.ptr I.p 0 0 0]],.rows 0 1 [[.int .i64 i.a]]];obtain⟨v,z,T,R⟩:=Dr M e n i.a (lO m.s (eB f.vs i.b) (eB f.vs i.c)).1 (lO m.s (eB f.vs i.b) (eB f.vs i.c)).2 t (b1:=Q st) (b2:=Q st+1) (by simp) (by simp);have v1:=λC L=>zH C L M e n i.b o;have w:=λC L=>zH C L M e n i.c q;have G:=λC L=>tO C L I.p i.a st;have B:=λC L=>akx C L M k (eB f.vs i.b) (eB f.vs i.c);have F:=M.P;refine⟨v.take (Q st),?_,λL=>?_,?_⟩
 grind
 have H:=h.P;have g:=R.P;refine aG (sf:=s57) rfl rfl rfl ?_;simp[s57,ID.cells,j];rw[iu];simp[cY,fh,cA,bP,eu.aX,G,F,jl,cut,v1,w,B,T];refine⟨_,_,⟨rfl,rfl⟩,?_⟩;simp[H,F,jl,cut,bO,AV.cP,AV.aj,kz.de,AV.de];exact h.cut R (by rw[(CC _ _).1]) (by rw[(CC _ _).2])
theorem Ht(C L)(h:ee x cl ai m I st)(j:Q m.s<1000000)(r):
  (bh S).call C L 115 [.ptr I.s 0 0 0,.int .i64 r] st=Z (.fC [.int .i64 (AU m.s r).1,.int .i64 (AU m.s r).2],st):=by
 rw[xI.Ht C L h.S r (by omega)]
 grind [AU]
theorem Z0(h:ee x cl ai m I st)(e:m.l=f::l)(n:Q m.l<=1000)(k:Q m.s<1000000)(q:mX i.args=Y)(E:cL i.args=Y)(r:qf (Q f.vs) i.a)(o:qf (Q f.vs) i.b):
  ∃st',Q st'=Q st/\(∀L,(bh S).call 0 L 59 [.ptr I.p 0 0 0,.agg i.cells] st=Z (.fC [],st'))/\ee x cl ai (nB m i.a (AU m.s (eB f.vs i.b))) I st':=by
 have j:=dY q;have v:=bQ E j;have M:=h.eD [.rows 0 1 [[.ptr I.p 0 0 0]],.rows 0 1 [[.int .i64 i.a]]];obtain⟨t,w,T,R⟩:=Dr M e n i.a (AU m.s (eB f.vs i.b)).1 (AU m.s (eB f.vs i.b)).2 r (b1:=Q st) (b2:=Q st+1) (by simp) (by simp);have v1:=λC L=>zH C L M e n i.b o;have G:=λC L=>tO C L I.p i.a st;have B:=λC L=>Ht C L M k (eB f.vs i.b);have F:=M.P;refine⟨t.take (Q st),?_,λL=>?_,?_⟩
 grind
 have H:=h.P;have g:=R.P;refine aG (sf:=s59) rfl rfl rfl ?_;simp[s59,ID.cells,j];rw[iu];simp[cY,fh,cA,bP,eu.aX,G,F,jl,cut,v1,B,T];refine⟨_,_,⟨rfl,rfl⟩,?_⟩;simp[H,F,jl,cut,bO,AV.cP,AV.aj,kz.de,AV.de];exact h.cut R (by rw[(CC _ _).1]) (by rw[(CC _ _).2])
theorem aoi(h:ee x cl ai m I st)(e:m.l=f::l)(o:Q m.l<=1000)(q:mX i.args=Y)(E:cL i.args=Y)(s:qf (Q f.vs) i.a)(U:0<=i.n/\i.n<Q m.g):
  ∃st',Q st'=Q st/\(∀L,(bh S).call 0 L 68 [.ptr I.p 0 0 0,.agg i.cells] st=Z (.fC [],st'))/\ee x cl ai (gO m i.a (eB m.g i.n)) I st':=by
 have t:=dY q;have y:=bQ E t;obtain⟨j,v,B,R⟩:=tL h e o i.a (eB m.g i.n) s;have F:=h.P;have w:=h.G;obtain⟨k,r⟩:∃k:Nat,i.n=k:=⟨i.n.toNat,by omega⟩;have D:k<Q m.g:=by omega
 have H:eB m.g i.n=m.g[k]:=by simp[eB,r,D]
 rw[H]at B R ⊢;have z:afJ (Q st) j=j:=aas (by omega);refine⟨j,v,λL=>?_,R⟩;refine aG (sf:=s68) rfl rfl rfl ?_;simp_all [s68,ID.cells,jl,aA,ay]
end uJ
namespace uJ
open Ax Go aM dW gy
variable {x:XD}{cl:AV}{ai:Nat}{m:Ms}{I:v9}{st st':aO}{f:Fr}{l:List Fr}{i:ID}
theorem ee.aeP(h:ee x cl ai m I st){T q v gm ku}(r:xI.Rp st' I.s T q v gm)(k:∀j,j<Q st->I.ku j≠.st->st'[j]?=st[j]?)(H:∀j,j<Q st->ku j=I.ku j)(lq:T≠[]->ku q=.st)(li:∀j∈gm,ku j=.st)(low:∀j,ku j≠.no->ai<=j):
  ee x cl ai { m with s:=T } { I with q:=q,v:=v,gm:=gm,ku:=ku } st':=by
 have b:=h.SX;refine⟨?_,h.iv,r,?_,?_,h.FR.oq λj n=>k j (b.fr j n) (by rw[h.lr j n];decide),λe=>?_,?_,(H _ b.p).trans h.lp,(H _ b.g).trans h.lg,(H _ b.fq).trans h.lf,λe=>(H _ (b.o e)).trans (h.lo e),(H _ b.mp).trans h.lm,(H _ b.s).trans h.ls,lq,li,
  λj n=>(H _ (b.fr j n)).trans (h.lr j n),h.nd,low⟩
 exact(k _ b.p (by rw[h.lp];decide)).trans h.P;exact(k _ b.g (by rw[h.lg];decide)).trans h.G;exact(k _ b.fq (by rw[h.lf];decide)).trans h.F;exact(k _ (b.o e) (by rw[h.lo e];decide)).trans (h.O e);exact(k _ b.mp (by rw[h.lm];decide)).trans h.M
theorem aky(h:ee x cl ai m I st)(w:Q m.s<1000000)(r j v):
  ∃st',Q st'=Q st/\(∀q,(bh S).call 0 q 114 [.ptr I.s 0 0 0,.int .i64 r,.int .i64 j,.int .i64 v] st=Z (.int .i64 (kU m.s r j),st'))/\ee x cl ai { m with s:=uF m.s r j v } I st':=by
 obtain⟨g,B,R,F,L⟩:=xI.yF 0 h.S r j v (by omega);have E:∀T:List (List Int),Q T=Q m.s->(T≠[]↔m.s≠[]):=λT t=>by
  grind
 have o:xI.aiK m.s r j v=uF m.s r j v:=rfl;refine⟨g,L,B,?_⟩;rw[o]at R;exact h.aeP (st':=g) R (λk H p=>F.2 k H λn=>p (h.li k n)) (λ_ _=>rfl) (λe=>h.lq ((E _ Dk).1 e)) h.li h.low
theorem aiR(h:ee x cl ai m I st)(e:m.l=f::l)(n:Q m.l<=1000)(H:Q m.s<1000000)(q:mX i.args=Y)(E:cL i.args=Y)(k:qf (Q f.vs) i.a)(o:qf (Q f.vs) i.b):
  ∃st',Q st'=Q st/\(∀L,(bh S).call 0 L 56 [.ptr I.p 0 0 0,.agg i.cells] st=Z (.fC [],st'))/\
   ee x cl ai (gC { m with s:=uF m.s (eB f.vs i.a) i.c (eB f.vs i.b) } (kU m.s (eB f.vs i.a) i.c)) I st':=by
 have j:=dY q;have w:=bQ E j;obtain⟨D,y,B,R⟩:=aky h H (eB f.vs i.a) i.c (eB f.vs i.b);obtain⟨g,z,t,r,_⟩:=sI R (kU m.s (eB f.vs i.a) i.c);have v1:=λC L=>zH C L h e n i.a k;have v:=λC L=>zH C L h e n i.b o;have F:=h.P;have U:afJ (Q st) g=g:=aas (by omega);refine⟨g,by omega,λL=>?_,r⟩;refine aG (sf:=s56) rfl rfl rfl ?_;simp[s56,ID.cells,j];rw[iu];simp[cY,fh,cA,bP,eu.aX,F,jl,cut,v1,v,B,t];refine⟨_,_,⟨rfl,rfl⟩,?_⟩;simp[F,jl,cut,bO,AV.cP,AV.aj,kz.de,AV.de,U]
theorem aoj(h:ee x cl ai m I st)(e:m.l=f::l)(n:Q m.l<=1000)(H:Q m.s<1000000)(r:mX i.args=Y)(E:cL i.args=Y)(k:qf (Q f.vs) i.a)(o:qf (Q f.vs) i.b)(q:qf (Q f.vs) i.c):
  ∃st',Q st'=Q st/\(∀L,(bh S).call 0 L 58 [.ptr I.p 0 0 0,.agg i.cells] st=Z (.fC [],st'))/\
   ee x cl ai (gC { m with s:=uF m.s (eB f.vs i.a) (eB f.vs i.b) (eB f.vs i.c) } (kU m.s (eB f.vs i.a) (eB f.vs i.b))) I st':=by
 have j:=dY r;have y:=bQ E j;obtain⟨G,z,B,R⟩:=aky h H (eB f.vs i.a) (eB f.vs i.b) (eB f.vs i.c);obtain⟨g,D,T,t,_⟩:=sI R (kU m.s (eB f.vs i.a) (eB f.vs i.b));have v1:=λC L=>zH C L h e n i.a k;have v:=λC L=>zH C L h e n i.b o;have w:=λC L=>zH C L h e n i.c q;have F:=h.P;have U:afJ (Q st) g=g:=aas (by omega);refine⟨g,by omega,λL=>?_,t⟩;refine aG (sf:=s58) rfl rfl rfl ?_;simp[s58,ID.cells,j];rw[iu];simp[cY,fh,cA,bP,eu.aX,F,jl,cut,v1,v,w,B,T];refine⟨_,_,⟨rfl,rfl⟩,?_⟩;simp[F,jl,cut,bO,AV.cP,AV.aj,kz.de,AV.de,U]
theorem ee.place(h:ee x cl ai m I st)(e:m.l=f::l)(n){a b}(H:I.fl=a::b):ee x cl ai (nu m n) I (st.set a.1 (.rows 0 4 [rH { f with at_:=n } a.2])):=by
 obtain⟨j,B,L,g,k,o,p,O,C,N⟩:=h.top e;rw[H]at L;cases L;have em:nu m n={ m with l:={ f with at_:=n }::l }:=by unfold nu;rw[e]
 rw[em];exact h.XI e H (λi D r=>aao (λq=>D q.symm)) (aar (jm g)) (by grind)
theorem aiS(h:ee x cl ai m I st)(e:m.l=f::l)(k:Q m.l<=1000)(o:mX i.args=Y)(E:cL i.args=Y):
  ∃st',Q st'=Q st/\(∀L,(bh S).call 0 L 65 [.ptr I.p 0 0 0,.agg i.cells] st=Z (.fC [],st'))/\ee x cl ai (nu m i.n) I st':=by
 have j:=dY o;have w:=bQ E j;obtain⟨a,b,H,g,r,s,t,O,v,N⟩:=h.top e;have q:=λC L=>Hv C L h H k;have U:∀y,afJ (Q st) (st.set a.1 y)=st.set a.1 y:=λy=>aas (by simp);refine⟨_,by simp,λL=>?_,h.place e i.n H⟩;refine aG (sf:=s65) rfl rfl rfl ?_;simp[s65,ID.cells,j,q,g,rH,cut,bw,AV.aD,AV.aH,aB,U,aA,ay]
theorem Z1(h:ee x cl ai m I st)(e:m.l=f::l)(k:Q m.l<=1000)(q:mX i.args=Y)(E:cL i.args=Y)(r:qf (Q f.vs) i.a):
  ∃st',Q st'=Q st/\(∀L,(bh S).call 0 L 66 [.ptr I.p 0 0 0,.agg i.cells] st=Z (.fC [],st'))/\ee x cl ai (nu m (if eB f.vs i.a≠0 then i.n else i.c)) I st':=by
 have j:=dY q;have z:=bQ E j;obtain⟨a,b,g,H,s,t,v,O,w,N⟩:=h.top e;have o:=λC L=>Hv C L h g k;have v1:=λC L=>zH C L h e k i.a r;have U:∀y,afJ (Q st) (st.set a.1 y)=st.set a.1 y:=λy=>aas (by simp);refine⟨_,by simp,λL=>?_,h.place e _ g⟩;refine aG (sf:=s66) rfl rfl rfl ?_;by_cases c:eB f.vs i.a=0;simp[s66,ID.cells,j,o,v1,c,H,rH,cut,bw,AV.aD,AV.aH,aB,U,aA,ay];simp[s66,ID.cells,j,o,v1,c,H,rH,cut,bw,AV.aD,AV.aH,aB,U,aA,ay]
theorem yF(h:ee x cl ai m I st)(e:m.l=f::l)(w:Q m.l<=1000)(H:mX i.args=Y)(t:cL i.args=Y)(B:qf (Q f.vs) i.a)(J:0<=i.n/\i.n<Q m.g):
  ∃st',Q st'=Q st/\(∀L,(bh S).call 0 L 69 [.ptr I.p 0 0 0,.agg i.cells] st=Z (.fC [],st'))/\ee x cl ai { m with g:=m.g.set i.n.toNat (eB f.vs i.a) } I st':=by
 have s:=dY H;have N:=bQ t s;have v1:=λC L=>zH C L h e w i.a B;have o:=h.P;have v:=h.G;obtain⟨k,r⟩:∃k:Nat,i.n=k:=⟨i.n.toNat,by omega⟩;have D:k<Q m.g:=by omega
 have E:(aT m.g).set k [.int .i64 (eB f.vs i.a)]=aT (m.g.set k (eB f.vs i.a)):=by simp[aT,List.map_set]
 have U:∀y,afJ (Q st) (st.set I.g y)=st.set I.g y:=λy=>aas (by simp);have kk:∀y j,I.ku j≠.g->(st.set I.g y)[j]?=st[j]?:=λy j z=>aao λq=>z (by rw[<-q];exact h.lg);refine⟨st.set I.g (.rows 0 1 (aT (m.g.set k (eB f.vs i.a)))),by simp,λL=>?_,?_⟩;refine aG (sf:=s69) rfl rfl rfl ?_;simp[s69,ID.cells,s];rw[iu];simp[cY,fh,cA,bw,bP,eu.aX,o,v,jl,cut,v1,r,D,AV.aD,AV.aH,aB];refine⟨_,_,⟨rfl,rfl⟩,?_⟩;simp[o,jl,cut,bO,AV.cP,AV.aj,kz.de,AV.de,U,E];rw[r,Int.toNat_natCast];refine⟨?_,h.iv,h.S.oq (kk _ _ (by rw[h.ls];decide)) (λe=>kk _ _ (by rw[h.lq e];decide)) (λi H=>kk _ i (by rw[h.li i H];decide)),aar (jm h.G),?_,h.FR.oq λi H=>kk _ i (by rw[h.lr i H];decide),λe=>?_,?_,h.lp,h.lg,h.lf,h.lo,h.lm,h.ls,h.lq,h.li,h.lr,h.nd,h.low⟩
 grind
 exact(kk _ _ (by rw[h.lf];decide)).trans h.F;exact(kk _ _ (by rw[h.lo e];decide)).trans (h.O e);exact(kk _ _ (by rw[h.lm];decide)).trans h.M
end uJ
