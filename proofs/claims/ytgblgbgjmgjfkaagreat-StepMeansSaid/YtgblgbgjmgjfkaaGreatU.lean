/- Part of a proof. -/
import Derived.Test.YtgblgbgjmgjfkaaGreatG
import Derived.Test.YtgblgbgjmgjfkaaGreatH

open List renaming flatMap_cons->alh,getElem?_eq_some_iff->aac,getElem?_set_ne->ad6,getElem?_set_self->ad9,take->aik,take_of_length_le->aea
set_option maxRecDepth 100000
set_option maxHeartbeats 4000000
namespace ur
open Ax Go aO dh iq
inductive Lb|no|p|g|fs|o|mp|st|fr
 deriving DecidableEq
structure uF where
 p:Nat
 s:Nat
 q:Nat
 v:Nat
 g:Nat
 fq:Nat
 fv:Nat
 o:Nat
 ov:Nat
 mp:Nat
 fP:List Nat
 fl:List (Nat×Nat)
 jO:Nat->Lb
 iv:AV
def iT(x:XD)(cl:AV)(s:Nat)(h:AV)(g:Nat)(fr:AV)(mp:Nat)(e code:Int)(out:AV)(aK:Nat):List AV:=
 [x.aU,x.az,x.aR,x.aJ,.int .i64 x.main,cl,.ptr s 0 0 0,h,.mu g 0,fr,.map mp,.int .i64 e,.int .i64 code,out,.int .i64 aK]
def qG(f:Fr)(b:Nat):List AV:=[.int .i64 f.f,.int .i64 f.at_,.mu b 0,.int .i64 f.to]
def UB:List (AV×AV):=[(.int .i64 1,.fn 50 [] []),(.int .i64 2,.fn 51 [] []),(.int .i64 3,.fn 52 [] []),(.int .i64 4,.fn 53 [] []),(.int .i64 5,.fn 54 [] []),
 (.int .i64 6,.fn 55 [] []),(.int .i64 7,.fn 56 [] []),(.int .i64 8,.fn 57 [] []),(.int .i64 9,.fn 58 [] []),(.int .i64 10,.fn 59 [] []),(.int .i64 11,.fn 60 [] []),
 (.int .i64 12,.fn 61 [] []),(.int .i64 13,.fn 62 [] []),(.int .i64 14,.fn 63 [] []),(.int .i64 15,.fn 64 [] []),(.int .i64 16,.fn 65 [] []),(.int .i64 17,.fn 66 [] []),
 (.int .i64 18,.fn 67 [] []),(.int .i64 19,.fn 68 [] []),(.int .i64 20,.fn 69 [] [])]
def uv(st:aj):List Fr->List (Nat×Nat)->Prop
 |[],[]=>True|f::l,a::b=>st[a.1]?=some (.rows 0 4 [qG f a.2])/\st[a.2]?=some (.rows 0 1 (aP f.vs))/\uv st l b|_,_=>False
def kz(F:List (Nat×Nat)):List Nat:=F.flatMap λa=>[a.1,a.2]
structure dL (x:XD)(cl:AV)(ah:Nat)(m:Ms)(I:uF)(st:aj):Prop where
 P:st[I.p]?=some (.rows 0 15 [iT x cl I.s I.iv I.g (.mu I.fq I.fv) I.mp m.e m.code (if m.out=[] then .aF else .mu I.o I.ov) m.aK])
 iv:mK I.iv=true/\cJ I.iv=true/\dI I.iv=m.fm
 S:wT.Rp st I.s m.s I.q I.v I.fP
 G:st[I.g]?=some (.rows 0 1 (aP m.g))
 F:st[I.fq]?=some (.rows I.fv 1 (I.fl.reverse.map λf=>[.ptr f.1 0 0 0]))
 FR:uv st m.l I.fl
 O:m.out≠[]->st[I.o]?=some (.rows I.ov 1 (aP m.out))
 M:st[I.mp]?=some (.map UB)
 lp:I.jO I.p=.p
 lg:I.jO I.g=.g
 lf:I.jO I.fq=.fs
 lo:m.out≠[]->I.jO I.o=.o
 lm:I.jO I.mp=.mp
 ls:I.jO I.s=.st
 lq:m.s≠[]->I.jO I.q=.st
 li:∀i∈I.fP,I.jO i=.st
 lr:∀i∈kz I.fl,I.jO i=.fr
 nd:(kz I.fl).Nodup
 low:∀i,I.jO i≠.no->ah<=i
variable {x:XD}{cl:AV}{ah:Nat}{m:Ms}{I:uF}{st st':aj}{f:Fr}{l:List Fr}
theorem uv.ny:∀{l:List Fr}{F:List (Nat×Nat)},uv st l F->(∀i∈kz F,st'[i]?=st[i]?)->uv st' l F
 |[],[],_,_=>trivial|f::l,a::b,h,k=>⟨by rw[k a.1 (by simp[kz])];exact h.1,by rw[k a.2 (by simp[kz])];exact h.2.1,uv.ny h.2.2 λi H=>k i (by grind [kz])⟩
 |[],_::_,h,_=>h.elim|_::_,[],h,_=>h.elim
theorem uv.len:∀{l:List Fr}{F:List (Nat×Nat)},uv st l F->F.length=l.length
 |[],[],_=>rfl|_::_,_::_,h=>by simp[uv.len h.2.2]|[],_::_,h=>h.elim|_::_,[],h=>h.elim
theorem uv.lt:∀{l:List Fr}{F:List (Nat×Nat)},uv st l F->∀i∈kz F,i<st.length
 |[],[],_=>by simp[kz]|_::_,a::b,h=>by
  intro i H;simp only[kz,alh,List.mem_append]at H;rcases H with H|H;simp at H;rcases H with rfl|rfl;exact(aac.1 h.1).1;exact(aac.1 h.2.1).1;exact uv.lt h.2.2 i H
 |[],_::_,h=>h.elim|_::_,[],h=>h.elim
theorem BH{L:Nat->Lb}{a b:Nat}{c d:Lb}(H:L a=c)(g:L b=d)(h:c≠d):a≠b:=λe=>h (by grind)
variable{T:List (List Int)}{F:List Nat}
theorem _root_.wT.Rp.ny{p q v:Nat}(h:wT.Rp st p T q v F)(H:st'[p]?=st[p]?)(n:T≠[]->st'[q]?=st[q]?)(o:∀i∈F,st'[i]?=st[i]?):wT.Rp st' p T q v F:=
 ⟨h.len,by rw[H];exact h.bO,λg=>by rw[n g];exact h.dV g,λk j Q=>by rw[o _ (List.getElem_mem j)];exact h.el k j Q,h.pq,h.pn,h.qn,h.nd⟩
theorem _root_.wT.Rp.lt{p q v:Nat}(h:wT.Rp st p T q v F):p<st.length/\(T≠[]->q<st.length)/\∀i∈F,i<st.length:=
 ⟨(aac.1 h.bO).1,λg=>(aac.1 (h.dV g)).1,λi H=>by
  obtain⟨k,j,rfl⟩:=List.mem_iff_getElem.1 H;exact(aac.1 (h.el k j (by rw[<-h.len];exact j))).1⟩
theorem iU{i:Nat}{o:dJ}(h:st[i]?=some o):i<st.length:=by grind
theorem dL.dO(h:dL x cl ah m I st)(t:aj):dL x cl ah m I (st++t):=by
 have k:∀i,i<st.length->(st++t)[i]?=st[i]?:=λi H=>List.getElem?_append_left H;have s:=h.S.lt;refine⟨?_,h.iv,h.S.ny (k _ s.1) (λe=>k _ (s.2.1 e)) (λi H=>k i (s.2.2 i H)),?_,?_,h.FR.ny λi H=>k i (h.FR.lt i H),λe=>?_,?_,h.lp,h.lg,h.lf,h.lo,h.lm,h.ls,h.lq,h.li,h.lr,h.nd,h.low⟩;rw[k _ (iU h.P)];exact h.P;rw[k _ (iU h.G)];exact h.G;rw[k _ (iU h.F)];exact h.F;rw[k _ (iU (h.O e))];exact h.O e;rw[k _ (iU h.M)];exact h.M
theorem dL.aI(h:dL x cl ah m I st)(U:Ms)(y:AV)(j:U.s=m.s)(q:U.g=m.g)(r:U.l=m.l)(z:U.out=m.out)(H:mK y=true/\cJ y=true/\dI y=U.fm) :
  dL x cl ah U { I with iv:=y } (st.set I.p (.rows 0 15 [iT x cl I.s y I.g (.mu I.fq I.fv) I.mp U.e U.code (if U.out=[] then .aF else .mu I.o I.ov) U.aK])):=by
 have k:∀i,I.jO i≠.p->(st.set I.p (.rows 0 15 [iT x cl I.s y I.g (.mu I.fq I.fv) I.mp U.e U.code (if U.out=[] then .aF else .mu I.o I.ov) U.aK]))[i]?=st[i]?:=λi H=>
  ad6 λe=>H (by rw[<-e];exact h.lp)
 refine⟨ad9 (iU h.P),H,?_,?_,?_,?_,λe=>?_,?_,h.lp,h.lg,h.lf,by rw[z];exact h.lo,h.lm,h.ls,by rw[j];exact h.lq,h.li,h.lr,h.nd,h.low⟩;rw[j];exact h.S.ny (k _ (by rw[h.ls];decide)) (λe=>k _ (by rw[h.lq e];decide)) (λi H=>k i (by rw[h.li i H];decide));rw[q,k _ (by rw[h.lg];decide)];exact h.G;show _=some (dJ.rows I.fv 1 _);rw[k _ (by rw[h.lf];decide)];exact h.F;rw[r];exact h.FR.ny λi H=>k i (by rw[h.lr i H];decide);have n:m.out≠[]:=by grind
 exact(k I.o (by rw[h.lo n];decide)).trans (by rw[z];exact h.O n);rw[k _ (by rw[h.lm];decide)];exact h.M
theorem dL.Zu(h:dL x cl ah m I st)(e:m.l=f::l):∃a b,I.fl=a::b/\st[a.1]?=some (.rows 0 4 [qG f a.2])/\st[a.2]?=some (.rows 0 1 (aP f.vs))/\uv st l b/\a.1≠a.2/\I.jO a.1=.fr/\I.jO a.2=.fr/\
  (∀i∈kz b,i≠a.1/\i≠a.2):=by
 have H:=h.FR;rw[e]at H;cases k:I.fl with
 |nil=>rw[k]at H;exact H.elim|cons a b=>
  rw[k]at H;have g:=h.nd;have j:=h.lr;rw[k]at g j;simp only[kz,alh,List.cons_append,List.nil_append,List.nodup_cons,List.mem_cons,not_or]at g;exact⟨a,b,rfl,H.1,H.2.1,H.2.2,g.1.1,j _ (by simp[kz]),j _ (by simp[kz]),λi n=>⟨λe=>g.1.2 (e ▸ n),λe=>g.2.1 (e ▸ n)⟩⟩
theorem dL.WH(h:dL x cl ah m I st){B:Fr}(e:m.l=f::l){a:Nat×Nat}{b:List (Nat×Nat)}(j:I.fl=a::b)(k:∀i,i≠a.1->i≠a.2->st'[i]?=st[i]?)
  (n:st'[a.1]?=some (.rows 0 4 [qG B a.2]))(o:st'[a.2]?=some (.rows 0 1 (aP B.vs))):dL x cl ah { m with l:=B::l } I st':=by
 obtain⟨p,q,L,V,W,Y,J,t,y,g⟩:=h.Zu e;rw[j]at L;cases L;have C:∀i,I.jO i≠.fr->st'[i]?=st[i]?:=λi H=>k i (λe=>H (by grind)) (λe=>H (by grind));refine⟨?_,h.iv,h.S.ny (C _ (by rw[h.ls];decide)) (λe=>C _ (by rw[h.lq e];decide)) (λi H=>C i (by rw[h.li i H];decide)),?_,?_,?_,λe=>?_,?_,h.lp,h.lg,h.lf,h.lo,h.lm,h.ls,h.lq,h.li,h.lr,h.nd,h.low⟩;rw[C _ (by rw[h.lp];decide)];exact h.P;rw[C _ (by rw[h.lg];decide)];exact h.G;rw[C _ (by rw[h.lf];decide)];exact h.F;rw[j];exact⟨n,o,Y.ny λi H=>k i (g i H).1 (g i H).2⟩;rw[C _ (by rw[h.lo e];decide)];exact h.O e;rw[C _ (by rw[h.lm];decide)];exact h.M
structure Lts (I:uF)(m:Ms)(n:Nat):Prop where
 p:I.p<n
 g:I.g<n
 fq:I.fq<n
 mp:I.mp<n
 s:I.s<n
 q:m.s≠[]->I.q<n
 fP:∀i∈I.fP,i<n
 fr:∀i∈kz I.fl,i<n
 o:m.out≠[]->I.o<n
theorem dL.RN(h:dL x cl ah m I st):Lts I m st.length:=
 ⟨iU h.P,iU h.G,iU h.F,iU h.M,h.S.lt.1,h.S.lt.2.1,h.S.lt.2.2,h.FR.lt,λe=>iU (h.O e)⟩
theorem dL.take(h:dL x cl ah m I st){n:Nat}(k:Lts I m n):dL x cl ah m I (st.take n):=by
 have kk:∀i,i<n->(st.take n)[i]?=st[i]?:=λi hi=>by grind
 refine⟨?_,h.iv,h.S.ny (kk _ k.s) (λe=>kk _ (k.q e)) (λi hi=>kk i (k.fP i hi)),?_,?_,h.FR.ny λi hi=>kk i (k.fr i hi),λe=>?_,?_,h.lp,h.lg,h.lf,h.lo,h.lm,h.ls,h.lq,h.li,h.lr,h.nd,h.low⟩;rw[kk _ k.p];exact h.P;rw[kk _ k.g];exact h.G;rw[kk _ k.fq];exact h.F;rw[kk _ (k.o e)];exact h.O e;rw[kk _ k.mp];exact h.M
theorem dL.cut(h:dL x cl ah m I st){U:Ms}(r:dL x cl ah U I st')(j:U.s=[]↔m.s=[])(z:U.out=[]↔m.out=[]):dL x cl ah U I (st'.take st.length):=by
 have k:=h.RN;exact r.take ⟨k.p,k.g,k.fq,k.mp,k.s,λe=>k.q λq=>e (j.2 q),k.fP,k.fr,λe=>k.o λq=>e (z.2 q)⟩
theorem amG(n v:Int):(gj m n v).s=m.s/\(gj m n v).out=m.out:=by unfold gj;grind
theorem ahs(c:Int):(fY m c).s=m.s/\(fY m c).out=m.out:=by unfold fY;grind
theorem BI(n:Int)(c:Int×Int):(mG m n c).s=m.s/\(mG m n c).out=m.out:=by
 grind [mG,amG,ahs]
end ur
namespace ur
open Ax Go aO dh iq
variable {x:XD}{cl:AV}{ah:Nat}{m:Ms}{I:uF}{st st':aj}{f:Fr}{l:List Fr}
variable{a:Nat×Nat}{b:List (Nat×Nat)}
theorem dL.fl(h:dL x cl ah m I st)(j:I.fl=a::b)(k:m.l.length<=1000) :
  ∃R:List (List AV),st[I.fq]?=some (.rows I.fv 1 (R++[[.ptr a.1 0 0 0]]))/\R.length=b.length/\(R++[[AV.ptr a.1 0 0 0]])[b.length]?=some [.ptr a.1 0 0 0]/\b.length<=1000/\R=b.reverse.map λf=>[.ptr f.1 0 0 0]:=by
 have H:=h.F;have g:=h.FR.len;rw[j]at H g;simp only[List.reverse_cons,List.map_append,List.map_cons,List.map_nil]at H;simp at g;exact⟨_,H,by simp,by simp,by omega,rfl⟩
theorem Gn(w L:Nat)(h:dL x cl ah m I st)(g:I.fl=a::b)(j:m.l.length<=1000) :
  (aZ S).call w L 22 [.ptr I.p 0 0 0] st=some (.ptr a.1 0 0 0,st):=by
 have Y:=h.P;obtain⟨R,H,z,O,n,_⟩:=h.fl g j;have k:IntKind.i64.wrap (b.length:Int)=(b.length:Int):=by rw[dY]<;>omega
 have F:(b.length:Int)<(b.length:Int)+1:=by omega
 refine aG (sf:=s22) rfl rfl rfl ?_;simp[s22,Y,H,iT,cut,aD,aC,z,k,F]
theorem yR(w L:Nat)(h:dL x cl ah m I st)(e:m.l=f::l)(q:m.l.length<=1000)(n:Int)(g:pe f.vs.length n) :
  (aZ S).call w L 108 [.ptr I.p 0 0 0,.int .i64 n] st=some (.int .i64 (dQ f.vs n),st):=by
 obtain⟨a,b,o,H,j,_⟩:=h.Zu e;have X:=λw L=>Gn w L h o q;obtain⟨k,rfl⟩:∃k:Nat,n=k:=⟨n.toNat,by have:=g.1;omega⟩;have r:k<f.vs.length:=by have:=g.2;omega
 refine aG (sf:=akL) rfl rfl rfl ?_;simp[akL,X,H,j,qG,cut,r,dQ]
theorem sE(h:dL x cl ah m I st)(e:m.l=f::l)(s:m.l.length<=1000)(n v:Int)(o:pe f.vs.length n) :
  ∃st',st'.length=st.length/\(∀L,(aZ S).call 0 L 107 [.ptr I.p 0 0 0,.int .i64 n,.int .i64 v] st=some (.eY [],st'))/\dL x cl ah (gj m n v) I st':=by
 obtain⟨a,b,j,H,g,B,r,V,C,Y⟩:=h.Zu e;have X:=λW L=>Gn W L h j s;obtain⟨k,rfl⟩:∃k:Nat,n=k:=⟨n.toNat,by have:=o.1;omega⟩;have t:k<f.vs.length:=by have:=o.2;omega
 have w:(aP f.vs).set k [.int .i64 v]=aP (f.vs.set k v):=by simp[aP,List.map_set]
 have F:=iU g;have T:∀y,aik st.length (st.set a.2 y)=st.set a.2 y:=λy=>aea (by simp);refine⟨st.set a.2 (.rows 0 1 (aP (f.vs.set k v))),by simp,λL=>?_,?_⟩;refine aG (sf:=akZ) rfl rfl rfl ?_;simp[akZ,X,H,g,qG,cut,t,bu,AV.aB,AV.aH,ay,w,T];have em:gj m (k:Int) v={ m with l:={ f with vs:=f.vs.set k v }::l }:=by unfold gj;rw[e];rfl
 rw[em];exact h.WH e j (λi D z=>ad6 (λq=>z q.symm)) (by rw[ad6 (λq=>r q.symm)];exact H) (ad9 F)
theorem rD(h:dL x cl ah m I st)(c:Int) :
  ∃st',st'.length=st.length/\(∀L,(aZ S).call 0 L 113 [.ptr I.p 0 0 0,.int .i64 c] st=some (.bool (decide (c≠0)),st'))/\dL x cl ah (fY m c) I st'/\(c=0->st'=st):=by
 by_cases C:c=0;subst C;refine⟨st,rfl,λL=>?_,h,λ_=>rfl⟩;refine aG (sf:=abI) rfl rfl rfl ?_;simp[abI];have Y:=h.P;have F:=iU Y;have H:=h.aI (fY m c) I.iv (by simp[fY,C]) (by simp[fY,C]) (by simp[fY,C]) (by simp[fY,C]) (by simp[fY,C];exact h.iv);refine⟨_,?_,λL=>?_,H,λq=>au q C⟩;simp;refine aG (sf:=abI) rfl rfl rfl ?_;have T:∀y,aik st.length (st.set I.p y)=st.set I.p y:=λy=>aea (by simp);have G:∀y z,(st.set I.p y).set I.p z=st.set I.p z:=λy z=>List.set_set ..
 have B:∀y,(st.set I.p y)[I.p]?=some y:=λy=>ad9 F;simp[abI,C,Y,iT,bu,AV.aB,AV.aH,ay,T,G,B,fY]
end ur
namespace ur
open Ax Go aO dh iq
theorem E9(w L:Nat)(b:Bool)(st:aj):(aZ S).call w L 143 [.bool b] st=some (.int .i64 (lM b),st):=by
 refine bE (sf:=akK) rfl rfl rfl rfl rfl ?_;cases b<;>simp[akK,lM]
theorem UC(w L:Nat)(op a b:Int)(st:aj):(aZ S).call w L 110 [.int .i64 op,.int .i64 a,.int .i64 b] st=some (.eY [.int .i64 (zV op a b).1,.int .i64 (zV op a b).2],st):=by
 have H:=λw L b st=>E9 w L b st;refine bE (sf:=yB) rfl rfl rfl rfl rfl ?_;unfold zV;by_cases n:op=14;subst n;simp[yB];by_cases D:op=15;subst D;simp[yB];by_cases k:op=16;subst k;simp[yB];by_cases o:op=17;subst o;by_cases E:b=0;subst E;simp[yB];simp[yB,E];by_cases g:op=18;subst g;by_cases E:b=0;subst E;simp[yB];simp[yB,E];by_cases F:op=19;subst F;simp[yB,H];by_cases G:op=20;subst G;simp[yB,H];by_cases T:op=21;subst T;simp[yB,H];by_cases t:op=22;subst t;simp[yB,H];by_cases s:op=23;subst s;by_cases j:a=0;subst j;simp[yB,H];by_cases E:b=0;subst E;simp[yB,H,j];simp[yB,H,j,E];by_cases h:op=24;subst h;by_cases j:a=0;subst j;by_cases E:b=0;subst E;simp[yB,H];simp[yB,H,E];simp[yB,H,j];simp[yB,n,D,k,o,g,F,G,T,t,s,h]
theorem WI(w L:Nat)(op a:Int)(st:aj):(aZ S).call w L 111 [.int .i64 op,.int .i64 a] st=some (.int .i64 (Zs op a),st):=by
 have H:=λw L b st=>E9 w L b st;refine bE (sf:=abx) rfl rfl rfl rfl rfl ?_;unfold Zs;by_cases t:op=12;subst t;simp[abx];by_cases C:op=13;subst C;simp[abx,H];simp[abx,t,C]
variable {x:XD}{cl:AV}{ah:Nat}{m:Ms}{I:uF}{st st':aj}{f:Fr}{l:List Fr}
theorem Cy(h:dL x cl ah m I st)(e:m.l=f::l)(H:m.l.length<=1000)(n v c:Int)(g:pe f.vs.length n){b1 b2:Nat}(B:st[b1]?=some (.rows 0 1 [[.ptr I.p 0 0 0]]))(J:st[b2]?=some (.rows 0 1 [[.int .i64 n]])) :
  ∃st',st'.length=st.length/\(∀L,(aZ S).call 0 L 142 [.int .i64 v,.int .i64 c,.ptr b1 0 0 0,.ptr b2 0 0 0] st=some (.eY [],st'))/\dL x cl ah (mG m n (v,c)) I st':=by
 obtain⟨j,k,t,R,Z⟩:=rD h c;by_cases C:c=0;have E:=Z C;subst E;obtain⟨s,o,Y,r⟩:=sE h e H n v g;have q:fY m c=m:=by simp[fY,C]
 have O:mG m n (v,c)=gj m n v:=by simp[mG,C]
 have T:aik j.length s=s:=aea (by omega);refine⟨s,o,λL=>?_,by rw[O];exact r⟩;refine aG (sf:=abz) rfl rfl rfl ?_;subst C;simp[abz,B,J,cut,t,Y,T];have O:mG m n (v,c)=fY m c:=by simp[mG,C]
 have T:aik st.length j=j:=aea (by omega);refine⟨j,k,λL=>?_,by rw[O];exact R⟩;refine aG (sf:=abz) rfl rfl rfl ?_;simp[abz,B,cut,t,C,T]
theorem sI(w L p:Nat)(n:Int)(st:aj):(aZ S).call w L 109 [.ptr p 0 0 0,.int .i64 n] st =
  some (.fn 142 [] [.ptr st.length 0 0 0,.ptr (st.length+1) 0 0 0],st++[.rows 0 1 [[.ptr p 0 0 0]],.rows 0 1 [[.int .i64 n]]]):=by
 refine aG (sf:=akC) rfl rfl rfl ?_;simp[akC]
end ur
namespace ur
open Ax Go aO dh iq
variable {x:XD}{cl:AV}{ah:Nat}{m:Ms}{I:uF}{st st':aj}{f:Fr}{l:List Fr}{i:ID}
theorem RO(h:dL x cl ah m I st)(e:m.l=f::l)(g:m.l.length<=1000)(k:mK i.args=true)(E:cJ i.args=true)(o:pe f.vs.length i.a) :
  ∃st',st'.length=st.length/\(∀L,(aZ S).call 0 L 50 [.ptr I.p 0 0 0,.agg i.cells] st=some (.eY [],st'))/\dL x cl ah (gj m i.a i.n) I st':=by
 have H:=eA k;have r:=bT E H;obtain⟨j,q,T,R⟩:=sE h e g i.a i.n o;have t:aik st.length j=j:=aea (by omega);refine⟨j,q,λL=>?_,R⟩;refine aG (sf:=s50) rfl rfl rfl ?_;simp[s50,ID.cells,H,T,t]
theorem aht(h:dL x cl ah m I st)(e:m.l=f::l)(g:m.l.length<=1000)(k:mK i.args=true)(E:cJ i.args=true)(n:pe f.vs.length i.a) :
  ∃st',st'.length=st.length/\(∀L,(aZ S).call 0 L 51 [.ptr I.p 0 0 0,.agg i.cells] st=some (.eY [],st'))/\dL x cl ah (gj m i.a 0) I st':=by
 have H:=eA k;have q:=bT E H;obtain⟨j,o,T,R⟩:=sE h e g i.a 0 n;have t:aik st.length j=j:=aea (by omega);refine⟨j,o,λL=>?_,R⟩;refine aG (sf:=s51) rfl rfl rfl ?_;simp[s51,ID.cells,H,T,t]
theorem YZ(h:dL x cl ah m I st)(e:m.l=f::l)(H:m.l.length<=1000)(k:mK i.args=true)(E:cJ i.args=true)(n:pe f.vs.length i.a)(g:pe f.vs.length i.b) :
  ∃st',st'.length=st.length/\(∀L,(aZ S).call 0 L 52 [.ptr I.p 0 0 0,.agg i.cells] st=some (.eY [],st'))/\dL x cl ah (gj m i.a (dQ f.vs i.b)) I st':=by
 have o:=eA k;have r:=bT E o;obtain⟨j,q,T,R⟩:=sE h e H i.a (dQ f.vs i.b) n;have v1:=λw L=>yR w L h e H i.b g;have t:aik st.length j=j:=aea (by omega);refine⟨j,q,λL=>?_,R⟩;refine aG (sf:=s52) rfl rfl rfl ?_;simp_all [s52,ID.cells,aD,aC]
theorem Ui(h:dL x cl ah m I st)(e:m.l=f::l)(g:m.l.length<=1000)(q:mK i.args=true)(E:cJ i.args=true)(r:pe f.vs.length i.a)(k:pe f.vs.length i.b)(o:pe f.vs.length i.c) :
  ∃st',st'.length=st.length/\(∀L,(aZ S).call 0 L 53 [.ptr I.p 0 0 0,.agg i.cells] st=some (.eY [],st'))/\dL x cl ah (mG m i.a (zV i.n (dQ f.vs i.b) (dQ f.vs i.c))) I st':=by
 have j:=eA q;have t:=bT E j;have H:=h.dO [.rows 0 1 [[.ptr I.p 0 0 0]],.rows 0 1 [[.int .i64 i.a]]];obtain⟨s,y,T,R⟩:=Cy H e g i.a (zV i.n (dQ f.vs i.b) (dQ f.vs i.c)).1 (zV i.n (dQ f.vs i.b) (dQ f.vs i.c)).2 r (b1:=st.length) (b2:=st.length+1) (by simp) (by simp);have v1:=λw L=>yR w L H e g i.b k;have v:=λw L=>yR w L H e g i.c o;have G:=λw L=>sI w L I.p i.a st;have C:=λw L st=>UC w L i.n (dQ f.vs i.b) (dQ f.vs i.c) st;refine⟨s.take st.length,?_,λL=>?_,?_⟩
 grind
 refine aG (sf:=s53) rfl rfl rfl ?_;simp[s53,ID.cells,j,G,v1,v,C,T,aD,aC];exact h.cut R (by rw[(BI _ _).1]) (by rw[(BI _ _).2])
theorem TB(h:dL x cl ah m I st)(e:m.l=f::l)(H:m.l.length<=1000)(k:mK i.args=true)(E:cJ i.args=true)(o:pe f.vs.length i.a)(g:pe f.vs.length i.b) :
  ∃st',st'.length=st.length/\(∀L,(aZ S).call 0 L 54 [.ptr I.p 0 0 0,.agg i.cells] st=some (.eY [],st'))/\dL x cl ah (gj m i.a (Zs i.n (dQ f.vs i.b))) I st':=by
 have q:=eA k;have s:=bT E q;obtain⟨j,r,T,R⟩:=sE h e H i.a (Zs i.n (dQ f.vs i.b)) o;have v1:=λw L=>yR w L h e H i.b g;have U:=λw L st=>WI w L i.n (dQ f.vs i.b) st;have t:aik st.length j=j:=aea (by omega);refine⟨j,r,λL=>?_,R⟩;refine aG (sf:=s54) rfl rfl rfl ?_;simp_all [s54,ID.cells,aD,aC]
theorem ahu(T:List (List Int))(r j:Int):kQ T r j=(if wT.qp T r j=0 then (T.getD (r-1).toNat []).getD j.toNat 0 else 0,wT.qp T r j):=by
 unfold kQ;have:ko T r j=wT.qp T r j:=rfl
 grind
theorem ai7(w L:Nat)(h:dL x cl ah m I st)(H:m.s.length<1000000)(r j:Int) :
  (aZ S).call w L 112 [.ptr I.s 0 0 0,.int .i64 r,.int .i64 j] st=some (.eY [.int .i64 (kQ m.s r j).1,.int .i64 (kQ m.s r j).2],st):=by
 rw[ahu];exact wT.Aa w L h.S r j (by omega)
theorem Aa(h:dL x cl ah m I st)(e:m.l=f::l)(j:m.l.length<=1000)(o:m.s.length<1000000)(r:mK i.args=true)(E:cJ i.args=true)(t:pe f.vs.length i.a)(q:pe f.vs.length i.b) :
  ∃st',st'.length=st.length/\(∀L,(aZ S).call 0 L 55 [.ptr I.p 0 0 0,.agg i.cells] st=some (.eY [],st'))/\dL x cl ah (mG m i.a (kQ m.s (dQ f.vs i.b) i.c)) I st':=by
 have k:=eA r;have y:=bT E k;have H:=h.dO [.rows 0 1 [[.ptr I.p 0 0 0]],.rows 0 1 [[.int .i64 i.a]]];obtain⟨v,z,T,R⟩:=Cy H e j i.a (kQ m.s (dQ f.vs i.b) i.c).1 (kQ m.s (dQ f.vs i.b) i.c).2 t (b1:=st.length) (b2:=st.length+1) (by simp) (by simp);have v1:=λw L=>yR w L H e j i.b q;have G:=λw L=>sI w L I.p i.a st;have C:=λw L=>ai7 w L H o (dQ f.vs i.b) i.c;have Y:=H.P;refine⟨v.take st.length,?_,λL=>?_,?_⟩
 grind
 have g:=h.P;have n:=R.P;refine aG (sf:=s55) rfl rfl rfl ?_;simp[s55,ID.cells,k];rw[gO];simp[cR,eR,cw,di,fZ.bM,G,Y,iT,cut,v1,C,T];refine⟨_,_,⟨rfl,rfl⟩,?_⟩;simp[g,Y,iT,cut,bH,AV.cC,AV.ai,fz.cU,AV.cU];exact h.cut R (by rw[(BI _ _).1]) (by rw[(BI _ _).2])
theorem ahw(h:dL x cl ah m I st)(e:m.l=f::l)(j:m.l.length<=1000)(o:m.s.length<1000000)(t:mK i.args=true)(E:cJ i.args=true)(v:pe f.vs.length i.a)(q:pe f.vs.length i.b)(r:pe f.vs.length i.c) :
  ∃st',st'.length=st.length/\(∀L,(aZ S).call 0 L 57 [.ptr I.p 0 0 0,.agg i.cells] st=some (.eY [],st'))/\dL x cl ah (mG m i.a (kQ m.s (dQ f.vs i.b) (dQ f.vs i.c))) I st':=by
 have k:=eA t;have z:=bT E k;have H:=h.dO [.rows 0 1 [[.ptr I.p 0 0 0]],.rows 0 1 [[.int .i64 i.a]]];obtain⟨y,B,T,R⟩:=Cy H e j i.a (kQ m.s (dQ f.vs i.b) (dQ f.vs i.c)).1 (kQ m.s (dQ f.vs i.b) (dQ f.vs i.c)).2 v (b1:=st.length) (b2:=st.length+1) (by simp) (by simp);have v1:=λw L=>yR w L H e j i.b q;have V:=λw L=>yR w L H e j i.c r;have G:=λw L=>sI w L I.p i.a st;have C:=λw L=>ai7 w L H o (dQ f.vs i.b) (dQ f.vs i.c);have Y:=H.P;refine⟨y.take st.length,?_,λL=>?_,?_⟩
 grind
 have g:=h.P;have n:=R.P;refine aG (sf:=s57) rfl rfl rfl ?_;simp[s57,ID.cells,k];rw[gO];simp[cR,eR,cw,di,fZ.bM,G,Y,iT,cut,v1,V,C,T];refine⟨_,_,⟨rfl,rfl⟩,?_⟩;simp[g,Y,iT,cut,bH,AV.cC,AV.ai,fz.cU,AV.cU];exact h.cut R (by rw[(BI _ _).1]) (by rw[(BI _ _).2])
theorem Gl(w L:Nat)(h:dL x cl ah m I st)(j:m.s.length<1000000)(r:Int) :
  (aZ S).call w L 115 [.ptr I.s 0 0 0,.int .i64 r] st=some (.eY [.int .i64 (zW m.s r).1,.int .i64 (zW m.s r).2],st):=by
 rw[wT.Gl w L h.S r (by omega)]
 grind [zW]
theorem Y0(h:dL x cl ah m I st)(e:m.l=f::l)(j:m.l.length<=1000)(o:m.s.length<1000000)(r:mK i.args=true)(E:cJ i.args=true)(t:pe f.vs.length i.a)(q:pe f.vs.length i.b) :
  ∃st',st'.length=st.length/\(∀L,(aZ S).call 0 L 59 [.ptr I.p 0 0 0,.agg i.cells] st=some (.eY [],st'))/\dL x cl ah (mG m i.a (zW m.s (dQ f.vs i.b))) I st':=by
 have k:=eA r;have y:=bT E k;have H:=h.dO [.rows 0 1 [[.ptr I.p 0 0 0]],.rows 0 1 [[.int .i64 i.a]]];obtain⟨v,z,T,R⟩:=Cy H e j i.a (zW m.s (dQ f.vs i.b)).1 (zW m.s (dQ f.vs i.b)).2 t (b1:=st.length) (b2:=st.length+1) (by simp) (by simp);have v1:=λw L=>yR w L H e j i.b q;have G:=λw L=>sI w L I.p i.a st;have C:=λw L=>Gl w L H o (dQ f.vs i.b);have Y:=H.P;refine⟨v.take st.length,?_,λL=>?_,?_⟩
 grind
 have g:=h.P;have n:=R.P;refine aG (sf:=s59) rfl rfl rfl ?_;simp[s59,ID.cells,k];rw[gO];simp[cR,eR,cw,di,fZ.bM,G,Y,iT,cut,v1,C,T];refine⟨_,_,⟨rfl,rfl⟩,?_⟩;simp[g,Y,iT,cut,bH,AV.cC,AV.ai,fz.cU,AV.cU];exact h.cut R (by rw[(BI _ _).1]) (by rw[(BI _ _).2])
theorem amH(h:dL x cl ah m I st)(e:m.l=f::l)(q:m.l.length<=1000)(r:mK i.args=true)(E:cJ i.args=true)(t:pe f.vs.length i.a)(O:0<=i.n/\i.n<(m.g.length:Int)) :
  ∃st',st'.length=st.length/\(∀L,(aZ S).call 0 L 68 [.ptr I.p 0 0 0,.agg i.cells] st=some (.eY [],st'))/\dL x cl ah (gj m i.a (dQ m.g i.n)) I st':=by
 have v:=eA r;have z:=bT E v;obtain⟨j,w,T,R⟩:=sE h e q i.a (dQ m.g i.n) t;have Y:=h.P;have y:=h.G;obtain⟨k,s⟩:∃k:Nat,i.n=k:=⟨i.n.toNat,by omega⟩;have o:k<m.g.length:=by omega
 have H:dQ m.g i.n=m.g[k]:=by simp[dQ,s,o]
 rw[H]at T R ⊢;have B:aik st.length j=j:=aea (by omega);refine⟨j,w,λL=>?_,R⟩;refine aG (sf:=s68) rfl rfl rfl ?_;simp_all [s68,ID.cells,iT,aD,aC]
end ur
namespace ur
open Ax Go aO dh iq
variable {x:XD}{cl:AV}{ah:Nat}{m:Ms}{I:uF}{st st':aj}{f:Fr}{l:List Fr}{i:ID}
theorem dL.adD(h:dL x cl ah m I st){T:List (List Int)}{q v:Nat}{fP:List Nat}{jO:Nat->Lb}(r:wT.Rp st' I.s T q v fP)(k:∀j,j<st.length->I.jO j≠.st->st'[j]?=st[j]?)
  (H:∀j,j<st.length->jO j=I.jO j)(lq:T≠[]->jO q=.st)(li:∀j∈fP,jO j=.st)(low:∀j,jO j≠.no->ah<=j) :
  dL x cl ah { m with s:=T } { I with q:=q,v:=v,fP:=fP,jO:=jO } st':=by
 have b:=h.RN;refine⟨?_,h.iv,r,?_,?_,h.FR.ny λj X=>k j (b.fr j X) (by rw[h.lr j X];decide),λe=>?_,?_,(H _ b.p).trans h.lp,(H _ b.g).trans h.lg,(H _ b.fq).trans h.lf,λe=>(H _ (b.o e)).trans (h.lo e),(H _ b.mp).trans h.lm,(H _ b.s).trans h.ls,lq,li,
  λj X=>(H _ (b.fr j X)).trans (h.lr j X),h.nd,low⟩
 exact(k _ b.p (by rw[h.lp];decide)).trans h.P;exact(k _ b.g (by rw[h.lg];decide)).trans h.G;exact(k _ b.fq (by rw[h.lf];decide)).trans h.F;exact(k _ (b.o e) (by rw[h.lo e];decide)).trans (h.O e);exact(k _ b.mp (by rw[h.lm];decide)).trans h.M
theorem ai8(h:dL x cl ah m I st)(w:m.s.length<1000000)(r j v:Int) :
  ∃st',st'.length=st.length/\(∀p,(aZ S).call 0 p 114 [.ptr I.s 0 0 0,.int .i64 r,.int .i64 j,.int .i64 v] st=some (.int .i64 (ko m.s r j),st'))/\dL x cl ah { m with s:=tH m.s r j v } I st':=by
 obtain⟨g,t,R,F,L⟩:=wT.xS 0 h.S r j v (by omega);have E:∀T:List (List Int),T.length=m.s.length->(T≠[]↔m.s≠[]):=λT q=>by
  grind
 have o:wT.ahq m.s r j v=tH m.s r j v:=rfl;refine⟨g,L,t,?_⟩;rw[o]at R;exact h.adD (st':=g) R (λk H M=>F.2 k H λn=>M (h.li k n)) (λ_ _=>rfl) (λe=>h.lq ((E _ Cs).1 e)) h.li h.low
theorem ahx(h:dL x cl ah m I st)(e:m.l=f::l)(H:m.l.length<=1000)(k:m.s.length<1000000)(q:mK i.args=true)(E:cJ i.args=true)(n:pe f.vs.length i.a)(o:pe f.vs.length i.b) :
  ∃st',st'.length=st.length/\(∀L,(aZ S).call 0 L 56 [.ptr I.p 0 0 0,.agg i.cells] st=some (.eY [],st'))/\
   dL x cl ah (fY { m with s:=tH m.s (dQ f.vs i.a) i.c (dQ f.vs i.b) } (ko m.s (dQ f.vs i.a) i.c)) I st':=by
 have j:=eA q;have y:=bT E j;obtain⟨C,z,T,R⟩:=ai8 h k (dQ f.vs i.a) i.c (dQ f.vs i.b);obtain⟨g,B,t,r,_⟩:=rD R (ko m.s (dQ f.vs i.a) i.c);have v1:=λw L=>yR w L h e H i.a n;have V:=λw L=>yR w L h e H i.b o;have Y:=h.P;have v:aik st.length g=g:=aea (by omega);refine⟨g,by omega,λL=>?_,r⟩;refine aG (sf:=s56) rfl rfl rfl ?_;simp[s56,ID.cells,j];rw[gO];simp[cR,eR,cw,di,fZ.bM,Y,iT,cut,v1,V,T,t];refine⟨_,_,⟨rfl,rfl⟩,?_⟩;simp[Y,iT,cut,bH,AV.cC,AV.ai,fz.cU,AV.cU,v]
theorem amI(h:dL x cl ah m I st)(e:m.l=f::l)(H:m.l.length<=1000)(k:m.s.length<1000000)(r:mK i.args=true)(E:cJ i.args=true)(n:pe f.vs.length i.a)(o:pe f.vs.length i.b)(q:pe f.vs.length i.c) :
  ∃st',st'.length=st.length/\(∀L,(aZ S).call 0 L 58 [.ptr I.p 0 0 0,.agg i.cells] st=some (.eY [],st'))/\
   dL x cl ah (fY { m with s:=tH m.s (dQ f.vs i.a) (dQ f.vs i.b) (dQ f.vs i.c) } (ko m.s (dQ f.vs i.a) (dQ f.vs i.b))) I st':=by
 have j:=eA r;have B:=bT E j;obtain⟨F,C,T,R⟩:=ai8 h k (dQ f.vs i.a) (dQ f.vs i.b) (dQ f.vs i.c);obtain⟨g,D,v,t,_⟩:=rD R (ko m.s (dQ f.vs i.a) (dQ f.vs i.b));have v1:=λw L=>yR w L h e H i.a n;have V:=λw L=>yR w L h e H i.b o;have z:=λw L=>yR w L h e H i.c q;have Y:=h.P;have y:aik st.length g=g:=aea (by omega);refine⟨g,by omega,λL=>?_,t⟩;refine aG (sf:=s58) rfl rfl rfl ?_;simp[s58,ID.cells,j];rw[gO];simp[cR,eR,cw,di,fZ.bM,Y,iT,cut,v1,V,z,T,v];refine⟨_,_,⟨rfl,rfl⟩,?_⟩;simp[Y,iT,cut,bH,AV.cC,AV.ai,fz.cU,AV.cU,y]
theorem dL.place(h:dL x cl ah m I st)(e:m.l=f::l)(n:Int){a:Nat×Nat}{b:List (Nat×Nat)}(H:I.fl=a::b):dL x cl ah (mB m n) I (st.set a.1 (.rows 0 4 [qG { f with at_:=n } a.2])):=by
 obtain⟨j,B,L,g,k,o,p,V,z,Y⟩:=h.Zu e;rw[H]at L;cases L;have em:mB m n={ m with l:={ f with at_:=n }::l }:=by unfold mB;rw[e]
 rw[em];exact h.WH e H (λi C r=>ad6 (λq=>C q.symm)) (ad9 (iU g)) (by grind)
theorem ahy(h:dL x cl ah m I st)(e:m.l=f::l)(k:m.l.length<=1000)(o:mK i.args=true)(E:cJ i.args=true) :
  ∃st',st'.length=st.length/\(∀L,(aZ S).call 0 L 65 [.ptr I.p 0 0 0,.agg i.cells] st=some (.eY [],st'))/\dL x cl ah (mB m i.n) I st':=by
 have j:=eA o;have t:=bT E j;obtain⟨a,b,H,g,q,r,s,V,z,Y⟩:=h.Zu e;have X:=λw L=>Gn w L h H k;have T:∀y,aik st.length (st.set a.1 y)=st.set a.1 y:=λy=>aea (by simp);refine⟨_,by simp,λL=>?_,h.place e i.n H⟩;refine aG (sf:=s65) rfl rfl rfl ?_;simp[s65,ID.cells,j,X,g,qG,cut,bu,AV.aB,AV.aH,ay,T,aD,aC]
theorem Y1(h:dL x cl ah m I st)(e:m.l=f::l)(k:m.l.length<=1000)(o:mK i.args=true)(E:cJ i.args=true)(q:pe f.vs.length i.a) :
  ∃st',st'.length=st.length/\(∀L,(aZ S).call 0 L 66 [.ptr I.p 0 0 0,.agg i.cells] st=some (.eY [],st'))/\dL x cl ah (mB m (if dQ f.vs i.a≠0 then i.n else i.c)) I st':=by
 have j:=eA o;have v:=bT E j;obtain⟨a,b,g,H,r,s,t,V,z,Y⟩:=h.Zu e;have X:=λw L=>Gn w L h g k;have v1:=λw L=>yR w L h e k i.a q;have T:∀y,aik st.length (st.set a.1 y)=st.set a.1 y:=λy=>aea (by simp);refine⟨_,by simp,λL=>?_,h.place e _ g⟩;refine aG (sf:=s66) rfl rfl rfl ?_;by_cases c:dQ f.vs i.a=0;simp[s66,ID.cells,j,X,v1,c,H,qG,cut,bu,AV.aB,AV.aH,ay,T,aD,aC];simp[s66,ID.cells,j,X,v1,c,H,qG,cut,bu,AV.aB,AV.aH,ay,T,aD,aC]
theorem xS(h:dL x cl ah m I st)(e:m.l=f::l)(w:m.l.length<=1000)(H:mK i.args=true)(E:cJ i.args=true)(z:pe f.vs.length i.a)(B:0<=i.n/\i.n<(m.g.length:Int)) :
  ∃st',st'.length=st.length/\(∀L,(aZ S).call 0 L 69 [.ptr I.p 0 0 0,.agg i.cells] st=some (.eY [],st'))/\dL x cl ah { m with g:=m.g.set i.n.toNat (dQ f.vs i.a) } I st':=by
 have r:=eA H;have C:=bT E r;have v1:=λW L=>yR W L h e w i.a z;have Y:=h.P;have v:=h.G;obtain⟨k,o⟩:∃k:Nat,i.n=k:=⟨i.n.toNat,by omega⟩;have t:k<m.g.length:=by omega
 have s:(aP m.g).set k [.int .i64 (dQ f.vs i.a)]=aP (m.g.set k (dQ f.vs i.a)):=by simp[aP,List.map_set]
 have T:∀y,aik st.length (st.set I.g y)=st.set I.g y:=λy=>aea (by simp);have kk:∀y j,I.jO j≠.g->(st.set I.g y)[j]?=st[j]?:=λy j X=>ad6 λq=>X (by rw[<-q];exact h.lg);refine⟨st.set I.g (.rows 0 1 (aP (m.g.set k (dQ f.vs i.a)))),by simp,λL=>?_,?_⟩;refine aG (sf:=s69) rfl rfl rfl ?_;simp[s69,ID.cells,r];rw[gO];simp[cR,eR,cw,bu,di,fZ.bM,Y,v,iT,cut,v1,o,t,AV.aB,AV.aH,ay];refine⟨_,_,⟨rfl,rfl⟩,?_⟩;simp[Y,iT,cut,bH,AV.cC,AV.ai,fz.cU,AV.cU,T,s];rw[o,Int.toNat_natCast];refine⟨?_,h.iv,h.S.ny (kk _ _ (by rw[h.ls];decide)) (λe=>kk _ _ (by rw[h.lq e];decide)) (λi H=>kk _ i (by rw[h.li i H];decide)),ad9 (iU h.G),?_,h.FR.ny λi H=>kk _ i (by rw[h.lr i H];decide),λe=>?_,?_,h.lp,h.lg,h.lf,h.lo,h.lm,h.ls,h.lq,h.li,h.lr,h.nd,h.low⟩
 grind
 exact(kk _ _ (by rw[h.lf];decide)).trans h.F;exact(kk _ _ (by rw[h.lo e];decide)).trans (h.O e);exact(kk _ _ (by rw[h.lm];decide)).trans h.M
end ur
