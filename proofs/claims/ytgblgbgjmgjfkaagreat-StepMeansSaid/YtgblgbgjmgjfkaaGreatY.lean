/- Part of a proof. -/
import Derived.Test.YtgblgbgjmgjfkaaGreatG
import Derived.Test.YtgblgbgjmgjfkaaGreatK
import Derived.Test.YtgblgbgjmgjfkaaGreatS

open List renaming mem_append->aed,getElem_mem->acH,getElem?_append_left->acJ,getElem?_set_ne->ad6,getElem?_set_self->ad9,mem_append_right->ak1,nodup_append->amL,cons_append->aer,nil_append->aeN,nodup_cons->aiY,getElem_append_left->ajr,take->aik,take_of_length_le->aea,set_set->anc,replicate->acp,drop_eq_getElem_cons->adB
open Nat renaming le_refl->acO
open Int renaming toNat_natCast->aeu
open Bool renaming and_eq_true->Ee
set_option maxRecDepth 100000
set_option maxHeartbeats 4000000
namespace Ft
open Ax Go aO V7 iQ iZ pX
inductive Lb|no|p|g|o|st|fr
 deriving DecidableEq
structure uF where
 p:Nat
 q:Nat
 v:Nat
 g:Nat
 o:Nat
 ov:Nat
 fP:List Nat
 fl:List (Nat×Nat)
 jO:Nat->Lb
 iv:AV
structure Px where
 H:Hd
 m:Int
 bs:List Bd
 fu:Nat
def lV(s:List (List Int))(q v:Nat):AV:=if s=[] then .aF else .mu q v
def oV(o:List Int)(i v:Nat):AV:=if o=[] then .aF else .mu i v
def vV(f:Fm)(a:Nat×Nat):AV:=if f.vs=[] then .aF else .mu a.1 a.2
def jD(T:Px)(h:AV)(e code:Int)(out:AV)(aK:Nat)(l:AV)(g:Nat)(nf:Nat)(vs:AV)(done:Bool)(res:Int):List AV:=
 [aM 2 (T.H.bJ.map fQ),cG T.H.az,aM 6 (T.H.aW.map Sg.aI),.int .i64 T.m,aM 3 (T.bs.map Bd.aI),h,.int .i64 T.fu,.int .i64 e,.int .i64 code,out,.int .i64 aK,l,.mu g 0,.int .i64 nf,vs,.bool done,.int .i64 res]
def f0:Fm:=⟨[],0,false⟩
def oX(L:List Fm):Fm:=L.headD f0
def tL(I:uF):Nat×Nat:=I.fl.headD (0,0)
def cI(T:Px)(L:List Fm)(r:Rs)(I:uF):List AV:=jD T I.iv r.e r.code (oV r.out I.o I.ov) r.aK (lV r.s I.q I.v) I.g r.nf (vV (oX L) (tL I)) (oX L).done (oX L).res
def uv(st:aj):List Fm->List (Nat×Nat)->Prop
 |[],[]=>True|f::l,a::b=>(f.vs≠[]->st[a.1]?=some (.rows a.2 1 (aP f.vs)))/\uv st l b|_,_=>False
def kz:List Fm->List (Nat×Nat)->List Nat
 |f::l,a::b=>(if f.vs=[] then [] else [a.1])++kz l b|_,_=>[]
structure dL (T:Px)(ah:Nat)(L:List Fm)(r:Rs)(I:uF)(st:aj):Prop where
 P:st[I.p]?=some (.rows 0 17 [cI T L r I])
 iv:mK I.iv=true/\cJ I.iv=true/\dI I.iv=r.fm
 sl:I.fP.length=r.s.length
 S:r.s≠[]->st[I.q]?=some (.rows I.v 1 (I.fP.map λi=>[.mu i 0]))
 el:∀k (h:k<I.fP.length) (h2:k<r.s.length),st[I.fP[k]]?=some (.rows 0 1 (aP r.s[k]))
 G:st[I.g]?=some (.rows 0 1 (aP r.g))
 FR:uv st L I.fl
 O:r.out≠[]->st[I.o]?=some (.rows I.ov 1 (aP r.out))
 lp:I.jO I.p=.p
 lg:I.jO I.g=.g
 lo:r.out≠[]->I.jO I.o=.o
 lq:r.s≠[]->I.jO I.q=.st
 li:∀i∈I.fP,I.jO i=.st
 qn:r.s≠[]->I.q ∉ I.fP
 sn:I.fP.Nodup
 lr:∀i∈kz L I.fl,I.jO i=.fr
 nd:(kz L I.fl).Nodup
 low:∀i,I.jO i≠.no->ah<=i
variable {T:Px}{ah:Nat}{L:List Fm}{r:Rs}{I:uF}{st st':aj}{f:Fm}
theorem uv.ny:∀{l:List Fm}{F:List (Nat×Nat)},uv st l F->(∀i∈kz l F,st'[i]?=st[i]?)->uv st' l F
 |[],[],_,_=>trivial|f::l,a::b,h,k=>⟨λe=>by rw[k a.1 (by simp[kz,e])];exact h.1 e,uv.ny h.2 λi H=>k i (by simp only[kz,aed];exact .inr H)⟩
 |[],_::_,h,_=>h.elim|_::_,[],h,_=>h.elim
theorem iU{i:Nat}{o:dJ}(h:st[i]?=some o):i<st.length:=(List.getElem?_eq_some_iff.1 h).1
theorem uv.lt:∀{l:List Fm}{F:List (Nat×Nat)},uv st l F->∀i∈kz l F,i<st.length
 |[],[],_=>by simp[kz]|f::_,a::b,h=>by
  intro i H;simp only[kz,aed]at H;rcases H with H|H;by_cases e:f.vs=[];rw[af e]at H;simp at H;rw[U e]at H;simp at H;rw[H];exact iU (h.1 e);exact uv.lt h.2 i H
 |[],_::_,h=>h.elim|_::_,[],h=>h.elim
structure Lts (L:List Fm)(I:uF)(r:Rs)(n:Nat):Prop where
 p:I.p<n
 g:I.g<n
 q:r.s≠[]->I.q<n
 fP:∀i∈I.fP,i<n
 fr:∀i∈kz L I.fl,i<n
 o:r.out≠[]->I.o<n
theorem dL.RN(h:dL T ah L r I st):Lts L I r st.length:=
 ⟨iU h.P,iU h.G,λe=>iU (h.S e),λi H=>by
  obtain⟨k,j,rfl⟩:=List.mem_iff_getElem.1 H;exact iU (h.el k j (by rw[<-h.sl];exact j)),h.FR.lt,λe=>iU (h.O e)⟩
theorem dL.Gs(h:dL T ah L r I st):ah<=I.p:=h.low _ (by rw[h.lp];decide)
theorem dL.ahY(h:dL T ah L r I st):ah<=st.length:=Nat.le_trans h.Gs (Nat.le_of_lt h.RN.p)
theorem dL.AX(h:dL T ah L r I st)(k:∀i,i<st.length->I.jO i≠.no->I.jO i≠.p->st'[i]?=st[i]?)(Y:st'[I.p]?=some (.rows 0 17 [cI T L r I])):dL T ah L r I st':=by
 have B:=h.RN;have kk:∀i,i<st.length->∀b,I.jO i=b->b≠Lb.no->b≠Lb.p->st'[i]?=st[i]?:=λi H b l t v=>k i H (by rw[l];exact t) (by rw[l];exact v);refine⟨Y,h.iv,h.sl,λe=>?_,λj X s=>?_,?_,h.FR.ny λi H=>kk i (B.fr i H) _ (h.lr i H) (by decide) (by decide),λe=>?_,h.lp,h.lg,h.lo,h.lq,h.li,h.qn,h.sn,h.lr,h.nd,h.low⟩;rw[kk _ (B.q e) _ (h.lq e) (by decide) (by decide)];exact h.S e;have m:=acH X;rw[kk _ (B.fP _ m) _ (h.li _ m) (by decide) (by decide)];exact h.el j X s;rw[kk _ B.g _ h.lg (by decide) (by decide)];exact h.G;rw[kk _ (B.o e) _ (h.lo e) (by decide) (by decide)];exact h.O e
theorem dL.ny(h:dL T ah L r I st)(k:∀i,i<st.length->I.jO i≠.no->st'[i]?=st[i]?):dL T ah L r I st':=
 h.AX (λi H g _=>k i H g) (by rw[k _ h.RN.p (by rw[h.lp];decide)];exact h.P)
theorem dL.dO(h:dL T ah L r I st)(t:aj):dL T ah L r I (st++t):=h.ny λ_ H _=>acJ H
theorem dL.aI(h:dL T ah (f::L) r I st)(R:Rs)(B:Fm)(y:AV)(l:R.s=r.s)(J:R.g=r.g)(z:R.out=r.out)(w:B.vs=f.vs)(H:mK y=true/\cJ y=true/\dI y=R.fm) :
  dL T ah (B::L) R { I with iv:=y } (st.set I.p (.rows 0 17 [cI T (B::L) R { I with iv:=y }])):=by
 have k:∀i,I.jO i≠.p->(st.set I.p (.rows 0 17 [cI T (B::L) R { I with iv:=y }]))[i]?=st[i]?:=λi H=>
  ad6 λe=>H (by rw[<-e];exact h.lp)
 have m:∀fl,kz (B::L) fl=kz (f::L) fl:=λfl=>by
  cases fl with
  |nil=>rfl|cons a b=>simp only[kz,w]
 have V:uv st (B::L) I.fl:=by
  have:=h.FR;cases v:I.fl with
  |nil=>rw[v]at this;exact this.elim|cons a b=>
   rw[v]at this;exact⟨by rw[w];exact this.1,this.2⟩
 refine⟨ad9 (iU h.P),H,by rw[l];exact h.sl,λe=>?_,λj X x=>?_,?_,?_,λe=>?_,h.lp,h.lg,by rw[z];exact h.lo,by rw[l];exact h.lq,h.li,by rw[l];exact h.qn,h.sn,?_,?_,h.low⟩;rw[l]at e;exact(k I.q (by rw[h.lq e];decide)).trans (h.S e);have t:j<r.s.length:=by rw[<-l];exact x
 have F:R.s[j]=r.s[j]:=by simp only[l]
 rw[F];exact(k _ (by rw[h.li _ (acH X)];decide)).trans (h.el j X t);rw[J];exact(k I.g (by rw[h.lg];decide)).trans h.G;refine V.ny λi H=>k i ?_;rw[m]at H;rw[h.lr i H];decide;rw[z]at e;rw[z];exact(k I.o (by rw[h.lo e];decide)).trans (h.O e);intro i H;rw[m]at H;exact h.lr i H;rw[m];exact h.nd
theorem dL.Zu(h:dL T ah (f::L) r I st):∃a b,I.fl=a::b/\(f.vs≠[]->st[a.1]?=some (.rows a.2 1 (aP f.vs))/\I.jO a.1=.fr/\a.1 ∉ kz L b)/\uv st L b/\(∀i∈kz L b,I.jO i=.fr)/\(kz L b).Nodup:=by
 have g:=h.FR;cases k:I.fl with
 |nil=>rw[k]at g;exact g.elim|cons a b=>
  rw[k]at g;have H:=h.nd;have j:=h.lr;rw[k]at H j;simp only[kz]at H j;refine⟨a,b,rfl,λe=>?_,g.2,λi l=>j i (ak1 _ l),(amL.1 H).2.1⟩;rw[U e]at H j;simp only[aer,aeN,aiY]at H;exact⟨g.1 e,j a.1 (by simp),H.1⟩
theorem dL.WH(h:dL T ah (f::L) r I st){vs':List Int}(p:vs'.length=f.vs.length)(M:f.vs≠[]):dL T ah ({ f with vs:=vs' }::L) r I (st.set (tL I).1 (.rows (tL I).2 1 (aP vs'))):=by
 obtain⟨a,b,m,V,W,Y,J⟩:=h.Zu;obtain⟨t,y,B⟩:=V M;have l:vs'≠[]:=by
  intro q;rw[q]at p;exact M (List.eq_nil_of_length_eq_zero p.symm)
 have w:tL I=a:=by unfold tL;rw[m];rfl
 rw[w];have k:∀i,i≠a.1->(st.set a.1 (.rows a.2 1 (aP vs')))[i]?=st[i]?:=λi H=>ad6 λe=>H e.symm;have K:∀i,I.jO i≠.fr->(st.set a.1 (.rows a.2 1 (aP vs')))[i]?=st[i]?:=λi H=>k i λe=>H (by rw[e];exact y);have o:kz ({ f with vs:=vs' }::L) I.fl=kz (f::L) I.fl:=by rw[m];simp only[kz,U M,U l]
 have v:cI T ({ f with vs:=vs' }::L) r I=cI T (f::L) r I:=by
  unfold cI;show jD T I.iv r.e r.code _ r.aK _ I.g r.nf (if vs'=[] then AV.aF else _) f.done f.res=jD T I.iv r.e r.code _ r.aK _ I.g r.nf (if f.vs=[] then AV.aF else _) f.done f.res;rw[U M,U l]
 refine⟨?_,h.iv,h.sl,λe=>?_,λj X s=>?_,?_,?_,λe=>?_,h.lp,h.lg,h.lo,h.lq,h.li,h.qn,h.sn,by rw[o];exact h.lr,by rw[o];exact h.nd,h.low⟩;rw[v,K _ (by rw[h.lp];decide)];exact h.P;rw[K _ (by rw[h.lq e];decide)];exact h.S e;rw[K _ (by rw[h.li _ (acH X)];decide)];exact h.el j X s;rw[K _ (by rw[h.lg];decide)];exact h.G;rw[m];refine⟨λ_=>ad9 (iU t),W.ny λi H=>k i λe=>B (e ▸ H)⟩;rw[K _ (by rw[h.lo e];decide)];exact h.O e
theorem dL.aha(h:dL T ah L r I st)(g:List Int):dL T ah L { r with g:=g } I (st.set I.g (.rows 0 1 (aP g))):=by
 have k:∀i,I.jO i≠.g->(st.set I.g (.rows 0 1 (aP g)))[i]?=st[i]?:=λi H=>ad6 λe=>H (by rw[<-e];exact h.lg);refine⟨?_,h.iv,h.sl,λe=>?_,λj X l=>?_,ad9 (iU h.G),h.FR.ny λi H=>k i (by rw[h.lr i H];decide),λe=>?_,h.lp,h.lg,h.lo,h.lq,h.li,h.qn,h.sn,h.lr,h.nd,h.low⟩;rw[k _ (by rw[h.lp];decide)];exact h.P;rw[k _ (by rw[h.lq e];decide)];exact h.S e;rw[k _ (by rw[h.li _ (acH X)];decide)];exact h.el j X l;rw[k _ (by rw[h.lo e];decide)];exact h.O e
theorem dL.ar7(h:dL T ah L r I st)(k:Nat)(p:k<I.fP.length)(w:List Int):dL T ah L { r with s:=r.s.set k w } I (st.set I.fP[k] (.rows 0 1 (aP w))):=by
 have l:=acH p;have N:∀i,I.jO i≠.st->(st.set I.fP[k] (.rows 0 1 (aP w)))[i]?=st[i]?:=λi H=>ad6 λe=>H (by rw[<-e];exact h.li _ l);have B:r.s.set k w=[]↔r.s=[]:=by
  constructor;intro e;have:=congrArg List.length e;simp at this;exact this;intro e;rw[e];rfl
 have o:cI T L { r with s:=r.s.set k w } I=cI T L r I:=by
  unfold cI lV;simp only[B]
 refine⟨?_,h.iv,?_,λe=>?_,λj X m=>?_,?_,h.FR.ny λi H=>N i (by rw[h.lr i H];decide),λe=>?_,h.lp,h.lg,h.lo,λe=>h.lq λc=>e (B.2 c),h.li,λe=>h.qn λc=>e (B.2 c),h.sn,h.lr,h.nd,h.low⟩;rw[o,N _ (by rw[h.lp];decide)];exact h.P;simp[h.sl];have g:r.s≠[]:=λc=>e (B.2 c);rw[ad6 λ(c:I.fP[k]=I.q)=>h.qn g (c ▸ l)];exact h.S g;have t:j<r.s.length:=by simpa using m
 by_cases q:j=k;subst q;have v:=iU (h.el j X t);show _=some (dJ.rows 0 1 (aP (r.s.set j w)[j]));rw[ad9 v,List.getElem_set_self];have M:I.fP[k]≠I.fP[j]:=λc=>q ((List.getElem_inj h.sn).1 c).symm;show _=some (dJ.rows 0 1 (aP (r.s.set k w)[j]));rw[ad6 M,List.getElem_set_ne (λc=>q c.symm)];exact h.el j X t;rw[N _ (by rw[h.lg];decide)];exact h.G;rw[N _ (by rw[h.lo e];decide)];exact h.O e
theorem dL.alloc(h:dL T ah L r I st){w:List Int}{n q v:Nat}(hn:st.length<=n)(x:(r.s≠[]/\q=I.q)\/st.length<=q)(t:q≠n)(k:∀j,j<st.length->j≠I.p->(r.s≠[]->j≠I.q)->st'[j]?=st[j]?)
  (hp:st'[I.p]?=some (.rows 0 17 [jD T I.iv r.e r.code (oV r.out I.o I.ov) r.aK (.mu q v) I.g r.nf (vV (oX L) (tL I)) (oX L).done (oX L).res]))
  (W:st'[n]?=some (.rows 0 1 (aP w))) (Y:st'[q]?=some (.rows v 1 ((I.fP++[n]).map λi=>[.mu i 0]))) :
  dL T ah L { r with s:=r.s++[w] } { I with q:=q,v:=v,fP:=I.fP++[n],jO:=λj=>if j=n\/j=q then .st else I.jO j } st':=by
 have B:=h.RN;have hle:=h.ahY;have l:∀j,j<st.length->(r.s≠[]->I.jO j≠.st)->(if j=n\/j=q then Lb.st else I.jO j)=I.jO j:=λj X iO=>by
  by_cases c:j=n\/j=q;rcases c with c|c;omega;rcases x with⟨e,d⟩|d;exact au (by rw[c,d];exact h.lq e) (iO e);omega;exact U c
 have K:∀j,j<st.length->I.jO j≠.p->(r.s≠[]->j≠I.q)->st'[j]?=st[j]?:=λj X N F=>k j X (λc=>N (by rw[c];exact h.lp)) F;have V:∀j,j<st.length->I.jO j≠.p->I.jO j≠.st->st'[j]?=st[j]?:=λj X N F=>K j X N λe c=>F (by rw[c];exact h.lq e);have Q:∀j∈I.fP,(if j=n\/j=q then Lb.st else I.jO j)=.st:=λj X=>by
  by_cases c:j=n\/j=q;exact af c;rw[U c];exact h.li j X
 have y:q ∉ I.fP:=λc=>by
  rcases x with⟨e,d⟩|d;exact h.qn e (d ▸ c);have:=B.fP q c;omega
 refine⟨?_,h.iv,by simp[h.sl],λ_=>Y,λj X M=>?_,?_,h.FR.ny λi H=>V i (B.fr i H) (by rw[h.lr i H];decide) (by rw[h.lr i H];decide),λe=>?_,(l _ B.p λ_=>by rw[h.lp];decide).trans h.lp,(l _ B.g λ_=>by rw[h.lg];decide).trans h.lg,
  λe=>(l _ (B.o e) λ_=>by rw[h.lo e];decide).trans (h.lo e),λ_=>af (.inr rfl),λj X=>?_,λ_=>?_,?_,λj X=>(l _ (B.fr j X) λ_=>by rw[h.lr j X];decide).trans (h.lr j X),h.nd,λj X=>?_⟩
 have:lV (r.s++[w]) q v=.mu q v:=U (by simp);show st'[I.p]?=some (.rows 0 17 [jD T I.iv r.e r.code (oV r.out I.o I.ov) r.aK (lV (r.s++[w]) q v) I.g r.nf (vV (oX L) (tL I)) (oX L).done (oX L).res]);rw[this];exact hp;by_cases e:j<I.fP.length;have P:j<r.s.length:=by rw[<-h.sl];exact e
 show st'[(I.fP++[n])[j]]?=some (.rows 0 1 (aP (r.s++[w])[j]));rw[ajr e,ajr P];have m:=acH e;rw[K _ (B.fP _ m) (by rw[h.li _ m];decide) λe c=>h.qn e (c ▸ m)];exact h.el j e P;have z:j=I.fP.length:=by simp at X;omega
 subst z;show st'[(I.fP++[n])[I.fP.length]]?=some (.rows 0 1 (aP (r.s++[w])[I.fP.length]));have R:(I.fP++[n])[I.fP.length]=n:=by simp
 have S:(r.s++[w])[I.fP.length]'(by simpa using M)=w:=by
  rw[List.getElem_append_right (by rw[h.sl];exact acO _)];simp
 rw[R,S];exact W;exact(V _ B.g (by rw[h.lg];decide) (by rw[h.lg];decide)).trans h.G;exact(V _ (B.o e) (by rw[h.lo e];decide) (by rw[h.lo e];decide)).trans (h.O e);rcases aed.1 X with X|X;exact Q j X;simp at X;subst X;exact af (.inl rfl);simp only[aed,List.mem_singleton,not_or];exact⟨y,t⟩;refine amL.2 ⟨h.sn,by simp,λa Z b J=>?_⟩;simp at J;subst J;intro e;have:=B.fP a Z;omega;simp only at X;by_cases c:j=n\/j=q;rcases c with c|c;omega;rcases x with⟨e,d⟩|d;rw[c,d];exact h.low _ (by rw[h.lq e];decide);omega;rw[U c]at X;exact h.low j X
variable{nf:Nat}
theorem dL.push(h:dL T ah L r I st){a v:Nat}{g:Fm}(H:g.vs≠[]->st.length<=a)(k:∀j,j<st.length->j≠I.p->st'[j]?=st[j]?)
  (z:st'[I.p]?=some (.rows 0 17 [cI T (g::L) { r with nf:=nf } { I with fl:=(a,v)::I.fl }]))(w:g.vs≠[]->st'[a]?=some (.rows v 1 (aP g.vs))) :
  dL T ah (g::L) { r with nf:=nf } { I with fl:=(a,v)::I.fl,jO:=λj=>if g.vs≠[]/\j=a then .fr else I.jO j } st':=by
 have B:=h.RN;have x:=h.ahY;have l:∀j,j<st.length->(if g.vs≠[]/\j=a then Lb.fr else I.jO j)=I.jO j:=λj X=>U λc=>by have:=H c.1;omega
 have K:∀j,j<st.length->I.jO j≠.p->st'[j]?=st[j]?:=λj X y=>k j X λc=>y (by rw[c];exact h.lp);refine⟨z,h.iv,h.sl,λe=>(K _ (B.q e) (by rw[h.lq e];decide)).trans (h.S e),λj X t=>?_,(K _ B.g (by rw[h.lg];decide)).trans h.G,⟨w,h.FR.ny λi m=>K i (B.fr i m) (by rw[h.lr i m];decide)⟩,λe=>(K _ (B.o e) (by rw[h.lo e];decide)).trans (h.O e),
  (l _ B.p).trans h.lp,(l _ B.g).trans h.lg,λe=>(l _ (B.o e)).trans (h.lo e),λe=>(l _ (B.q e)).trans (h.lq e),λj X=>(l _ (B.fP j X)).trans (h.li j X),h.qn,h.sn,λj X=>?_,?_,λj X=>?_⟩
 have s:=acH X;exact(K _ (B.fP _ s) (by rw[h.li _ s];decide)).trans (h.el j X t);simp only[kz,aed]at X;rcases X with X|X;by_cases e:g.vs=[];rw[af e]at X;simp at X;rw[U e]at X;simp at X;exact af ⟨e,X⟩;exact(l _ (B.fr j X)).trans (h.lr j X);simp only[kz];by_cases e:g.vs=[];rw[af e];exact h.nd;rw[U e];simp only[aer,aeN,aiY];exact⟨λc=>by have:=B.fr a c;have:=H e;omega,h.nd⟩;simp only at X;by_cases c:g.vs≠[]/\j=a;have:=H c.1;omega;rw[U c]at X;exact h.low j X
theorem dL.pop(h:dL T ah (f::L) r I st){c:Nat×Nat}{fl:List (Nat×Nat)}(w:I.fl=c::fl)(k:∀j,j<st.length->j≠I.p->st'[j]?=st[j]?)
  (y:st'[I.p]?=some (.rows 0 17 [cI T L { r with nf:=nf } { I with fl:=fl }])):dL T ah L { r with nf:=nf } { I with fl:=fl } st':=by
 have B:=h.RN;have l:=h.FR;have s:=h.nd;have H:=h.lr;have V:=B.fr;rw[w]at l s H V;simp only[kz]at s H V;have K:∀j,j<st.length->I.jO j≠.p->st'[j]?=st[j]?:=λj X x=>k j X λc=>x (by rw[c];exact h.lp);refine⟨y,h.iv,h.sl,λe=>(K _ (B.q e) (by rw[h.lq e];decide)).trans (h.S e),λj X v=>?_,(K _ B.g (by rw[h.lg];decide)).trans h.G,l.2.ny λi m=>K i (V i (ak1 _ m)) (by rw[H i (ak1 _ m)];decide),λe=>(K _ (B.o e) (by rw[h.lo e];decide)).trans (h.O e),
  h.lp,h.lg,h.lo,h.lq,h.li,h.qn,h.sn,λj X=>H j (ak1 _ X),(amL.1 s).2.1,h.low⟩
 have t:=acH X;exact(K _ (B.fP _ t) (by rw[h.li _ t];decide)).trans (h.el j X v)
theorem dL.Fa(h:dL T ah L r I st){o ov:Nat}{out:List Int}(M:out≠[])(F:(r.out≠[]/\o=I.o)\/st.length<=o)(k:∀j,j<st.length->j≠I.p->(r.out≠[]->j≠I.o)->st'[j]?=st[j]?)
  (x:st'[I.p]?=some (.rows 0 17 [cI T L { r with out:=out } { I with o:=o,ov:=ov }]))(z:st'[o]?=some (.rows ov 1 (aP out))) :
  dL T ah L { r with out:=out } { I with o:=o,ov:=ov,jO:=λj=>if j=o then .o else I.jO j } st':=by
 have B:=h.RN;have v:=h.ahY;have l:∀j,j<st.length->(r.out≠[]->I.jO j≠.o)->(if j=o then Lb.o else I.jO j)=I.jO j:=λj X w=>by
  by_cases q:j=o;rcases F with⟨c,d⟩|d;exact au (by rw[q,d];exact h.lo c) (w c);omega;exact U q
 have m:∀j,j<st.length->I.jO j≠.p->I.jO j≠.o->st'[j]?=st[j]?:=λj X N y=>k j X (λq=>N (by rw[q];exact h.lp)) (λc q=>y (by rw[q];exact h.lo c));refine⟨x,h.iv,h.sl,λe=>(m _ (B.q e) (by rw[h.lq e];decide) (by rw[h.lq e];decide)).trans (h.S e),λj X t=>?_,(m _ B.g (by rw[h.lg];decide) (by rw[h.lg];decide)).trans h.G,
  h.FR.ny λi H=>m i (B.fr i H) (by rw[h.lr i H];decide) (by rw[h.lr i H];decide),λ_=>z,(l _ B.p λ_=>by rw[h.lp];decide).trans h.lp,(l _ B.g λ_=>by rw[h.lg];decide).trans h.lg,λ_=>af rfl,
  λe=>(l _ (B.q e) λ_=>by rw[h.lq e];decide).trans (h.lq e),λj X=>(l _ (B.fP j X) λ_=>by rw[h.li j X];decide).trans (h.li j X),h.qn,h.sn,
  λj X=>(l _ (B.fr j X) λ_=>by rw[h.lr j X];decide).trans (h.lr j X),h.nd,λj X=>?_⟩
 have s:=acH X;exact(m _ (B.fP _ s) (by rw[h.li _ s];decide) (by rw[h.li _ s];decide)).trans (h.el j X t);simp only at X;by_cases q:j=o;rcases F with⟨c,d⟩|d;rw[q,d];exact h.low _ (by rw[h.lo c];decide);omega;rw[U q]at X;exact h.low j X
end Ft
namespace Ft
open Ax Go aO V7 iQ iZ pX
variable {T:Px}{ah:Nat}{L:List Fm}{r:Rs}{I:uF}{st st':aj}{f:Fm}
theorem s7(w l:Nat)(h:dL T ah L r I st):(aZ S).call w l 41 [.ptr I.p 0 0 0] st=some (.bool (decide (r.e≠0)),st):=by
 have Y:=h.P;refine aG (sf:=s41) rfl rfl rfl ?_;simp[s41,Y,cI,jD,cut]
theorem rD(h:dL T ah (f::L) r I st)(c:Int) :
  ∃st',st'.length=st.length/\(∀l,(aZ S).call 0 l 93 [.ptr I.p 0 0 0,.int .i64 c] st=some (.eY [],st'))/\dL T ah (f::L) (eH r c) I st':=by
 have O:=λw l=>s7 w l h;by_cases g:c=0;subst g;refine⟨st,rfl,λl=>?_,by simpa [eH] using h⟩;refine aG (sf:=s93) rfl rfl rfl ?_;simp[s93];by_cases j:r.e=0;have Y:=h.P;have F:=iU Y;have k:eH r c={ r with e:=2,code:=c }:=by simp_all [eH]
 have H:=h.aI { r with e:=2,code:=c } f I.iv rfl rfl rfl rfl h.iv;rw[k];refine⟨_,?_,λl=>?_,H⟩;simp;refine aG (sf:=s93) rfl rfl rfl ?_;have t:∀y,aik st.length (st.set I.p y)=st.set I.p y:=λy=>aea (by simp);have G:∀y z,(st.set I.p y).set I.p z=st.set I.p z:=λy z=>anc ..
 have B:∀y,(st.set I.p y)[I.p]?=some y:=λy=>ad9 F;simp[s93,O,g,j,Y,cI,jD,oX,tL,bu,AV.aB,AV.aH,ay,t,G,B];refine⟨st,rfl,λl=>?_,by simp_all [eH]⟩;refine aG (sf:=s93) rfl rfl rfl ?_;simp[s93,O,g,j]
theorem oL(h:dL T ah (f::L) r I st)(B:T.fu<1000000000)(C:Cx)(s:C.fuel=T.fu) :
  ∃st',st'.length=st.length/\(∀l,(aZ S).call 0 l 158 [.ptr I.p 0 0 0] st=some (.bool (oB C r),st'))/\dL T ah (f::L) (if oB C r=true then bV r else stop r) I st':=by
 have O:=λwl l=>s7 wl l h;have Y:=h.P;have F:=iU Y;have t:∀y,aik st.length (st.set I.p y)=st.set I.p y:=λy=>aea (by simp);by_cases g:r.e=0;by_cases m:r.aK<T.fu;have z:oB C r=true:=by simp[oB,g,s,m]
 have k:=h.aI (bV r) f I.iv rfl rfl rfl rfl h.iv;rw[z,af rfl];have o:=wk r.aK (by omega);have H:¬(T.fu:Int)<=(r.aK:Int):=by omega
 refine⟨_,?_,λl=>?_,k⟩;simp;refine aG (sf:=Tu) rfl rfl rfl ?_;simp[Tu,O,g,Y,cI,jD,oX,tL,cut,H,o,bV,bu,AV.aB,AV.aH,ay,t,aD,aC];have z:oB C r=false:=by simp[oB,g,s,m]
 have j:stop r={ r with e:=3 }:=by unfold stop;grind
 have k:=h.aI { r with e:=3 } f I.iv rfl rfl rfl rfl h.iv;rw[z,U (by simp),j];have H:(T.fu:Int)<=(r.aK:Int):=by omega
 refine⟨_,?_,λl=>?_,k⟩;simp;refine aG (sf:=Tu) rfl rfl rfl ?_;simp[Tu,O,g,Y,cI,jD,oX,tL,cut,H,bu,AV.aB,AV.aH,ay,t,aD,aC];have z:oB C r=false:=by simp[oB,g]
 have j:stop r=r:=by unfold stop;grind
 rw[z,U (by simp),j];refine⟨st,rfl,λl=>?_,h⟩;refine aG (sf:=Tu) rfl rfl rfl ?_;simp[Tu,O,g]
theorem sI(h:dL T ah (f::L) r I st)(v c:Int) :
  ∃st',st'.length=st.length/\(∀l,(aZ S).call 0 l 169 [.ptr I.p 0 0 0,.int .i64 v,.int .i64 c] st=some (.int .i64 v,st'))/\dL T ah (f::L) (eH r c) I st':=by
 obtain⟨j,g,t,R⟩:=rD h c;have k:aik st.length j=j:=aea (by omega);refine⟨j,g,λl=>?_,R⟩;refine aG (sf:=ak0) rfl rfl rfl ?_;simp[ak0,t,k]
theorem L1{s:List (List Int)}{q v:Nat}(h:s≠[]):lV s q v=.mu q v:=U h
theorem Gl(W w:Nat)(h:dL T ah L r I st)(y:r.s.length<1000000)(a:Int) :
  (aZ S).call W w 74 [.ptr I.p 0 0 11,.int .i64 a] st=some (.eY [.int .i64 (zW r.s a).1,.int .i64 (zW r.s a).2],st):=by
 have Y:=h.P;refine aG (sf:=s74) rfl rfl rfl ?_;unfold zW;by_cases r0:a<1;rw[U (by omega)];simp[s74,r0];by_cases g:r.s=[];have j:0<a:=by omega
 rw[g,U (by simp;omega)];have H:lV r.s I.q I.v=.aF:=by rw[g];rfl
 simp[s74,r0,Y,cI,jD,H,cut,j];have H:=h.S g;have m:=h.sl;by_cases R:(r.s.length:Int)<a;rw[U (by omega)];simp[s74,r0,Y,cI,jD,L1 g,H,cut,m,R];obtain⟨k,rfl⟩:∃k:Nat,a=(k:Int)+1:=⟨(a-1).toNat,by omega⟩;have o:k<I.fP.length:=by omega
 have Q:k<r.s.length:=by omega
 rw[af (by omega)];have t:IntKind.i64.wrap (k:Int)=(k:Int):=by rw[dY]<;>omega
 have x:((k:Int)+1-1).toNat=k:=by omega
 have l:=h.el k o Q;simp[s74,r0,Y,cI,jD,L1 g,H,cut,m,R,t,Q,l]
theorem Aa(w l:Nat)(h:dL T ah L r I st)(M:r.s.length<1000000)(a j:Int) :
  (aZ S).call w l 72 [.ptr I.p 0 0 11,.int .i64 a,.int .i64 j] st=some (.eY [.int .i64 (kQ r.s a j).1,.int .i64 (kQ r.s a j).2],st):=by
 have Y:=h.P;have o:=λw l=>Gl w l h M a;have v:=h.sl;refine aG (sf:=s72) rfl rfl rfl ?_;unfold kQ ko;by_cases x:1<=a/\a<=(r.s.length:Int);have q:r.s≠[]:=by grind
 have G:=h.S q;obtain⟨k,rfl⟩:∃k:Nat,a=(k:Int)+1:=⟨(a-1).toNat,by omega⟩;have t:k<I.fP.length:=by omega
 have R:k<r.s.length:=by omega
 have F:=h.el k t R;have z:((k:Int)+1-1).toNat=k:=by omega
 have B:r.s.getD k []=r.s[k]:=by grind
 have g:zW r.s ((k:Int)+1)=((r.s[k].length:Int),0):=by simp_all [zW]
 rw[g]at o;rw[af x,z,B];have N:IntKind.i64.wrap (k:Int)=(k:Int):=by rw[dY]<;>omega
 by_cases Q:j<0;have H:¬(0<=j/\j<(r.s[k].length:Int)):=by omega
 simp_all [s72];by_cases W:j<(r.s[k].length:Int);obtain⟨m,rfl⟩:∃m:Nat,j=m:=⟨j.toNat,by omega⟩;have K:m<r.s[k].length:=by omega
 have H:0<=(m:Int)/\(m:Int)<(r.s[k].length:Int):=by omega
 have J:¬(r.s[k].length:Int)<=(m:Int):=by omega
 have y:¬r.s[k].length<=m:=by omega
 have V:r.s[k].getD m 0=r.s[k][m]:=by grind
 rw[af H];have O:((m:Int)<0)=False:=eq_false (by omega);simp[s72,o,O,J,Y,cI,jD,L1 q,G,cut,N,t,F,aP,K];have H:¬(0<=j/\j<(r.s[k].length:Int)):=by omega
 rw[U H];have J:(r.s[k].length:Int)<=j:=by omega
 simp[s72,o,Q,J];simp_all [zW,U,s72]
theorem xS(h:dL T ah L r I st)(V:r.s.length<1000000)(a j v:Int) :
  ∃st',st'.length=st.length/\(∀l,(aZ S).call 0 l 73 [.ptr I.p 0 0 11,.int .i64 a,.int .i64 j,.int .i64 v] st=some (.int .i64 (ko r.s a j),st'))/\dL T ah L { r with s:=tH r.s a j v } I st':=by
 have Y:=h.P;have o:=λwl l=>Aa wl l h V a j;have z:=h.sl;have Z:∀i y,aik st.length (st.set i y)=st.set i y:=λi y=>aea (by simp);by_cases w:ko r.s a j=0;have K:(1<=a/\a<=(r.s.length:Int))/\(0<=j/\j<((r.s.getD (a-1).toNat []).length:Int)):=by
  unfold ko at w;omega
 obtain⟨h1,G⟩:=K;have x:r.s≠[]:=by grind
 have O:=h.S x;obtain⟨k,rfl⟩:∃k:Nat,a=(k:Int)+1:=⟨(a-1).toNat,by omega⟩;obtain⟨m,rfl⟩:∃m:Nat,j=m:=⟨j.toNat,by omega⟩;have H:k<I.fP.length:=by omega
 have X:k<r.s.length:=by omega
 have N:=h.el k H X;have B:((k:Int)+1-1).toNat=k:=by omega
 have F:r.s.getD k []=r.s[k]:=by grind
 rw[B,F]at G;have U:m<r.s[k].length:=by omega
 have W:IntKind.i64.wrap (k:Int)=(k:Int):=by rw[dY]<;>omega
 have J:=h.ar7 k H (r.s[k].set m v);have t:tH r.s ((k:Int)+1) m v=r.s.set k (r.s[k].set m v):=by simp_all [tH]
 have q:(kQ r.s ((k:Int)+1) m).2=0:=by unfold kQ;grind
 rw[q]at o;rw[t,w];refine⟨_,by simp,λl=>?_,J⟩;refine aG (sf:=s73) rfl rfl rfl ?_;have M:∀g:List Int,aP (g.set m v)=(aP g).set m [.int .i64 v]:=λg=>by simp[aP,List.map_set]
 have R:m<(aP r.s[k]).length:=by simp_all
 have Q:(aP r.s[k])[m]?=some [.int .i64 r.s[k][m]]:=by simp_all
 simp[s73,o,Y,cI,jD,L1 x,O,cut,W,H,N,U,bu,AV.aB,AV.aH,ay,Z,M];have t:tH r.s a j v=r.s:=by unfold tH;grind
 have q:(kQ r.s a j).2=ko r.s a j:=by unfold kQ;grind
 rw[q]at o;rw[t];refine⟨st,rfl,λl=>?_,h⟩;refine aG (sf:=s73) rfl rfl rfl ?_;simp[s73,o,w]
end Ft
namespace Ft
open Ax Go aO V7 iQ iZ pX
variable {T:Px}{ah:Nat}{L:List Fm}{r:Rs}{I:uF}{st st':aj}{f:Fm}
theorem E9(w l:Nat)(b:Bool)(st:aj):(aZ S).call w l 120 [.bool b] st=some (.int .i64 (lM b),st):=by
 refine bE (sf:=akA) rfl rfl rfl rfl rfl ?_;cases b<;>simp[akA,lM]
theorem am4(w l:Nat)(op a b:Int)(J:op=17\/op=18)(st:aj):(aZ S).call w l 119 [.int .i64 op,.int .i64 a,.int .i64 b] st=some (.eY [.int .i64 (zV op a b).1,.int .i64 (zV op a b).2],st):=by
 refine bE (sf:=abk) rfl rfl rfl rfl rfl ?_;unfold zV;by_cases B:b=0;subst B;rcases J with rfl|rfl<;>simp[abk];by_cases g:b = -1
 ·subst g;rcases J with rfl|rfl;all_goals simp_all [abk]
 rcases J with rfl|rfl<;>simp[abk,B,g]
theorem UC(w l:Nat)(op a b:Int)(st:aj):(aZ S).call w l 70 [.int .i64 op,.int .i64 a,.int .i64 b] st=some (.eY [.int .i64 (zV op a b).1,.int .i64 (zV op a b).2],st):=by
 have H:=λw l b st=>E9 w l b st;have q:=λw l h st=>am4 w l op a b h st;refine bE (sf:=Pe) rfl rfl rfl rfl rfl ?_;by_cases x:op=17;simp_all [Pe];by_cases v:op=18;simp_all [Pe];clear q;unfold zV;by_cases o:op=14;subst o;simp[Pe];by_cases k:op=15;subst k;simp[Pe];by_cases m:op=16;subst m;simp[Pe];by_cases F:op=19;subst F;simp[Pe,H];by_cases G:op=20;subst G;simp[Pe,H];by_cases t:op=21;subst t;simp[Pe,H];by_cases p:op=22;subst p;simp[Pe,H];by_cases s:op=23;subst s;by_cases j:a=0;simp_all [Pe];by_cases B:b=0;simp_all [Pe];simp_all [Pe];by_cases g:op=24;subst g;by_cases j:a=0;subst j;by_cases B:b=0;simp_all [Pe];simp[Pe,H,B];simp[Pe,H,j];simp_all [Pe]
theorem WI(w l:Nat)(op a:Int)(st:aj):(aZ S).call w l 71 [.int .i64 op,.int .i64 a] st=some (.int .i64 (Zs op a),st):=by
 have H:=λw l b st=>E9 w l b st;refine bE (sf:=s71) rfl rfl rfl rfl rfl ?_;unfold Zs;by_cases x:op=12;subst x;simp[s71];by_cases g:op=13;subst g;simp[s71,H];simp[s71,x,g]
def RX(n m:Nat):List dJ:=[.rows 0 1 (acp n [.int .i64 0]),.rows 0 1 [[.mu m 0]]]
def RZ(T:Px)(L:List Fm)(r:Rs)(I:uF)(q v:Nat):dJ:=.rows 0 17 [jD T I.iv r.e r.code (oV r.out I.o I.ov) r.aK (.mu q v) I.g r.nf (vV (oX L) (tL I)) (oX L).done (oX L).res]
def sA0(T:Px)(L:List Fm)(r:Rs)(I:uF)(st:aj)(n:Nat):aj:=st.set I.p (RZ T L r I (st.length+2) 0)++(RX n st.length++[.rows 0 1 [[.mu st.length 0]]])
def sA1(T:Px)(L:List Fm)(r:Rs)(I:uF)(st:aj)(n:Nat):aj:=(st.set I.q (.rows (I.v+1) 1 ((I.fP.map λi=>[.mu i 0])++[[.mu st.length 0]]))).set I.p (RZ T L r I I.q (I.v+1))++RX n st.length
def IA0(I:uF)(n:Nat):uF:={ I with q:=n+2,v:=0,fP:=I.fP++[n],jO:=λj=>if j=n\/j=n+2 then .st else I.jO j }
def IA1(I:uF)(n:Nat):uF:={ I with q:=I.q,v:=I.v+1,fP:=I.fP++[n],jO:=λj=>if j=n\/j=I.q then .st else I.jO j }
theorem adW(n:Nat):aP (acp n 0)=acp n [.int .i64 0]:=by simp[aP]
theorem al0(h:dL T ah L r I st)(H:r.s=[])(n:Nat):dL T ah L { r with s:=r.s++[acp n 0] } (IA0 I st.length) (sA0 T L r I st n):=by
 have k:=iU h.P;have g:I.fP=[]:=by
  have:=h.sl
  grind
 refine h.alloc (acO _) (.inr (by omega)) (by omega) (λj X M _=>?_) ?_ ?_ ?_
 grind [sA0]
 grind [sA0,RZ]
 all_goals simp_all [sA0,RX,adW]
theorem al1(h:dL T ah L r I st)(g:r.s≠[])(n:Nat):dL T ah L { r with s:=r.s++[acp n 0] } (IA1 I st.length) (sA1 T L r I st n):=by
 have l:=iU h.P;have m:=iU (h.S g);have k:I.q≠I.p:=λe=>by
  have H:=h.lq g;rw[e,h.lp]at H;cases H
 refine h.alloc (acO _) (.inl ⟨g,rfl⟩) (by omega) (λj X M t=>?_) ?_ ?_ ?_
 grind [sA1,acJ]
 grind [sA1,RZ]
 grind [sA1,RX,adW]
 grind [sA1,ad9]
theorem Uz(w l:Nat)(p n:Int)(st:aj)(P:AV)(h:n<0\/50<n):(aZ S).call w l 77 [P,.int .i64 n] st=some (.eY [.int .i64 0,.int .i64 4],st):=by
 refine aG (sf:=s77) rfl rfl rfl ?_;by_cases N:n<0;simp[s77,N];have g:50<n:=by omega
 simp[s77,N,g]
theorem UA(h:dL T ah L r I st)(hs:r.s.length<1000000)(n:Nat)(hn:n<=50) :
  ∃st' t,st.length<=st'.length/\(∀g,g<=ah->(aZ S).call 0 g 77 [.ptr I.p 0 0 11,.int .i64 n] st=some (.eY [.int .i64 (qF r n).1,.int .i64 0],st'))/\t.p=I.p/\t.fl=I.fl/\dL T ah L (qF r n).2 t st':=by
 have Y:=h.P;have Iw:=h.Gs;have YX:=iU Y;have Q:(n:Int)*8<=cZ:=by unfold cZ;omega
 have V:(st++[dJ.rows 0 1 (acp n [.int .i64 0]),.rows 0 1 [[.mu st.length 0]]])[st.length+1]?=some (.rows 0 1 [[.mu st.length 0]]):=by simp
 have R:¬((n:Int)<0):=by omega
 have X:¬((50:Int)<(n:Int)):=by omega
 have U:=λl=>wT.oG Y l;have j:=λl y=>wT.u7 Y l y;by_cases H:r.s=[];refine⟨sA0 T L r I st n,IA0 I st.length,by simp[sA0],λg Z=>?_,rfl,rfl,al0 h H n⟩;have N:g<=I.p:=by omega
 have G:=λbx=>wT.Uu (ah:=g) (bx:=bx) V;have O:∀x l,(st.set I.p x++l)[I.p]?=some x:=λx l=>by
  grind
 have Al:∀x a b c,(st.set I.p x++[a,b,c])[st.length+2]?=some c:=λx a b c=>by
  simp_all
 have M:lV r.s I.q I.v=.aF:=by rw[H];rfl
 have k:(qF r n).1=1:=by grind [qF]
 rw[k];refine aG (sf:=s77) rfl rfl rfl ?_;simp[s77,R,X];rw[gO];simp[cR,Y,cI,jD,M,cut,N,U,j,Q,wT.Gm,G,eR,cw,bu,AV.aB,AV.aH,ay,di,fZ.bM];refine⟨_,_,⟨rfl,rfl⟩,?_⟩;simp[Y,cI,jD,M,cut,U,bH,AV.cC,AV.ai,fz.cU,AV.cU,O,sA0,RX,RZ];refine⟨sA1 T L r I st n,IA1 I st.length,by simp[sA1],λg Z=>?_,rfl,rfl,al1 h H n⟩;have w:=h.S H;have N:g<=I.p:=by omega
 have lO:g<=I.q:=by
  have:=h.low I.q (by rw[h.lq H];decide);omega
 have PK:I.p≠I.q:=λe=>by
  grind
 have Va:=iU w;have m:=h.sl;have B:=λl=>wT.oG w l;have J:=λl y=>wT.u7 w l y;have o:∀y,(st.set I.q y)[I.p]?=some (.rows 0 17 [cI T L r I]):=λy=>by grind
 have W:=λy l=>wT.oG (o y) l;have F:=λy l z=>wT.u7 (o y) l z;have O:∀y x l,((st.set I.q y).set I.p x++l)[I.p]?=some x:=λy x l=>by
  grind
 have K:∀y x l,((st.set I.q y).set I.p x++l)[I.q]?=some y:=λy x l=>by
  grind
 have G:=λbx=>wT.Uv (ah:=g) (bx:=bx) V (B _) (by simp[m,cZ];omega) lO;have k:(qF r n).1=(r.s.length:Int)+1:=rfl;rw[k];refine aG (sf:=s77) rfl rfl rfl ?_;simp[s77,R,X];rw[gO];simp only[cI,jD,L1 H]at Y o W U j;simp[cR,Y,cut,N,J,W,F,Q,wT.Gm,G,eR,cw,bu,AV.aB,AV.aH,ay,di,fZ.bM];refine⟨_,_,⟨rfl,rfl⟩,?_⟩;simp[Y,cut,U,bH,AV.cC,AV.ai,fz.cU,AV.cU,O,K,m,sA1,RX,RZ,jD]
end Ft
namespace Ft
open Ax Go aO V7 iQ iZ pX
variable {T:Px}{ah:Nat}{L:List Fm}{r:Rs}{I:uF}{st st':aj}{f:Fm}
theorem ah0(m:Int):(if (if 8<m then 8 else m)<0 then (0:Int) else (if 8<m then 8 else m))=(kU m:Int):=by
 unfold kU;repeat' split
 all_goals omega
theorem ah1(m:Int):(if 0<(if 8<m then 8 else m) then (if 8<m then 8 else m) else (0:Int))=(kU m:Int):=by
 unfold kU;repeat' split
 all_goals omega
theorem Uy(h:dL T ah L r I st)(hs:r.s.length<1000000)(m:Int) :
  ∃st' B,st.length<=st'.length/\(∀g,g<=ah->(aZ S).call 0 g 75 [.ptr I.p 0 0 11,.int .i64 m] st=some (.int .i64 (qF r (kU m)).1,st'))/\B.p=I.p/\B.fl=I.fl/\dL T ah L (qF r (kU m)).2 B st':=by
 have aC4:=ah0 m;have k:=ah1 m;have hn:kU m<=50:=by
  unfold kU;repeat' split
  all_goals omega
 generalize kU m=n at *;have Y:=h.P;have Iw:=h.Gs;have w:=iU Y;have hc:(n:Int)*8<=cZ:=by unfold cZ;omega
 have g1:(st++[dJ.rows 0 1 (acp n [.int .i64 0]),.rows 0 1 [[.mu st.length 0]]])[st.length+1]?=some (.rows 0 1 [[.mu st.length 0]]):=by simp
 have U:=λl=>wT.oG Y l;have t:=λl y=>wT.u7 Y l y;by_cases H:r.s=[];refine⟨sA0 T L r I st n,IA0 I st.length,by simp[sA0],λg LF=>?_,rfl,rfl,al0 h H n⟩;have N:g<=I.p:=by omega
 have G:=λbx=>wT.Uu (ah:=g) (bx:=bx) g1;have R:∀x l,(st.set I.p x++l)[I.p]?=some x:=λx l=>by
  rw[acJ (by simpa using w),ad9 w]
 have Al:∀x a b c,(st.set I.p x++[a,b,c])[st.length+2]?=some c:=λx a b c=>by
  rw[List.getElem?_append_right (by simp)];simp
 have W:lV r.s I.q I.v=.aF:=by rw[H];rfl
 have F:(qF r n).1=1:=by unfold qF;rw[H];rfl
 rw[F];refine aG (sf:=s75) rfl rfl rfl ?_;simp[s75];rw[gO];simp[cR,Y,cI,jD,W,cut,N,U,t,hc,wT.Gm,G,eR,cw,bu,AV.aB,AV.aH,ay,di,fZ.bM,k];refine⟨_,_,⟨rfl,rfl⟩,?_⟩;simp[Y,cI,jD,W,cut,U,bH,AV.cC,AV.ai,fz.cU,AV.cU,R,sA0,RX,RZ];refine⟨sA1 T L r I st n,IA1 I st.length,by simp[sA1],λg LF=>?_,rfl,rfl,al1 h H n⟩;have J:=h.S H;have N:g<=I.p:=by omega
 have lO:g<=I.q:=by
  have:=h.low I.q (by rw[h.lq H];decide);omega
 have V:I.p≠I.q:=λe=>by
  have h1:=h.lq H;rw[<-e,h.lp]at h1;cases h1
 have Z:=iU J;have j:=h.sl;have K:=λl=>wT.oG J l;have O:=λl y=>wT.u7 J l y;have o:∀y,(st.set I.q y)[I.p]?=some (.rows 0 17 [cI T L r I]):=λy=>by rw[ad6 V.symm];exact Y
 have X:=λy l=>wT.oG (o y) l;have M:=λy l z=>wT.u7 (o y) l z;have R:∀y x l,((st.set I.q y).set I.p x++l)[I.p]?=some x:=λy x l=>by
  rw[acJ (by simpa using w),ad9 (by simpa using w)]
 have Q:∀y x l,((st.set I.q y).set I.p x++l)[I.q]?=some y:=λy x l=>by
  rw[acJ (by simpa using Z),ad6 V,ad9 Z]
 have G:=λbx=>wT.Uv (ah:=g) (bx:=bx) g1 (K _) (by simp[j,cZ];omega) lO;have F:(qF r n).1=(r.s.length:Int)+1:=rfl;rw[F];refine aG (sf:=s75) rfl rfl rfl ?_;simp[s75];rw[gO];simp only[cI,jD,L1 H]at Y o X U t;simp[cR,Y,cut,N,O,X,M,hc,wT.Gm,G,eR,cw,bu,AV.aB,AV.aH,ay,di,fZ.bM,k];refine⟨_,_,⟨rfl,rfl⟩,?_⟩;simp[Y,cut,U,bH,AV.cC,AV.ai,fz.cU,AV.cU,R,Q,j,sA1,RX,RZ,jD]
end Ft
namespace Ft
open Ax Go aO V7 iQ iZ pX K9 S9
structure Prg (T:Px)(C:Cx)(D:Dm):Prop where
 fuel:C.fuel=T.fu
 fu:T.fu<1000000
 bs:C.bs=T.bs
 aU:C.aU=T.H.bJ.map (·.2.length)
 ng:C.ng=D.ng
 gl:D.ng<1000000
 nr:D.nr=T.H.bJ.length
 rs:∀s∈T.H.bJ,s.2.length<1000000
 ps:D.ps.length=T.bs.length
 pv:∀(i:Nat) (h:i<D.ps.length) (h2:i<T.bs.length),D.ps[i]<=T.bs[i].vars.length
 wb:∀b∈T.bs,WB D b.code/\rq b.vars.length b.code/\Sm.eD b.code<1000000000/\b.vars.length<1000000
 nb:T.bs.length<1000000000
variable {C:Cx}{fE:E->Fm->Rs->Int×Rs}{fS:Sm->Rs×Fm->Rs×Fm}
def Fz(f:Fm):Prop:=f.done=false->f.res=0
def PE(T:Px)(C:Cx)(D:Dm)(n:Nat)(fE:E->Fm->Rs->Int×Rs):Prop:=∀(ah:Nat)(L:List Fm)(r:Rs)(I:uF)(st:aj)(f:Fm)(e:E),dL T ah (f::L) r I st->WE D e->CN f.vs.length e->E.sz e<1000000000->Gd C 0 r->C.fuel<=r.aK+n->
 f.done=false->f.res=0->∃st' t,(aZ S).call 0 ah 159 [.ptr I.p 0 0 0,.agg e.aI] st=some (.int .i64 (fE e f r).1,st')/\t.p=I.p/\t.fl=I.fl/\dL T ah (f::L) (fE e f r).2 t st'
def PS(T:Px)(C:Cx)(D:Dm)(n:Nat)(fS:Sm->Rs×Fm->Rs×Fm):Prop:=∀(ah:Nat)(L:List Fm)(r:Rs)(I:uF)(st:aj)(f:Fm)(s:Sm),dL T ah (f::L) r I st->WS D s->HK f.vs.length s->Sm.sz s<1000000000->Gd C 0 r->C.fuel<=r.aK+n->
 f.done=false->f.res=0->∃st' t,(aZ S).call 0 ah 139 [.ptr I.p 0 0 0,.agg s.aI] st=some (.eY [],st')/\t.p=I.p/\t.fl=I.fl/\dL T ah ((fS s (r,f)).2::L) (fS s (r,f)).1 t st'
theorem O8(z:∀s x,Fz x.2->Fz (fS s x).2):∀(l:List Sm)(x:Rs×Fm),Fz x.2->Fz (fN fS l x).2
 |[],_,h=>h|s::l,x,h=>by
  unfold fN;split;exact h;exact O8 z l _ (z s x h)
theorem UG(z:∀s x,Fz x.2->Fz (fS s x).2)(c:E)(b:List Sm):∀(k:Nat)(x:Rs×Fm),Fz x.2->Fz (cu C fE fS c b k x).2
 |0,x,h=>by
  grind [cu]
 |k+1,x,h=>by
  unfold cu;split;exact h;split;split;exact h;exact UG z c b k _ (O8 z b _ h);exact h
theorem ar9(z:∀s x,Fz x.2->Fz (fS s x).2)(k ref:Int)(B g:List Sm)(l:List Int)(x:Rs×Fm)(h:Fz x.2):Fz (jz fS k ref B g l x).2:=by
 unfold jz;split;unfold cy;split<;>exact h;split
 grind [O8]
 split;intro e;cases e
 grind
theorem am5(z:∀s x,Fz x.2->Fz (fS s x).2)(s:Sm)(x:Rs×Fm)(h:Fz x.2):Fz (gq fE fS s x).2:=by
 grind [gq,oF,ar9]
theorem ah2:∀n,∀s x,Fz x.2->Fz ((ev C n).2 s x).2
 |0,s,x,h=>by
  show Fz ((if s.k=1 then x else if s.k=6 then cu C (λ_ _ r=>(0,stop r)) (λ_ x=>x) (jk s.es) s.bd 0 x else (stop x.1,x.2)):Rs×Fm).2
  grind [UG]
 |n+1,s,x,h=>by
  show Fz ((if s.k=1 then x else if s.k=6 then cu C (ev C n).1 (ev C n).2 (jk s.es) s.bd (n+1) x
    else if oB C x.1=true then gq (ev C n).1 (ev C n).2 s (bV x.1,x.2) else (stop x.1,x.2)):Rs×Fm).2
  split;exact h;split;exact UG (ah2 n) _ _ _ _ h;split;exact am5 (ah2 n) s _ h;exact h
structure Hy (T:Px)(C:Cx)(D:Dm)(n:Nat)(fE:E->Fm->Rs->Int×Rs)(fS:Sm->Rs×Fm->Rs×Fm):Prop where
 oE:∀e f r,On r (fE e f r).2
 oS:∀s x,On x.1 (fS s x).1
 gE:GE C fE
 gS:GS C fS
 zS:∀s x,Fz x.2->Fz (fS s x).2
 E:PE T C D n fE
 S:PS T C D n fS
variable {T:Px}{D:Dm}{n:Nat}{ah:Nat}{L:List Fm}{r:Rs}{I:uF}{st st':aj}{f:Fm}
def F2(a:List Int)(x:Option (List Int)×Rs):Option (List Int)×Rs:=match x with|(some l,r)=>(some (a++l),r)|(none,r)=>(none,r)
theorem Gt{e:E}{l:List E}:vals fE f (e::l) r=if (fE e f r).2.e≠0 then (none,(fE e f r).2) else match vals fE f l (fE e f r).2 with
  |(some vs,g)=>(some ((fE e f r).1::vs),g)
  |(none,g)=>(none,g):=rfl
theorem Y5{s:Sm}{l:List Sm}{x:Rs×Fm}:fN fS (s::l) x=if x.2.done=true\/x.1.e≠0 then x else fN fS l (fS s x):=rfl
theorem xG(H:Hy T C D n fE fS)(l:List E)(h:dL T ah (f::L) r I st)(hw:WL D l)(hr:zJ f.vs.length l)(eO:E.eD l<1000000000)(hG:Gd C 0 r)(hn:C.fuel<=r.aK+n)(hd:f.done=false)(h0:f.res=0)(he:r.e=0) :
  ∃st' t vs,(aZ S).call 0 ah 161 [.ptr I.p 0 0 0,bG l] st=some (cq 1 (aP vs),st')/\t.p=I.p/\t.fl=I.fl/\dL T ah (f::L) (vals fE f l r).2 t st'/\(((vals fE f l r).1=some vs/\(vals fE f l r).2.e=0)\/((vals fE f l r).1=none/\(vals fE f l r).2.e≠0)):=by
 have hz:cN 11 (bG l)=true:=nC;have w:bf (bG l)=true:=ck;have K:(bG l).ai=bG l:=bY;have J:aY (bG l)=E.rows l:=bn;have Z:=E.lF l;rw[wO]at hw;rw[mo]at hr;obtain⟨P,st',o,t,vs,rfl,Y⟩:∃P st',(aZ S).call 0 ah 161 [.ptr I.p 0 0 0,bG l] st=some (P,st')/\∃t vs,P=cq 1 (aP vs)/\t.p=I.p/\t.fl=I.fl/\dL T ah (f::L) (vals fE f l r).2 t st'/\
   (((vals fE f l r).1=some vs/\(vals fE f l r).2.e=0)\/((vals fE f l r).1=none/\(vals fE f l r).2.e≠0)):=by
  refine jL (sf:=akI) rfl rfl rfl ?_;generalize bG l=lv at *;simp[akI];refine bN Vx.eq_1 (λx:Nat×List Int×Rs×uF×aj=>⟨[(0,.val (.ptr I.p 0 0 0)),(1,.val lv),(5,.val (cq 1 (aP x.2.1))),(6,.val (.int .i64 x.1))],[],x.2.2.2.2⟩)
   (λx=>x.1<=l.length/\x.2.1.length=x.1/\((x.2.2.1.e=0/\F2 x.2.1 (vals fE f (l.drop x.1) x.2.2.1)=vals fE f l r)\/(x.2.2.1.e≠0/\vals fE f l r=(none,x.2.2.1)))/\x.2.2.2.1.p=I.p/\x.2.2.2.1.fl=I.fl/\dL T ah (f::L) x.2.2.1 x.2.2.2.1 x.2.2.2.2/\Gd C 0 x.2.2.1/\C.fuel<=x.2.2.1.aK+n) (λx=>l.length-x.1) (0,[],r,I,st) (by simp[cq,aP]) ⟨by simp,rfl,.inl ⟨he,?_⟩,rfl,rfl,h,hG,hn⟩ ?_
  simp only[List.drop_zero];rcases vals fE f l r with⟨_|v,y⟩<;>rfl;rintro⟨k,g,R,I1,s1⟩ ⟨hk,m,j,s,il,o,V,n1⟩ ih;simp only at hk m j s il o V n1 ih;have O:=λwl li=>s7 wl li o;rw[s]at O;have gg0:bf (cq 1 (aP g))=true:=dM;by_cases F:k<l.length;rcases j with⟨q0,j⟩|⟨q0,j⟩;have CO:=wk k (by omega);have B:=acH F;obtain⟨s2,I2,z,N,M,Y⟩:=H.E ah L R I1 s1 f l[k] o (hw _ B) (hr _ B) (by have:=E.ri B;omega) V n1 hd h0;have R6:=H.oE l[k] f R;have g2:=(H.gE 0 l[k] f R V).1;rw[s]at z;rw[adB F,Gt]at j;have mg:k<(E.rows l).length:=by simpa [jq] using F
  have Q:=Bo F mg;have e1:bf (bG l[k].aN)=true:=ck;have e2:(bG l[k].aN).ai=bG l[k].aN:=bY;have sR:v8 1 8 (cq 1 (aP g)) [[.int .i64 (fE l[k] f R).1]]=some (cq 1 (aP (g++[(fE l[k] f R).1]))):=by
   rw[gP (by rfl) (by simp[cZ];omega)];simp
  rw[E.aQ]at z Q;have W:=ih (k+1,g++[(fE l[k] f R).1],(fE l[k] f R).2,I2,s2) ⟨by grind,by simp[m],?_,by rw[N,s],by rw[M,il],Y,g2,by have:=R6.st;grind⟩ (by grind);simp only at W;generalize fE l[k] f R=y at *;generalize l[k]=x at *;generalize bG x.aN=xe at *;have gg1:bf (cq 1 (aP (g++[y.1])))=true:=dM;generalize cq 1 (aP (g++[y.1]))=m1 at *;generalize cq 1 (aP g)=m0 at *;simp[F,CO,hz,w,K,J,Q,z,e2,O,q0,sR,AV.ai];exact W;by_cases q:(fE l[k] f R).2.e=0;rw[U (by grind)]at j
  grind [F2]
  rw[af (by grind)]at j;exact .inr ⟨q,by rw[<-j];rfl⟩;rw[j];generalize G:cq 1 (aP g)=m0 at *;simp[F,w,K,J,O,q0,fV]
  grind
  have gW:k=l.length:=by omega
  have X:(R.e=0/\vals fE f l r=(some g,R))\/(R.e≠0/\vals fE f l r=(none,R)):=by
   grind [vals,F2]
  generalize G:cq 1 (aP g)=m0 at *;rcases X with⟨q0,X⟩|⟨q0,X⟩;rw[X];simp[F,w,K,J,q0,fV]
  grind
  rw[X];simp[F,w,K,J,q0,fV]
  grind
 grind
theorem Fi(H:Hy T C D n fE fS)(l:List Sm)(h:dL T ah (f::L) r I st)(hw:WB D l)(hr:rq f.vs.length l)(eO:Sm.eD l<1000000000)(hG:Gd C 0 r)(hn:C.fuel<=r.aK+n)(ZU:Fz f) :
  ∃st' t,(aZ S).call 0 ah 94 [.ptr I.p 0 0 0,bZ l] st=some (.eY [],st')/\t.p=I.p/\t.fl=I.fl/\dL T ah ((fN fS l (r,f)).2::L) (fN fS l (r,f)).1 t st':=by
 have hz:cN 9 (bZ l)=true:=Ob;have o:bf (bZ l)=true:=cQ;have K:(bZ l).ai=bZ l:=bQ;have J:aY (bZ l)=Sm.rows l:=bn;have G:=Sm.lF l;rw[adz]at hw;rw[wA]at hr;obtain⟨y,st',m,rfl,t,B⟩:∃y st',(aZ S).call 0 ah 94 [.ptr I.p 0 0 0,bZ l] st=some (y,st')/\y=.eY []/\∃t,t.p=I.p/\t.fl=I.fl/\dL T ah ((fN fS l (r,f)).2::L) (fN fS l (r,f)).1 t st':=by
  refine jL (sf:=s94) rfl rfl rfl ?_;generalize bZ l=lv at *;simp[s94];refine bN abG.eq_1 (λx:Nat×(Rs×Fm)×uF×aj=>⟨[(0,.val (.ptr I.p 0 0 0)),(1,.val lv),(4,.val (.int .i64 x.1))],[],x.2.2.2⟩)
   (λx=>x.1<=l.length/\fN fS (l.drop x.1) x.2.1=fN fS l (r,f)/\x.2.2.1.p=I.p/\x.2.2.1.fl=I.fl/\dL T ah (x.2.1.2::L) x.2.1.1 x.2.2.1 x.2.2.2/\Gd C 0 x.2.1.1/\x.2.1.2.vs.length=f.vs.length/\C.fuel<=x.2.1.1.aK+n/\Fz x.2.1.2) (λx=>l.length-x.1) (0,(r,f),I,st) (by simp) ⟨by simp,by simp,rfl,rfl,h,hG,rfl,hn,ZU⟩ ?_
  rintro⟨k,⟨R,g⟩,I1,s1⟩ ⟨hk,j,s,il,m,V,v1,n1,Z⟩ ih;simp only at hk j s il m V v1 n1 Z ih;have O:=λwl li=>s7 wl li m;rw[s]at O;have Y:=m.P;rw[s]at Y;by_cases F:k<l.length;rw[adB F,Y5]at j;by_cases q:g.done=true\/R.e≠0;rw[af q]at j;rw[<-j];by_cases v:R.e=0;have Q:g.done=true:=by grind
  simp[F,o,K,J,O,v,Y,cI,jD,oX,cut,Q,lI]
  grind
  simp[F,o,K,J,O,v,lI]
  grind
  rw[U q]at j;have CO:=wk k (by omega);have X:=acH F;have mg:k<(Sm.rows l).length:=by simpa using F
  have z:=Cl F mg;obtain⟨e1,b1,l1⟩:bf (bG l[k].es)=true/\bf (bZ l[k].bd)=true/\bf (bZ l[k].el)=true:=⟨ck,cQ,cQ⟩;have e2:(bG l[k].es).ai=bG l[k].es:=bY;have b2:(bZ l[k].bd).ai=bZ l[k].bd:=bQ;have l2:(bZ l[k].el).ai=bZ l[k].el:=bQ;have Q:g.done=false:=by grind
  have v:R.e=0:=Decidable.byContradiction λc=>q (.inr c);obtain⟨s2,I2,w,N,M,B⟩:=H.S ah L R I1 s1 g l[k] m (hw _ X) (by grind) (by have:=Sm.ri X;omega) V n1 Q (Z Q);have R6:=H.oS l[k] (R,g);obtain⟨g2,_,v2⟩:=H.gS 0 l[k] (R,g) V;rw[s]at w;have W:=ih (k+1,fS l[k] (R,g),I2,s2) ⟨by grind,j,by rw[N,s],by rw[M,il],B,g2,by grind,by have:=R6.st;grind,H.zS _ _ Z⟩ (by grind);simp only at W;rw[Sm.aQ]at w z;generalize l[k]=x at *;generalize bG x.es=xe,bZ x.bd=xb,bZ x.el=xl at *;simp[F,CO,hz,o,K,J,z,w,e2,b2,l2,O,v,Y,cI,jD,oX,cut,Q,AV.ai];exact W;have gW:k=l.length:=by omega
  rw[gW,List.drop_length]at j;have Xt:fN fS l (r,f)=(R,g):=by rw[<-j];rfl
  rw[Xt];simp[F,o,K,J,lI]
  grind
 grind
end Ft
namespace Ft
open Ax Go aO V7 iQ iZ pX K9 S9
variable {T:Px}{C:Cx}{D:Dm}{n:Nat}{fE:E->Fm->Rs->Int×Rs}{fS:Sm->Rs×Fm->Rs×Fm}{ah:Nat}{L:List Fm}{r:Rs}{I:uF}{st st':aj}{f:Fm}
mutual
theorem MI:∀a:AV,a.cU a=true
 |.agg a|.eY a=>by simp only[AV.cU];exact wP a|.dV s a|.ju s a|.raw s a=>by simp only[AV.cU,Ee,beq_self_eq_true,true_and];exact xL a|.tM s a i k=>by simp only[AV.cU,Ee,beq_self_eq_true,true_and,and_true];exact xL a|.fn f a b=>by simp only[AV.cU,Ee,beq_self_eq_true,true_and];exact⟨wP a,wP b⟩|.undef|.gone|.eP|.aF|.gu|.je|.lz|.oI=>rfl|.bool a=>by simp[AV.cU]|.int k a=>by simp[AV.cU]|.str a=>by simp[AV.cU]|.mu i v=>by simp[AV.cU]|.ptr a b c d=>by simp[AV.cU]|.map i=>by simp[AV.cU]
theorem wP:∀l:List AV,AV.uw l l=true
 |[]=>rfl|a::l=>by simp only[AV.uw,Ee];exact⟨MI a,wP l⟩
theorem xL:∀l:List (List AV),AV.qK l l=true
 |[]=>rfl|a::l=>by simp only[AV.qK,Ee];exact⟨wP a,xL l⟩
end
theorem adX(a b:List Int):aP (a++b)=aP a++aP b:=by simp[aP]
theorem adY(l:List Int)(m:Nat)(z:l.length+m<1000000)(st:aj)(g:Nat)(w:g<=st.length):∃(M v:AV)(x X:List dJ)(a:Nat×Nat),
  (∀B,bz 0 g (.jH 1 8) [.val .aF,.val (aM 1 (aP l))] st B=some (.val M,st++x,B))/\
  (∀B,bz 0 g (.wU 1 8 [.int .i64 0]) [.val M,.val (.int .i64 m)] (st++x) B=some (.val v,st++X,B))/\
  (∀d r,v=vV ⟨l++acp m 0,r,d⟩ a)/\(l++acp m 0≠[]->a.1=st.length/\(st++X)[st.length]?=some (.rows a.2 1 (aP (l++acp m 0))))/\AV.aB [v]=decide (l++acp m 0=[]):=by
 have o:aP (acp m 0)=acp m [.int .i64 0]:=adW m;have q:dG st (aM 1 (aP l))=some (aP l):=by simp_all
 have y:cr 1 (aP l)=true:=by simp_all
 have s:cr 1 (acp m [AV.int .i64 0])=true:=by simp[cr]
 have F:(aP l).all AV.aB=true:=by simp[aP,AV.aB,AV.aH]
 have R:(m:Int)*8<=cZ:=by unfold cZ;omega
 have J:(l.length+m)*8<=cZ:=by unfold cZ;omega
 have K:l.length*8<=cZ:=by grind
 have P:m*8<=cZ:=by grind
 by_cases j:l=[]
 ·subst j;have H:∀B,bz 0 g (.jH 1 8) [.val .aF,.val (aM 1 (aP []))] st B=some (.val .aF,st++[],B):=λB=>by
   rw[rQ,q,List.append_nil];rfl
  by_cases p:m=0;subst p;refine⟨.aF,.aF,[],[],(0,0),H,λB=>?_,λd r=>rfl,λh=>au rfl h,rfl⟩
  grind [B6,AV.aB,AV.aH,tR]
  ·refine⟨.aF,.mu st.length 0,[],[.rows 0 1 (acp m [.int .i64 0])],(st.length,0),H,λB=>?_,λd r=>?_,λ_=>⟨rfl,by simp[o]⟩,?_⟩;all_goals simp_all [tR,vV]
 ·have G:l++acp m 0≠[]:=by simp[j]
  have N:(aP l).isEmpty=false:=by cases l with|nil=>grind|cons a b=>rfl
  have k:(aP l).length=l.length:=by simp[aP]
  refine⟨.mu st.length 0,.mu st.length 1,[.rows 0 1 (aP l)],[.rows 1 1 (aP l++acp m [.int .i64 0])],(st.length,1),λB=>?_,λB=>?_,λd r=>?_,λ_=>⟨rfl,by simp[adX,o]⟩,?_⟩;simp_all;rw[B6];have O:(st++[dJ.rows 0 1 (aP l)])[st.length]?=some (.rows 0 1 (aP l)):=by simp
  have t:(st++[dJ.rows 0 1 (aP l)]).set st.length (.rows 1 1 (aP l++acp m [.int .i64 0]))=st++[.rows 1 1 (aP l++acp m [.int .i64 0])]:=by
   grind
  grind [AV.aB,AV.aH,tR]
  all_goals simp_all [vV]
theorem R7(f:Fm)(a:Nat×Nat):(vV f a).cells=[vV f a]/\(vV f a).cM=true:=by unfold vV;split<;>simp_all
theorem WU(f:Fm)(a:Nat×Nat):(vV f a).ai=vV f a:=by unfold vV;split<;>rfl
theorem xm(K:Prg T C D)(H:Hy T C D n fE fS)(i:Int)(l:List Int){AL:AV}(hAL:AL.ai=aM 1 (aP l))(hAs:bf AL=true)(h:dL T ah (f::L) r I st)(hi:0<=i)(hb:i.toNat<T.bs.length)(hl:l.length<=(T.bs[i.toNat]).vars.length)(F:Gd C 0 r)(hn:C.fuel<=r.aK+n)(hd:f.done=false)(h0:f.res=0) :
  ∃st' R,(aZ S).call 0 ah 40 [.ptr I.p 0 0 0,.int .i64 i,AL] st=some (.int .i64 (dW C fS i l r).1,st')/\R.p=I.p/\R.fl=I.fl/\dL T ah (f::L) (dW C fS i l r).2 R st':=by
 have Y:=h.P;have WK:=F.nf;by_cases h40:40<=r.nf;obtain⟨s1,l1,t1,r1⟩:=rD h 6;have ec:dW C fS i l r=(0,eH r 6):=by unfold dW;grind
 rw[ec];have q:(40:Int)<=(r.nf:Int):=by omega
 refine⟨s1,I,?_,rfl,rfl,r1⟩;refine aG (sf:=s40) rfl rfl rfl ?_;simp[s40,Y,cI,jD,cut,q,t1];obtain⟨k,rfl⟩:∃k:Nat,i=k:=⟨i.toNat,by omega⟩;have Q:k<T.bs.length:=by omega
 simp only[aeu]at hl hb;obtain⟨w1,w2,w3,w4⟩:=K.wb _ (acH Q);have egd:C.bs.getD k B0=T.bs[k]:=by rw[K.bs];simp[Q]
 have q:¬(40:Int)<=(r.nf:Int):=by omega
 have Uc:=wk r.nf (by omega);obtain⟨m,hm⟩:∃m,m=T.bs[k].vars.length-l.length:=⟨_,rfl⟩;have hwm:IntKind.i64.wrap ((T.bs[k].vars.length:Int)-(l.length:Int))=(m:Int):=by rw[dY]<;>omega
 have Iw:=h.Gs;have MU:=iU Y;obtain⟨MV,V,XM,X,a,hA,hZ,hV,hX,_⟩:=adY l m (by omega) st ah h.ahY;obtain⟨g,O⟩:∃g:Fm,g=⟨l++acp m 0,0,false⟩:=⟨_,rfl⟩;obtain⟨nr,t⟩:∃nr:dJ,nr=.rows 0 17 [cI T (g::f::L) { r with nf:=r.nf+1 } { I with fl:=a::I.fl }]:=⟨_,rfl⟩;obtain⟨s3,w⟩:∃s,s=(st++X).set I.p nr:=⟨_,rfl⟩;have o3:∀j,j<st.length->j≠I.p->s3[j]?=st[j]?:=λj hj iO=>by grind
 have x:s3[I.p]?=some nr:=by grind
 have R3:=h.push (st':=s3) (a:=a.1) (v:=a.2) (g:=g) (nf:=r.nf+1) (λe=>by grind) o3 (by rw[x,t]) (λe=>by
  grind)
 have G3:Gd C 0 { r with nf:=r.nf+1 }:=⟨F.s,F.o,F.g,F.st,by grind⟩;have Sj:g.vs.length=T.bs[k].vars.length:=by grind
 obtain⟨s4,M,fD,ip,il,W⟩:=Fi H T.bs[k].code R3 w1 (by grind) w3 G3 hn (by rw[O];intro _;rfl);have ec:dW C fS (k:Int) l r=((fN fS T.bs[k].code ({ r with nf:=r.nf+1 },g)).2.res,{ (fN fS T.bs[k].code ({ r with nf:=r.nf+1 },g)).1 with nf:=(fN fS T.bs[k].code ({ r with nf:=r.nf+1 },g)).1.nf-1 }):=by
  unfold dW;rw[U h40,aeu,egd,O,hm]
 have G4:=Cw H.gS T.bs[k].code 0 ({ r with nf:=r.nf+1 },g) G3;rw[ec];generalize fN fS T.bs[k].code ({ r with nf:=r.nf+1 },g)=y at *;obtain⟨J,y2⟩:=y;simp only at W G4 ip il fD ⊢;obtain⟨_,G4n,_⟩:=G4;have N:=W.P;rw[ip]at N;have Z:=iU N;have xx:IntKind.i64.wrap ((J.nf:Int)-1)=((J.nf-1:Nat):Int):=by rw[dY]<;>omega
 obtain⟨s5,G⟩:∃s,s=s4.set I.p (.rows 0 17 [cI T (f::L) { J with nf:=J.nf-1 } { M with fl:=I.fl }]):=⟨_,rfl⟩;have R5:=W.pop (st':=s5) (nf:=J.nf-1) il (λj hj iO=>by grind) (by grind);refine⟨s5,{ M with fl:=I.fl },?_,ip,rfl,R5⟩;have B:(T.bs.map Bd.aI)[k]'(by grind)=[cG T.bs[k].vars,bZ T.bs[k].code,.int .i64 T.bs[k].a]:=by simp[Bd.aI]
 have z1:bf (cG T.bs[k].vars)=true:=iD;have z2:(cG T.bs[k].vars).ai=cG T.bs[k].vars:=lu;have z3:bf (bZ T.bs[k].code)=true:=cQ;have z4:(bZ T.bs[k].code).ai=bZ T.bs[k].code:=bQ;have z5:aY (cG T.bs[k].vars)=T.bs[k].vars.map Vd.aI:=bn;have b1:cN 3 (aM 3 (T.bs.map Bd.aI))=true:=ji (by simp[cr,Bd.aI]);have b2:(aM 3 (T.bs.map Bd.aI)).ai=aM 3 (T.bs.map Bd.aI):=bU;have b3:aY (aM 3 (T.bs.map Bd.aI))=T.bs.map Bd.aI:=bn;have b4:bf (aM 3 (T.bs.map Bd.aI))=true:=bL;have a1:bf (aM 1 (aP l))=true:=bL;have a2:(aM 1 (aP l)).ai=aM 1 (aP l):=bU;have a3:aY (aM 1 (aP l))=aP l:=bn;have a4:(aP l).length=l.length:=by simp[aP]
 have htf:oX (g::f::L)=g:=rfl;have Zr:tL { I with fl:=a::I.fl }=a:=rfl;have hvg:vV g a=V:=by grind
 have hgd:g.done=false:=by rw[O]
 have hgr:g.res=0:=by rw[O]
 have v0:=WU f (tL I);have v1:V.ai=V:=by grind [WU]
 obtain⟨c1,c2⟩:V.cells=[V]/\V.cM=true:=by grind [R7]
 obtain⟨c3,c4⟩:=R7 f (tL I);simp only[cI,jD,htf,Zr,hvg,hgd,hgr]at t;have ax4:oX (f::L)=f:=rfl;have ax5:tL { M with fl:=I.fl }=tL I:=rfl;simp only[cI,jD,ax4,ax5,hd,h0]at Y G;simp only[cI,jD]at N;have Uw:=λl=>wT.oG Y l;have Av:∀y z,((st++X).set I.p y).set I.p z=(st++X).set I.p z:=λy z=>anc ..
 have Fs:∀y,((st++X).set I.p y)[I.p]?=some y:=λy=>ad9 (by simp;omega);have ax6:∀y z,(s4.set I.p y).set I.p z=s4.set I.p z:=λy z=>anc ..
 have ax7:∀y,(s4.set I.p y)[I.p]?=some y:=λy=>ad9 Z;rw[t]at w x
 push_cast at w x
 have ax8:=S9.jX x;generalize vV f (tL I)=VV,vV (oX (y2::f::L)) (tL M)=VY at *;refine aG (sf:=s40) rfl rfl rfl ?_;generalize aM 3 (T.bs.map Bd.aI)=BV,aM 1 (aP l)=LL at *;simp[s40,Y,cut,q,v0];rw[gO];simp[-rQ,-yz,-B6,cR,Uw,cut,hA,hZ,Iw,hAL,a1,a3,a4,b1,b2,b3,z1,z2,z5,Q,B,hwm,eR,cw,bu,AV.aB,ay,di,fZ.bM,c1,c2];refine⟨_,_,⟨rfl,rfl⟩,?_⟩;simp[-rQ,-yz,-B6,Y,Uw,cut,bH,AV.cC,AV.ai,fz.cU,AV.cU,a1,a3,a4,b1,b2,b3,z1,z2,z4,z5,Q,B,Iw,bu,AV.aB,AV.aH,ay,Av,Fs,Uc,w.symm,x,ax8,MI,xL,oX,fD,N,ax6,ax7,xx,G.symm,c3,c4]
end Ft
