/- Part of a proof. -/
import Derived.Test.YtpnadocbfbbboaaGreatG
import Derived.Test.YtpnadocbfbbboaaGreatR
import Derived.Test.YtpnadocbfbbboaaGreatS

open List renaming mem_append->abw,getElem_mem->aaq,getElem?_set_ne->aap,getElem?_set_self->aay,mem_append_right->agl,nodup_append->agW,cons_append->acA,nil_append->adn,nodup_cons->aeU,eq_nil_of_length_eq_zero->aaK,getElem_append_left->afa,take->afi,take_of_length_le->ab7,set_set->ady,getD_eq_getElem?_getD->ado,getElem?_eq_getElem->aag,replicate->aak,getElem?_append_left->aal,getElem?_append_right->aar,drop_eq_getElem_cons->aaz,drop_length->aaC
open Nat renaming le_refl->aau
open Int renaming toNat_natCast->acL
open Bool renaming and_eq_true->aac
set_option maxRecDepth 100000
set_option maxHeartbeats 4000000
namespace DI
open Ax Go bY V7 kN lZ tj
inductive Lb|no|p|g|o|st|fr
 deriving DecidableEq
structure rX where
 p:Nat
 q:Nat
 v:Nat
 g:Nat
 o:Nat
 ov:Nat
 fB:List Nat
 fl:List (Nat×Nat)
 jv:Nat->Lb
 iv:AV
structure Px where
 H:Hd
 m:Int
 bs:List Bd
 fu:Nat
def lV(s:List (List Int))(q v:Nat):AV:=if s=[] then .af else .mu q v
def oV(o:List Int)(i v:Nat):AV:=if o=[] then .af else .mu i v
def vV(f:Fm)(a:Nat×Nat):AV:=if f.vs=[] then .af else .mu a.1 a.2
def dW(T:Px)(iv:AV)(e code:Int)(out:AV)(cC:Nat)(l:AV)(g:Nat)(nf:Nat)(vs:AV)(done:Bool)(cH:Int):List AV:=
 [aJ 2 (T.H.bE.map dz),bP T.H.aI,aJ 6 (T.H.aY.map Sg.aF),.int .i64 T.m,aJ 3 (T.bs.map Bd.aF),iv,.int .i64 T.fu,.int .i64 e,.int .i64 code,out,.int .i64 cC,l,.mu g 0,.int .i64 nf,vs,.bool done,.int .i64 cH]
def f0:Fm:=⟨[],0,false⟩
def mQ(L:List Fm):Fm:=L.headD f0
def qy(I:rX):Nat×Nat:=I.fl.headD (0,0)
def cD(T:Px)(L:List Fm)(r:Rs)(I:rX):List AV:=dW T I.iv r.e r.code (oV r.out I.o I.ov) r.cC (lV r.s I.q I.v) I.g r.nf (vV (mQ L) (qy I)) (mQ L).done (mQ L).cH
def tu(st:ay):List Fm->List (Nat×Nat)->Prop
 |[],[]=>True|f::l,a::b=>(f.vs≠[]->st[a.1]?=some (.rows a.2 1 (aO f.vs)))/\tu st l b|_,_=>False
def jy:List Fm->List (Nat×Nat)->List Nat
 |f::l,a::b=>(if f.vs=[] then [] else [a.1])++jy l b|_,_=>[]
structure eF (T:Px)(aa:Nat)(L:List Fm)(r:Rs)(I:rX)(st:ay):Prop where
 P:st[I.p]?=some (.rows 0 17 [cD T L r I])
 iv:tP I.iv=true/\iQ I.iv=true/\dI I.iv=r.mZ
 sl:I.fB.length=r.s.length
 S:r.s≠[]->st[I.q]?=some (.rows I.v 1 (I.fB.map λi=>[.mu i 0]))
 el:∀k (h:k<I.fB.length) (h2:k<r.s.length),st[I.fB[k]]?=some (.rows 0 1 (aO r.s[k]))
 G:st[I.g]?=some (.rows 0 1 (aO r.g))
 FR:tu st L I.fl
 O:r.out≠[]->st[I.o]?=some (.rows I.ov 1 (aO r.out))
 lp:I.jv I.p=.p
 lg:I.jv I.g=.g
 lo:r.out≠[]->I.jv I.o=.o
 lq:r.s≠[]->I.jv I.q=.st
 li:∀i∈I.fB,I.jv i=.st
 qn:r.s≠[]->I.q ∉ I.fB
 sn:I.fB.Nodup
 lr:∀i∈jy L I.fl,I.jv i=.fr
 nd:(jy L I.fl).Nodup
 low:∀i,I.jv i≠.no->aa<=i
variable {T:Px}{aa:Nat}{L:List Fm}{r:Rs}{I:rX}{st st':ay}{f:Fm}
theorem tu.pN:∀{l:List Fm}{fl:List (Nat×Nat)},tu st l fl->(∀i∈jy l fl,st'[i]?=st[i]?)->tu st' l fl
 |[],[],_,_=>trivial|f::l,a::b,h,k=>⟨λe=>by rw[k a.1 (by simp[jy,e])];exact h.1 e,tu.pN h.2 λi hi=>k i (by simp only[jy,abw];exact .inr hi)⟩
 |[],_::_,h,_=>h.elim|_::_,[],h,_=>h.elim
theorem fA{i:Nat}{o:dA}(h:st[i]?=some o):i<st.length:=(List.getElem?_eq_some_iff.1 h).1
theorem tu.lt:∀{l:List Fm}{fl:List (Nat×Nat)},tu st l fl->∀i∈jy l fl,i<st.length
 |[],[],_=>by simp[jy]|f::_,a::b,h=>by
  intro i hi;simp only[jy,abw]at hi;rcases hi with hi|hi;by_cases e:f.vs=[];rw[ah e]at hi;simp at hi;rw[U e]at hi;simp at hi;rw[hi];exact fA (h.1 e);exact tu.lt h.2 i hi
 |[],_::_,h=>h.elim|_::_,[],h=>h.elim
structure Lts (L:List Fm)(I:rX)(r:Rs)(n:Nat):Prop where
 p:I.p<n
 g:I.g<n
 q:r.s≠[]->I.q<n
 fB:∀i∈I.fB,i<n
 fr:∀i∈jy L I.fl,i<n
 o:r.out≠[]->I.o<n
theorem eF.Pa(h:eF T aa L r I st):Lts L I r st.length:=
 ⟨fA h.P,fA h.G,λe=>fA (h.S e),λi hi=>by
  obtain⟨k,hk,rfl⟩:=List.mem_iff_getElem.1 hi;exact fA (h.el k hk (by rw[<-h.sl];exact hk)),h.FR.lt,λe=>fA (h.O e)⟩
theorem eF.s7(h:eF T aa L r I st):aa<=I.p:=h.low _ (by rw[h.lp];decide)
theorem eF.Lp(h:eF T aa L r I st):aa<=st.length:=Nat.le_trans h.s7 (Nat.le_of_lt h.Pa.p)
theorem eF.xu(h:eF T aa L r I st)(k:∀i,i<st.length->I.jv i≠.no->I.jv i≠.p->st'[i]?=st[i]?)(hP:st'[I.p]?=some (.rows 0 17 [cD T L r I])):eF T aa L r I st':=by
 have B:=h.Pa;have kk:∀i,i<st.length->∀b,I.jv i=b->b≠Lb.no->b≠Lb.p->st'[i]?=st[i]?:=λi hi b hb hn hp=>k i hi (by rw[hb];exact hn) (by rw[hb];exact hp);refine⟨hP,h.iv,h.sl,λe=>?_,λj hj uR=>?_,?_,h.FR.pN λi hi=>kk i (B.fr i hi) _ (h.lr i hi) (by decide) (by decide),λe=>?_,h.lp,h.lg,h.lo,h.lq,h.li,h.qn,h.sn,h.lr,h.nd,h.low⟩;rw[kk _ (B.q e) _ (h.lq e) (by decide) (by decide)];exact h.S e;have hm:=aaq hj;rw[kk _ (B.fB _ hm) _ (h.li _ hm) (by decide) (by decide)];exact h.el j hj uR;rw[kk _ B.g _ h.lg (by decide) (by decide)];exact h.G;rw[kk _ (B.o e) _ (h.lo e) (by decide) (by decide)];exact h.O e
theorem eF.pN(h:eF T aa L r I st)(k:∀i,i<st.length->I.jv i≠.no->st'[i]?=st[i]?):eF T aa L r I st':=
 h.xu (λi hi hn _=>k i hi hn) (by rw[k _ h.Pa.p (by rw[h.lp];decide)];exact h.P)
theorem eF.aF(h:eF T aa (f::L) r I st)(r':Rs)(f':Fm)(QN:AV)(hs:r'.s=r.s)(hg:r'.g=r.g)(ho:r'.out=r.out)(hv:f'.vs=f.vs)(hi:tP QN=true/\iQ QN=true/\dI QN=r'.mZ) :
  eF T aa (f'::L) r' { I with iv:=QN } (st.set I.p (.rows 0 17 [cD T (f'::L) r' { I with iv:=QN }])):=by
 have k:∀i,I.jv i≠.p->(st.set I.p (.rows 0 17 [cD T (f'::L) r' { I with iv:=QN }]))[i]?=st[i]?:=λi hi=>
  aap λe=>hi (by rw[<-e];exact h.lp)
 have Bw:∀fl,jy (f'::L) fl=jy (f::L) fl:=λfl=>by
  cases fl with
  |nil=>rfl|cons a b=>simp only[jy,hv]
 have My:tu st (f'::L) I.fl:=by
  have:=h.FR;cases hf:I.fl with
  |nil=>rw[hf]at this;exact this.elim|cons a b=>
   rw[hf]at this;exact⟨by rw[hv];exact this.1,this.2⟩
 refine⟨aay (fA h.P),hi,by rw[hs];exact h.sl,λe=>?_,λj hj uR=>?_,?_,?_,λe=>?_,h.lp,h.lg,by rw[ho];exact h.lo,by rw[hs];exact h.lq,h.li,by rw[hs];exact h.qn,h.sn,?_,?_,h.low⟩;rw[hs]at e;exact(k I.q (by rw[h.lq e];decide)).trans (h.S e);have Y7:j<r.s.length:=by rw[<-hs];exact uR
 have e1:r'.s[j]=r.s[j]:=by simp only[hs]
 rw[e1];exact(k _ (by rw[h.li _ (aaq hj)];decide)).trans (h.el j hj Y7);rw[hg];exact(k I.g (by rw[h.lg];decide)).trans h.G;refine My.pN λi hi=>k i ?_;rw[Bw]at hi;rw[h.lr i hi];decide;rw[ho]at e;rw[ho];exact(k I.o (by rw[h.lo e];decide)).trans (h.O e);intro i hi;rw[Bw]at hi;exact h.lr i hi;rw[Bw];exact h.nd
theorem eF.Ri(h:eF T aa (f::L) r I st):∃a b,I.fl=a::b/\(f.vs≠[]->st[a.1]?=some (.rows a.2 1 (aO f.vs))/\I.jv a.1=.fr/\a.1 ∉ jy L b)/\tu st L b/\(∀i∈jy L b,I.jv i=.fr)/\(jy L b).Nodup:=by
 have h1:=h.FR;cases hf:I.fl with
 |nil=>rw[hf]at h1;exact h1.elim|cons a b=>
  rw[hf]at h1;have h2:=h.nd;have h3:=h.lr;rw[hf]at h2 h3;simp only[jy]at h2 h3;refine⟨a,b,rfl,λe=>?_,h1.2,λi hi=>h3 i (agl _ hi),(agW.1 h2).2.1⟩;rw[U e]at h2 h3;simp only[acA,adn,aeU]at h2;exact⟨h1.1 e,h3 a.1 (by simp),h2.1⟩
theorem eF.Lq(h:eF T aa (f::L) r I st){vs':List Int}(hl:vs'.length=f.vs.length)(fy:f.vs≠[]):eF T aa ({ f with vs:=vs' }::L) r I (st.set (qy I).1 (.rows (qy I).2 1 (aO vs'))):=by
 obtain⟨a,b,ha,g1,g2,g3,g4⟩:=h.Ri;obtain⟨g5,g6,g7⟩:=g1 fy;have ahM:vs'≠[]:=by
  intro q;rw[q]at hl;exact fy (aaK hl.symm)
 have ht:qy I=a:=by unfold qy;rw[ha];rfl
 rw[ht];have k:∀i,i≠a.1->(st.set a.1 (.rows a.2 1 (aO vs')))[i]?=st[i]?:=λi hi=>aap λe=>hi e.symm;have k':∀i,I.jv i≠.fr->(st.set a.1 (.rows a.2 1 (aO vs')))[i]?=st[i]?:=λi hi=>k i λe=>hi (by rw[e];exact g6);have Bw:jy ({ f with vs:=vs' }::L) I.fl=jy (f::L) I.fl:=by rw[ha];simp only[jy,U fy,U ahM]
 have dJ:cD T ({ f with vs:=vs' }::L) r I=cD T (f::L) r I:=by
  unfold cD;show dW T I.iv r.e r.code _ r.cC _ I.g r.nf (if vs'=[] then AV.af else _) f.done f.cH=dW T I.iv r.e r.code _ r.cC _ I.g r.nf (if f.vs=[] then AV.af else _) f.done f.cH;rw[U fy,U ahM]
 refine⟨?_,h.iv,h.sl,λe=>?_,λj hj uR=>?_,?_,?_,λe=>?_,h.lp,h.lg,h.lo,h.lq,h.li,h.qn,h.sn,by rw[Bw];exact h.lr,by rw[Bw];exact h.nd,h.low⟩;rw[dJ,k' _ (by rw[h.lp];decide)];exact h.P;rw[k' _ (by rw[h.lq e];decide)];exact h.S e;rw[k' _ (by rw[h.li _ (aaq hj)];decide)];exact h.el j hj uR;rw[k' _ (by rw[h.lg];decide)];exact h.G;rw[ha];refine⟨λ_=>aay (fA g5),g2.pN λi hi=>k i λe=>g7 (e ▸ hi)⟩;rw[k' _ (by rw[h.lo e];decide)];exact h.O e
theorem eF.ac3(h:eF T aa L r I st)(g:List Int):eF T aa L { r with g:=g } I (st.set I.g (.rows 0 1 (aO g))):=by
 have k:∀i,I.jv i≠.g->(st.set I.g (.rows 0 1 (aO g)))[i]?=st[i]?:=λi hi=>aap λe=>hi (by rw[<-e];exact h.lg);refine⟨?_,h.iv,h.sl,λe=>?_,λj hj uR=>?_,aay (fA h.G),h.FR.pN λi hi=>k i (by rw[h.lr i hi];decide),λe=>?_,h.lp,h.lg,h.lo,h.lq,h.li,h.qn,h.sn,h.lr,h.nd,h.low⟩;rw[k _ (by rw[h.lp];decide)];exact h.P;rw[k _ (by rw[h.lq e];decide)];exact h.S e;rw[k _ (by rw[h.li _ (aaq hj)];decide)];exact h.el j hj uR;rw[k _ (by rw[h.lo e];decide)];exact h.O e
theorem eF.ahN(h:eF T aa L r I st)(k:Nat)(hk:k<I.fB.length)(w:List Int):eF T aa L { r with s:=r.s.set k w } I (st.set I.fB[k] (.rows 0 1 (aO w))):=by
 have hm:=aaq hk;have n1:∀i,I.jv i≠.st->(st.set I.fB[k] (.rows 0 1 (aO w)))[i]?=st[i]?:=λi hi=>aap λe=>hi (by rw[<-e];exact h.li _ hm);have qh:r.s.set k w=[]↔r.s=[]:=by
  constructor;intro e;have:=congrArg List.length e;simp at this;exact this;intro e;rw[e];rfl
 have dJ:cD T L { r with s:=r.s.set k w } I=cD T L r I:=by
  unfold cD lV;simp only[qh]
 refine⟨?_,h.iv,?_,λe=>?_,λj hj uR=>?_,?_,h.FR.pN λi hi=>n1 i (by rw[h.lr i hi];decide),λe=>?_,h.lp,h.lg,h.lo,λe=>h.lq λc=>e (qh.2 c),h.li,λe=>h.qn λc=>e (qh.2 c),h.sn,h.lr,h.nd,h.low⟩;rw[dJ,n1 _ (by rw[h.lp];decide)];exact h.P;simp[h.sl];have e':r.s≠[]:=λc=>e (qh.2 c);rw[aap λ(c:I.fB[k]=I.q)=>h.qn e' (c ▸ hm)];exact h.S e';have Y7:j<r.s.length:=by simpa using uR
 by_cases q:j=k;subst q;have hl:=fA (h.el j hj Y7);show _=some (dA.rows 0 1 (aO (r.s.set j w)[j]));rw[aay hl,List.getElem_set_self];have fy:I.fB[k]≠I.fB[j]:=λc=>q ((List.getElem_inj h.sn).1 c).symm;show _=some (dA.rows 0 1 (aO (r.s.set k w)[j]));rw[aap fy,List.getElem_set_ne (λc=>q c.symm)];exact h.el j hj Y7;rw[n1 _ (by rw[h.lg];decide)];exact h.G;rw[n1 _ (by rw[h.lo e];decide)];exact h.O e
theorem eF.alloc(h:eF T aa L r I st){w:List Int}{n q v:Nat}(hn:st.length<=n)(hq:(r.s≠[]/\q=I.q)\/st.length<=q)(hnq:q≠n)(k:∀j,j<st.length->j≠I.p->(r.s≠[]->j≠I.q)->st'[j]?=st[j]?)
  (hp:st'[I.p]?=some (.rows 0 17 [dW T I.iv r.e r.code (oV r.out I.o I.ov) r.cC (.mu q v) I.g r.nf (vV (mQ L) (qy I)) (mQ L).done (mQ L).cH]))
  (h1:st'[n]?=some (.rows 0 1 (aO w))) (h2:st'[q]?=some (.rows v 1 ((I.fB++[n]).map λi=>[.mu i 0]))) :
  eF T aa L { r with s:=r.s++[w] } { I with q:=q,v:=v,fB:=I.fB++[n],jv:=λj=>if j=n\/j=q then .st else I.jv j } st':=by
 have B:=h.Pa;have hle:=h.Lp;have lb:∀j,j<st.length->(r.s≠[]->I.jv j≠.st)->(if j=n\/j=q then Lb.st else I.jv j)=I.jv j:=λj hj fy=>by
  by_cases c:j=n\/j=q;rcases c with c|c;omega;rcases hq with⟨e,d⟩|d;exact aU (by rw[c,d];exact h.lq e) (fy e);omega;exact U c
 have k2:∀j,j<st.length->I.jv j≠.p->(r.s≠[]->j≠I.q)->st'[j]?=st[j]?:=λj hj n1 n2=>k j hj (λc=>n1 (by rw[c];exact h.lp)) n2;have k3:∀j,j<st.length->I.jv j≠.p->I.jv j≠.st->st'[j]?=st[j]?:=λj hj n1 n2=>k2 j hj n1 λe c=>n2 (by rw[c];exact h.lq e);have CU:∀j∈I.fB,(if j=n\/j=q then Lb.st else I.jv j)=.st:=λj hj=>by
  by_cases c:j=n\/j=q;exact ah c;rw[U c];exact h.li j hj
 have hqi:q ∉ I.fB:=λc=>by
  rcases hq with⟨e,d⟩|d;exact h.qn e (d ▸ c);have:=B.fB q c;omega
 refine⟨?_,h.iv,by simp[h.sl],λ_=>h2,λj hj uR=>?_,?_,h.FR.pN λi hi=>k3 i (B.fr i hi) (by rw[h.lr i hi];decide) (by rw[h.lr i hi];decide),λe=>?_,(lb _ B.p λ_=>by rw[h.lp];decide).trans h.lp,(lb _ B.g λ_=>by rw[h.lg];decide).trans h.lg,
  λe=>(lb _ (B.o e) λ_=>by rw[h.lo e];decide).trans (h.lo e),λ_=>ah (.inr rfl),λj hj=>?_,λ_=>?_,?_,λj hj=>(lb _ (B.fr j hj) λ_=>by rw[h.lr j hj];decide).trans (h.lr j hj),h.nd,λj hj=>?_⟩
 have:lV (r.s++[w]) q v=.mu q v:=U (by simp);show st'[I.p]?=some (.rows 0 17 [dW T I.iv r.e r.code (oV r.out I.o I.ov) r.cC (lV (r.s++[w]) q v) I.g r.nf (vV (mQ L) (qy I)) (mQ L).done (mQ L).cH]);rw[this];exact hp;by_cases e:j<I.fB.length;have hj3:j<r.s.length:=by rw[<-h.sl];exact e
 show st'[(I.fB++[n])[j]]?=some (.rows 0 1 (aO (r.s++[w])[j]));rw[afa e,afa hj3];have hm:=aaq e;rw[k2 _ (B.fB _ hm) (by rw[h.li _ hm];decide) λe c=>h.qn e (c ▸ hm)];exact h.el j e hj3;have Ws:j=I.fB.length:=by simp at hj;omega
 subst Ws;show st'[(I.fB++[n])[I.fB.length]]?=some (.rows 0 1 (aO (r.s++[w])[I.fB.length]));have e1:(I.fB++[n])[I.fB.length]=n:=by simp
 have e2:(r.s++[w])[I.fB.length]'(by simpa using uR)=w:=by
  rw[List.getElem_append_right (by rw[h.sl];exact aau _)];simp
 rw[e1,e2];exact h1;exact(k3 _ B.g (by rw[h.lg];decide) (by rw[h.lg];decide)).trans h.G;exact(k3 _ (B.o e) (by rw[h.lo e];decide) (by rw[h.lo e];decide)).trans (h.O e);rcases abw.1 hj with hj|hj;exact CU j hj;simp at hj;subst hj;exact ah (.inl rfl);simp only[abw,List.mem_singleton,not_or];exact⟨hqi,hnq⟩;refine agW.2 ⟨h.sn,by simp,λa ha b hb=>?_⟩;simp at hb;subst hb;intro e;have:=B.fB a ha;omega;simp only at hj;by_cases c:j=n\/j=q;rcases c with c|c;omega;rcases hq with⟨e,d⟩|d;rw[c,d];exact h.low _ (by rw[h.lq e];decide);omega;rw[U c]at hj;exact h.low j hj
variable{nf:Nat}
theorem eF.push(h:eF T aa L r I st){a v:Nat}{g:Fm}(hg:g.vs≠[]->st.length<=a)(k:∀j,j<st.length->j≠I.p->st'[j]?=st[j]?)
  (hp:st'[I.p]?=some (.rows 0 17 [cD T (g::L) { r with nf:=nf } { I with fl:=(a,v)::I.fl }]))(h2:g.vs≠[]->st'[a]?=some (.rows v 1 (aO g.vs))) :
  eF T aa (g::L) { r with nf:=nf } { I with fl:=(a,v)::I.fl,jv:=λj=>if g.vs≠[]/\j=a then .fr else I.jv j } st':=by
 have B:=h.Pa;have hle:=h.Lp;have lb:∀j,j<st.length->(if g.vs≠[]/\j=a then Lb.fr else I.jv j)=I.jv j:=λj hj=>U λc=>by have:=hg c.1;omega
 have k':∀j,j<st.length->I.jv j≠.p->st'[j]?=st[j]?:=λj hj hn=>k j hj λc=>hn (by rw[c];exact h.lp);refine⟨hp,h.iv,h.sl,λe=>(k' _ (B.q e) (by rw[h.lq e];decide)).trans (h.S e),λj hj uR=>?_,(k' _ B.g (by rw[h.lg];decide)).trans h.G,⟨h2,h.FR.pN λi hi=>k' i (B.fr i hi) (by rw[h.lr i hi];decide)⟩,λe=>(k' _ (B.o e) (by rw[h.lo e];decide)).trans (h.O e),
  (lb _ B.p).trans h.lp,(lb _ B.g).trans h.lg,λe=>(lb _ (B.o e)).trans (h.lo e),λe=>(lb _ (B.q e)).trans (h.lq e),λj hj=>(lb _ (B.fB j hj)).trans (h.li j hj),h.qn,h.sn,λj hj=>?_,?_,λj hj=>?_⟩
 have hm:=aaq hj;exact(k' _ (B.fB _ hm) (by rw[h.li _ hm];decide)).trans (h.el j hj uR);simp only[jy,abw]at hj;rcases hj with hj|hj;by_cases e:g.vs=[];rw[ah e]at hj;simp at hj;rw[U e]at hj;simp at hj;exact ah ⟨e,hj⟩;exact(lb _ (B.fr j hj)).trans (h.lr j hj);simp only[jy];by_cases e:g.vs=[];rw[ah e];exact h.nd;rw[U e];simp only[acA,adn,aeU];exact⟨λc=>by have:=B.fr a c;have:=hg e;omega,h.nd⟩;simp only at hj;by_cases c:g.vs≠[]/\j=a;have:=hg c.1;omega;rw[U c]at hj;exact h.low j hj
theorem eF.pop(h:eF T aa (f::L) r I st){c:Nat×Nat}{fl:List (Nat×Nat)}(hc:I.fl=c::fl)(k:∀j,j<st.length->j≠I.p->st'[j]?=st[j]?)
  (hp:st'[I.p]?=some (.rows 0 17 [cD T L { r with nf:=nf } { I with fl:=fl }])):eF T aa L { r with nf:=nf } { I with fl:=fl } st':=by
 have B:=h.Pa;have hFR:=h.FR;have Mm:=h.nd;have hlr:=h.lr;have My:=B.fr;rw[hc]at hFR Mm hlr My;simp only[jy]at Mm hlr My;have k':∀j,j<st.length->I.jv j≠.p->st'[j]?=st[j]?:=λj hj hn=>k j hj λc=>hn (by rw[c];exact h.lp);refine⟨hp,h.iv,h.sl,λe=>(k' _ (B.q e) (by rw[h.lq e];decide)).trans (h.S e),λj hj uR=>?_,(k' _ B.g (by rw[h.lg];decide)).trans h.G,hFR.2.pN λi hi=>k' i (My i (agl _ hi)) (by rw[hlr i (agl _ hi)];decide),λe=>(k' _ (B.o e) (by rw[h.lo e];decide)).trans (h.O e),
  h.lp,h.lg,h.lo,h.lq,h.li,h.qn,h.sn,λj hj=>hlr j (agl _ hj),(agW.1 Mm).2.1,h.low⟩
 have hm:=aaq hj;exact(k' _ (B.fB _ hm) (by rw[h.li _ hm];decide)).trans (h.el j hj uR)
theorem eF.Bf(h:eF T aa L r I st){o ov:Nat}{out:List Int}(fy:out≠[])(VG:(r.out≠[]/\o=I.o)\/st.length<=o)(k:∀j,j<st.length->j≠I.p->(r.out≠[]->j≠I.o)->st'[j]?=st[j]?)
  (hp:st'[I.p]?=some (.rows 0 17 [cD T L { r with out:=out } { I with o:=o,ov:=ov }]))(ho:st'[o]?=some (.rows ov 1 (aO out))) :
  eF T aa L { r with out:=out } { I with o:=o,ov:=ov,jv:=λj=>if j=o then .o else I.jv j } st':=by
 have B:=h.Pa;have hle:=h.Lp;have lb:∀j,j<st.length->(r.out≠[]->I.jv j≠.o)->(if j=o then Lb.o else I.jv j)=I.jv j:=λj hj hn=>by
  by_cases q:j=o;rcases VG with⟨c,d⟩|d;exact aU (by rw[q,d];exact h.lo c) (hn c);omega;exact U q
 have k2:∀j,j<st.length->I.jv j≠.p->I.jv j≠.o->st'[j]?=st[j]?:=λj hj n1 n2=>k j hj (λq=>n1 (by rw[q];exact h.lp)) (λc q=>n2 (by rw[q];exact h.lo c));refine⟨hp,h.iv,h.sl,λe=>(k2 _ (B.q e) (by rw[h.lq e];decide) (by rw[h.lq e];decide)).trans (h.S e),λj hj uR=>?_,(k2 _ B.g (by rw[h.lg];decide) (by rw[h.lg];decide)).trans h.G,
  h.FR.pN λi hi=>k2 i (B.fr i hi) (by rw[h.lr i hi];decide) (by rw[h.lr i hi];decide),λ_=>ho,(lb _ B.p λ_=>by rw[h.lp];decide).trans h.lp,(lb _ B.g λ_=>by rw[h.lg];decide).trans h.lg,λ_=>ah rfl,
  λe=>(lb _ (B.q e) λ_=>by rw[h.lq e];decide).trans (h.lq e),λj hj=>(lb _ (B.fB j hj) λ_=>by rw[h.li j hj];decide).trans (h.li j hj),h.qn,h.sn,
  λj hj=>(lb _ (B.fr j hj) λ_=>by rw[h.lr j hj];decide).trans (h.lr j hj),h.nd,λj hj=>?_⟩
 have hm:=aaq hj;exact(k2 _ (B.fB _ hm) (by rw[h.li _ hm];decide) (by rw[h.li _ hm];decide)).trans (h.el j hj uR);simp only at hj;by_cases q:j=o;rcases VG with⟨c,d⟩|d;rw[q,d];exact h.low _ (by rw[h.lo c];decide);omega;rw[U q]at hj;exact h.low j hj
end DI
namespace DI
open Ax Go bY V7 kN lZ tj
variable {T:Px}{aa:Nat}{L:List Fm}{r:Rs}{I:rX}{st st':ay}{f:Fm}
theorem p9(wl li:Nat)(h:eF T aa L r I st):(aZ S).call wl li 35 [.ptr I.p 0 0 0] st=some (.bool (decide (r.e≠0)),st):=by
 have hP:=h.P;refine aA (sf:=s35) rfl rfl rfl ?_;simp[s35,hP,cD,dW,cut]
theorem oG(h:eF T aa (f::L) r I st)(c:Int) :
  ∃st',st'.length=st.length/\(∀li,(aZ S).call 0 li 55 [.ptr I.p 0 0 0,.int .i64 c] st=some (.fK [],st'))/\eF T aa (f::L) (iU r c) I st':=by
 have en:=λwl li=>p9 wl li h;by_cases c0:c=0;subst c0;refine⟨st,rfl,λli=>?_,by simpa [iU] using h⟩;refine aA (sf:=s55) rfl rfl rfl ?_;simp[s55];by_cases e0:r.e=0;have hP:=h.P;have bC:=fA hP;have et:iU r c={ r with e:=2,code:=c }:=by unfold iU;rw[ah ⟨c0,e0⟩]
 have hr:=h.aF { r with e:=2,code:=c } f I.iv rfl rfl rfl rfl h.iv;rw[et];refine⟨_,?_,λli=>?_,hr⟩;simp;refine aA (sf:=s55) rfl rfl rfl ?_;have yw:∀y,afi st.length (st.set I.p y)=st.set I.p y:=λy=>ab7 (by simp);have oF:∀y z,(st.set I.p y).set I.p z=st.set I.p z:=λy z=>ady ..
 have Vc:∀y,(st.set I.p y)[I.p]?=some y:=λy=>aay bC;simp[s55,en,c0,e0,hP,cD,dW,mQ,qy,aV,AV.ax,AV.aB,au,yw,oF,Vc];refine⟨st,rfl,λli=>?_,by unfold iU;rw[U λq=>e0 q.2];exact h⟩;refine aA (sf:=s55) rfl rfl rfl ?_;simp[s55,en,c0,e0]
theorem mH(h:eF T aa (f::L) r I st)(YD:T.fu<1000000000)(C:Cx)(hC:C.fuel=T.fu) :
  ∃st',st'.length=st.length/\(∀li,(aZ S).call 0 li 109 [.ptr I.p 0 0 0] st=some (.bool (nU C r),st'))/\eF T aa (f::L) (if nU C r=true then cG r else stop r) I st':=by
 have en:=λwl li=>p9 wl li h;have hP:=h.P;have bC:=fA hP;have yw:∀y,afi st.length (st.set I.p y)=st.set I.p y:=λy=>ab7 (by simp);by_cases e0:r.e=0;by_cases hs:r.cC<T.fu;have ho:nU C r=true:=by simp[nU,e0,hC,hs]
 have hr:=h.aF (cG r) f I.iv rfl rfl rfl rfl h.iv;rw[ho,ah rfl];have hw:=wk r.cC (by omega);have hn:¬(T.fu:Int)<=(r.cC:Int):=by omega
 refine⟨_,?_,λli=>?_,hr⟩;simp;refine aA (sf:=MN) rfl rfl rfl ?_;simp[MN,en,e0,hP,cD,dW,mQ,qy,cut,hn,hw,cG,aV,AV.ax,AV.aB,au,yw,aD,aC];have ho:nU C r=false:=by simp[nU,e0,hC,hs]
 have es:stop r={ r with e:=3 }:=by unfold stop;rw[ah e0]
 have hr:=h.aF { r with e:=3 } f I.iv rfl rfl rfl rfl h.iv;rw[ho,U (by simp),es];have hn:(T.fu:Int)<=(r.cC:Int):=by omega
 refine⟨_,?_,λli=>?_,hr⟩;simp;refine aA (sf:=MN) rfl rfl rfl ?_;simp[MN,en,e0,hP,cD,dW,mQ,qy,cut,hn,aV,AV.ax,AV.aB,au,yw,aD,aC];have ho:nU C r=false:=by simp[nU,e0]
 have es:stop r=r:=by unfold stop;rw[U e0]
 rw[ho,U (by simp),es];refine⟨st,rfl,λli=>?_,h⟩;refine aA (sf:=MN) rfl rfl rfl ?_;simp[MN,en,e0]
theorem pO(h:eF T aa (f::L) r I st)(v c:Int) :
  ∃st',st'.length=st.length/\(∀li,(aZ S).call 0 li 129 [.ptr I.p 0 0 0,.int .i64 v,.int .i64 c] st=some (.int .i64 v,st'))/\eF T aa (f::L) (iU r c) I st':=by
 obtain⟨s1,l1,t1,r1⟩:=oG h c;have yw:afi st.length s1=s1:=ab7 (by omega);refine⟨s1,l1,λli=>?_,r1⟩;refine aA (sf:=abE) rfl rfl rfl ?_;simp[abE,t1,yw]
theorem L1{s:List (List Int)}{q v:Nat}(h:s≠[]):lV s q v=.mu q v:=U h
theorem B6(wl li:Nat)(h:eF T aa L r I st)(hs:r.s.length<1000000)(a:Int) :
  (aZ S).call wl li 131 [.ptr I.p 0 0 11,.int .i64 a] st=some (.fK [.int .i64 (xZ r.s a).1,.int .i64 (xZ r.s a).2],st):=by
 have hP:=h.P;refine aA (sf:=Qk) rfl rfl rfl ?_;unfold xZ;by_cases r0:a<1;rw[U (by omega)];simp[Qk,r0];by_cases hT:r.s=[];have h0:0<a:=by omega
 rw[hT,U (by simp;omega)];have hl:lV r.s I.q I.v=.af:=by rw[hT];rfl
 simp[Qk,r0,hP,cD,dW,hl,cut,h0];have hl:=h.S hT;have hlen:=h.sl;by_cases r1:(r.s.length:Int)<a;rw[U (by omega)];simp[Qk,r0,hP,cD,dW,L1 hT,hl,cut,hlen,r1];obtain⟨k,rfl⟩:∃k:Nat,a=(k:Int)+1:=⟨(a-1).toNat,by omega⟩;have hk:k<I.fB.length:=by omega
 have lJ:k<r.s.length:=by omega
 rw[ah (by omega)];have hw:IntKind.i64.wrap (k:Int)=(k:Int):=by rw[eR]<;>omega
 have e1:((k:Int)+1-1).toNat=k:=by omega
 have hi:=h.el k hk lJ;simp[Qk,r0,hP,cD,dW,L1 hT,hl,cut,hlen,r1,hw,lJ,hi]
theorem Be(wl li:Nat)(h:eF T aa L r I st)(hs:r.s.length<1000000)(a j:Int) :
  (aZ S).call wl li 130 [.ptr I.p 0 0 11,.int .i64 a,.int .i64 j] st=some (.fK [.int .i64 (lD r.s a j).1,.int .i64 (lD r.s a j).2],st):=by
 have hP:=h.P;have ln:=λwl li=>B6 wl li h hs a;have hlen:=h.sl;refine aA (sf:=Qj) rfl rfl rfl ?_;unfold lD m8;by_cases zY:1<=a/\a<=(r.s.length:Int);have hT:r.s≠[]:=by rintro e;rw[e]at zY;simp at zY;omega
 have hl:=h.S hT;obtain⟨k,rfl⟩:∃k:Nat,a=(k:Int)+1:=⟨(a-1).toNat,by omega⟩;have hk:k<I.fB.length:=by omega
 have lJ:k<r.s.length:=by omega
 have hi:=h.el k hk lJ;have e1:((k:Int)+1-1).toNat=k:=by omega
 have e2:r.s.getD k []=r.s[k]:=by rw[ado,aag lJ];rfl
 have eln:xZ r.s ((k:Int)+1)=((r.s[k].length:Int),0):=by unfold xZ;rw[ah zY,e1,e2]
 rw[eln]at ln;rw[ah zY,e1,e2];have hw:IntKind.i64.wrap (k:Int)=(k:Int):=by rw[eR]<;>omega
 by_cases j0:j<0;have hc:¬(0<=j/\j<(r.s[k].length:Int)):=by omega
 rw[U hc];simp[Qj,ln,j0];by_cases j1:j<(r.s[k].length:Int);obtain⟨m,rfl⟩:∃m:Nat,j=m:=⟨j.toNat,by omega⟩;have hm:m<r.s[k].length:=by omega
 have hc:0<=(m:Int)/\(m:Int)<(r.s[k].length:Int):=by omega
 have j1':¬(r.s[k].length:Int)<=(m:Int):=by omega
 have apS:¬r.s[k].length<=m:=by omega
 have e3:r.s[k].getD m 0=r.s[k][m]:=by rw[ado,aag hm];rfl
 rw[ah hc];have hz:((m:Int)<0)=False:=eq_false (by omega);simp[Qj,ln,hz,j1',hP,cD,dW,L1 hT,hl,cut,hw,hk,hi,aO,hm];have hc:¬(0<=j/\j<(r.s[k].length:Int)):=by omega
 rw[U hc];have j1':(r.s[k].length:Int)<=j:=by omega
 simp[Qj,ln,j0,j1'];have eln:xZ r.s a=(0,1):=by unfold xZ;rw[U zY]
 rw[eln]at ln;rw[U zY];simp[Qj,ln]
theorem xh(h:eF T aa L r I st)(hs:r.s.length<1000000)(a j v:Int) :
  ∃st',st'.length=st.length/\(∀li,(aZ S).call 0 li 136 [.ptr I.p 0 0 11,.int .i64 a,.int .i64 j,.int .i64 v] st=some (.int .i64 (m8 r.s a j),st'))/\eF T aa L { r with s:=x0 r.s a j v } I st':=by
 have hP:=h.P;have ld:=λwl li=>Be wl li h hs a j;have hlen:=h.sl;have yw:∀i y,afi st.length (st.set i y)=st.set i y:=λi y=>ab7 (by simp);by_cases t0:m8 r.s a j=0;have hc:(1<=a/\a<=(r.s.length:Int))/\(0<=j/\j<((r.s.getD (a-1).toNat []).length:Int)):=by
  unfold m8 at t0;split at t0;rename_i h1;split at t0;rename_i h2;exact⟨h1,h2⟩;cases t0;cases t0
 obtain⟨h1,h2⟩:=hc;have hT:r.s≠[]:=by rintro e;rw[e]at h1;simp at h1;omega
 have hl:=h.S hT;obtain⟨k,rfl⟩:∃k:Nat,a=(k:Int)+1:=⟨(a-1).toNat,by omega⟩;obtain⟨m,rfl⟩:∃m:Nat,j=m:=⟨j.toNat,by omega⟩;have hk:k<I.fB.length:=by omega
 have lJ:k<r.s.length:=by omega
 have hi:=h.el k hk lJ;have e1:((k:Int)+1-1).toNat=k:=by omega
 have e2:r.s.getD k []=r.s[k]:=by rw[ado,aag lJ];rfl
 rw[e1,e2]at h2;have hm:m<r.s[k].length:=by omega
 have hw:IntKind.i64.wrap (k:Int)=(k:Int):=by rw[eR]<;>omega
 have hR:=h.ahN k hk (r.s[k].set m v);have ep:x0 r.s ((k:Int)+1) m v=r.s.set k (r.s[k].set m v):=by unfold x0;rw[ah t0,e1,e2];rfl
 have el:(lD r.s ((k:Int)+1) m).2=0:=by unfold lD;rw[ah t0]
 rw[el]at ld;rw[ep,t0];refine⟨_,by simp,λli=>?_,hR⟩;refine aA (sf:=Ua) rfl rfl rfl ?_;have uh:∀g:List Int,aO (g.set m v)=(aO g).set m [.int .i64 v]:=λg=>by simp[aO,List.map_set]
 have hlm:m<(aO r.s[k]).length:=by simpa [aO] using hm
 have Ya:(aO r.s[k])[m]?=some [.int .i64 r.s[k][m]]:=by simp[aO,hm]
 simp[Ua,ld,hP,cD,dW,L1 hT,hl,cut,hw,hk,hi,hm,aV,AV.ax,AV.aB,au,yw,uh];have ep:x0 r.s a j v=r.s:=by unfold x0;rw[U t0]
 have el:(lD r.s a j).2=m8 r.s a j:=by unfold lD;rw[U t0]
 rw[el]at ld;rw[ep];refine⟨st,rfl,λli=>?_,h⟩;refine aA (sf:=Ua) rfl rfl rfl ?_;simp[Ua,ld,t0]
end DI
namespace DI
open Ax Go bY V7 kN lZ tj
variable {T:Px}{aa:Nat}{L:List Fm}{r:Rs}{I:rX}{st st':ay}{f:Fm}
theorem Bg(wl li:Nat)(b:Bool)(st:ay):(aZ S).call wl li 159 [.bool b] st=some (.int .i64 (xY b),st):=by
 refine bT (sf:=abK) rfl rfl rfl rfl rfl ?_;cases b<;>simp[abK,xY]
theorem adr(a:Int):IntKind.i64.wrap (a.tdiv (-1))=IntKind.i64.wrap (0-a):=by
 rw[Int.tdiv_neg,Int.tdiv_one,Int.zero_sub]
theorem ads(wl li:Nat)(op a b:Int)(Q7:op=17\/op=18)(st:ay):(aZ S).call wl li 160 [.int .i64 op,.int .i64 a,.int .i64 b] st=some (.fK [.int .i64 (wR op a b).1,.int .i64 (wR op a b).2],st):=by
 refine bT (sf:=Qm) rfl rfl rfl rfl rfl ?_;unfold wR;by_cases b0:b=0;subst b0;rcases Q7 with rfl|rfl<;>simp[Qm];by_cases b1:b = -1;subst b1;rcases Q7 with rfl|rfl;have:=adr a;simp at this;simp[Qm];simp[Qm];rcases Q7 with rfl|rfl<;>simp[Qm,b0,b1]
theorem Nz(wl li:Nat)(op a b:Int)(st:ay):(aZ S).call wl li 135 [.int .i64 op,.int .i64 a,.int .i64 b] st=some (.fK [.int .i64 (wR op a b).1,.int .i64 (wR op a b).2],st):=by
 have hf:=λwl li b st=>Bg wl li b st;have hd:=λwl li h st=>ads wl li op a b h st;refine bT (sf:=wO) rfl rfl rfl rfl rfl ?_;by_cases Rl:op=17;subst Rl;have hd:=λwl li st=>hd wl li (.inl rfl) st;generalize wR 17 a b=z at *;simp[wO,hd];by_cases Rm:op=18;subst Rm;have hd:=λwl li st=>hd wl li (.inr rfl) st;generalize wR 18 a b=z at *;simp[wO,hd];clear hd;unfold wR;by_cases Pb:op=14;subst Pb;simp[wO];by_cases Rj:op=15;subst Rj;simp[wO];by_cases Rk:op=16;subst Rk;simp[wO];by_cases Rn:op=19;subst Rn;simp[wO,hf];by_cases Ro:op=20;subst Ro;simp[wO,hf];by_cases Rq:op=21;subst Rq;simp[wO,hf];by_cases Rr:op=22;subst Rr;simp[wO,hf];by_cases DF:op=23;subst DF;by_cases a0:a=0;subst a0;simp[wO,hf];by_cases b0:b=0;subst b0;simp[wO,hf,a0];simp[wO,hf,a0,b0];by_cases Z2:op=24;subst Z2;by_cases a0:a=0;subst a0;by_cases b0:b=0;subst b0;simp[wO,hf];simp[wO,hf,b0];simp[wO,hf,a0];simp[wO,Pb,Rj,Rk,Rl,Rm,Rn,Ro,Rq,Rr,DF,Z2]
theorem Ls(wl li:Nat)(op a:Int)(st:ay):(aZ S).call wl li 134 [.int .i64 op,.int .i64 a] st=some (.int .i64 (Yp op a),st):=by
 have hf:=λwl li b st=>Bg wl li b st;refine bT (sf:=T9) rfl rfl rfl rfl rfl ?_;unfold Yp;by_cases sX:op=12;subst sX;simp[T9];by_cases Bs:op=13;subst Bs;simp[T9,hf];simp[T9,sX,Bs]
def Js(n m:Nat):List dA:=[.rows 0 1 (aak n [.int .i64 0]),.rows 0 1 [[.mu m 0]]]
def LD(T:Px)(L:List Fm)(r:Rs)(I:rX)(q v:Nat):dA:=.rows 0 17 [dW T I.iv r.e r.code (oV r.out I.o I.ov) r.cC (.mu q v) I.g r.nf (vV (mQ L) (qy I)) (mQ L).done (mQ L).cH]
def Vu(T:Px)(L:List Fm)(r:Rs)(I:rX)(st:ay)(n:Nat):ay:=st.set I.p (LD T L r I (st.length+2) 0)++(Js n st.length++[.rows 0 1 [[.mu st.length 0]]])
def Vv(T:Px)(L:List Fm)(r:Rs)(I:rX)(st:ay)(n:Nat):ay:=(st.set I.q (.rows (I.v+1) 1 ((I.fB.map λi=>[.mu i 0])++[[.mu st.length 0]]))).set I.p (LD T L r I I.q (I.v+1))++Js n st.length
def IA0(I:rX)(n:Nat):rX:={ I with q:=n+2,v:=0,fB:=I.fB++[n],jv:=λj=>if j=n\/j=n+2 then .st else I.jv j }
def IA1(I:rX)(n:Nat):rX:={ I with q:=I.q,v:=I.v+1,fB:=I.fB++[n],jv:=λj=>if j=n\/j=I.q then .st else I.jv j }
theorem Vw(n:Nat):aO (aak n 0)=aak n [.int .i64 0]:=by simp[aO]
theorem al0(h:eF T aa L r I st)(hT:r.s=[])(n:Nat):eF T aa L { r with s:=r.s++[aak n 0] } (IA0 I st.length) (Vu T L r I st n):=by
 have hp:=fA h.P;have Bw:I.fB=[]:=by
  have:=h.sl;rw[hT]at this;exact aaK this
 refine h.alloc (aau _) (.inr (by omega)) (by omega) (λj hj fy _=>?_) ?_ ?_ ?_;unfold Vu;rw[aal (by simpa using hj),aap λe=>fy e.symm];unfold Vu LD;rw[aal (by simpa using hp),aay hp];unfold Vu Js;rw[aar (by simp)];simp[Vw];unfold Vu Js;rw[aar (by simp)];simp[Bw]
theorem al1(h:eF T aa L r I st)(hT:r.s≠[])(n:Nat):eF T aa L { r with s:=r.s++[aak n 0] } (IA1 I st.length) (Vv T L r I st n):=by
 have hp:=fA h.P;have hq:=fA (h.S hT);have F3:I.q≠I.p:=λe=>by
  have h1:=h.lq hT;rw[e,h.lp]at h1;cases h1
 refine h.alloc (aau _) (.inl ⟨hT,rfl⟩) (by omega) (λj hj fy hnq=>?_) ?_ ?_ ?_;unfold Vv;rw[aal (by simpa using hj),aap λe=>fy e.symm,aap λe=>hnq hT e.symm];unfold Vv LD;rw[aal (by simpa using hp),aay (by simpa using hp)];unfold Vv Js;rw[aar (by simp)];simp[Vw];unfold Vv;rw[aal (by simpa using hq),aap λe=>F3 e.symm,aay hq];simp
theorem Nv(wl li:Nat)(p n:Int)(st:ay)(pt:AV)(hn:n<0\/50<n):(aZ S).call wl li 133 [pt,.int .i64 n] st=some (.fK [.int .i64 0,.int .i64 4],st):=by
 refine aA (sf:=KG) rfl rfl rfl ?_;by_cases n0:n<0;simp[KG,n0];have n1:50<n:=by omega
 simp[KG,n0,n1]
theorem FK(h:eF T aa L r I st)(hs:r.s.length<1000000)(n:Nat)(hn:n<=50) :
  ∃st' I',st.length<=st'.length/\(∀li,li<=aa->(aZ S).call 0 li 133 [.ptr I.p 0 0 11,.int .i64 n] st=some (.fK [.int .i64 (pM r n).1,.int .i64 0],st'))/\I'.p=I.p/\I'.fl=I.fl/\eF T aa L (pM r n).2 I' st':=by
 have hP:=h.P;have Pc:=h.s7;have C9:=fA hP;have hc:(n:Int)*8<=cN:=by unfold cN;omega
 have g1:(st++[dA.rows 0 1 (aak n [.int .i64 0]),.rows 0 1 [[.mu st.length 0]]])[st.length+1]?=some (.rows 0 1 [[.mu st.length 0]]):=by simp
 have n0:¬((n:Int)<0):=by omega
 have n1:¬((50:Int)<(n:Int)):=by omega
 have Lo:=λl=>tq.mC hP l;have hsA:=λl y=>tq.rI hP l y;by_cases hT:r.s=[];refine⟨Vu T L r I st n,IA0 I st.length,by simp[Vu],λli hli=>?_,rfl,rfl,al0 h hT n⟩;have Gm:li<=I.p:=by omega
 have ga:=λbx=>tq.Ns (aa:=li) (bx:=bx) g1;have lI:∀x l,(st.set I.p x++l)[I.p]?=some x:=λx l=>by
  rw[aal (by simpa using C9),aay C9]
 have xx:∀x a b c,(st.set I.p x++[a,b,c])[st.length+2]?=some c:=λx a b c=>by
  rw[aar (by simp)];simp
 have LQ:lV r.s I.q I.v=.af:=by rw[hT];rfl
 have e1:(pM r n).1=1:=by unfold pM;rw[hT];rfl
 rw[e1];refine aA (sf:=KG) rfl rfl rfl ?_;simp[KG,n0,n1];rw[ny];simp[eG,hP,cD,dW,LQ,cut,Gm,Lo,hsA,hc,tq.B7,ga,iG,dH,aV,AV.ax,AV.aB,au,bO,gq.bV];refine⟨_,_,⟨rfl,rfl⟩,?_⟩;simp[hP,cD,dW,LQ,cut,Lo,cm,AV.cW,AV.ai,fL.gi,AV.gi,lI,Vu,Js,LD];refine⟨Vv T L r I st n,IA1 I st.length,by simp[Vv],λli hli=>?_,rfl,rfl,al1 h hT n⟩;have hl:=h.S hT;have Gm:li<=I.p:=by omega
 have F6:li<=I.q:=by
  have:=h.low I.q (by rw[h.lq hT];decide);omega
 have F3:I.p≠I.q:=λe=>by
  have h1:=h.lq hT;rw[<-e,h.lp]at h1;cases h1
 have JA:=fA hl;have hlen:=h.sl;have Nq:=λl=>tq.mC hl l;have hsQ:=λl y=>tq.rI hl l y;have VP:∀y,(st.set I.q y)[I.p]?=some (.rows 0 17 [cD T L r I]):=λy=>by rw[aap F3.symm];exact hP
 have Nu:=λy l=>tq.mC (VP y) l;have hsP:=λy l z=>tq.rI (VP y) l z;have lI:∀y x l,((st.set I.q y).set I.p x++l)[I.p]?=some x:=λy x l=>by
  rw[aal (by simpa using C9),aay (by simpa using C9)]
 have hsq:∀y x l,((st.set I.q y).set I.p x++l)[I.q]?=some y:=λy x l=>by
  rw[aal (by simpa using JA),aap F3,aay JA]
 have ga:=λbx=>tq.Nt (aa:=li) (bx:=bx) g1 (Nq _) (by simp[hlen,cN];omega) F6;have e1:(pM r n).1=(r.s.length:Int)+1:=rfl;rw[e1];refine aA (sf:=KG) rfl rfl rfl ?_;simp[KG,n0,n1];rw[ny];simp only[cD,dW,L1 hT]at hP VP Nu Lo hsA;simp[eG,hP,cut,Gm,hsQ,Nu,hsP,hc,tq.B7,ga,iG,dH,aV,AV.ax,AV.aB,au,bO,gq.bV];refine⟨_,_,⟨rfl,rfl⟩,?_⟩;simp[hP,cut,Lo,cm,AV.cW,AV.ai,fL.gi,AV.gi,lI,hsq,hlen,Vv,Js,LD,dW]
end DI
namespace DI
open Ax Go bY V7 kN lZ tj
variable {T:Px}{aa:Nat}{L:List Fm}{r:Rs}{I:rX}{st st':ay}{f:Fm}
theorem Y8(m:Int):(if (if 8<m then 8 else m)<0 then (0:Int) else (if 8<m then 8 else m))=(k7 m:Int):=by
 unfold k7;repeat' split
 all_goals omega
theorem Y9(m:Int):(if 0<(if 8<m then 8 else m) then (if 8<m then 8 else m) else (0:Int))=(k7 m:Int):=by
 unfold k7;repeat' split
 all_goals omega
theorem FJ(h:eF T aa L r I st)(hs:r.s.length<1000000)(m:Int) :
  ∃st' I',st.length<=st'.length/\(∀li,li<=aa->(aZ S).call 0 li 132 [.ptr I.p 0 0 11,.int .i64 m] st=some (.int .i64 (pM r (k7 m)).1,st'))/\I'.p=I.p/\I'.fl=I.fl/\eF T aa L (pM r (k7 m)).2 I' st':=by
 have apT:=Y8 m;have ahO:=Y9 m;have hn:k7 m<=50:=by
  unfold k7;repeat' split
  all_goals omega
 generalize k7 m=n at *;have hP:=h.P;have Pc:=h.s7;have C9:=fA hP;have hc:(n:Int)*8<=cN:=by unfold cN;omega
 have g1:(st++[dA.rows 0 1 (aak n [.int .i64 0]),.rows 0 1 [[.mu st.length 0]]])[st.length+1]?=some (.rows 0 1 [[.mu st.length 0]]):=by simp
 have Lo:=λl=>tq.mC hP l;have hsA:=λl y=>tq.rI hP l y;by_cases hT:r.s=[];refine⟨Vu T L r I st n,IA0 I st.length,by simp[Vu],λli hli=>?_,rfl,rfl,al0 h hT n⟩;have Gm:li<=I.p:=by omega
 have ga:=λbx=>tq.Ns (aa:=li) (bx:=bx) g1;have lI:∀x l,(st.set I.p x++l)[I.p]?=some x:=λx l=>by
  rw[aal (by simpa using C9),aay C9]
 have xx:∀x a b c,(st.set I.p x++[a,b,c])[st.length+2]?=some c:=λx a b c=>by
  rw[aar (by simp)];simp
 have LQ:lV r.s I.q I.v=.af:=by rw[hT];rfl
 have e1:(pM r n).1=1:=by unfold pM;rw[hT];rfl
 rw[e1];refine aA (sf:=T8) rfl rfl rfl ?_;simp[T8];rw[ny];simp[eG,hP,cD,dW,LQ,cut,Gm,Lo,hsA,hc,tq.B7,ga,iG,dH,aV,AV.ax,AV.aB,au,bO,gq.bV,ahO];refine⟨_,_,⟨rfl,rfl⟩,?_⟩;simp[hP,cD,dW,LQ,cut,Lo,cm,AV.cW,AV.ai,fL.gi,AV.gi,lI,Vu,Js,LD];refine⟨Vv T L r I st n,IA1 I st.length,by simp[Vv],λli hli=>?_,rfl,rfl,al1 h hT n⟩;have hl:=h.S hT;have Gm:li<=I.p:=by omega
 have F6:li<=I.q:=by
  have:=h.low I.q (by rw[h.lq hT];decide);omega
 have F3:I.p≠I.q:=λe=>by
  have h1:=h.lq hT;rw[<-e,h.lp]at h1;cases h1
 have JA:=fA hl;have hlen:=h.sl;have Nq:=λl=>tq.mC hl l;have hsQ:=λl y=>tq.rI hl l y;have VP:∀y,(st.set I.q y)[I.p]?=some (.rows 0 17 [cD T L r I]):=λy=>by rw[aap F3.symm];exact hP
 have Nu:=λy l=>tq.mC (VP y) l;have hsP:=λy l z=>tq.rI (VP y) l z;have lI:∀y x l,((st.set I.q y).set I.p x++l)[I.p]?=some x:=λy x l=>by
  rw[aal (by simpa using C9),aay (by simpa using C9)]
 have hsq:∀y x l,((st.set I.q y).set I.p x++l)[I.q]?=some y:=λy x l=>by
  rw[aal (by simpa using JA),aap F3,aay JA]
 have ga:=λbx=>tq.Nt (aa:=li) (bx:=bx) g1 (Nq _) (by simp[hlen,cN];omega) F6;have e1:(pM r n).1=(r.s.length:Int)+1:=rfl;rw[e1];refine aA (sf:=T8) rfl rfl rfl ?_;simp[T8];rw[ny];simp only[cD,dW,L1 hT]at hP VP Nu Lo hsA;simp[eG,hP,cut,Gm,hsQ,Nu,hsP,hc,tq.B7,ga,iG,dH,aV,AV.ax,AV.aB,au,bO,gq.bV,ahO];refine⟨_,_,⟨rfl,rfl⟩,?_⟩;simp[hP,cut,Lo,cm,AV.cW,AV.ai,fL.gi,AV.gi,lI,hsq,hlen,Vv,Js,LD,dW]
end DI
namespace DI
open Ax Go bY V7 kN lZ tj K9 S9
structure LU (T:Px)(C:Cx)(D:Dm):Prop where
 fuel:C.fuel=T.fu
 fu:T.fu<1000000
 bs:C.bs=T.bs
 bJ:C.bJ=T.H.bE.map (·.2.length)
 ng:C.ng=D.ng
 gl:D.ng<1000000
 nr:D.nr=T.H.bE.length
 rs:∀s∈T.H.bE,s.2.length<1000000
 ps:D.ps.length=T.bs.length
 pv:∀(i:Nat) (h:i<D.ps.length) (h2:i<T.bs.length),D.ps[i]<=T.bs[i].vars.length
 wb:∀b∈T.bs,WB D b.code/\pK b.vars.length b.code/\Sm.fY b.code<1000000000/\b.vars.length<1000000
 nb:T.bs.length<1000000000
variable {C:Cx}{fE:E->Fm->Rs->Int×Rs}{fS:Sm->Rs×Fm->Rs×Fm}
def Fz(f:Fm):Prop:=f.done=false->f.cH=0
def PE(T:Px)(C:Cx)(D:Dm)(n:Nat)(fE:E->Fm->Rs->Int×Rs):Prop:=∀(aa:Nat)(L:List Fm)(r:Rs)(I:rX)(st:ay)(f:Fm)(e:E),eF T aa (f::L) r I st->WE D e->AN f.vs.length e->E.sz e<1000000000->Gd C 0 r->C.fuel<=r.cC+n->
 f.done=false->f.cH=0->∃st' I',(aZ S).call 0 aa 110 [.ptr I.p 0 0 0,.agg e.aF] st=some (.int .i64 (fE e f r).1,st')/\I'.p=I.p/\I'.fl=I.fl/\eF T aa (f::L) (fE e f r).2 I' st'
def PS(T:Px)(C:Cx)(D:Dm)(n:Nat)(fS:Sm->Rs×Fm->Rs×Fm):Prop:=∀(aa:Nat)(L:List Fm)(r:Rs)(I:rX)(st:ay)(f:Fm)(s:Sm),eF T aa (f::L) r I st->WS D s->C6 f.vs.length s->Sm.sz s<1000000000->Gd C 0 r->C.fuel<=r.cC+n->
 f.done=false->f.cH=0->∃st' I',(aZ S).call 0 aa 85 [.ptr I.p 0 0 0,.agg s.aF] st=some (.fK [],st')/\I'.p=I.p/\I'.fl=I.fl/\eF T aa ((fS s (r,f)).2::L) (fS s (r,f)).1 I' st'
theorem Jt(zS:∀s x,Fz x.2->Fz (fS s x).2):∀(l:List Sm)(x:Rs×Fm),Fz x.2->Fz (jI fS l x).2
 |[],_,h=>h|s::l,x,h=>by
  unfold jI;split;exact h;exact Jt zS l _ (zS s x h)
theorem NN(zS:∀s x,Fz x.2->Fz (fS s x).2)(c:E)(b:List Sm):∀(k:Nat)(x:Rs×Fm),Fz x.2->Fz (eK C fE fS c b k x).2
 |0,x,h=>by
  unfold eK;split<;>exact h
 |k+1,x,h=>by
  unfold eK;split;exact h;split;split;exact h;exact NN zS c b k _ (Jt zS b _ h);exact h
theorem ahP(zS:∀s x,Fz x.2->Fz (fS s x).2)(k ref:Int)(bd el:List Sm)(l:List Int)(x:Rs×Fm)(h:Fz x.2):Fz (jR fS k ref bd el l x).2:=by
 unfold jR;split;unfold bf;split<;>exact h;split;split<;>exact Jt zS _ _ h;split;intro e;cases e;split<;>exact h
theorem adt(zS:∀s x,Fz x.2->Fz (fS s x).2)(s:Sm)(x:Rs×Fm)(h:Fz x.2):Fz (ju fE fS s x).2:=by
 unfold ju;split;split;exact h;unfold tn;split<;>exact h;split;exact h;exact ahP zS _ _ _ _ _ _ h
theorem Za:∀n,∀s x,Fz x.2->Fz ((ev C n).2 s x).2
 |0,s,x,h=>by
  show Fz ((if s.k=1 then x else if s.k=6 then eK C (λ_ _ r=>(0,stop r)) (λ_ x=>x) (A9 s.es) s.bd 0 x else (stop x.1,x.2)):Rs×Fm).2;split;exact h;split;exact NN (λ_ _ h=>h) _ _ _ _ h;exact h
 |n+1,s,x,h=>by
  show Fz ((if s.k=1 then x else if s.k=6 then eK C (ev C n).1 (ev C n).2 (A9 s.es) s.bd (n+1) x
    else if nU C x.1=true then ju (ev C n).1 (ev C n).2 s (cG x.1,x.2) else (stop x.1,x.2)):Rs×Fm).2
  split;exact h;split;exact NN (Za n) _ _ _ _ h;split;exact adt (Za n) s _ h;exact h
structure Hy (T:Px)(C:Cx)(D:Dm)(n:Nat)(fE:E->Fm->Rs->Int×Rs)(fS:Sm->Rs×Fm->Rs×Fm):Prop where
 oE:∀e f r,On r (fE e f r).2
 oS:∀s x,On x.1 (fS s x).1
 gE:GE C fE
 gS:GS C fS
 zS:∀s x,Fz x.2->Fz (fS s x).2
 E:PE T C D n fE
 S:PS T C D n fS
variable {T:Px}{D:Dm}{n:Nat}{aa:Nat}{L:List Fm}{r:Rs}{I:rX}{st st':ay}{f:Fm}
def rF(a:List Int)(x:Option (List Int)×Rs):Option (List Int)×Rs:=match x with|(some l,r)=>(some (a++l),r)|(none,r)=>(none,r)
theorem rY{e:E}{l:List E}:vals fE f (e::l) r=if (fE e f r).2.e≠0 then (none,(fE e f r).2) else match vals fE f l (fE e f r).2 with
  |(some vs,r2)=>(some ((fE e f r).1::vs),r2)
  |(none,r2)=>(none,r2):=rfl
theorem B8{s:Sm}{l:List Sm}{x:Rs×Fm}:jI fS (s::l) x=if x.2.done=true\/x.1.e≠0 then x else jI fS l (fS s x):=rfl
theorem Bj(H:Hy T C D n fE fS)(l:List E)(h:eF T aa (f::L) r I st)(hw:WL D l)(hr:wm f.vs.length l)(dM:E.fY l<1000000000)(hG:Gd C 0 r)(hn:C.fuel<=r.cC+n)(hd:f.done=false)(h0:f.cH=0)(he:r.e=0) :
  ∃st' I' vs,(aZ S).call 0 aa 112 [.ptr I.p 0 0 0,aT l] st=some (bK 1 (aO vs),st')/\I'.p=I.p/\I'.fl=I.fl/\eF T aa (f::L) (vals fE f l r).2 I' st'/\(((vals fE f l r).1=some vs/\(vals fE f l r).2.e=0)\/((vals fE f l r).1=none/\(vals fE f l r).2.e≠0)):=by
 have hz:cJ 11 (aT l)=true:=gn;have cT:aN (aT l)=true:=bz;have eC:(aT l).ai=aT l:=bu;have dh:bt (aT l)=E.rows l:=aW;have hlen:=E.eH l;rw[zQ]at hw;rw[jG]at hr;obtain⟨v',st',h1,I',vs,rfl,h2⟩:∃v' st',(aZ S).call 0 aa 112 [.ptr I.p 0 0 0,aT l] st=some (v',st')/\∃I' vs,v'=bK 1 (aO vs)/\I'.p=I.p/\I'.fl=I.fl/\eF T aa (f::L) (vals fE f l r).2 I' st'/\
   (((vals fE f l r).1=some vs/\(vals fE f l r).2.e=0)\/((vals fE f l r).1=none/\(vals fE f l r).2.e≠0)):=by
  refine fP (sf:=abB) rfl rfl rfl ?_;generalize aT l=lv at *;simp[abB];refine bH OA.eq_1 (λx:Nat×List Int×Rs×rX×ay=>⟨[(0,.val (.ptr I.p 0 0 0)),(1,.val lv),(5,.val (bK 1 (aO x.2.1))),(6,.val (.int .i64 x.1))],[],x.2.2.2.2⟩)
   (λx=>x.1<=l.length/\x.2.1.length=x.1/\((x.2.2.1.e=0/\rF x.2.1 (vals fE f (l.drop x.1) x.2.2.1)=vals fE f l r)\/(x.2.2.1.e≠0/\vals fE f l r=(none,x.2.2.1)))/\x.2.2.2.1.p=I.p/\x.2.2.2.1.fl=I.fl/\eF T aa (f::L) x.2.2.1 x.2.2.2.1 x.2.2.2.2/\Gd C 0 x.2.2.1/\C.fuel<=x.2.2.1.cC+n) (λx=>l.length-x.1) (0,[],r,I,st) (by simp[bK,aO]) ⟨by simp,rfl,.inl ⟨he,?_⟩,rfl,rfl,h,hG,hn⟩ ?_
  simp only[List.drop_zero];rcases vals fE f l r with⟨_|v,y⟩<;>rfl;rintro⟨k,acc,r1,I1,s1⟩ ⟨hk,Ve,hp,ip,il,h1,g1,n1⟩ ih;simp only at hk Ve hp ip il h1 g1 n1 ih;have en:=λwl li=>p9 wl li h1;rw[ip]at en;have gg0:aN (bK 1 (aO acc))=true:=ct;by_cases bC:k<l.length;rcases hp with⟨q0,hp⟩|⟨q0,hp⟩;have wu:=wk k (by omega);have hm:=aaq bC;obtain⟨s2,I2,cK,YF,Z6,h2⟩:=H.E aa L r1 I1 s1 f l[k] h1 (hw _ hm) (hr _ hm) (by have:=E.fZ hm;omega) g1 n1 hd h0;have zR:=H.oE l[k] f r1;have g2:=(H.gE 0 l[k] f r1 g1).1;rw[ip]at cK;rw[aaz bC,rY]at hp;have kG:k<(E.rows l).length:=by simpa [iC] using bC
  have mY:=qM bC kG;have e1:aN (aT l[k].aG)=true:=bz;have e2:(aT l[k].aG).ai=aT l[k].aG:=bu;have lW:oP 1 8 (bK 1 (aO acc)) [[.int .i64 (fE l[k] f r1).1]]=some (bK 1 (aO (acc++[(fE l[k] f r1).1]))):=by
   rw[eO (by rfl) (by simp[cN];omega)];simp
  rw[E.aE]at cK mY;have fD:=ih (k+1,acc++[(fE l[k] f r1).1],(fE l[k] f r1).2,I2,s2) ⟨by simp only;omega,by simp[Ve],?_,by rw[YF,ip],by rw[Z6,il],h2,g2,by have:=zR.st;simp only;omega⟩ (by simp only;omega);simp only at fD;generalize fE l[k] f r1=y at *;generalize l[k]=x at *;generalize aT x.aG=xe at *;have gg1:aN (bK 1 (aO (acc++[y.1])))=true:=ct;generalize bK 1 (aO (acc++[y.1]))=m1 at *;generalize bK 1 (aO acc)=m0 at *;simp[bC,wu,hz,cT,eC,dh,mY,cK,e2,en,q0,lW,AV.ai];exact fD;by_cases q:(fE l[k] f r1).2.e=0;rw[U (by simpa using q)]at hp;refine .inl ⟨q,?_⟩;rw[<-hp];rcases vals fE f (l.drop (k+1)) (fE l[k] f r1).2 with⟨_|v,y⟩
  rfl
  simp[rF];rw[ah (by simpa using q)]at hp;exact .inr ⟨q,by rw[<-hp];rfl⟩;rw[hp];generalize Z8:bK 1 (aO acc)=m0 at *;simp[bC,cT,eC,dh,en,q0,ck];exact⟨⟨acc,Z8.symm⟩,I1,ip,il,h1⟩;have fR:k=l.length:=by omega
  have Ev:(r1.e=0/\vals fE f l r=(some acc,r1))\/(r1.e≠0/\vals fE f l r=(none,r1)):=by
   rcases hp with⟨a,b⟩|h;rw[fR,aaC]at b;exact .inl ⟨a,by rw[<-b];simp[vals,rF]⟩;exact .inr h
  generalize Z8:bK 1 (aO acc)=m0 at *;rcases Ev with⟨q0,Ev⟩|⟨q0,Ev⟩;rw[Ev];simp[bC,cT,eC,dh,q0,ck];exact⟨I1,acc,Z8.symm,ip,il,h1,rfl⟩;rw[Ev];simp[bC,cT,eC,dh,q0,ck];exact⟨⟨acc,Z8.symm⟩,I1,ip,il,h1⟩
 exact⟨st',I',vs,h1,h2⟩
theorem Bn(H:Hy T C D n fE fS)(l:List Sm)(h:eF T aa (f::L) r I st)(hw:WB D l)(hr:pK f.vs.length l)(dM:Sm.fY l<1000000000)(hG:Gd C 0 r)(hn:C.fuel<=r.cC+n)(Q6:Fz f) :
  ∃st' I',(aZ S).call 0 aa 56 [.ptr I.p 0 0 0,bp l] st=some (.fK [],st')/\I'.p=I.p/\I'.fl=I.fl/\eF T aa ((jI fS l (r,f)).2::L) (jI fS l (r,f)).1 I' st':=by
 have hz:cJ 9 (bp l)=true:=wz;have cT:aN (bp l)=true:=bL;have eC:(bp l).ai=bp l:=bq;have dh:bt (bp l)=Sm.rows l:=aW;have hlen:=Sm.eH l;rw[Nr]at hw;rw[oD]at hr;obtain⟨v',st',h1,rfl,I',h2⟩:∃v' st',(aZ S).call 0 aa 56 [.ptr I.p 0 0 0,bp l] st=some (v',st')/\v'=.fK []/\∃I',I'.p=I.p/\I'.fl=I.fl/\eF T aa ((jI fS l (r,f)).2::L) (jI fS l (r,f)).1 I' st':=by
  refine fP (sf:=s56) rfl rfl rfl ?_;generalize bp l=lv at *;simp[s56];refine bH TC.eq_1 (λx:Nat×(Rs×Fm)×rX×ay=>⟨[(0,.val (.ptr I.p 0 0 0)),(1,.val lv),(4,.val (.int .i64 x.1))],[],x.2.2.2⟩)
   (λx=>x.1<=l.length/\jI fS (l.drop x.1) x.2.1=jI fS l (r,f)/\x.2.2.1.p=I.p/\x.2.2.1.fl=I.fl/\eF T aa (x.2.1.2::L) x.2.1.1 x.2.2.1 x.2.2.2/\Gd C 0 x.2.1.1/\x.2.1.2.vs.length=f.vs.length/\C.fuel<=x.2.1.1.cC+n/\Fz x.2.1.2) (λx=>l.length-x.1) (0,(r,f),I,st) (by simp) ⟨by simp,by simp,rfl,rfl,h,hG,rfl,hn,Q6⟩ ?_
  rintro⟨k,⟨r1,f1⟩,I1,s1⟩ ⟨hk,hp,ip,il,h1,g1,v1,n1,z1⟩ ih;simp only at hk hp ip il h1 g1 v1 n1 z1 ih;have en:=λwl li=>p9 wl li h1;rw[ip]at en;have hP:=h1.P;rw[ip]at hP;by_cases bC:k<l.length;rw[aaz bC,B8]at hp;by_cases q:f1.done=true\/r1.e≠0;rw[ah q]at hp;rw[<-hp];by_cases qe:r1.e=0;have qd:f1.done=true:=by rcases q with q|q;exact q;exact aU qe q
  simp[bC,cT,eC,dh,en,qe,hP,cD,dW,mQ,cut,qd,eZ];exact⟨I1,ip,il,h1⟩;simp[bC,cT,eC,dh,en,qe,eZ];exact⟨I1,ip,il,h1⟩;rw[U q]at hp;have wu:=wk k (by omega);have hm:=aaq bC;have kG:k<(Sm.rows l).length:=by simpa using bC
  have mY:=tV bC kG;obtain⟨e1,b1,l1⟩:aN (aT l[k].es)=true/\aN (bp l[k].bd)=true/\aN (bp l[k].el)=true:=⟨bz,bL,bL⟩;have e2:(aT l[k].es).ai=aT l[k].es:=bu;have b2:(bp l[k].bd).ai=bp l[k].bd:=bq;have l2:(bp l[k].el).ai=bp l[k].el:=bq;have qd:f1.done=false:=by cases hd:f1.done with|false=>rfl|true=>exact aU (.inl hd) q
  have qe:r1.e=0:=Decidable.byContradiction λc=>q (.inr c);obtain⟨s2,I2,cK,YF,Z6,h2⟩:=H.S aa L r1 I1 s1 f1 l[k] h1 (hw _ hm) (by rw[v1];exact hr _ hm) (by have:=Sm.fZ hm;omega) g1 n1 qd (z1 qd);have zR:=H.oS l[k] (r1,f1);obtain⟨g2,_,v2⟩:=H.gS 0 l[k] (r1,f1) g1;rw[ip]at cK;have fD:=ih (k+1,fS l[k] (r1,f1),I2,s2) ⟨by simp only;omega,hp,by rw[YF,ip],by rw[Z6,il],h2,g2,by simp only at v2 ⊢;rw[v2,v1],by have:=zR.st;simp only at this ⊢;omega,H.zS _ _ z1⟩ (by simp only;omega);simp only at fD;rw[Sm.aE]at cK mY;generalize l[k]=x at *;generalize aT x.es=xe,bp x.bd=xb,bp x.el=xl at *;simp[bC,wu,hz,cT,eC,dh,mY,cK,e2,b2,l2,en,qe,hP,cD,dW,mQ,cut,qd,AV.ai];exact fD;have fR:k=l.length:=by omega
  rw[fR,aaC]at hp;have Ev:jI fS l (r,f)=(r1,f1):=by rw[<-hp];rfl
  rw[Ev];simp[bC,cT,eC,dh,eZ];exact⟨I1,ip,il,h1⟩
 exact⟨st',I',h1,h2⟩
end DI
namespace DI
open Ax Go bY V7 kN lZ tj K9 S9
variable {T:Px}{C:Cx}{D:Dm}{n:Nat}{fE:E->Fm->Rs->Int×Rs}{fS:Sm->Rs×Fm->Rs×Fm}{aa:Nat}{L:List Fm}{r:Rs}{I:rX}{st st':ay}{f:Fm}
mutual
theorem HR:∀a:AV,a.gi a=true
 |.agg a|.fK a=>by simp only[AV.gi];exact tc a|.eE s a|.k8 s a|.raw s a=>by simp only[AV.gi,aac,beq_self_eq_true,true_and];exact tZ a|.qP s a i k=>by simp only[AV.gi,aac,beq_self_eq_true,true_and,and_true];exact tZ a|.fn f a b=>by simp only[AV.gi,aac,beq_self_eq_true,true_and];exact⟨tc a,tc b⟩|.undef|.gone|.dV|.af|.hY|.jz|.kO|.mE=>rfl|.bool a=>by simp[AV.gi]|.int k a=>by simp[AV.gi]|.str a=>by simp[AV.gi]|.mu i v=>by simp[AV.gi]|.ptr a b c d=>by simp[AV.gi]|.map i=>by simp[AV.gi]
theorem tc:∀l:List AV,AV.uD l l=true
 |[]=>rfl|a::l=>by simp only[AV.uD,aac];exact⟨HR a,tc l⟩
theorem tZ:∀l:List (List AV),AV.rZ l l=true
 |[]=>rfl|a::l=>by simp only[AV.rZ,aac];exact⟨tc a,tZ l⟩
end
theorem Vx(a b:List Int):aO (a++b)=aO a++aO b:=by simp[aO]
theorem Vy(l:List Int)(m:Nat)(hm:l.length+m<1000000)(st:ay)(li:Nat)(hli:li<=st.length):∃(MV VA:AV)(XM X:List dA)(a:Nat×Nat),
  (∀bx,bn 0 li (.gu 1 8) [.val .af,.val (aJ 1 (aO l))] st bx=some (.val MV,st++XM,bx))/\
  (∀bx,bn 0 li (.pQ 1 8 [.int .i64 0]) [.val MV,.val (.int .i64 m)] (st++XM) bx=some (.val VA,st++X,bx))/\
  (∀d r,VA=vV ⟨l++aak m 0,r,d⟩ a)/\(l++aak m 0≠[]->a.1=st.length/\(st++X)[st.length]?=some (.rows a.2 1 (aO (l++aak m 0))))/\AV.ax [VA]=decide (l++aak m 0=[]):=by
 have hz:aO (aak m 0)=aak m [.int .i64 0]:=Vw m;have hb:dx st (aJ 1 (aO l))=some (aO l):=by cases l<;>rfl
 have hf:cn 1 (aO l)=true:=by simp[cn,aO]
 have hfz:cn 1 (aak m [AV.int .i64 0])=true:=by simp[cn]
 have hp:(aO l).all AV.ax=true:=by simp[aO,AV.ax,AV.aB]
 have r1:(m:Int)*8<=cN:=by unfold cN;omega
 have r2:(l.length+m)*8<=cN:=by unfold cN;omega
 have r3:l.length*8<=cN:=by unfold cN;omega
 have r4:m*8<=cN:=by unfold cN;omega
 by_cases hl:l=[];subst hl;have h1:∀bx,bn 0 li (.gu 1 8) [.val .af,.val (aJ 1 (aO []))] st bx=some (.val .af,st++[],bx):=λbx=>by
  rw[vM,hb,List.append_nil];rfl
 by_cases h0:m=0;subst h0;refine⟨.af,.af,[],[],(0,0),h1,λbx=>?_,λd r=>rfl,λh=>aU rfl h,rfl⟩;rw[uV];simp[AV.ax,AV.aB,r9,cN]
 rfl
 refine⟨.af,.mu st.length 0,[],[.rows 0 1 (aak m [.int .i64 0])],(st.length,0),h1,λbx=>?_,λd r=>?_,λ_=>⟨rfl,by simp[hz]⟩,?_⟩;rw[uV];simp[AV.ax,AV.aB,r9,hfz,r1,r4,h0];unfold vV;rw[U (by simpa using h0)];simp[AV.ax,AV.aB,h0];have fy:l++aak m 0≠[]:=by simp[hl]
 have hie:(aO l).isEmpty=false:=by cases l with|nil=>exact aU rfl hl|cons a b=>rfl
 have hlen:(aO l).length=l.length:=by simp[aO]
 refine⟨.mu st.length 0,.mu st.length 1,[.rows 0 1 (aO l)],[.rows 1 1 (aO l++aak m [.int .i64 0])],(st.length,1),λbx=>?_,λbx=>?_,λd r=>?_,λ_=>⟨rfl,by simp[Vx,hz]⟩,?_⟩;rw[vM,hb];have amA:aO l≠[]:=λq=>by rw[q]at hie;cases hie
 simp[hf,amA,hlen,r3];rw[uV];have hg:(st++[dA.rows 0 1 (aO l)])[st.length]?=some (.rows 0 1 (aO l)):=by simp
 have uh:(st++[dA.rows 0 1 (aO l)]).set st.length (.rows 1 1 (aO l++aak m [.int .i64 0]))=st++[.rows 1 1 (aO l++aak m [.int .i64 0])]:=by
  rw[List.set_append_right _ _ (aau _)];simp
 simp[AV.ax,AV.aB,r9,hfz,r1,r2,hlen,hli,uh];unfold vV;rw[U fy];simp[AV.ax,AV.aB,hl]
theorem LF(f:Fm)(a:Nat×Nat):(vV f a).cells=[vV f a]/\(vV f a).dj=true:=by unfold vV;split<;>exact⟨rfl,rfl⟩
theorem Pk(f:Fm)(a:Nat×Nat):(vV f a).ai=vV f a:=by unfold vV;split<;>rfl
theorem rf(K:LU T C D)(H:Hy T C D n fE fS)(i:Int)(l:List Int){AL:AV}(hAL:AL.ai=aJ 1 (aO l))(hAs:aN AL=true)(h:eF T aa (f::L) r I st)(hi:0<=i)(hb:i.toNat<T.bs.length)(hl:l.length<=(T.bs[i.toNat]).vars.length)(hG:Gd C 0 r)(hn:C.fuel<=r.cC+n)(hd:f.done=false)(h0:f.cH=0) :
  ∃st' I',(aZ S).call 0 aa 34 [.ptr I.p 0 0 0,.int .i64 i,AL] st=some (.int .i64 (ee C fS i l r).1,st')/\I'.p=I.p/\I'.fl=I.fl/\eF T aa (f::L) (ee C fS i l r).2 I' st':=by
 have hP:=h.P;have hnf:=hG.nf;by_cases h40:40<=r.nf;obtain⟨s1,l1,t1,r1⟩:=oG h 6;have ec:ee C fS i l r=(0,iU r 6):=by unfold ee;rw[ah h40]
 rw[ec];have c40:(40:Int)<=(r.nf:Int):=by omega
 refine⟨s1,I,?_,rfl,rfl,r1⟩;refine aA (sf:=s34) rfl rfl rfl ?_;simp[s34,hP,cD,dW,cut,c40,t1];obtain⟨k,rfl⟩:∃k:Nat,i=k:=⟨i.toNat,by omega⟩;have hk:k<T.bs.length:=by omega
 simp only[acL]at hl hb;obtain⟨w1,w2,w3,w4⟩:=K.wb _ (aaq hk);have egd:C.bs.getD k B0=T.bs[k]:=by rw[K.bs];simp[hk]
 have c40:¬(40:Int)<=(r.nf:Int):=by omega
 have Ny:=wk r.nf (by omega);obtain⟨m,hm⟩:∃m,m=T.bs[k].vars.length-l.length:=⟨_,rfl⟩;have hwm:IntKind.i64.wrap ((T.bs[k].vars.length:Int)-(l.length:Int))=(m:Int):=by rw[eR]<;>omega
 have Pc:=h.s7;have GH:=fA hP;obtain⟨MV,VA,XM,X,a,hA,hZ,hV,hX,_⟩:=Vy l m (by omega) st aa h.Lp;obtain⟨g,hg⟩:∃g:Fm,g=⟨l++aak m 0,0,false⟩:=⟨_,rfl⟩;obtain⟨nr,hnr⟩:∃nr:dA,nr=.rows 0 17 [cD T (g::f::L) { r with nf:=r.nf+1 } { I with fl:=a::I.fl }]:=⟨_,rfl⟩;obtain⟨s3,zT⟩:∃s,s=(st++X).set I.p nr:=⟨_,rfl⟩;have o3:∀j,j<st.length->j≠I.p->s3[j]?=st[j]?:=λj hj fy=>by rw[zT,aap λe=>fy e.symm,aal hj]
 have P3:s3[I.p]?=some nr:=by rw[zT];exact aay (by simp;omega)
 have R3:=h.push (st':=s3) (a:=a.1) (v:=a.2) (g:=g) (nf:=r.nf+1) (λe=>by rw[hg]at e;have:=(hX e).1;omega) o3 (by rw[P3,hnr]) (λe=>by
  rw[hg]at e ⊢;obtain⟨x1,x2⟩:=hX e;have x3:=fA x2;rw[zT,aap (by omega),x1];exact x2)
 have G3:Gd C 0 { r with nf:=r.nf+1 }:=⟨hG.s,hG.o,hG.g,hG.st,by show r.nf+1<=40;omega⟩;have N5:g.vs.length=T.bs[k].vars.length:=by rw[hg];simp;omega
 obtain⟨s4,I4,cK,ip,il,R4⟩:=Bn H T.bs[k].code R3 w1 (by rw[N5];exact w2) w3 G3 hn (by rw[hg];intro _;rfl);have ec:ee C fS (k:Int) l r=((jI fS T.bs[k].code ({ r with nf:=r.nf+1 },g)).2.cH,{ (jI fS T.bs[k].code ({ r with nf:=r.nf+1 },g)).1 with nf:=(jI fS T.bs[k].code ({ r with nf:=r.nf+1 },g)).1.nf-1 }):=by
  unfold ee;rw[U h40,acL,egd,hg,hm]
 have G4:=tX H.gS T.bs[k].code 0 ({ r with nf:=r.nf+1 },g) G3;rw[ec];generalize jI fS T.bs[k].code ({ r with nf:=r.nf+1 },g)=y at *;obtain⟨y1,y2⟩:=y;simp only at R4 G4 ip il cK ⊢;obtain⟨_,G4n,_⟩:=G4;have P4:=R4.P;rw[ip]at P4;have ahQ:=fA P4;have C4:IntKind.i64.wrap ((y1.nf:Int)-1)=((y1.nf-1:Nat):Int):=by rw[eR]<;>omega
 obtain⟨s5,Jj⟩:∃s,s=s4.set I.p (.rows 0 17 [cD T (f::L) { y1 with nf:=y1.nf-1 } { I4 with fl:=I.fl }]):=⟨_,rfl⟩;have R5:=R4.pop (st':=s5) (nf:=y1.nf-1) il (λj hj fy=>by rw[Jj,aap (by rw[ip]at fy;exact λe=>fy e.symm)]) (by rw[ip,Jj];exact aay ahQ);refine⟨s5,{ I4 with fl:=I.fl },?_,ip,rfl,R5⟩;have QO:(T.bs.map Bd.aF)[k]'(by simpa using hk)=[bP T.bs[k].vars,bp T.bs[k].code,.int .i64 T.bs[k].a]:=by simp[Bd.aF]
 have z1:aN (bP T.bs[k].vars)=true:=dn;have z2:(bP T.bs[k].vars).ai=bP T.bs[k].vars:=eA;have z3:aN (bp T.bs[k].code)=true:=bL;have z4:(bp T.bs[k].code).ai=bp T.bs[k].code:=bq;have z5:bt (bP T.bs[k].vars)=T.bs[k].vars.map Vd.aF:=aW;have b1:cJ 3 (aJ 3 (T.bs.map Bd.aF))=true:=dQ (by simp[cn,Bd.aF]);have b2:(aJ 3 (T.bs.map Bd.aF)).ai=aJ 3 (T.bs.map Bd.aF):=bU;have b3:bt (aJ 3 (T.bs.map Bd.aF))=T.bs.map Bd.aF:=aW;have b4:aN (aJ 3 (T.bs.map Bd.aF))=true:=bI;have a1:aN (aJ 1 (aO l))=true:=bI;have a2:(aJ 1 (aO l)).ai=aJ 1 (aO l):=bU;have a3:bt (aJ 1 (aO l))=aO l:=aW;have a4:(aO l).length=l.length:=by simp[aO]
 have htf:mQ (g::f::L)=g:=rfl;have hta:qy { I with fl:=a::I.fl }=a:=rfl;have hvg:vV g a=VA:=by rw[hg];exact(hV _ _).symm
 have hgd:g.done=false:=by rw[hg]
 have hgr:g.cH=0:=by rw[hg]
 have v0:=Pk f (qy I);have v1:VA.ai=VA:=by rw[hV false 0];exact Pk _ _
 obtain⟨c1,c2⟩:VA.cells=[VA]/\VA.dj=true:=by rw[hV false 0];exact LF _ _
 obtain⟨c3,c4⟩:=LF f (qy I);simp only[cD,dW,htf,hta,hvg,hgd,hgr]at hnr;have amC:mQ (f::L)=f:=rfl;have amD:qy { I4 with fl:=I.fl }=qy I:=rfl;simp only[cD,dW,amC,amD,hd,h0]at hP Jj;simp only[cD,dW]at P4;have Lo:=λl=>tq.mC hP l;have oF:∀y z,((st++X).set I.p y).set I.p z=(st++X).set I.p z:=λy z=>ady ..
 have Vc:∀y,((st++X).set I.p y)[I.p]?=some y:=λy=>aay (by simp;omega);have amE:∀y z,(s4.set I.p y).set I.p z=s4.set I.p z:=λy z=>ady ..
 have aho:∀y,(s4.set I.p y)[I.p]?=some y:=λy=>aay ahQ;rw[hnr]at zT P3
 push_cast at zT P3
 have amF:=S9.gd P3;generalize vV f (qy I)=VV,vV (mQ (y2::f::L)) (qy I4)=VY at *;refine aA (sf:=s34) rfl rfl rfl ?_;generalize aJ 3 (T.bs.map Bd.aF)=BV,aJ 1 (aO l)=LL at *;simp[s34,hP,cut,c40,v0];rw[ny];simp[-vM,-Hi,-uV,eG,Lo,cut,hA,hZ,Pc,hAL,a1,a3,a4,b1,b2,b3,z1,z2,z5,hk,QO,hwm,iG,dH,aV,AV.ax,au,bO,gq.bV,c1,c2];refine⟨_,_,⟨rfl,rfl⟩,?_⟩;simp[-vM,-Hi,-uV,hP,Lo,cut,cm,AV.cW,AV.ai,fL.gi,AV.gi,a1,a3,a4,b1,b2,b3,z1,z2,z4,z5,hk,QO,Pc,aV,AV.ax,AV.aB,au,oF,Vc,Ny,zT.symm,P3,amF,HR,tZ,mQ,cK,P4,amE,aho,C4,Jj.symm,c3,c4]
end DI
