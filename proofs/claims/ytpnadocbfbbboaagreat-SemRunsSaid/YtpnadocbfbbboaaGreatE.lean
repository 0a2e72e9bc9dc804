/- Part of a proof. -/
import Derived.Test.YtpnadocbfbbboaaGreatG
import Derived.Test.YtpnadocbfbbboaaGreatR
import Derived.Test.YtpnadocbfbbboaaGreatS

open List renaming flatMap_cons->aeO,mem_append->abw,getElem_mem->aaq,getElem?_set_ne->aap,getElem?_set_self->aay,cons_append->acA,nil_append->adn,nodup_cons->aeU,mem_cons->ac1,take->afi,take_of_length_le->ab7,eq_nil_of_length_eq_zero->aaK,drop_eq_getElem_cons->aaz,drop_length->aaC,replicate->aak,getElem?_append_left->aal
open Nat renaming le_refl->aau
open Int renaming toNat_natCast->acL
set_option maxRecDepth 100000
set_option maxHeartbeats 4000000
namespace CL
open Ax Go bY V7 kN lZ tj
inductive Lb|no|p|g|o|st|fr
 deriving DecidableEq
structure rX where
 p:Nat
 s:Nat
 q:Nat
 v:Nat
 g:Nat
 o:Nat
 ov:Nat
 fB:List Nat
 fl:List (Nat×Nat)
 jv:Nat->Lb
 iv:AV
structure Px where
 H:Hd
 m:Int
 bs:List Bd
 fu:Nat
def dW(T:Px)(s:Nat)(iv:AV)(g:Nat)(nf:Nat)(e code:Int)(out:AV)(cC:Nat):List AV:=
 [aJ 2 (T.H.bE.map dz),bP T.H.aI,aJ 6 (T.H.aY.map Sg.aF),.int .i64 T.m,aJ 3 (T.bs.map Bd.aF),.ptr s 0 0 0,iv,.int .i64 T.fu,.mu g 0,.int .i64 nf,.int .i64 e,.int .i64 code,out,.int .i64 cC]
def s6(f:Fm)(b:Nat):List AV:=[.mu b 0,.int .i64 f.cH,.bool f.done]
def tr(r:Rs)(I:rX):AV:=if r.out=[] then .af else .mu I.o I.ov
def tu(st:ay):List Fm->List (Nat×Nat)->Prop
 |[],[]=>True|f::l,a::b=>st[a.1]?=some (.rows 0 3 [s6 f a.2])/\st[a.2]?=some (.rows 0 1 (aO f.vs))/\tu st l b|_,_=>False
def jy(fl:List (Nat×Nat)):List Nat:=fl.flatMap λa=>[a.1,a.2]
structure eF (T:Px)(aa:Nat)(L:List Fm)(r:Rs)(I:rX)(st:ay):Prop where
 P:st[I.p]?=some (.rows 0 14 [dW T I.s I.iv I.g r.nf r.e r.code (tr r I) r.cC])
 iv:tP I.iv=true/\iQ I.iv=true/\dI I.iv=r.mZ
 S:tq.Rp st I.s r.s I.q I.v I.fB
 G:st[I.g]?=some (.rows 0 1 (aO r.g))
 FR:tu st L I.fl
 O:r.out≠[]->st[I.o]?=some (.rows I.ov 1 (aO r.out))
 lp:I.jv I.p=.p
 lg:I.jv I.g=.g
 lo:r.out≠[]->I.jv I.o=.o
 ls:I.jv I.s=.st
 lq:r.s≠[]->I.jv I.q=.st
 li:∀i∈I.fB,I.jv i=.st
 lr:∀i∈jy I.fl,I.jv i=.fr
 nd:(jy I.fl).Nodup
 low:∀i,I.jv i≠.no->aa<=i
variable {T:Px}{aa:Nat}{L:List Fm}{r:Rs}{I:rX}{st st':ay}{f:Fm}
theorem tu.pN:∀{l:List Fm}{fl:List (Nat×Nat)},tu st l fl->(∀i∈jy fl,st'[i]?=st[i]?)->tu st' l fl
 |[],[],_,_=>trivial|f::l,a::b,h,k=>⟨by rw[k a.1 (by simp[jy])];exact h.1,by rw[k a.2 (by simp[jy])];exact h.2.1,tu.pN h.2.2 λi hi=>k i (by simp only[jy,aeO,abw];exact .inr hi)⟩
 |[],_::_,h,_=>h.elim|_::_,[],h,_=>h.elim
theorem fA{i:Nat}{o:dA}(h:st[i]?=some o):i<st.length:=(List.getElem?_eq_some_iff.1 h).1
theorem tu.lt:∀{l:List Fm}{fl:List (Nat×Nat)},tu st l fl->∀i∈jy fl,i<st.length
 |[],[],_=>by simp[jy]|_::_,a::b,h=>by
  intro i hi;simp only[jy,aeO,abw]at hi;rcases hi with hi|hi;simp at hi;rcases hi with rfl|rfl;exact fA h.1;exact fA h.2.1;exact tu.lt h.2.2 i hi
 |[],_::_,h=>h.elim|_::_,[],h=>h.elim
theorem Nw{L:Nat->Lb}{a b:Nat}{c d:Lb}(h1:L a=c)(h2:L b=d)(h:c≠d):a≠b:=λe=>h (by rw[<-h1,<-h2,e])
variable{q v:Nat}{fB:List Nat}
theorem _root_.tq.Rp.pN{p:Nat}{T:List (List Int)}(h:tq.Rp st p T q v fB)(h1:st'[p]?=st[p]?)(h2:T≠[]->st'[q]?=st[q]?)(h3:∀i∈fB,st'[i]?=st[i]?):tq.Rp st' p T q v fB:=
 ⟨h.len,by rw[h1];exact h.aX,λhT=>by rw[h2 hT];exact h.eE hT,λk hk lJ=>by rw[h3 _ (aaq hk)];exact h.el k hk lJ,h.pq,h.pn,h.qn,h.nd⟩
theorem _root_.tq.Rp.lt{p:Nat}{T:List (List Int)}(h:tq.Rp st p T q v fB):p<st.length/\(T≠[]->q<st.length)/\∀i∈fB,i<st.length:=
 ⟨fA h.aX,λhT=>fA (h.eE hT),λi hi=>by
  obtain⟨k,hk,rfl⟩:=List.mem_iff_getElem.1 hi;exact fA (h.el k hk (by rw[<-h.len];exact hk))⟩
structure Lts (I:rX)(r:Rs)(n:Nat):Prop where
 p:I.p<n
 g:I.g<n
 s:I.s<n
 q:r.s≠[]->I.q<n
 fB:∀i∈I.fB,i<n
 fr:∀i∈jy I.fl,i<n
 o:r.out≠[]->I.o<n
theorem eF.Pa(h:eF T aa L r I st):Lts I r st.length:=
 ⟨fA h.P,fA h.G,h.S.lt.1,h.S.lt.2.1,h.S.lt.2.2,h.FR.lt,λe=>fA (h.O e)⟩
theorem eF.s7(h:eF T aa L r I st):aa<=I.p:=h.low _ (by rw[h.lp];decide)
theorem eF.Lp(h:eF T aa L r I st):aa<=st.length:=Nat.le_trans h.s7 (Nat.le_of_lt h.Pa.p)
theorem eF.pN(h:eF T aa L r I st)(k:∀i,i<st.length->I.jv i≠.no->st'[i]?=st[i]?):eF T aa L r I st':=by
 have B:=h.Pa;have kk:∀i,i<st.length->∀b,I.jv i=b->b≠Lb.no->st'[i]?=st[i]?:=λi hi b hb hn=>k i hi (by rw[hb];exact hn);refine⟨?_,h.iv,h.S.pN (kk _ B.s _ h.ls (by decide)) (λe=>kk _ (B.q e) _ (h.lq e) (by decide)) (λi hi=>kk i (B.fB i hi) _ (h.li i hi) (by decide)),?_,h.FR.pN λi hi=>kk i (B.fr i hi) _ (h.lr i hi) (by decide),λe=>?_,h.lp,h.lg,h.lo,h.ls,h.lq,h.li,h.lr,h.nd,h.low⟩;rw[kk _ B.p _ h.lp (by decide)];exact h.P;rw[kk _ B.g _ h.lg (by decide)];exact h.G;rw[kk _ (B.o e) _ (h.lo e) (by decide)];exact h.O e
theorem eF.aF(h:eF T aa L r I st)(r':Rs)(QN:AV)(hs:r'.s=r.s)(hg:r'.g=r.g)(ho:r'.out=r.out)(hi:tP QN=true/\iQ QN=true/\dI QN=r'.mZ) :
  eF T aa L r' { I with iv:=QN } (st.set I.p (.rows 0 14 [dW T I.s QN I.g r'.nf r'.e r'.code (tr r' I) r'.cC])):=by
 have k:∀i,I.jv i≠.p->(st.set I.p (.rows 0 14 [dW T I.s QN I.g r'.nf r'.e r'.code (tr r' I) r'.cC]))[i]?=st[i]?:=λi hi=>
  aap λe=>hi (by rw[<-e];exact h.lp)
 refine⟨aay (fA h.P),hi,?_,?_,?_,λe=>?_,h.lp,h.lg,by rw[ho];exact h.lo,h.ls,by rw[hs];exact h.lq,h.li,h.lr,h.nd,h.low⟩;rw[hs];exact h.S.pN (k _ (by rw[h.ls];decide)) (λe=>k _ (by rw[h.lq e];decide)) (λi hi=>k i (by rw[h.li i hi];decide));rw[hg,k _ (by rw[h.lg];decide)];exact h.G;exact h.FR.pN λi hi=>k i (by rw[h.lr i hi];decide);have e':r.out≠[]:=by rw[<-ho];exact e
 exact(k I.o (by rw[h.lo e'];decide)).trans (by rw[ho];exact h.O e')
theorem eF.Ri(h:eF T aa (f::L) r I st):∃a b,I.fl=a::b/\st[a.1]?=some (.rows 0 3 [s6 f a.2])/\st[a.2]?=some (.rows 0 1 (aO f.vs))/\tu st L b/\a.1≠a.2/\I.jv a.1=.fr/\I.jv a.2=.fr/\
  (∀i∈jy b,i≠a.1/\i≠a.2):=by
 have h1:=h.FR;cases hf:I.fl with
 |nil=>rw[hf]at h1;exact h1.elim|cons a b=>
  rw[hf]at h1;have h2:=h.nd;have h3:=h.lr;rw[hf]at h2 h3;simp only[jy,aeO,acA,adn,aeU,ac1,not_or]at h2;exact⟨a,b,rfl,h1.1,h1.2.1,h1.2.2,h2.1.1,h3 _ (by simp[jy]),h3 _ (by simp[jy]),λi hi=>⟨λe=>h2.1.2 (e ▸ hi),λe=>h2.2.1 (e ▸ hi)⟩⟩
theorem eF.Lq(h:eF T aa (f::L) r I st){f':Fm}{a:Nat×Nat}{b:List (Nat×Nat)}(ha:I.fl=a::b)(k:∀i,i≠a.1->i≠a.2->st'[i]?=st[i]?)
  (h1:st'[a.1]?=some (.rows 0 3 [s6 f' a.2]))(h2:st'[a.2]?=some (.rows 0 1 (aO f'.vs))):eF T aa (f'::L) r I st':=by
 obtain⟨a',b',Gs,g1,g2,g3,g4,g5,g6,g7⟩:=h.Ri;rw[ha]at Gs;cases Gs;have k':∀i,I.jv i≠.fr->st'[i]?=st[i]?:=λi hi=>k i (λe=>hi (by rw[e];exact g5)) (λe=>hi (by rw[e];exact g6));refine⟨?_,h.iv,h.S.pN (k' _ (by rw[h.ls];decide)) (λe=>k' _ (by rw[h.lq e];decide)) (λi hi=>k' i (by rw[h.li i hi];decide)),?_,?_,λe=>?_,h.lp,h.lg,h.lo,h.ls,h.lq,h.li,h.lr,h.nd,h.low⟩;rw[k' _ (by rw[h.lp];decide)];exact h.P;rw[k' _ (by rw[h.lg];decide)];exact h.G;rw[ha];exact⟨h1,h2,g3.pN λi hi=>k i (g7 i hi).1 (g7 i hi).2⟩;rw[k' _ (by rw[h.lo e];decide)];exact h.O e
theorem eF.ac3(h:eF T aa L r I st)(g:List Int):eF T aa L { r with g:=g } I (st.set I.g (.rows 0 1 (aO g))):=by
 have k:∀i,I.jv i≠.g->(st.set I.g (.rows 0 1 (aO g)))[i]?=st[i]?:=λi hi=>aap λe=>hi (by rw[<-e];exact h.lg);refine⟨?_,h.iv,h.S.pN (k _ (by rw[h.ls];decide)) (λe=>k _ (by rw[h.lq e];decide)) (λi hi=>k i (by rw[h.li i hi];decide)),aay (fA h.G),h.FR.pN λi hi=>k i (by rw[h.lr i hi];decide),λe=>?_,h.lp,h.lg,h.lo,h.ls,h.lq,h.li,h.lr,h.nd,h.low⟩;rw[k _ (by rw[h.lp];decide)];exact h.P;rw[k _ (by rw[h.lo e];decide)];exact h.O e
theorem eF.Vb(h:eF T aa L r I st){X:List (List Int)}{jv:Nat->Lb}(R:tq.Rp st' I.s X q v fB)(k:∀j,j<st.length->I.jv j≠.st->st'[j]?=st[j]?)
  (hl:∀j,j<st.length->jv j=I.jv j)(lq:X≠[]->jv q=.st)(li:∀j∈fB,jv j=.st)(low:∀j,jv j≠.no->aa<=j) :
  eF T aa L { r with s:=X } { I with q:=q,v:=v,fB:=fB,jv:=jv } st':=by
 have b:=h.Pa;refine⟨?_,h.iv,R,?_,h.FR.pN λj hj=>k j (b.fr j hj) (by rw[h.lr j hj];decide),λe=>?_,(hl _ b.p).trans h.lp,(hl _ b.g).trans h.lg,λe=>(hl _ (b.o e)).trans (h.lo e),(hl _ b.s).trans h.ls,lq,li,
  λj hj=>(hl _ (b.fr j hj)).trans (h.lr j hj),h.nd,low⟩
 exact(k _ b.p (by rw[h.lp];decide)).trans h.P;exact(k _ b.g (by rw[h.lg];decide)).trans h.G;exact(k _ (b.o e) (by rw[h.lo e];decide)).trans (h.O e)
def q0(r:Rs)(I:rX):Nat:=if r.s=[] then I.s else I.q
theorem eF.S0(h:eF T aa L r I st):tq.Rp st I.s r.s (q0 r I) I.v I.fB:=by
 unfold q0;by_cases e:r.s=[];rw[ah e];have:=h.S;exact⟨this.len,by rw[this.aX,ah e,ah e],λc=>aU e c,this.el,λc=>aU e c,this.pn,λc=>aU e c,this.nd⟩;rw[U e];exact h.S
theorem eF.Jg(h:eF T aa L r I st):I.jv (q0 r I)=.st:=by
 unfold q0;by_cases e:r.s=[];rw[ah e];exact h.ls;rw[U e];exact h.lq e
def I2(I:rX)(n q v:Nat):rX:={ I with q:=q,v:=v,fB:=I.fB++[n],jv:=λj=>if n<=j then .st else I.jv j }
theorem eF.alloc(h:eF T aa L r I st){w:List Int}(R:tq.Rp st' I.s (r.s++[w]) q v (I.fB++[st.length]))(fr:tq.Fr st st' [I.s,q0 r I])(h1:r.s≠[]->q=q0 r I)(h2:r.s=[]->st.length<=q) :
  eF T aa L { r with s:=r.s++[w] } (I2 I st.length q v) st':=by
 have B:=h.Pa;have hle:=h.Lp;refine h.Vb R (λj hj hn=>fr.2 j hj λhm=>?_) (λj hj=>U (by omega)) (λ_=>?_) (λj hj=>?_) (λj hj=>?_);simp only[ac1,List.not_mem_nil,or_false]at hm;rcases hm with rfl|rfl;exact hn h.ls;exact hn h.Jg;show (if st.length<=q then Lb.st else I.jv q)=.st;by_cases e:r.s=[];rw[ah (h2 e)];have:=h1 e;split
 rfl
 rw[this];exact h.Jg;show (if st.length<=j then Lb.st else I.jv j)=.st;rcases abw.1 hj with hj|hj;rw[U (by have:=B.fB j hj;omega)];exact h.li j hj;simp at hj;subst hj;exact ah (aau _);by_cases q:st.length<=j;omega;rw[U q]at hj;exact h.low j hj
theorem eF.push(h:eF T aa L r I st){a b:Nat}{g:Fm}(k:∀j,j<st.length->st'[j]?=st[j]?)
  (ha:st.length<=a)(hb:st.length<=b)(rM:a≠b)(h1:st'[b]?=some (.rows 0 3 [s6 g a]))(h2:st'[a]?=some (.rows 0 1 (aO g.vs))) :
  eF T aa (g::L) r { I with fl:=(b,a)::I.fl,jv:=λj=>if j=a\/j=b then .fr else I.jv j } st':=by
 have B:=h.Pa;have lb:∀j,j<st.length->(if j=a\/j=b then Lb.fr else I.jv j)=I.jv j:=λj hj=>U (by omega);have hle:=h.Lp;have h':=h.pN λi hi _=>k i hi;refine⟨h'.P,h.iv,h'.S,h'.G,⟨h1,h2,h'.FR⟩,h'.O,(lb _ B.p).trans h.lp,(lb _ B.g).trans h.lg,λe=>(lb _ (B.o e)).trans (h.lo e),(lb _ B.s).trans h.ls,
  λe=>(lb _ (B.q e)).trans (h.lq e),λj hj=>(lb _ (B.fB j hj)).trans (h.li j hj),λj hj=>?_,?_,λj hj=>?_⟩
 simp only[jy,aeO,acA,adn,ac1]at hj;rcases hj with rfl|rfl|hj;simp;simp;exact(lb _ (B.fr j hj)).trans (h.lr j hj);simp only[jy,aeO,acA,adn,aeU,ac1,not_or];exact⟨⟨λq=>rM q.symm,λq=>by have:=B.fr b q;omega⟩,λq=>by have:=B.fr a q;omega,h.nd⟩;simp only at hj;by_cases q:j=a\/j=b;omega;rw[U q]at hj;exact h.low j hj
theorem eF.pop(h:eF T aa (f::L) r I st){c:Nat×Nat}{fl:List (Nat×Nat)}(hc:I.fl=c::fl):eF T aa L r { I with fl:=fl } st:=by
 have hs:∀j∈jy fl,j∈jy I.fl:=λj hj=>by rw[hc];simp only[jy,aeO,abw];exact .inr hj
 have hFR:=h.FR;have Mm:=h.nd;rw[hc]at hFR Mm;simp only[jy,aeO,acA,adn,aeU]at Mm;exact⟨h.P,h.iv,h.S,h.G,hFR.2.2,h.O,h.lp,h.lg,h.lo,h.ls,h.lq,h.li,λj hj=>h.lr j (hs j hj),Mm.2.2,h.low⟩
theorem eF.Bf(h:eF T aa L r I st){o ov:Nat}{out:List Int}(fy:out≠[])(VG:(r.out≠[]/\o=I.o)\/st.length<=o)(k:∀j,j<st.length->j≠I.p->(r.out≠[]->j≠I.o)->st'[j]?=st[j]?)
  (hp:st'[I.p]?=some (.rows 0 14 [dW T I.s I.iv I.g r.nf r.e r.code (.mu o ov) r.cC]))(ho:st'[o]?=some (.rows ov 1 (aO out))) :
  eF T aa L { r with out:=out } { I with o:=o,ov:=ov,jv:=λj=>if j=o then .o else I.jv j } st':=by
 have B:=h.Pa;have lb:∀j,j<st.length->(r.out≠[]->I.jv j≠.o)->(if j=o then Lb.o else I.jv j)=I.jv j:=λj hj hn=>by
  by_cases q:j=o;rcases VG with⟨c,d⟩|d;exact aU (by rw[q,d];exact h.lo c) (hn c);omega;exact U q
 have k2:∀j,j<st.length->I.jv j≠.p->I.jv j≠.o->st'[j]?=st[j]?:=λj hj n1 n2=>k j hj (λq=>n1 (by rw[q];exact h.lp)) (λc q=>n2 (by rw[q];exact h.lo c));have hle:=h.Lp;refine⟨?_,h.iv,h.S.pN (k2 _ B.s (by rw[h.ls];decide) (by rw[h.ls];decide)) (λe=>k2 _ (B.q e) (by rw[h.lq e];decide) (by rw[h.lq e];decide)) (λi hi=>k2 i (B.fB i hi) (by rw[h.li i hi];decide) (by rw[h.li i hi];decide)),?_,
  h.FR.pN λi hi=>k2 i (B.fr i hi) (by rw[h.lr i hi];decide) (by rw[h.lr i hi];decide),λ_=>ho,(lb _ B.p λ_=>by rw[h.lp];decide).trans h.lp,(lb _ B.g λ_=>by rw[h.lg];decide).trans h.lg,λ_=>ah rfl,
  (lb _ B.s λ_=>by rw[h.ls];decide).trans h.ls,λe=>(lb _ (B.q e) λ_=>by rw[h.lq e];decide).trans (h.lq e),λj hj=>(lb _ (B.fB j hj) λ_=>by rw[h.li j hj];decide).trans (h.li j hj),
  λj hj=>(lb _ (B.fr j hj) λ_=>by rw[h.lr j hj];decide).trans (h.lr j hj),h.nd,λj hj=>?_⟩
 unfold tr;rw[U fy];exact hp;exact(k2 _ B.g (by rw[h.lg];decide) (by rw[h.lg];decide)).trans h.G;simp only at hj;by_cases q:j=o;rcases VG with⟨c,d⟩|d;rw[q,d];exact h.low _ (by rw[h.lo c];decide);omega;rw[U q]at hj;exact h.low j hj
end CL
namespace CL
open Ax Go bY V7 kN lZ tj
variable {T:Px}{aa:Nat}{L:List Fm}{r:Rs}{I:rX}{st st':ay}{f:Fm}
theorem vg(wl li:Nat)(h:eF T aa L r I st):(aZ S).call wl li 31 [.ptr I.p 0 0 0] st=some (.bool (decide (r.e≠0)),st):=by
 have hP:=h.P;refine aA (sf:=s31) rfl rfl rfl ?_;simp[s31,hP,dW,cut]
theorem oG(h:eF T aa L r I st)(c:Int) :
  ∃st',st'.length=st.length/\(∀li,(aZ S).call 0 li 48 [.ptr I.p 0 0 0,.int .i64 c] st=some (.fK [],st'))/\eF T aa L (iU r c) I st':=by
 have en:=λwl li=>vg wl li h;by_cases c0:c=0;subst c0;refine⟨st,rfl,λli=>?_,by simpa [iU] using h⟩;refine aA (sf:=s48) rfl rfl rfl ?_;simp[s48];by_cases e0:r.e=0;have hP:=h.P;have bC:=fA hP;have et:iU r c={ r with e:=2,code:=c }:=by unfold iU;rw[ah ⟨c0,e0⟩]
 have hr:=h.aF { r with e:=2,code:=c } I.iv rfl rfl rfl h.iv;rw[et];refine⟨_,?_,λli=>?_,hr⟩;simp;refine aA (sf:=s48) rfl rfl rfl ?_;have yw:∀y,afi st.length (st.set I.p y)=st.set I.p y:=λy=>ab7 (by simp);have oF:∀y z,(st.set I.p y).set I.p z=st.set I.p z:=λy z=>List.set_set ..
 have Vc:∀y,(st.set I.p y)[I.p]?=some y:=λy=>aay bC;simp[s48,en,c0,e0,hP,dW,tr,aV,AV.ax,AV.aB,au,yw,oF,Vc];refine⟨st,rfl,λli=>?_,by unfold iU;rw[U λq=>e0 q.2];exact h⟩;refine aA (sf:=s48) rfl rfl rfl ?_;simp[s48,en,c0,e0]
theorem mH(h:eF T aa L r I st)(YD:T.fu<1000000000)(C:Cx)(hC:C.fuel=T.fu) :
  ∃st',st'.length=st.length/\(∀li,(aZ S).call 0 li 98 [.ptr I.p 0 0 0] st=some (.bool (nU C r),st'))/\eF T aa L (if nU C r=true then cG r else stop r) I st':=by
 have en:=λwl li=>vg wl li h;have hP:=h.P;have bC:=fA hP;have yw:∀y,afi st.length (st.set I.p y)=st.set I.p y:=λy=>ab7 (by simp);have oF:∀y z,(st.set I.p y).set I.p z=st.set I.p z:=λy z=>List.set_set ..
 have Vc:∀y,(st.set I.p y)[I.p]?=some y:=λy=>aay bC;by_cases e0:r.e=0;by_cases hs:r.cC<T.fu;have ho:nU C r=true:=by simp[nU,e0,hC,hs]
 have hr:=h.aF (cG r) I.iv rfl rfl rfl h.iv;rw[ho,ah rfl];have hw:=wk r.cC (by omega);have hn:¬(T.fu:Int)<=(r.cC:Int):=by omega
 refine⟨_,?_,λli=>?_,hr⟩;simp;refine aA (sf:=s98) rfl rfl rfl ?_;simp[s98,en,e0,hP,dW,cut,hn,hw,cG,tr,aV,AV.ax,AV.aB,au,yw,aD,aC];have ho:nU C r=false:=by simp[nU,e0,hC,hs]
 have es:stop r={ r with e:=3 }:=by unfold stop;rw[ah e0]
 have hr:=h.aF { r with e:=3 } I.iv rfl rfl rfl h.iv;rw[ho,U (by simp),es];have hn:(T.fu:Int)<=(r.cC:Int):=by omega
 refine⟨_,?_,λli=>?_,hr⟩;simp;refine aA (sf:=s98) rfl rfl rfl ?_;simp[s98,en,e0,hP,dW,cut,hn,tr,aV,AV.ax,AV.aB,au,yw,aD,aC];have ho:nU C r=false:=by simp[nU,e0]
 have es:stop r=r:=by unfold stop;rw[U e0]
 rw[ho,U (by simp),es];refine⟨st,rfl,λli=>?_,h⟩;refine aA (sf:=s98) rfl rfl rfl ?_;simp[s98,en,e0]
theorem pO(h:eF T aa L r I st)(v c:Int) :
  ∃st',st'.length=st.length/\(∀li,(aZ S).call 0 li 147 [.ptr I.p 0 0 0,.int .i64 v,.int .i64 c] st=some (.int .i64 v,st'))/\eF T aa L (iU r c) I st':=by
 obtain⟨s1,l1,t1,r1⟩:=oG h c;have yw:afi st.length s1=s1:=ab7 (by omega);refine⟨s1,l1,λli=>?_,r1⟩;refine aA (sf:=abI) rfl rfl rfl ?_;simp[abI,t1,yw]
theorem Nx{v:AV}(h:iQ v=true)(a b:Nat):iQ (pz v a b)=true:=by cases v<;>simp_all [iQ,pz]
theorem Jh(h:eF T aa L r I st) :
  ∃st' I',st'.length=st.length/\(∀li,(aZ S).call 0 li 152 [.ptr I.p 0 0 0] st=some (.int .i64 (qW r).1,st'))/\I'.p=I.p/\I'.fl=I.fl/\eF T aa L (qW r).2 I' st':=by
 have hP:=h.P;obtain⟨g1,g2,g3⟩:=h.iv;have gs:=og g1;have gv:=jt g2 gs;have gr:=Av g1;have gz:=EJ g1;have bC:=fA hP;have yw:∀y,afi st.length (st.set I.p y)=st.set I.p y:=λy=>ab7 (by simp);cases hi:r.mZ with
 |nil=>
  obtain⟨s1,l1,t1,r1⟩:=oG h 5;have alR:afi st.length s1=s1:=ab7 (by omega);have er:qW r=(0,iU r 5):=by unfold qW;rw[hi]
  rw[er];rw[hi]at g3;refine⟨s1,I,l1,λli=>?_,rfl,rfl,r1⟩;refine aA (sf:=Ud) rfl rfl rfl ?_;simp[Ud,hP,dW,cut,gs,gv,gr,g3,t1,alR]
 |cons n l=>
  have er:qW r=(n,{ r with mZ:=l }):=by unfold qW;rw[hi]
  rw[er];rw[hi]at g3;have Lr:tP (pz I.iv 1 (l.length+1))=true/\iQ (pz I.iv 1 (l.length+1))=true/\dI (pz I.iv 1 (l.length+1))=l:=by
   refine⟨Ot g1,Nx g2 _ _,?_⟩;rw[SX g1,g3];simp
  have hr:=h.aF { r with mZ:=l } (pz I.iv 1 (l.length+1)) rfl rfl rfl Lr;have vs:=jt Lr.2.1 (og Lr.1);have ps:=cI (og Lr.1);refine⟨st.set I.p (.rows 0 14 [dW T I.s (pz I.iv 1 (l.length+1)) I.g r.nf r.e r.code (tr r I) r.cC]),{ I with iv:=pz I.iv 1 (l.length+1) },?_,λli=>?_,rfl,rfl,hr⟩;simp;refine aA (sf:=Ud) rfl rfl rfl ?_;have fy:¬(l.length:Int)+1=0:=by omega
  have h1:(1:Int)<=(l.length:Int)+1:=by omega
  simp[Ud,hP,dW,cut,gs,gv,gr,gz,g3,fy,h1,tr,aV,AV.ax,AV.aB,au,yw]
theorem Z0(wl li:Nat)(h:eF T aa L r I st)(v:AV){k:Nat}(hk:k<r.g.length)(hb:r.g.length<1000000) :
  (aZ S).call wl li 101 [.ptr I.p 0 0 0,v,.int .i64 (-1-(k:Int))] st=some (.ptr I.g 0 k 0,st):=by
 have hP:=h.P;have hG:=h.G;have hn : -1-(k:Int)<0:=by omega
 have Ny:IntKind.i64.wrap (-1-(-1-(k:Int)))=(k:Int):=by rw[eR]<;>omega
 refine aA (sf:=T2) rfl rfl rfl ?_;simp[T2,hP,hG,dW,cut,hn,Ny,hk]
theorem Z1(wl li:Nat)(h:eF T aa (f::L) r I st){a:Nat×Nat}{b:List (Nat×Nat)}(ha:I.fl=a::b){k:Nat}(hk:k<f.vs.length) :
  (aZ S).call wl li 101 [.ptr I.p 0 0 0,.ptr a.1 0 0 0,.int .i64 (k:Int)] st=some (.ptr a.2 0 k 0,st):=by
 obtain⟨a',b',Gs,h1,h2,_⟩:=h.Ri;rw[ha]at Gs;cases Gs;have hn:¬(k:Int)<0:=by omega
 refine aA (sf:=T2) rfl rfl rfl ?_;simp[T2,h1,h2,s6,cut,hn,hk]
theorem Bg(wl li:Nat)(b:Bool)(st:ay):(aZ S).call wl li 171 [.bool b] st=some (.int .i64 (xY b),st):=by
 refine bT (sf:=abN) rfl rfl rfl rfl rfl ?_;cases b<;>simp[abN,xY]
theorem Nz(wl li:Nat)(op a b:Int)(st:ay):(aZ S).call wl li 154 [.int .i64 op,.int .i64 a,.int .i64 b] st=some (.fK [.int .i64 (wR op a b).1,.int .i64 (wR op a b).2],st):=by
 have hf:=λwl li b st=>Bg wl li b st;refine bT (sf:=uY) rfl rfl rfl rfl rfl ?_;unfold wR;by_cases Pb:op=14;subst Pb;simp[uY];by_cases Rj:op=15;subst Rj;simp[uY];by_cases Rk:op=16;subst Rk;simp[uY];by_cases Rl:op=17;subst Rl;by_cases b0:b=0;subst b0;simp[uY];simp[uY,b0];by_cases Rm:op=18;subst Rm;by_cases b0:b=0;subst b0;simp[uY];simp[uY,b0];by_cases Rn:op=19;subst Rn;simp[uY,hf];by_cases Ro:op=20;subst Ro;simp[uY,hf];by_cases Rq:op=21;subst Rq;simp[uY,hf];by_cases Rr:op=22;subst Rr;simp[uY,hf];by_cases DF:op=23;subst DF;by_cases a0:a=0;subst a0;simp[uY,hf];by_cases b0:b=0;subst b0;simp[uY,hf,a0];simp[uY,hf,a0,b0];by_cases Z2:op=24;subst Z2;by_cases a0:a=0;subst a0;by_cases b0:b=0;subst b0;simp[uY,hf];simp[uY,hf,b0];simp[uY,hf,a0];simp[uY,Pb,Rj,Rk,Rl,Rm,Rn,Ro,Rq,Rr,DF,Z2]
theorem Ls(wl li:Nat)(op a:Int)(st:ay):(aZ S).call wl li 153 [.int .i64 op,.int .i64 a] st=some (.int .i64 (Yp op a),st):=by
 have hf:=λwl li b st=>Bg wl li b st;refine bT (sf:=Ue) rfl rfl rfl rfl rfl ?_;unfold Yp;by_cases sX:op=12;subst sX;simp[Ue];by_cases Bs:op=13;subst Bs;simp[Ue,hf];simp[Ue,sX,Bs]
theorem YE(X:List (List Int))(r j:Int):lD X r j=(if tq.nK X r j=0 then (X.getD (r-1).toNat []).getD j.toNat 0 else 0,tq.nK X r j):=by
 unfold lD;have:m8 X r j=tq.nK X r j:=rfl;rw[this];split;rename_i h;rw[h]
 rfl
theorem Z3(wl li:Nat)(h:eF T aa L r I st)(hs:r.s.length<1000000)(a j:Int) :
  (aZ S).call wl li 148 [.ptr I.s 0 0 0,.int .i64 a,.int .i64 j] st=some (.fK [.int .i64 (lD r.s a j).1,.int .i64 (lD r.s a j).2],st):=by
 rw[YE];exact tq.Be wl li h.S a j (by omega)
theorem B6(wl li:Nat)(h:eF T aa L r I st)(hs:r.s.length<1000000)(a:Int) :
  (aZ S).call wl li 149 [.ptr I.s 0 0 0,.int .i64 a] st=some (.fK [.int .i64 (xZ r.s a).1,.int .i64 (xZ r.s a).2],st):=by
 rw[tq.B6 wl li h.S a (by omega)];unfold xZ;split<;>rfl
theorem Z4(h:eF T aa L r I st)(hs:r.s.length<1000000)(a j v:Int) :
  ∃st',st'.length=st.length/\(∀li,(aZ S).call 0 li 125 [.ptr I.s 0 0 0,.int .i64 a,.int .i64 j,.int .i64 v] st=some (.int .i64 (m8 r.s a j),st'))/\eF T aa L { r with s:=x0 r.s a j v } I st':=by
 obtain⟨s1,t1,r1,f1,l1⟩:=tq.xh 0 h.S a j v (by omega);have e1:∀X:List (List Int),X.length=r.s.length->(X≠[]↔r.s≠[]):=λX hX=>by
  constructor;intro a b;rw[b]at hX;exact a (aaK hX);intro a b;rw[b]at hX;exact a (aaK hX.symm)
 have hp:tq.YB r.s a j v=x0 r.s a j v:=rfl;refine⟨s1,l1,t1,?_⟩;rw[hp]at r1;exact h.Vb (st':=s1) r1 (λk hk fy=>f1.2 k hk λhm=>fy (h.li k hm)) (λ_ _=>rfl) (λe=>h.lq ((e1 _ Je).1 e)) h.li h.low
theorem FJ(h:eF T aa L r I st)(hs:r.s.length<1000000)(n:Int) :
  ∃st' I',st.length<=st'.length/\(∀li,li<=aa->(aZ S).call 0 li 150 [.ptr I.s 0 0 0,.int .i64 n] st=some (.int .i64 (pM r (k7 n)).1,st'))/\I'.p=I.p/\I'.fl=I.fl/\eF T aa L (pM r (k7 n)).2 I' st':=by
 obtain⟨s1,q1,v1,t1,r1,f1,a1,a2⟩:=tq.FJ h.S0 n hs;have Pc:=h.low _ (show I.jv I.s≠.no by rw[h.ls];decide);have hlq:=h.low _ (show I.jv (q0 r I)≠.no by rw[h.Jg];decide);exact⟨s1,I2 I st.length q1 v1,f1.1,λli hli=>t1 li (by omega) (by omega),rfl,rfl,h.alloc r1 f1 a1 (λe=>(a2 e).1)⟩
theorem FK(h:eF T aa L r I st)(hs:r.s.length<1000000)(n:Int) :
  ∃st' I' v c,st.length<=st'.length/\(∀li,li<=aa->(aZ S).call 0 li 151 [.ptr I.s 0 0 0,.int .i64 n] st=some (.fK [.int .i64 v,.int .i64 c],st'))/\I'.p=I.p/\I'.fl=I.fl/\
   ((c=4/\v=0/\(n<0\/50<n)/\eF T aa L r I' st')\/(c=0/\¬(n<0\/50<n)/\v=(pM r n.toNat).1/\eF T aa L (pM r n.toNat).2 I' st')):=by
 by_cases hn:n<0\/50<n;exact⟨st,I,0,4,aau _,λli _=>tq.Nv 0 li n st hn,rfl,rfl,.inl ⟨rfl,rfl,hn,h⟩⟩;obtain⟨k,rfl⟩:∃k:Nat,n=k:=⟨n.toNat,by omega⟩;obtain⟨s1,q1,w1,t1,r1,f1,a1,a2⟩:=tq.FK h.S0 k hs (by omega);have Pc:=h.low _ (show I.jv I.s≠.no by rw[h.ls];decide);have hlq:=h.low _ (show I.jv (q0 r I)≠.no by rw[h.Jg];decide);exact⟨s1,I2 I st.length q1 w1,_,_,f1.1,λli hli=>t1 li (by omega) (by omega),rfl,rfl,.inr ⟨rfl,hn,rfl,h.alloc r1 f1 a1 (λe=>(a2 e).1)⟩⟩
end CL
namespace CL
open Ax Go bY V7 kN lZ tj K9 S9
structure LU (T:Px)(C:Cx)(D:Dm):Prop where
 fuel:C.fuel=T.fu
 fu:T.fu<1000000
 bs:C.bs=T.bs
 bJ:C.bJ=T.H.bE.map (·.2.length)
 ng:C.ng=D.ng
 gl:D.ng<1000000
 nr:D.nr=T.H.bE.length
 rs:∀s∈T.H.bE,s.2.length<1000000
 ps:D.ps.length=T.bs.length
 pv:∀(i:Nat) (h:i<D.ps.length) (h2:i<T.bs.length),D.ps[i]<=T.bs[i].vars.length
 wb:∀b∈T.bs,WB D b.code/\pK b.vars.length b.code/\Sm.fY b.code<1000000000/\b.vars.length<1000000
 nb:T.bs.length<1000000000
def jS(I:rX):Nat:=match I.fl with|a::_=>a.1 | []=>0
def PE(T:Px)(C:Cx)(D:Dm)(n:Nat)(fE:E->Fm->Rs->Int×Rs):Prop:=∀(aa:Nat)(L:List Fm)(r:Rs)(I:rX)(st:ay)(f:Fm)(e:E),eF T aa (f::L) r I st->WE D e->AN f.vs.length e->E.sz e<1000000000->Gd C 0 r->C.fuel<=r.cC+n->
 ∃st' I',(aZ S).call 0 aa 123 [.ptr I.p 0 0 0,.ptr (jS I) 0 0 0,.agg e.aF] st=some (.int .i64 (fE e f r).1,st')/\I'.p=I.p/\I'.fl=I.fl/\eF T aa (f::L) (fE e f r).2 I' st'
def PS(T:Px)(C:Cx)(D:Dm)(n:Nat)(fS:Sm->Rs×Fm->Rs×Fm):Prop:=∀(aa:Nat)(L:List Fm)(r:Rs)(I:rX)(st:ay)(f:Fm)(s:Sm),eF T aa (f::L) r I st->WS D s->C6 f.vs.length s->Sm.sz s<1000000000->Gd C 0 r->C.fuel<=r.cC+n->
 ∃st' I',(aZ S).call 0 aa 78 [.ptr I.p 0 0 0,.ptr (jS I) 0 0 0,.agg s.aF] st=some (.fK [],st')/\I'.p=I.p/\I'.fl=I.fl/\eF T aa ((fS s (r,f)).2::L) (fS s (r,f)).1 I' st'
structure Hy (T:Px)(C:Cx)(D:Dm)(n:Nat)(fE:E->Fm->Rs->Int×Rs)(fS:Sm->Rs×Fm->Rs×Fm):Prop where
 oE:∀e f r,On r (fE e f r).2
 oS:∀s x,On x.1 (fS s x).1
 gE:GE C fE
 gS:GS C fS
 E:PE T C D n fE
 S:PS T C D n fS
variable {T:Px}{C:Cx}{D:Dm}{n:Nat}{fE:E->Fm->Rs->Int×Rs}{fS:Sm->Rs×Fm->Rs×Fm}{aa:Nat}{L:List Fm}{r:Rs}{I:rX}{st st':ay}{f:Fm}
def rF(a:List Int)(x:Option (List Int)×Rs):Option (List Int)×Rs:=match x with|(some l,r)=>(some (a++l),r)|(none,r)=>(none,r)
def Bh(x:Option (List Int)):AV:=match x with|some l=>.fK [bK 1 (aO l),.bool true]|none=>.fK [.af,.bool false]
theorem rY{e:E}{l:List E}:vals fE f (e::l) r=if (fE e f r).2.e≠0 then (none,(fE e f r).2) else match vals fE f l (fE e f r).2 with
  |(some vs,r2)=>(some ((fE e f r).1::vs),r2)
  |(none,r2)=>(none,r2):=rfl
theorem B8{s:Sm}{l:List Sm}{x:Rs×Fm}:jI fS (s::l) x=if x.2.done=true\/x.1.e≠0 then x else jI fS l (fS s x):=rfl
theorem Ji(H:Hy T C D n fE fS)(l:List E)(h:eF T aa (f::L) r I st)(hw:WL D l)(hr:wm f.vs.length l)(dM:E.fY l<1000000000)(hG:Gd C 0 r)(hn:C.fuel<=r.cC+n) :
  ∃st' I',(aZ S).call 0 aa 100 [.ptr I.p 0 0 0,.ptr (jS I) 0 0 0,aT l] st=some (Bh (vals fE f l r).1,st')/\I'.p=I.p/\I'.fl=I.fl/\eF T aa (f::L) (vals fE f l r).2 I' st':=by
 have hz:cJ 11 (aT l)=true:=gn;have cT:aN (aT l)=true:=bz;have eC:(aT l).ai=aT l:=bu;have dh:bt (aT l)=E.rows l:=aW;have hlen:=E.eH l;rw[zQ]at hw;rw[jG]at hr;obtain⟨v',st',h1,rfl,I',h2⟩:∃v' st',(aZ S).call 0 aa 100 [.ptr I.p 0 0 0,.ptr (jS I) 0 0 0,aT l] st=some (v',st')/\v'=Bh (vals fE f l r).1/\∃I',I'.p=I.p/\I'.fl=I.fl/\eF T aa (f::L) (vals fE f l r).2 I' st':=by
  refine fP (sf:=abx) rfl rfl rfl ?_;generalize aT l=lv at *;simp[abx,cT,eC,dh];refine bH Ox.eq_1 (λx:Nat×List Int×Rs×rX×ay×List AV=>⟨[(0,.val (.ptr I.p 0 0 0)),(1,.val (.ptr (jS I) 0 0 0)),(8,.val (bK 1 (aO x.2.1))),(11,.val lv),(12,.val (.int .i64 l.length)),(13,.val (.int .i64 x.1))],[x.2.2.2.2.2],x.2.2.2.2.1⟩)
   (λx=>x.1<=l.length/\x.2.1.length=x.1/\rF x.2.1 (vals fE f (l.drop x.1) x.2.2.1)=vals fE f l r/\x.2.2.2.1.p=I.p/\x.2.2.2.1.fl=I.fl/\eF T aa (f::L) x.2.2.1 x.2.2.2.1 x.2.2.2.2.1/\Gd C 0 x.2.2.1/\C.fuel<=x.2.2.1.cC+n) (λx=>l.length-x.1) (0,[],r,I,st,[]) (by simp[bK,aO]) ⟨by simp,rfl,?_,rfl,rfl,h,hG,hn⟩ ?_
  simp only[List.drop_zero];rcases vals fE f l r with⟨_|v,y⟩<;>rfl;rintro⟨k,acc,r1,I1,s1,b⟩ ⟨hk,Ve,hp,ip,il,h1,g1,n1⟩ ih;simp only at hk Ve hp ip il h1 g1 n1 ih;by_cases bC:k<l.length;have wu:=wk k (by omega);have hm:=aaq bC;obtain⟨s2,I2,cK,YF,Z6,h2⟩:=H.E aa L r1 I1 s1 f l[k] h1 (hw _ hm) (hr _ hm) (by have:=E.fZ hm;omega) g1 n1;have zR:=H.oE l[k] f r1;have g2:=(H.gE 0 l[k] f r1 g1).1;have et:jS I1=jS I:=by unfold jS;rw[il]
  rw[et,ip]at cK;rw[aaz bC,rY]at hp;have gE:=xT bC;have kG:k<(E.rows l).length:=by simpa [iC] using bC
  have mY:=qM bC kG;have e1:aN (aT l[k].aG)=true:=bz;have e2:(aT l[k].aG).ai=aT l[k].aG:=bu;have en:=λwl li=>vg wl li h2;rw[YF,ip]at en;have lW:oP 1 8 (bK 1 (aO acc)) [[.int .i64 (fE l[k] f r1).1]]=some (bK 1 (aO (acc++[(fE l[k] f r1).1]))):=by
   rw[eO (by rfl) (by simp[cN];omega)];simp
  rw[E.aE]at cK gE mY;by_cases q:(fE l[k] f r1).2.e=0;rw[U (by simpa using q)]at hp;have Ev:rF (acc++[(fE l[k] f r1).1]) (vals fE f (l.drop (k+1)) (fE l[k] f r1).2)=vals fE f l r:=by
   rw[<-hp];rcases vals fE f (l.drop (k+1)) (fE l[k] f r1).2 with⟨_|v,y⟩
   rfl
   simp[rF]
  have fD:=λb=>ih (k+1,acc++[(fE l[k] f r1).1],(fE l[k] f r1).2,I2,s2,b) ⟨by simp only;omega,by simp[Ve],Ev,by rw[YF,ip],by rw[Z6,il],h2,g2,by have:=zR.st;simp only;omega⟩ (by simp only;omega);simp only at fD;generalize fE l[k] f r1=y at *;generalize l[k]=x at *;generalize aT x.aG=xe at *;have g0:aN (bK 1 (aO acc))=true:=ct;have g1:aN (bK 1 (aO (acc++[y.1])))=true:=ct;generalize bK 1 (aO (acc++[y.1]))=m1 at *;generalize bK 1 (aO acc)=m0 at *;simp[bC,wu,hz,eC,dh,mY,cK,e1,e2,en,q,lW,au,AV.ai];exact fD _;rw[ah (by simpa using q)]at hp;have Ev:vals fE f l r=(none,(fE l[k] f r1).2):=by rw[<-hp];rfl
  rw[Ev];generalize fE l[k] f r1=y at *;generalize l[k]=x at *;generalize aT x.aG=xe at *;have g0:aN (bK 1 (aO acc))=true:=ct;have g1:aN (bK 1 (aO (acc++[y.1])))=true:=ct;generalize bK 1 (aO (acc++[y.1]))=m1 at *;generalize bK 1 (aO acc)=m0 at *;simp[bC,hz,eC,dh,mY,cK,e1,e2,en,q,lW,au,AV.ai,ck];exact⟨rfl,I2,by rw[YF,ip],by rw[Z6,il],h2⟩;have fR:k=l.length:=by omega
  rw[fR,aaC]at hp;have Ev:vals fE f l r=(some acc,r1):=by rw[<-hp];simp[vals,rF]
  rw[Ev];have g0:aN (bK 1 (aO acc))=true:=ct;have N5:Bh (some acc)=.fK [bK 1 (aO acc),.bool true]:=rfl;simp only[N5];generalize bK 1 (aO acc)=m0 at *;simp[bC,ck];exact⟨I1,ip,il,h1⟩
 exact⟨st',I',h1,h2⟩
theorem iL(H:Hy T C D n fE fS)(l:List Sm)(h:eF T aa (f::L) r I st)(hw:WB D l)(hr:pK f.vs.length l)(dM:Sm.fY l<1000000000)(hG:Gd C 0 r)(hn:C.fuel<=r.cC+n) :
  ∃st' I',(aZ S).call 0 aa 49 [.ptr I.p 0 0 0,.ptr (jS I) 0 0 0,bp l] st=some (.fK [],st')/\I'.p=I.p/\I'.fl=I.fl/\eF T aa ((jI fS l (r,f)).2::L) (jI fS l (r,f)).1 I' st':=by
 have hz:cJ 9 (bp l)=true:=wz;have cT:aN (bp l)=true:=bL;have eC:(bp l).ai=bp l:=bq;have dh:bt (bp l)=Sm.rows l:=aW;have hlen:=Sm.eH l;rw[Nr]at hw;rw[oD]at hr;obtain⟨v',st',h1,rfl,I',h2⟩:∃v' st',(aZ S).call 0 aa 49 [.ptr I.p 0 0 0,.ptr (jS I) 0 0 0,bp l] st=some (v',st')/\v'=.fK []/\∃I',I'.p=I.p/\I'.fl=I.fl/\eF T aa ((jI fS l (r,f)).2::L) (jI fS l (r,f)).1 I' st':=by
  refine fP (sf:=s49) rfl rfl rfl ?_;generalize bp l=lv at *;simp[s49,cT,eC,dh];refine bH Tu.eq_1 (λx:Nat×(Rs×Fm)×rX×ay×List AV=>⟨[(0,.val (.ptr I.p 0 0 0)),(1,.val (.ptr (jS I) 0 0 0)),(8,.val lv),(9,.val (.int .i64 l.length)),(10,.val (.int .i64 x.1))],[x.2.2.2.2],x.2.2.2.1⟩)
   (λx=>x.1<=l.length/\jI fS (l.drop x.1) x.2.1=jI fS l (r,f)/\x.2.2.1.p=I.p/\x.2.2.1.fl=I.fl/\eF T aa (x.2.1.2::L) x.2.1.1 x.2.2.1 x.2.2.2.1/\Gd C 0 x.2.1.1/\x.2.1.2.vs.length=f.vs.length/\C.fuel<=x.2.1.1.cC+n) (λx=>l.length-x.1) (0,(r,f),I,st,[]) (by simp) ⟨by simp,by simp,rfl,rfl,h,hG,rfl,hn⟩ ?_
  rintro⟨k,⟨r1,f1⟩,I1,s1,b⟩ ⟨hk,hp,ip,il,h1,g1,v1,n1⟩ ih;simp only at hk hp ip il h1 g1 v1 n1 ih;by_cases bC:k<l.length;have wu:=wk k (by omega);have hm:=aaq bC;have gE:=zN bC;have kG:k<(Sm.rows l).length:=by simpa using bC
  have mY:=tV bC kG;obtain⟨e1,b1,l1⟩:aN (aT l[k].es)=true/\aN (bp l[k].bd)=true/\aN (bp l[k].el)=true:=⟨bz,bL,bL⟩;have e2:(aT l[k].es).ai=aT l[k].es:=bu;have b2:(bp l[k].bd).ai=bp l[k].bd:=bq;have l2:(bp l[k].el).ai=bp l[k].el:=bq;have et:jS I1=jS I:=by unfold jS;rw[il]
  have en:=λwl li=>vg wl li h1;rw[ip]at en;obtain⟨c1,c2,hc,t1,t2,t3⟩:=h1.Ri;have tp:jS I=c1.1:=by rw[<-et];unfold jS;rw[hc]
  rw[aaz bC,B8]at hp;by_cases q:f1.done=true\/r1.e≠0;rw[ah q]at hp;rw[<-hp];rw[Sm.aE]at gE mY;generalize l[k]=x at *;generalize aT x.es=xe,bp x.bd=xb,bp x.el=xl at *;by_cases qd:f1.done=true;simp[bC,hz,eC,dh,mY,e1,b1,l1,e2,b2,l2,tp,t1,s6,cut,qd,au,AV.ai,ck];exact⟨I1,ip,il,h1⟩;have qe:r1.e≠0:=by rcases q with q|q;exact aU q qd;exact q
  simp[bC,hz,eC,dh,mY,e1,b1,l1,e2,b2,l2,tp,t1,s6,cut,qd,qe,en,au,AV.ai,ck];exact⟨I1,ip,il,h1⟩;rw[U q]at hp;obtain⟨s2,I2,cK,YF,Z6,h2⟩:=H.S aa L r1 I1 s1 f1 l[k] h1 (hw _ hm) (by rw[v1];exact hr _ hm) (by have:=Sm.fZ hm;omega) g1 n1;have zR:=H.oS l[k] (r1,f1);obtain⟨g2,_,v2⟩:=H.gS 0 l[k] (r1,f1) g1;rw[et,ip]at cK;have qd:f1.done=false:=by cases hd:f1.done with|false=>rfl|true=>exact aU (.inl hd) q
  have qe:r1.e=0:=Decidable.byContradiction λc=>q (.inr c);have fD:=λb=>ih (k+1,fS l[k] (r1,f1),I2,s2,b) ⟨by simp only;omega,hp,by rw[YF,ip],by rw[Z6,il],h2,g2,by simp only at v2 ⊢;rw[v2,v1],by have:=zR.st;simp only at this ⊢;omega⟩ (by simp only;omega);simp only at fD;rw[Sm.aE]at cK gE mY;generalize l[k]=x at *;generalize aT x.es=xe,bp x.bd=xb,bp x.el=xl at *;rw[tp]at cK;simp[bC,wu,hz,eC,dh,mY,cK,e1,b1,l1,e2,b2,l2,tp,t1,s6,cut,qd,qe,en,au,AV.ai];rw[<-tp];exact fD _;have fR:k=l.length:=by omega
  rw[fR,aaC]at hp;have Ev:jI fS l (r,f)=(r1,f1):=by rw[<-hp];rfl
  rw[Ev];simp[bC,eZ];exact⟨I1,ip,il,h1⟩
 exact⟨st',I',h1,h2⟩
end CL
namespace CL
open Ax Go bY V7 kN lZ tj K9 S9
variable {T:Px}{C:Cx}{D:Dm}{n:Nat}{fE:E->Fm->Rs->Int×Rs}{fS:Sm->Rs×Fm->Rs×Fm}{aa:Nat}{L:List Fm}{r:Rs}{I:rX}{st st':ay}{f:Fm}
theorem YG{aa id v:Nat}{js new:List Int}{st:ay}{bx:bG}(h:st[id]?=some (.rows v 1 (aO js)))(hn:new.length<=js.length) :
  bn 0 aa (.copy 1) [.val (.mu id v),.val (aJ 1 (aO new))] st bx=some (.val (.int .i64 new.length),st.set id (.rows v 1 (aO (new++js.drop new.length))),bx):=by
 have hf:cn 1 (aO new)=true:=by simp[cn,aO]
 have hp:(aO new).all AV.ax=true:=by simp[aO,AV.ax,AV.aB]
 have hb:dx st (aJ 1 (aO new))=some (aO new):=by
  cases new with
  |nil=>rfl|cons a b=>rfl
 simp only[bn,h,hb];simp[hf,hp,hn]
theorem rf(K:LU T C D)(H:Hy T C D n fE fS)(i:Int)(l:List Int)(h:eF T aa L r I st)(hi:0<=i)(hb:i.toNat<T.bs.length)(hl:l.length<=(T.bs[i.toNat]).vars.length)(hG:Gd C 0 r)(hn:C.fuel<=r.cC+n) :
  ∃st' I',(aZ S).call 0 aa 30 [.ptr I.p 0 0 0,.int .i64 i,aJ 1 (aO l)] st=some (.int .i64 (ee C fS i l r).1,st')/\I'.p=I.p/\I'.fl=I.fl/\eF T aa L (ee C fS i l r).2 I' st':=by
 have hP:=h.P;have hnf:=hG.nf;by_cases h40:40<=r.nf;obtain⟨s1,l1,t1,r1⟩:=oG h 6;have ec:ee C fS i l r=(0,iU r 6):=by unfold ee;rw[ah h40]
 rw[ec];have c40:(40:Int)<=(r.nf:Int):=by omega
 refine⟨s1,I,?_,rfl,rfl,r1⟩;refine aA (sf:=s30) rfl rfl rfl ?_;simp[s30,hP,dW,cut,c40,t1];obtain⟨k,rfl⟩:∃k:Nat,i=k:=⟨i.toNat,by omega⟩;have hk:k<T.bs.length:=by omega
 simp only[acL]at hl hb;obtain⟨w1,w2,w3,w4⟩:=K.wb _ (aaq hk);have egd:C.bs.getD k B0=T.bs[k]:=by rw[K.bs];simp[hk]
 have c40:¬(40:Int)<=(r.nf:Int):=by omega
 have Ny:=wk r.nf (by omega);have R1:=h.aF { r with nf:=r.nf+1 } I.iv rfl rfl rfl h.iv;obtain⟨s1,yQ⟩:∃s,s=st.set I.p (.rows 0 14 [dW T I.s I.iv I.g (r.nf+1) r.e r.code (tr r I) r.cC]):=⟨_,rfl⟩;have R1':eF T aa L { r with nf:=r.nf+1 } I s1:=by rw[yQ];exact R1
 have P1:=R1'.P;obtain⟨s2,xx⟩:∃s,s=s1++[.rows 0 1 (aO (aak T.bs[k].vars.length 0)),.rows 0 3 [s6 ⟨[],0,false⟩ s1.length]]:=⟨_,rfl⟩;have P2:s2[I.p]?=some (.rows 0 14 [dW T I.s I.iv I.g (r.nf+1) r.e r.code (tr r I) r.cC]):=by rw[xx,aal (fA P1)];exact P1
 have v2:s2[s1.length]?=some (.rows 0 1 (aO (aak T.bs[k].vars.length 0))):=by rw[xx];simp
 have f2:s2[s1.length+1]?=some (.rows 0 3 [s6 ⟨[],0,false⟩ s1.length]):=by rw[xx];simp
 have cp:=λli bx=>YG (aa:=li) (bx:=bx) (new:=l) v2 (by simpa using hl);have alT:l++(aak T.bs[k].vars.length (0:Int)).drop l.length=l++aak (T.bs[k].vars.length-l.length) 0:=by rw[List.drop_replicate]
 rw[alT]at cp;obtain⟨s3,zT⟩:∃s,s=s2.set s1.length (.rows 0 1 (aO (l++aak (T.bs[k].vars.length-l.length) 0))):=⟨_,rfl⟩;rw[<-zT]at cp;have o3:∀j,j<s1.length->s3[j]?=s1[j]?:=λj hj=>by rw[zT,aap (by omega),xx,aal hj]
 have f3:s3[s1.length+1]?=some (.rows 0 3 [s6 ⟨[],0,false⟩ s1.length]):=by rw[zT,aap (by omega)];exact f2
 have v3:s3[s1.length]?=some (.rows 0 1 (aO (l++aak (T.bs[k].vars.length-l.length) 0))):=by rw[zT];exact aay (fA v2)
 have P3:s3[I.p]?=some (.rows 0 14 [dW T I.s I.iv I.g (r.nf+1) r.e r.code (tr r I) r.cC]):=by rw[o3 _ (fA P1)];exact P1
 have R3:=R1'.push (a:=s1.length) (b:=s1.length+1) (g:=⟨l++aak (T.bs[k].vars.length-l.length) 0,0,false⟩) o3 (aau _) (by omega) (by omega) f3 v3;have G3:Gd C 0 { r with nf:=r.nf+1 }:=⟨hG.s,hG.o,hG.g,hG.st,by show r.nf+1<=40;omega⟩;have N5:(l++aak (T.bs[k].vars.length-l.length) (0:Int)).length=T.bs[k].vars.length:=by simp;omega
 have hrf:pK (l++aak (T.bs[k].vars.length-l.length) (0:Int)).length T.bs[k].code:=by rw[N5];exact w2
 obtain⟨s4,I4,cK,ip,il,R4⟩:=iL H T.bs[k].code R3 w1 hrf w3 G3 hn;simp only[jS]at cK;have ec:ee C fS (k:Int) l r=((jI fS T.bs[k].code ({ r with nf:=r.nf+1 },⟨l++aak (T.bs[k].vars.length-l.length) 0,0,false⟩)).2.cH,{ (jI fS T.bs[k].code ({ r with nf:=r.nf+1 },⟨l++aak (T.bs[k].vars.length-l.length) 0,0,false⟩)).1 with nf:=(jI fS T.bs[k].code ({ r with nf:=r.nf+1 },⟨l++aak (T.bs[k].vars.length-l.length) 0,0,false⟩)).1.nf-1 }):=by
  unfold ee;rw[U h40,acL,egd]
 have G4:=tX H.gS T.bs[k].code 0 ({ r with nf:=r.nf+1 },⟨l++aak (T.bs[k].vars.length-l.length) 0,0,false⟩) G3;rw[ec];generalize jI fS T.bs[k].code ({ r with nf:=r.nf+1 },⟨l++aak (T.bs[k].vars.length-l.length) 0,0,false⟩)=y at *;obtain⟨y1,y2⟩:=y;simp only at R4 G4 ⊢;obtain⟨_,G4n,_⟩:=G4;have P4:=R4.P;obtain⟨c1,c2,hc,t1,t2,t3,t4,t5,t6,t7⟩:=R4.Ri;rw[il]at hc;cases hc;simp only at t1 t2 t4 t5;have R5:=R4.pop (by rw[il]);have R6:=R5.aF { y1 with nf:=y1.nf-1 } I4.iv rfl rfl rfl R4.iv;have C4:IntKind.i64.wrap ((y1.nf:Int)-1)=((y1.nf-1:Nat):Int):=by rw[eR]<;>omega
 have fy:I4.p≠s1.length+1:=Nw R4.lp t5 (by decide);rw[ip]at P4 fy;simp only at P4 fy;obtain⟨s5,Jj⟩:∃s,s=s4.set I.p (.rows 0 14 [dW T I4.s I4.iv I4.g (y1.nf-1) y1.e y1.code (tr y1 I4) y1.cC]):=⟨_,rfl⟩;have f5:s5[s1.length+1]?=some (.rows 0 3 [s6 y2 s1.length]):=by rw[Jj,aap fy];exact t1
 refine⟨s5,{ I4 with fl:=I.fl },?_,ip,rfl,by rw[Jj,<-ip];exact R6⟩;have Pc:=h.s7;have GN:(T.bs.map Bd.aF)[k]?=some [bP T.bs[k].vars,bp T.bs[k].code,.int .i64 T.bs[k].a]:=by simp[hk,Bd.aF]
 have hkm:k<(T.bs.map Bd.aF).length:=by simpa using hk
 have QO:(T.bs.map Bd.aF)[k]=[bP T.bs[k].vars,bp T.bs[k].code,.int .i64 T.bs[k].a]:=by simp[Bd.aF]
 have z1:aN (bP T.bs[k].vars)=true:=dn;have z2:(bP T.bs[k].vars).ai=bP T.bs[k].vars:=eA;have z3:aN (bp T.bs[k].code)=true:=bL;have z4:(bp T.bs[k].code).ai=bp T.bs[k].code:=bq;have z5:bt (bP T.bs[k].vars)=T.bs[k].vars.map Vd.aF:=aW;have b1:cJ 3 (aJ 3 (T.bs.map Bd.aF))=true:=dQ (by simp[cn,Bd.aF]);have b2:(aJ 3 (T.bs.map Bd.aF)).ai=aJ 3 (T.bs.map Bd.aF):=bU;have b3:bt (aJ 3 (T.bs.map Bd.aF))=T.bs.map Bd.aF:=aW;have b4:aN (aJ 3 (T.bs.map Bd.aF))=true:=bI;have a1:aN (aJ 1 (aO l))=true:=bI;have a2:(aJ 1 (aO l)).ai=aJ 1 (aO l):=bU;have qR:(T.bs[k].vars.length:Int)*8<=cN:=by unfold cN;omega
 have hint:aak T.bs[k].vars.length [AV.int .i64 0]=aO (aak T.bs[k].vars.length 0):=by simp[aO]
 simp only[dW]at hP P1 P2 P3 P4 yQ Jj;simp only[s6]at xx f2 f3 f5
 push_cast at P1 P2 P3 yQ
 refine aA (sf:=s30) rfl rfl rfl ?_;generalize aJ 3 (T.bs.map Bd.aF)=BV,aJ 1 (aO l)=AL at *;have q2:s1++[.rows 0 1 (aO (aak T.bs[k].vars.length 0)),.rows 0 3 [[.mu s1.length 0,.int .i64 0,.bool false]]]=s2:=xx.symm;have aho:∀y,(s4.set I.p y)[s1.length+1]?=s4[s1.length+1]?:=λy=>aap fy;simp only[s6]at t1;simp[s30,hP,cut,c40,Ny,yQ.symm,P1,b1,b2,b3,hk,QO,qR,hint,q2,f2,cp,P3,z4,cK,P4,C4,Jj.symm,f5]
end CL
namespace CL
open Ax Go bY V7 kN lZ tj K9 S9
variable {T:Px}{C:Cx}{D:Dm}{n:Nat}{fE:E->Fm->Rs->Int×Rs}{fS:Sm->Rs×Fm->Rs×Fm}{aa:Nat}{L:List Fm}{r:Rs}{I:rX}{st st':ay}{f:Fm}
theorem oH:∀{l:List E}{r:Rs}{vs:List Int}{r2:Rs},vals fE f l r=(some vs,r2)->vs.length=l.length
 |[],r,vs,r2,e=>by unfold vals at e;cases e;rfl|x::l,r,vs,r2,e=>by
  unfold vals at e;split at e;cases e;split at e;rename_i h2;cases e;simp[oH h2];cases e
variable{l:List Int}
theorem wC(h:l.length=1):l=[nF l]:=by
 match l,h with
 |[a],_=>rfl
theorem NA(h:l.length=2):l=[nF l,Gc l]:=by
 match l,h with
 |[a,b],_=>rfl
theorem ac6(h:eF T aa (f::L) r I st){ref:Int}(h1:ref<f.vs.length)(h2 : -1-ref<r.g.length)(hb:r.g.length<1000000) :
  ∃j k,(∀wl li,(aZ S).call wl li 101 [.ptr I.p 0 0 0,.ptr (jS I) 0 0 0,.int .i64 ref] st=some (.ptr j 0 k 0,st))/\st[j]?=some (.rows 0 1 (aO (if ref<0 then r.g else f.vs)))/\(aO (if ref<0 then r.g else f.vs))[k]?=some [.int .i64 (tj.oR f r ref)]:=by
 obtain⟨a,b,ha,t1,t2,_⟩:=h.Ri;have et:jS I=a.1:=by unfold jS;rw[ha]
 rw[et];by_cases q:ref<0;obtain⟨k,rfl⟩:∃k:Nat,ref = -1-(k:Int):=⟨(-1-ref).toNat,by omega⟩;have hk:k<r.g.length:=by omega
 refine⟨I.g,k,λwl li=>Z0 wl li h _ hk hb,by rw[ah q];exact h.G,?_⟩;have e:(-1-(-1-(k:Int))).toNat=k:=by omega
 unfold tj.oR;rw[ah q,ah q,e];simp[aO,hk];obtain⟨k,rfl⟩:∃k:Nat,ref=(k:Int):=⟨ref.toNat,by omega⟩;have hk:k<f.vs.length:=by omega
 refine⟨a.2,k,λwl li=>Z1 wl li h ha hk,by rw[U q];exact t2,?_⟩;unfold tj.oR;rw[U q,U q];simp[aO,hk]
theorem jq(K:LU T C D){N:Nat}{gE:E->Fm->Rs->Int×Rs}(iI:∀e f r,nU C r=false->gE e f r=(0,stop r))(Sh:∀e f r,nU C r=true->N≠0->gE e f r=mB C fE fS e f (cG r))
  (HN:∀n,N=n+1->Hy T C D n fE fS):PE T C D N gE:=by
 intro aa L r I st f e h hw hr dM hG hn;obtain⟨s1,l1,t1,R1⟩:=mH h (by have:=K.fu;omega) C K.fuel;have e1:aN (aT e.aG)=true:=bz;have e2:(aT e.aG).ai=aT e.aG:=bu;rw[E.aE];by_cases ho:nU C r=true
 ·rw[ah ho]at R1;obtain⟨n,rfl⟩:∃n,N=n+1:=⟨N-1,by have:=(p7.1 ho).2;omega⟩;have H:=HN n rfl;rw[Sh _ _ _ ho (by omega)];rw[ho]at t1;have G1:Gd C 1 (cG r):=hG.cG ho;have G0:Gd C 0 (cG r):=G1.qG (by omega);have N0:C.fuel<=(cG r).cC+n:=by show C.fuel<=r.cC+1+n;omega
  rw[FF]at hw;rw[rB]at hr;have Yn:=E.ry e;obtain⟨s2,I2,t2,ip,il,R2⟩:=Ji H e.aG R1 hw.2 hr.2 (by omega) G0 N0;have zR:=rH H.oE f e.aG (cG r);have G2:=(p6 H.gE f e.aG 1 (cG r) G1).1;have YH:(cG r).e=0:=(p7.1 ho).1;cases hv:vals fE f e.aG (cG r) with
  |mk o r2=>
  rw[hv]at t2 R2 zR G2;simp only at R2 zR G2;have hlen:∀l,o=some l->l.length=e.aG.length:=λl hl=>oH (by rw[hv,hl]);have he0:∀l,o=some l->r2.e=0:=λl hl=>DH (fE:=fE) (f:=f) e.aG (cG r) YH l r2 (by rw[hv,hl]);cases o with
  |none=>
   have ex:mB C fE fS e f (cG r)=(0,r2):=(by unfold mB;rw[hv]);rw[ex];refine⟨s2,I2,?_,ip,il,R2⟩;refine aA (sf:=MP) rfl rfl rfl ?_;simp only[Bh]at t2;generalize aT e.aG=KV at *;simp[MP,t1,t2,e1,e2,gq.bV,AV.ai]
  |some l=>
   have ex:mB C fE fS e f (cG r)=gf C (ee C fS) e.k e.n e.ref e.ty.r f l r2:=(by unfold mB;rw[hv]);rw[ex];have hl:=hlen l rfl;have Q6:=he0 l rfl;obtain⟨⟨k1,k24⟩,kg,Vf,k2a,kc,kn,kf⟩:=hw.1;have HY:=hr.1;have hP:=R2.P;have Pd:r2.s.length<1000000:=(by have:=G2.s;have:=G2.st;have:=K.fuel;have:=K.fu;omega);have Gu:=G2.g;have et:jS I2=jS I:=(by unfold jS;rw[il]);rw[ip]at hP;have m1:aN (bK 1 (aO l))=true:=ct;have m2:(bK 1 (aO l)).ai=aJ 1 (aO l):=rfl;have m3:aN (aJ 1 (aO l))=true:=bI;have m4:(aJ 1 (aO l)).ai=aJ 1 (aO l):=bU;have m5:bt (aJ 1 (aO l))=aO l:=aW;have m6:cJ 1 (aJ 1 (aO l))=true:=dQ (by simp[cn,aO]);obtain⟨v',st',h1,rfl,h2⟩:∃v' st',(aZ S).call 0 aa 123 [.ptr I.p 0 0 0,.ptr (jS I) 0 0 0,.agg [.int .i64 e.k,.int .i64 e.n,.str e.nm,.str e.on,.int .i64 e.od,aT e.aG,.int .i64 e.a,.int .i64 e.ty.b,.int .i64 e.ty.r,.int .i64 e.ty.d,.int .i64 e.ref]] st=some (v',st')/\
     v'=.int .i64 (gf C (ee C fS) e.k e.n e.ref e.ty.r f l r2).1/\∃I',I'.p=I.p/\I'.fl=I.fl/\eF T aa (f::L) (gf C (ee C fS) e.k e.n e.ref e.ty.r f l r2).2 I' st':=by
    refine fP (sf:=MP) rfl rfl rfl ?_;simp only[Bh]at t2;generalize aT e.aG=KV,bK 1 (aO l)=MV at *;generalize hLV:aJ 1 (aO l)=LV at *;simp[MP,t1,t2,e1,e2,m2,gq.bV,AV.ai];by_cases c1:e.k=1;have ep:gf C (ee C fS) e.k e.n e.ref e.ty.r f l r2=(e.n,r2):=(by simp[gf,c1]);rw[ep];simp[c1,ck];exact⟨I2,ip,il,R2⟩;by_cases c2:e.k=2;have ep:gf C (ee C fS) e.k e.n e.ref e.ty.r f l r2=(e.n,r2):=(by simp[gf,c2]);rw[ep];simp[c2,ck];exact⟨I2,ip,il,R2⟩;by_cases c4:e.k=4;have ep:gf C (ee C fS) e.k e.n e.ref e.ty.r f l r2=(tj.oR f r2 e.ref,r2):=(by simp[gf,c4]);rw[ep];have GN:=K.gl;obtain⟨j,k,v1,v2,v3⟩:=ac6 R2 (HY c4) (by rw[Gu,K.ng];exact kg c4) (by rw[Gu,K.ng];exact GN);rw[et,ip]at v1;generalize aO (if e.ref<0 then r2.g else f.vs)=G at *;simp[c4,ck,v1,v2,cut,v3];exact⟨I2,ip,il,R2⟩;by_cases c5:e.k=5;obtain⟨a,rfl⟩:∃a,l=[a]:=⟨_,wC (by rw[hl];exact Vf (.inl c5))⟩;have ep:gf C (ee C fS) e.k e.n e.ref e.ty.r f [a] r2=A8 r2 (lD r2.s a e.ref):=(by simp[gf,c5,nF]);rw[ep];have ld:=λwl li=>Z3 wl li R2 Pd a e.ref;obtain⟨s3,l3,t3,R3⟩:=pO R2 (lD r2.s a e.ref).1 (lD r2.s a e.ref).2;rw[ip]at t3;simp[c5,ck,aD,aC,hP,dW,cut,m5,m6,aO,ld,t3];exact⟨rfl,I2,ip,il,R3⟩;by_cases c6:e.k=6;obtain⟨a,b,rfl⟩:∃a b,l=[a,b]:=⟨_,_,NA (by rw[hl];exact k2a (.inl c6))⟩;have ep:gf C (ee C fS) e.k e.n e.ref e.ty.r f [a,b] r2=A8 r2 (lD r2.s a b):=(by simp[gf,c6,nF,Gc]);rw[ep];have ld:=λwl li=>Z3 wl li R2 Pd a b;obtain⟨s3,l3,t3,R3⟩:=pO R2 (lD r2.s a b).1 (lD r2.s a b).2;rw[ip]at t3;simp[c6,ck,aD,aC,hP,dW,cut,m5,m6,aO,ld,t3];exact⟨rfl,I2,ip,il,R3⟩;by_cases Rb:e.k=10;obtain⟨a,rfl⟩:∃a,l=[a]:=⟨_,wC (by rw[hl];exact Vf (by omega))⟩;have ep:gf C (ee C fS) e.k e.n e.ref e.ty.r f [a] r2=A8 r2 (xZ r2.s a):=(by simp[gf,Rb,nF]);rw[ep];have ld:=λwl li=>B6 wl li R2 Pd a;obtain⟨s3,l3,t3,R3⟩:=pO R2 (xZ r2.s a).1 (xZ r2.s a).2;rw[ip]at t3;simp[Rb,ck,aD,aC,hP,dW,cut,m5,m6,aO,ld,t3];exact⟨rfl,I2,ip,il,R3⟩;by_cases c8:e.k=8;have ep:gf C (ee C fS) e.k e.n e.ref e.ty.r f l r2=pM r2 (k7 (C.bJ.getD e.ty.r.toNat 0:Nat)):=(by simp[gf,c8]);rw[ep];obtain⟨kn1,kn2⟩:=kn c8;rw[K.nr]at kn2;obtain⟨q,hq⟩:∃q:Nat,e.ty.r=q:=⟨e.ty.r.toNat,by omega⟩;have hq2:q<T.H.bE.length:=(by omega);have eq1:C.bJ.getD e.ty.r.toNat 0=T.H.bE[q].2.length:=(by rw[K.bJ,hq];simp[hq2]);rw[eq1];obtain⟨s3,I3,l3,t3,tg,wU,R3⟩:=FJ R2 Pd (T.H.bE[q].2.length:Nat);have b1:cJ 2 (aJ 2 (T.H.bE.map dz))=true:=dQ (by simp[cn,dz]);have b2:(aJ 2 (T.H.bE.map dz)).ai=aJ 2 (T.H.bE.map dz):=bU;have b3:bt (aJ 2 (T.H.bE.map dz))=T.H.bE.map dz:=aW;have z1:aN (bP T.H.bE[q].2)=true:=dn;have z2:(bP T.H.bE[q].2).ai=bP T.H.bE[q].2:=eA;have z5:bt (bP T.H.bE[q].2)=T.H.bE[q].2.map Vd.aF:=aW;simp only[dW]at hP;generalize aJ 2 (T.H.bE.map dz)=BV at *;simp[c8,ck,aD,aC,hP,cut,hq,b1,b2,b3,hq2,dz,z1,z2,z5,t3];exact⟨I3,by rw[tg,ip],by rw[wU,il],R3⟩;by_cases c9:e.k=9;obtain⟨a,rfl⟩:∃a,l=[a]:=⟨_,wC (by rw[hl];exact Vf (by omega))⟩;have ep:gf C (ee C fS) e.k e.n e.ref e.ty.r f [a] r2=tW r2 a:=(by simp[gf,c9,nF]);rw[ep];obtain⟨s3,I3,v,c,l3,t3,tg,wU,R3⟩:=FK R2 Pd a;rcases R3 with⟨rfl,rfl,ha,R3⟩|⟨rfl,ha,rfl,R3⟩;obtain⟨s4,l4,t4,R4⟩:=pO R3 0 4;rw[tg,ip]at t4;have em:tW r2 a=(0,iU r2 4):=(by unfold tW;rw[ah ha]);rw[em];simp[c9,ck,aD,aC,hP,dW,cut,m5,m6,aO,t3,t4];exact⟨I3,by rw[tg,ip],by rw[wU,il],R4⟩;obtain⟨s4,l4,t4,R4⟩:=pO R3 (pM r2 a.toNat).1 0;rw[tg,ip]at t4;have em:tW r2 a=pM r2 a.toNat:=(by unfold tW;rw[U ha]);rw[em];simp[c9,ck,aD,aC,hP,dW,cut,m5,m6,aO,t3,t4];exact⟨I3,by rw[tg,ip],by rw[wU,il],R4⟩;by_cases VQ:e.k=11;have ep:gf C (ee C fS) e.k e.n e.ref e.ty.r f l r2=qW r2:=(by simp[gf,VQ]);rw[ep];obtain⟨s3,I3,l3,t3,tg,wU,R3⟩:=Jh R2;rw[ip]at t3;simp[VQ,ck,t3];exact⟨I3,by rw[tg,ip],by rw[wU,il],R3⟩;by_cases c7:e.k=7;have ep:gf C (ee C fS) e.k e.n e.ref e.ty.r f l r2=ee C fS e.ref l r2:=(by simp[gf,c7]);rw[ep];obtain⟨kc1,kc2,kc3⟩:=kc c7;have hb:e.ref.toNat<T.bs.length:=(by rw[<-K.ps];exact kc2);obtain⟨s3,I3,t3,tg,wU,R3⟩:=rf K H e.ref l R2 kc1 hb (by rw[hl,kc3];exact K.pv _ kc2 hb) (G2.qG (by omega)) (by have:=zR.st;omega);rw[ip,hLV]at t3;simp[c7,ck,t3];exact⟨I3,by rw[tg,ip],by rw[wU,il],R3⟩;by_cases c3:e.k=3;have ep:gf C (ee C fS) e.k e.n e.ref e.ty.r f l r2=(0,r2):=(by simp[gf,c3]);rw[ep];simp[c3,ck];exact⟨I2,ip,il,R2⟩;by_cases Rd:e.k=12;obtain⟨a,rfl⟩:∃a,l=[a]:=⟨_,wC (by rw[hl];exact Vf (by omega))⟩;have ep:gf C (ee C fS) e.k e.n e.ref e.ty.r f [a] r2=(Yp 12 a,r2):=(by simp[gf,Rd,nF]);rw[ep];have un:=λwl li st=>Ls wl li 12 a st;simp[Rd,ck,aD,aC,m5,m6,aO,un];exact⟨I2,ip,il,R2⟩;by_cases Re:e.k=13;obtain⟨a,rfl⟩:∃a,l=[a]:=⟨_,wC (by rw[hl];exact Vf (by omega))⟩;have ep:gf C (ee C fS) e.k e.n e.ref e.ty.r f [a] r2=(Yp 13 a,r2):=(by simp[gf,Re,nF]);rw[ep];have un:=λwl li st=>Ls wl li 13 a st;simp[Re,ck,aD,aC,m5,m6,aO,un];exact⟨I2,ip,il,R2⟩;obtain⟨a,b,rfl⟩:∃a b,l=[a,b]:=⟨_,_,NA (by rw[hl];exact k2a (by omega))⟩;have ep:gf C (ee C fS) e.k e.n e.ref e.ty.r f [a,b] r2=A8 r2 (wR e.k a b):=(by simp[gf,c1,c2,c3,c4,c5,c6,c7,c8,c9,Rb,VQ,Rd,Re,nF,Gc]);rw[ep];have bi:=λwl li st=>Nz wl li e.k a b st;obtain⟨s3,l3,t3,R3⟩:=pO R2 (wR e.k a b).1 (wR e.k a b).2;rw[ip]at t3;simp[c1,c2,c3,c4,c5,c6,c7,c8,c9,Rb,VQ,Rd,Re,ck,aD,aC,m5,m6,aO,bi,t3];exact⟨rfl,I2,ip,il,R3⟩
   obtain⟨I',h3⟩:=h2;exact⟨st',I',h1,h3⟩
 rw[U ho]at R1;have VR:nU C r=false:=by cases hh:nU C r with|false=>rfl|true=>exact aU hh ho
 rw[iI _ _ _ VR];rw[VR]at t1;refine⟨s1,I,?_,rfl,rfl,R1⟩;refine aA (sf:=MP) rfl rfl rfl ?_;generalize aT e.aG=KV at *;simp[MP,t1,e1,gq.bV,AV.ai]
end CL
