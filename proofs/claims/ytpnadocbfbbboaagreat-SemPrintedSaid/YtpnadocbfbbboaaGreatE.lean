/- Part of a proof. -/
import Derived.Test.YtpnadocbfbbboaaGreatG
import Derived.Test.YtpnadocbfbbboaaGreatD
import Derived.Test.YtpnadocbfbbboaaGreatR
import Derived.Test.YtpnadocbfbbboaaGreatS

set_option maxRecDepth 100000
set_option maxHeartbeats 4000000
namespace Bp
open Ax Go bX V7 lf mG zj
inductive Lb|no|p|g|o|st|fr
 deriving DecidableEq
structure Hq where
 p:Nat
 s:Nat
 q:Nat
 v:Nat
 g:Nat
 o:Nat
 ov:Nat
 gX:List Nat
 fl:List (Nat×Nat)
 qH:Nat->Lb
 iv:AV
structure Px where
 H:Hd
 m:Int
 bs:List Bd
 fu:Nat
def kN(T:Px)(s:Nat)(iv:AV)(g:Nat)(nf:Nat)(e code:Int)(out:AV)(cZ:Nat):List AV:=
 [aK 2 (T.H.bZ.map gV),cM T.H.aH,aK 6 (T.H.cu.map Sg.aG),.int .i64 T.m,aK 3 (T.bs.map Bd.aG),.ptr s 0 0 0,iv,.int .i64 T.fu,.mu g 0,.int .i64 nf,.int .i64 e,.int .i64 code,out,.int .i64 cZ]
def rU(f:Fm)(b:Nat):List AV:=[.mu b 0,.int .i64 f.res,.bool f.done]
def sv(r:Rs)(I:Hq):AV:=if r.out=[] then .U else .mu I.o I.ov
def F9(st:ai):List Fm->List (Nat×Nat)->Prop
 |[],[]=>True|f::l,a::b=>st[a.1]?=some (.rows 0 3 [rU f a.2])/\st[a.2]?=some (.rows 0 1 (bp f.vs))/\F9 st l b|_,_=>False
def sw(fl:List (Nat×Nat)):List Nat:=fl.flatMap λa=>[a.1,a.2]
structure jm (T:Px)(J:Nat)(L:List Fm)(r:Rs)(I:Hq)(st:ai):Prop where
 P:st[I.p]?=some (.rows 0 14 [kN T I.s I.iv I.g r.nf r.e r.code (sv r I) r.cZ])
 iv:u7 I.iv=true/\jy I.iv=true/\dI I.iv=r.qG
 S:Df.Rp st I.s r.s I.q I.v I.gX
 G:st[I.g]?=some (.rows 0 1 (bp r.g))
 FR:F9 st L I.fl
 O:r.out≠[]->st[I.o]?=some (.rows I.ov 1 (bp r.out))
 lp:I.qH I.p=.p
 lg:I.qH I.g=.g
 lo:r.out≠[]->I.qH I.o=.o
 ls:I.qH I.s=.st
 lq:r.s≠[]->I.qH I.q=.st
 li:∀i∈I.gX,I.qH i=.st
 lr:∀i∈sw I.fl,I.qH i=.fr
 nd:(sw I.fl).Nodup
 low:∀i,I.qH i≠.no->J<=i
variable {T:Px}{J:Nat}{L:List Fm}{r:Rs}{I:Hq}{st st':ai}{f:Fm}
theorem F9.y8:∀{l:List Fm}{fl:List (Nat×Nat)},F9 st l fl->(∀i∈sw fl,st'[i]?=st[i]?)->F9 st' l fl
 |[],[],_,_=>trivial|f::l,a::b,h,k=>⟨by rw[k a.1 (by simp[sw])];exact h.1,by rw[k a.2 (by simp[sw])];exact h.2.1,F9.y8 h.2.2 λi hi=>k i (by simp only[sw,List.flatMap_cons,List.mem_append];exact .inr hi)⟩
 |[],_::_,h,_=>h.elim|_::_,[],h,_=>h.elim
theorem lS{i:Nat}{o:fq}(h:st[i]?=some o):i<st.length:=(List.getElem?_eq_some_iff.1 h).1
theorem F9.lt:∀{l:List Fm}{fl:List (Nat×Nat)},F9 st l fl->∀i∈sw fl,i<st.length
 |[],[],_=>by simp[sw]|_::_,a::b,h=>by
  intro i hi;simp only[sw,List.flatMap_cons,List.mem_append]at hi;rcases hi with hi|hi;simp at hi;rcases hi with rfl|rfl;exact lS h.1;exact lS h.2.1;exact F9.lt h.2.2 i hi
 |[],_::_,h=>h.elim|_::_,[],h=>h.elim
theorem NL{L:Nat->Lb}{a b:Nat}{c d:Lb}(h1:L a=c)(h2:L b=d)(h:c≠d):a≠b:=λe=>h (by rw[<-h1,<-h2,e])
theorem _root_.Df.Rp.y8{p q v:Nat}{T:List (List Int)}{gX:List Nat}(h:Df.Rp st p T q v gX)(h1:st'[p]?=st[p]?)(h2:T≠[]->st'[q]?=st[q]?)(h3:∀i∈gX,st'[i]?=st[i]?):Df.Rp st' p T q v gX:=
 ⟨h.len,by rw[h1];exact h.bC,λhT=>by rw[h2 hT];exact h.dc hT,λk hk se=>by rw[h3 _ (List.getElem_mem hk)];exact h.el k hk se,h.pq,h.pn,h.qn,h.nd⟩
theorem _root_.Df.Rp.lt{p q v:Nat}{T:List (List Int)}{gX:List Nat}(h:Df.Rp st p T q v gX):p<st.length/\(T≠[]->q<st.length)/\∀i∈gX,i<st.length:=
 ⟨lS h.bC,λhT=>lS (h.dc hT),λi hi=>by
  obtain⟨k,hk,rfl⟩:=List.mem_iff_getElem.1 hi;exact lS (h.el k hk (by rw[<-h.len];exact hk))⟩
structure Lts (I:Hq)(r:Rs)(n:Nat):Prop where
 p:I.p<n
 g:I.g<n
 s:I.s<n
 q:r.s≠[]->I.q<n
 gX:∀i∈I.gX,i<n
 fr:∀i∈sw I.fl,i<n
 o:r.out≠[]->I.o<n
theorem jm.lts(h:jm T J L r I st):Lts I r st.length:=
 ⟨lS h.P,lS h.G,h.S.lt.1,h.S.lt.2.1,h.S.lt.2.2,h.FR.lt,λe=>lS (h.O e)⟩
theorem jm.Jl(h:jm T J L r I st):J<=I.p:=h.low _ (by rw[h.lp];decide)
theorem jm.ad6(h:jm T J L r I st):J<=st.length:=Nat.le_trans h.Jl (Nat.le_of_lt h.lts.p)
theorem jm.y8(h:jm T J L r I st)(k:∀i,i<st.length->I.qH i≠.no->st'[i]?=st[i]?):jm T J L r I st':=by
 have B:=h.lts;have kk:∀i,i<st.length->∀b,I.qH i=b->b≠Lb.no->st'[i]?=st[i]?:=λi hi b hb hn=>k i hi (by rw[hb];exact hn);refine⟨?_,h.iv,h.S.y8 (kk _ B.s _ h.ls (by decide)) (λe=>kk _ (B.q e) _ (h.lq e) (by decide)) (λi hi=>kk i (B.gX i hi) _ (h.li i hi) (by decide)),?_,h.FR.y8 λi hi=>kk i (B.fr i hi) _ (h.lr i hi) (by decide),λe=>?_,h.lp,h.lg,h.lo,h.ls,h.lq,h.li,h.lr,h.nd,h.low⟩;rw[kk _ B.p _ h.lp (by decide)];exact h.P;rw[kk _ B.g _ h.lg (by decide)];exact h.G;rw[kk _ (B.o e) _ (h.lo e) (by decide)];exact h.O e
theorem jm.aG(h:jm T J L r I st)(r':Rs)(iv':AV)(hs:r'.s=r.s)(hg:r'.g=r.g)(ho:r'.out=r.out)(hi:u7 iv'=true/\jy iv'=true/\dI iv'=r'.qG) :
  jm T J L r' { I with iv:=iv' } (st.set I.p (.rows 0 14 [kN T I.s iv' I.g r'.nf r'.e r'.code (sv r' I) r'.cZ])):=by
 have k:∀i,I.qH i≠.p->(st.set I.p (.rows 0 14 [kN T I.s iv' I.g r'.nf r'.e r'.code (sv r' I) r'.cZ]))[i]?=st[i]?:=λi hi=>
  List.getElem?_set_ne λe=>hi (by rw[<-e];exact h.lp)
 refine⟨List.getElem?_set_self (lS h.P),hi,?_,?_,?_,λe=>?_,h.lp,h.lg,by rw[ho];exact h.lo,h.ls,by rw[hs];exact h.lq,h.li,h.lr,h.nd,h.low⟩;rw[hs];exact h.S.y8 (k _ (by rw[h.ls];decide)) (λe=>k _ (by rw[h.lq e];decide)) (λi hi=>k i (by rw[h.li i hi];decide));rw[hg,k _ (by rw[h.lg];decide)];exact h.G;exact h.FR.y8 λi hi=>k i (by rw[h.lr i hi];decide);have e':r.out≠[]:=by rw[<-ho];exact e
 exact(k I.o (by rw[h.lo e'];decide)).trans (by rw[ho];exact h.O e')
theorem jm.top(h:jm T J (f::L) r I st):∃a b,I.fl=a::b/\st[a.1]?=some (.rows 0 3 [rU f a.2])/\st[a.2]?=some (.rows 0 1 (bp f.vs))/\F9 st L b/\a.1≠a.2/\I.qH a.1=.fr/\I.qH a.2=.fr/\
  (∀i∈sw b,i≠a.1/\i≠a.2):=by
 have h1:=h.FR;cases hf:I.fl with
 |nil=>rw[hf]at h1;exact h1.elim|cons a b=>
  rw[hf]at h1;have h2:=h.nd;have h3:=h.lr;rw[hf]at h2 h3;simp only[sw,List.flatMap_cons,List.cons_append,List.nil_append,List.nodup_cons,List.mem_cons,not_or]at h2;exact⟨a,b,rfl,h1.1,h1.2.1,h1.2.2,h2.1.1,h3 _ (by simp[sw]),h3 _ (by simp[sw]),λi hi=>⟨λe=>h2.1.2 (e ▸ hi),λe=>h2.2.1 (e ▸ hi)⟩⟩
theorem jm.VL(h:jm T J (f::L) r I st){f':Fm}{a:Nat×Nat}{b:List (Nat×Nat)}(ha:I.fl=a::b)(k:∀i,i≠a.1->i≠a.2->st'[i]?=st[i]?)
  (h1:st'[a.1]?=some (.rows 0 3 [rU f' a.2]))(h2:st'[a.2]?=some (.rows 0 1 (bp f'.vs))):jm T J (f'::L) r I st':=by
 obtain⟨a',b',FO,g1,g2,g3,g4,g5,g6,g7⟩:=h.top;rw[ha]at FO;cases FO;have k':∀i,I.qH i≠.fr->st'[i]?=st[i]?:=λi hi=>k i (λe=>hi (by rw[e];exact g5)) (λe=>hi (by rw[e];exact g6));refine⟨?_,h.iv,h.S.y8 (k' _ (by rw[h.ls];decide)) (λe=>k' _ (by rw[h.lq e];decide)) (λi hi=>k' i (by rw[h.li i hi];decide)),?_,?_,λe=>?_,h.lp,h.lg,h.lo,h.ls,h.lq,h.li,h.lr,h.nd,h.low⟩;rw[k' _ (by rw[h.lp];decide)];exact h.P;rw[k' _ (by rw[h.lg];decide)];exact h.G;rw[ha];exact⟨h1,h2,g3.y8 λi hi=>k i (g7 i hi).1 (g7 i hi).2⟩;rw[k' _ (by rw[h.lo e];decide)];exact h.O e
theorem jm.anm(h:jm T J L r I st)(g:List Int):jm T J L { r with g:=g } I (st.set I.g (.rows 0 1 (bp g))):=by
 have k:∀i,I.qH i≠.g->(st.set I.g (.rows 0 1 (bp g)))[i]?=st[i]?:=λi hi=>List.getElem?_set_ne λe=>hi (by rw[<-e];exact h.lg);refine⟨?_,h.iv,h.S.y8 (k _ (by rw[h.ls];decide)) (λe=>k _ (by rw[h.lq e];decide)) (λi hi=>k i (by rw[h.li i hi];decide)),List.getElem?_set_self (lS h.G),h.FR.y8 λi hi=>k i (by rw[h.lr i hi];decide),λe=>?_,h.lp,h.lg,h.lo,h.ls,h.lq,h.li,h.lr,h.nd,h.low⟩;rw[k _ (by rw[h.lp];decide)];exact h.P;rw[k _ (by rw[h.lo e];decide)];exact h.O e
theorem jm.VM(h:jm T J L r I st){X:List (List Int)}{q v:Nat}{gX:List Nat}{qH:Nat->Lb}(R:Df.Rp st' I.s X q v gX)(k:∀j,j<st.length->I.qH j≠.st->st'[j]?=st[j]?)
  (hl:∀j,j<st.length->qH j=I.qH j)(lq:X≠[]->qH q=.st)(li:∀j∈gX,qH j=.st)(low:∀j,qH j≠.no->J<=j) :
  jm T J L { r with s:=X } { I with q:=q,v:=v,gX:=gX,qH:=qH } st':=by
 have b:=h.lts;refine⟨?_,h.iv,R,?_,h.FR.y8 λj hj=>k j (b.fr j hj) (by rw[h.lr j hj];decide),λe=>?_,(hl _ b.p).trans h.lp,(hl _ b.g).trans h.lg,λe=>(hl _ (b.o e)).trans (h.lo e),(hl _ b.s).trans h.ls,lq,li,
  λj hj=>(hl _ (b.fr j hj)).trans (h.lr j hj),h.nd,low⟩
 exact(k _ b.p (by rw[h.lp];decide)).trans h.P;exact(k _ b.g (by rw[h.lg];decide)).trans h.G;exact(k _ (b.o e) (by rw[h.lo e];decide)).trans (h.O e)
def q0(r:Rs)(I:Hq):Nat:=if r.s=[] then I.s else I.q
theorem jm.S0(h:jm T J L r I st):Df.Rp st I.s r.s (q0 r I) I.v I.gX:=by
 unfold q0;by_cases e:r.s=[];rw[if_pos e];have:=h.S;exact⟨this.len,by rw[this.bC,if_pos e,if_pos e],λc=>absurd e c,this.el,λc=>absurd e c,this.pn,λc=>absurd e c,this.nd⟩;rw[if_neg e];exact h.S
theorem jm.Jm(h:jm T J L r I st):I.qH (q0 r I)=.st:=by
 unfold q0;by_cases e:r.s=[];rw[if_pos e];exact h.ls;rw[if_neg e];exact h.lq e
def I2(I:Hq)(n q v:Nat):Hq:={ I with q:=q,v:=v,gX:=I.gX++[n],qH:=λj=>if n<=j then .st else I.qH j }
theorem jm.alloc(h:jm T J L r I st){w:List Int}{q v:Nat}(R:Df.Rp st' I.s (r.s++[w]) q v (I.gX++[st.length]))(fr:Df.Fr st st' [I.s,q0 r I])(h1:r.s≠[]->q=q0 r I)(h2:r.s=[]->st.length<=q) :
  jm T J L { r with s:=r.s++[w] } (I2 I st.length q v) st':=by
 have B:=h.lts;have hle:=h.ad6;refine h.VM R (λj hj hn=>fr.2 j hj λhm=>?_) (λj hj=>if_neg (by omega)) (λ_=>?_) (λj hj=>?_) (λj hj=>?_);simp only[List.mem_cons,List.not_mem_nil,or_false]at hm;rcases hm with rfl|rfl;exact hn h.ls;exact hn h.Jm;show (if st.length<=q then Lb.st else I.qH q)=.st;by_cases e:r.s=[];rw[if_pos (h2 e)];have:=h1 e;split
 rfl
 rw[this];exact h.Jm;show (if st.length<=j then Lb.st else I.qH j)=.st;rcases List.mem_append.1 hj with hj|hj;rw[if_neg (by have:=B.gX j hj;omega)];exact h.li j hj;simp at hj;subst hj;exact if_pos (Nat.le_refl _);by_cases q:st.length<=j;omega;rw[if_neg q]at hj;exact h.low j hj
theorem jm.push(h:jm T J L r I st){a b:Nat}{g:Fm}(k:∀j,j<st.length->st'[j]?=st[j]?)
  (ha:st.length<=a)(hb:st.length<=b)(sH:a≠b)(h1:st'[b]?=some (.rows 0 3 [rU g a]))(h2:st'[a]?=some (.rows 0 1 (bp g.vs))) :
  jm T J (g::L) r { I with fl:=(b,a)::I.fl,qH:=λj=>if j=a\/j=b then .fr else I.qH j } st':=by
 have B:=h.lts;have lb:∀j,j<st.length->(if j=a\/j=b then Lb.fr else I.qH j)=I.qH j:=λj hj=>if_neg (by omega);have hle:=h.ad6;have h':=h.y8 λi hi _=>k i hi;refine⟨h'.P,h.iv,h'.S,h'.G,⟨h1,h2,h'.FR⟩,h'.O,(lb _ B.p).trans h.lp,(lb _ B.g).trans h.lg,λe=>(lb _ (B.o e)).trans (h.lo e),(lb _ B.s).trans h.ls,
  λe=>(lb _ (B.q e)).trans (h.lq e),λj hj=>(lb _ (B.gX j hj)).trans (h.li j hj),λj hj=>?_,?_,λj hj=>?_⟩
 simp only[sw,List.flatMap_cons,List.cons_append,List.nil_append,List.mem_cons]at hj;rcases hj with rfl|rfl|hj;simp;simp;exact(lb _ (B.fr j hj)).trans (h.lr j hj);simp only[sw,List.flatMap_cons,List.cons_append,List.nil_append,List.nodup_cons,List.mem_cons,not_or];exact⟨⟨λq=>sH q.symm,λq=>by have:=B.fr b q;omega⟩,λq=>by have:=B.fr a q;omega,h.nd⟩;simp only at hj;by_cases q:j=a\/j=b;omega;rw[if_neg q]at hj;exact h.low j hj
theorem jm.pop(h:jm T J (f::L) r I st){c:Nat×Nat}{fl:List (Nat×Nat)}(hc:I.fl=c::fl):jm T J L r { I with fl:=fl } st:=by
 have hs:∀j∈sw fl,j∈sw I.fl:=λj hj=>by rw[hc];simp only[sw,List.flatMap_cons,List.mem_append];exact .inr hj
 have VN:=h.FR;have SW:=h.nd;rw[hc]at VN SW;simp only[sw,List.flatMap_cons,List.cons_append,List.nil_append,List.nodup_cons]at SW;exact⟨h.P,h.iv,h.S,h.G,VN.2.2,h.O,h.lp,h.lg,h.lo,h.ls,h.lq,h.li,λj hj=>h.lr j (hs j hj),SW.2.2,h.low⟩
theorem jm.Po(h:jm T J L r I st){o ov:Nat}{out:List Int}(iR:out≠[])(hlo:(r.out≠[]/\o=I.o)\/st.length<=o)(k:∀j,j<st.length->j≠I.p->(r.out≠[]->j≠I.o)->st'[j]?=st[j]?)
  (hp:st'[I.p]?=some (.rows 0 14 [kN T I.s I.iv I.g r.nf r.e r.code (.mu o ov) r.cZ]))(ho:st'[o]?=some (.rows ov 1 (bp out))) :
  jm T J L { r with out:=out } { I with o:=o,ov:=ov,qH:=λj=>if j=o then .o else I.qH j } st':=by
 have B:=h.lts;have lb:∀j,j<st.length->(r.out≠[]->I.qH j≠.o)->(if j=o then Lb.o else I.qH j)=I.qH j:=λj hj hn=>by
  by_cases q:j=o;rcases hlo with⟨c,d⟩|d;exact absurd (by rw[q,d];exact h.lo c) (hn c);omega;exact if_neg q
 have k2:∀j,j<st.length->I.qH j≠.p->I.qH j≠.o->st'[j]?=st[j]?:=λj hj n1 n2=>k j hj (λq=>n1 (by rw[q];exact h.lp)) (λc q=>n2 (by rw[q];exact h.lo c));have hle:=h.ad6;refine⟨?_,h.iv,h.S.y8 (k2 _ B.s (by rw[h.ls];decide) (by rw[h.ls];decide)) (λe=>k2 _ (B.q e) (by rw[h.lq e];decide) (by rw[h.lq e];decide)) (λi hi=>k2 i (B.gX i hi) (by rw[h.li i hi];decide) (by rw[h.li i hi];decide)),?_,
  h.FR.y8 λi hi=>k2 i (B.fr i hi) (by rw[h.lr i hi];decide) (by rw[h.lr i hi];decide),λ_=>ho,(lb _ B.p λ_=>by rw[h.lp];decide).trans h.lp,(lb _ B.g λ_=>by rw[h.lg];decide).trans h.lg,λ_=>if_pos rfl,
  (lb _ B.s λ_=>by rw[h.ls];decide).trans h.ls,λe=>(lb _ (B.q e) λ_=>by rw[h.lq e];decide).trans (h.lq e),λj hj=>(lb _ (B.gX j hj) λ_=>by rw[h.li j hj];decide).trans (h.li j hj),
  λj hj=>(lb _ (B.fr j hj) λ_=>by rw[h.lr j hj];decide).trans (h.lr j hj),h.nd,λj hj=>?_⟩
 unfold sv;rw[if_neg iR];exact hp;exact(k2 _ B.g (by rw[h.lg];decide) (by rw[h.lg];decide)).trans h.G;simp only at hj;by_cases q:j=o;rcases hlo with⟨c,d⟩|d;rw[q,d];exact h.low _ (by rw[h.lo c];decide);omega;rw[if_neg q]at hj;exact h.low j hj
end Bp
namespace Bp
open Ax Go bX V7 lf mG zj
variable {T:Px}{J:Nat}{L:List Fm}{r:Rs}{I:Hq}{st st':ai}{f:Fm}
theorem ux(wl li:Nat)(h:jm T J L r I st):(aT S).call wl li 31 [.ptr I.p 0 0 0] st=some (.bool (decide (r.e≠0)),st):=by
 have hP:=h.P;refine an (sf:=s31) rfl rfl rfl ?_;simp[s31,hP,kN,cut]
theorem Aq(h:jm T J L r I st)(c:Int) :
  ∃st',st'.length=st.length/\(∀li,(aT S).call 0 li 48 [.ptr I.p 0 0 0,.int .i64 c] st=some (.fF [],st'))/\jm T J L (kL r c) I st':=by
 have en:=λwl li=>ux wl li h;by_cases c0:c=0;subst c0;refine⟨st,rfl,λli=>?_,by simpa [kL] using h⟩;refine an (sf:=s48) rfl rfl rfl ?_;simp[s48];by_cases e0:r.e=0;have hP:=h.P;have bw:=lS hP;have et:kL r c={ r with e:=2,code:=c }:=by unfold kL;rw[if_pos ⟨c0,e0⟩]
 have hr:=h.aG { r with e:=2,code:=c } I.iv rfl rfl rfl h.iv;rw[et];refine⟨_,?_,λli=>?_,hr⟩;simp;refine an (sf:=s48) rfl rfl rfl ?_;have CD:∀y,List.take st.length (st.set I.p y)=st.set I.p y:=λy=>List.take_of_length_le (by simp);have zi:∀y z,(st.set I.p y).set I.p z=st.set I.p z:=λy z=>List.set_set ..
 have hgs:∀y,(st.set I.p y)[I.p]?=some y:=λy=>List.getElem?_set_self bw;simp[s48,en,c0,e0,hP,kN,sv,bq,AV.af,AV.au,ah,CD,zi,hgs];refine⟨st,rfl,λli=>?_,by unfold kL;rw[if_neg λq=>e0 q.2];exact h⟩;refine an (sf:=s48) rfl rfl rfl ?_;simp[s48,en,c0,e0]
theorem zM(h:jm T J L r I st)(hfu:T.fu<1000000000)(C:Cx)(hC:C.eC=T.fu) :
  ∃st',st'.length=st.length/\(∀li,(aT S).call 0 li 98 [.ptr I.p 0 0 0] st=some (.bool (tg C r),st'))/\jm T J L (if tg C r=true then dm r else stop r) I st':=by
 have en:=λwl li=>ux wl li h;have hP:=h.P;have bw:=lS hP;have CD:∀y,List.take st.length (st.set I.p y)=st.set I.p y:=λy=>List.take_of_length_le (by simp);have zi:∀y z,(st.set I.p y).set I.p z=st.set I.p z:=λy z=>List.set_set ..
 have hgs:∀y,(st.set I.p y)[I.p]?=some y:=λy=>List.getElem?_set_self bw;by_cases e0:r.e=0;by_cases hs:r.cZ<T.fu;have ho:tg C r=true:=by simp[tg,e0,hC,hs]
 have hr:=h.aG (dm r) I.iv rfl rfl rfl h.iv;rw[ho,if_pos rfl];have hw:=wk r.cZ (by omega);have hn:¬(T.fu:Int)<=(r.cZ:Int):=by omega
 refine⟨_,?_,λli=>?_,hr⟩;simp;refine an (sf:=s98) rfl rfl rfl ?_;simp[s98,en,e0,hP,kN,cut,hn,hw,dm,sv,bq,AV.af,AV.au,ah,CD,aF,aC];have ho:tg C r=false:=by simp[tg,e0,hC,hs]
 have es:stop r={ r with e:=3 }:=by unfold stop;rw[if_pos e0]
 have hr:=h.aG { r with e:=3 } I.iv rfl rfl rfl h.iv;rw[ho,if_neg (by simp),es];have hn:(T.fu:Int)<=(r.cZ:Int):=by omega
 refine⟨_,?_,λli=>?_,hr⟩;simp;refine an (sf:=s98) rfl rfl rfl ?_;simp[s98,en,e0,hP,kN,cut,hn,sv,bq,AV.af,AV.au,ah,CD,aF,aC];have ho:tg C r=false:=by simp[tg,e0]
 have es:stop r=r:=by unfold stop;rw[if_neg e0]
 rw[ho,if_neg (by simp),es];refine⟨st,rfl,λli=>?_,h⟩;refine an (sf:=s98) rfl rfl rfl ?_;simp[s98,en,e0]
theorem Bq(h:jm T J L r I st)(v c:Int) :
  ∃st',st'.length=st.length/\(∀li,(aT S).call 0 li 147 [.ptr I.p 0 0 0,.int .i64 v,.int .i64 c] st=some (.int .i64 v,st'))/\jm T J L (kL r c) I st':=by
 obtain⟨s1,l1,t1,r1⟩:=Aq h c;have CD:List.take st.length s1=s1:=List.take_of_length_le (by omega);refine⟨s1,l1,λli=>?_,r1⟩;refine an (sf:=acN) rfl rfl rfl ?_;simp[acN,t1,CD]
theorem NM{v:AV}(h:jy v=true)(a b:Nat):jy (uh v a b)=true:=by cases v<;>simp_all [jy,uh]
theorem Zn(h:jm T J L r I st) :
  ∃st' I',st'.length=st.length/\(∀li,(aT S).call 0 li 152 [.ptr I.p 0 0 0] st=some (.int .i64 (wT r).1,st'))/\I'.p=I.p/\I'.fl=I.fl/\jm T J L (wT r).2 I' st':=by
 have hP:=h.P;obtain⟨g1,g2,g3⟩:=h.iv;have gs:=tL g1;have gv:=nq g2 gs;have gr:=C3 g1;have gz:=Ir g1;have bw:=lS hP;have CD:∀y,List.take st.length (st.set I.p y)=st.set I.p y:=λy=>List.take_of_length_le (by simp);cases hi:r.qG with
 |nil=>
  obtain⟨s1,l1,t1,r1⟩:=Aq h 5;have ann:List.take st.length s1=s1:=List.take_of_length_le (by omega);have er:wT r=(0,kL r 5):=by unfold wT;rw[hi]
  rw[er];rw[hi]at g3;refine⟨s1,I,l1,λli=>?_,rfl,rfl,r1⟩;refine an (sf:=UA) rfl rfl rfl ?_;simp[UA,hP,kN,cut,gs,gv,gr,g3,t1,ann]
 |cons n l=>
  have er:wT r=(n,{ r with qG:=l }):=by unfold wT;rw[hi]
  rw[er];rw[hi]at g3;have Zo:u7 (uh I.iv 1 (l.length+1))=true/\jy (uh I.iv 1 (l.length+1))=true/\dI (uh I.iv 1 (l.length+1))=l:=by
   refine⟨Yi g1,NM g2 _ _,?_⟩;rw[acv g1,g3];simp
  have hr:=h.aG { r with qG:=l } (uh I.iv 1 (l.length+1)) rfl rfl rfl Zo;have vs:=nq Zo.2.1 (tL Zo.1);have ps:=cm (tL Zo.1);refine⟨st.set I.p (.rows 0 14 [kN T I.s (uh I.iv 1 (l.length+1)) I.g r.nf r.e r.code (sv r I) r.cZ]),{ I with iv:=uh I.iv 1 (l.length+1) },?_,λli=>?_,rfl,rfl,hr⟩;simp;refine an (sf:=UA) rfl rfl rfl ?_;have iR:¬(l.length:Int)+1=0:=by omega
  have h1:(1:Int)<=(l.length:Int)+1:=by omega
  simp[UA,hP,kN,cut,gs,gv,gr,gz,g3,iR,h1,sv,bq,AV.af,AV.au,ah,CD]
theorem aaY(wl li:Nat)(h:jm T J L r I st)(v:AV){k:Nat}(hk:k<r.g.length)(hb:r.g.length<1000000) :
  (aT S).call wl li 101 [.ptr I.p 0 0 0,v,.int .i64 (-1-(k:Int))] st=some (.ptr I.g 0 k 0,st):=by
 have hP:=h.P;have hG:=h.G;have hn : -1-(k:Int)<0:=by omega
 have Fw:IntKind.i64.wrap (-1-(-1-(k:Int)))=(k:Int):=by rw[dn]<;>omega
 refine an (sf:=Ut) rfl rfl rfl ?_;simp[Ut,hP,hG,kN,cut,hn,Fw,hk]
theorem aaZ(wl li:Nat)(h:jm T J (f::L) r I st){a:Nat×Nat}{b:List (Nat×Nat)}(ha:I.fl=a::b){k:Nat}(hk:k<f.vs.length) :
  (aT S).call wl li 101 [.ptr I.p 0 0 0,.ptr a.1 0 0 0,.int .i64 (k:Int)] st=some (.ptr a.2 0 k 0,st):=by
 obtain⟨a',b',FO,h1,h2,_⟩:=h.top;rw[ha]at FO;cases FO;have hn:¬(k:Int)<0:=by omega
 refine an (sf:=Ut) rfl rfl rfl ?_;simp[Ut,h1,h2,rU,cut,hn,hk]
theorem Pp(wl li:Nat)(b:Bool)(st:ai):(aT S).call wl li 171 [.bool b] st=some (.int .i64 (Ah b),st):=by
 refine bn (sf:=acR) rfl rfl rfl rfl rfl ?_;cases b<;>simp[acR,Ah]
theorem ad7(wl li:Nat)(op a b:Int)(st:ai):(aT S).call wl li 154 [.int .i64 op,.int .i64 a,.int .i64 b] st=some (.fF [.int .i64 (NG op a b).1,.int .i64 (NG op a b).2],st):=by
 have hf:=λwl li b st=>Pp wl li b st;refine bn (sf:=uo) rfl rfl rfl rfl rfl ?_;unfold NG;by_cases h14:op=14;subst h14;simp[uo];by_cases h15:op=15;subst h15;simp[uo];by_cases h16:op=16;subst h16;simp[uo];by_cases h17:op=17;subst h17;by_cases b0:b=0;subst b0;simp[uo];simp[uo,b0];by_cases h18:op=18;subst h18;by_cases b0:b=0;subst b0;simp[uo];simp[uo,b0];by_cases h19:op=19;subst h19;simp[uo,hf];by_cases h20:op=20;subst h20;simp[uo,hf];by_cases h21:op=21;subst h21;simp[uo,hf];by_cases h22:op=22;subst h22;simp[uo,hf];by_cases WQ:op=23;subst WQ;by_cases a0:a=0;subst a0;simp[uo,hf];by_cases b0:b=0;subst b0;simp[uo,hf,a0];simp[uo,hf,a0,b0];by_cases h24:op=24;subst h24;by_cases a0:a=0;subst a0;by_cases b0:b=0;subst b0;simp[uo,hf];simp[uo,hf,b0];simp[uo,hf,a0];simp[uo,h14,h15,h16,h17,h18,h19,h20,h21,h22,WQ,h24]
theorem aa0(wl li:Nat)(op a:Int)(st:ai):(aT S).call wl li 153 [.int .i64 op,.int .i64 a] st=some (.int .i64 (unI op a),st):=by
 have hf:=λwl li b st=>Pp wl li b st;refine bn (sf:=UB) rfl rfl rfl rfl rfl ?_;unfold unI;by_cases JT:op=12;subst JT;simp[UB];by_cases I0:op=13;subst I0;simp[UB,hf];simp[UB,JT,I0]
theorem Zp(X:List (List Int))(r j:Int):vL X r j=(if Df.m9 X r j=0 then (X.getD (r-1).toNat []).getD j.toNat 0 else 0,Df.m9 X r j):=by
 unfold vL;have:uv X r j=Df.m9 X r j:=rfl;rw[this];split;rename_i h;rw[h]
 rfl
theorem aa1(wl li:Nat)(h:jm T J L r I st)(hs:r.s.length<1000000)(a j:Int) :
  (aT S).call wl li 148 [.ptr I.s 0 0 0,.int .i64 a,.int .i64 j] st=some (.fF [.int .i64 (vL r.s a j).1,.int .i64 (vL r.s a j).2],st):=by
 rw[Zp];exact Df.Zk wl li h.S a j (by omega)
theorem NI(wl li:Nat)(h:jm T J L r I st)(hs:r.s.length<1000000)(a:Int) :
  (aT S).call wl li 149 [.ptr I.s 0 0 0,.int .i64 a] st=some (.fF [.int .i64 (NH r.s a).1,.int .i64 (NH r.s a).2],st):=by
 rw[Df.NI wl li h.S a (by omega)];unfold NH;split<;>rfl
theorem aa2(h:jm T J L r I st)(hs:r.s.length<1000000)(a j v:Int) :
  ∃st',st'.length=st.length/\(∀li,(aT S).call 0 li 125 [.ptr I.s 0 0 0,.int .i64 a,.int .i64 j,.int .i64 v] st=some (.int .i64 (uv r.s a j),st'))/\jm T J L { r with s:=F7 r.s a j v } I st':=by
 obtain⟨s1,t1,r1,f1,l1⟩:=Df.DO 0 h.S a j v (by omega);have e1:∀X:List (List Int),X.length=r.s.length->(X≠[]↔r.s≠[]):=λX hX=>by
  constructor;intro a b;rw[b]at hX;exact a (List.eq_nil_of_length_eq_zero hX);intro a b;rw[b]at hX;exact a (List.eq_nil_of_length_eq_zero hX.symm)
 have hp:Df.Zl r.s a j v=F7 r.s a j v:=rfl;refine⟨s1,l1,t1,?_⟩;rw[hp]at r1;exact h.VM (st':=s1) r1 (λk hk iR=>f1.2 k hk λhm=>iR (h.li k hm)) (λ_ _=>rfl) (λe=>h.lq ((e1 _ Ji).1 e)) h.li h.low
theorem NJ(h:jm T J L r I st)(hs:r.s.length<1000000)(n:Int) :
  ∃st' I',st.length<=st'.length/\(∀li,li<=J->(aT S).call 0 li 150 [.ptr I.s 0 0 0,.int .i64 n] st=some (.int .i64 (Ai r (vv n)).1,st'))/\I'.p=I.p/\I'.fl=I.fl/\jm T J L (Ai r (vv n)).2 I' st':=by
 obtain⟨s1,q1,v1,t1,r1,f1,a1,a2⟩:=Df.NJ h.S0 n hs;have hlp:=h.low _ (show I.qH I.s≠.no by rw[h.ls];decide);have hlq:=h.low _ (show I.qH (q0 r I)≠.no by rw[h.Jm];decide);exact⟨s1,I2 I st.length q1 v1,f1.1,λli hli=>t1 li (by omega) (by omega),rfl,rfl,h.alloc r1 f1 a1 (λe=>(a2 e).1)⟩
theorem NK(h:jm T J L r I st)(hs:r.s.length<1000000)(n:Int) :
  ∃st' I' v c,st.length<=st'.length/\(∀li,li<=J->(aT S).call 0 li 151 [.ptr I.s 0 0 0,.int .i64 n] st=some (.fF [.int .i64 v,.int .i64 c],st'))/\I'.p=I.p/\I'.fl=I.fl/\
   ((c=4/\v=0/\(n<0\/50<n)/\jm T J L r I' st')\/(c=0/\¬(n<0\/50<n)/\v=(Ai r n.toNat).1/\jm T J L (Ai r n.toNat).2 I' st')):=by
 by_cases hn:n<0\/50<n;exact⟨st,I,0,4,Nat.le_refl _,λli _=>Df.ad4 0 li n st hn,rfl,rfl,.inl ⟨rfl,rfl,hn,h⟩⟩;obtain⟨k,rfl⟩:∃k:Nat,n=k:=⟨n.toNat,by omega⟩;obtain⟨s1,q1,w1,t1,r1,f1,a1,a2⟩:=Df.NK h.S0 k hs (by omega);have hlp:=h.low _ (show I.qH I.s≠.no by rw[h.ls];decide);have hlq:=h.low _ (show I.qH (q0 r I)≠.no by rw[h.Jm];decide);exact⟨s1,I2 I st.length q1 w1,_,_,f1.1,λli hli=>t1 li (by omega) (by omega),rfl,rfl,.inr ⟨rfl,hn,rfl,h.alloc r1 f1 a1 (λe=>(a2 e).1)⟩⟩
end Bp
namespace Bp
open Ax Go bX V7 lf mG zj K9 S9
structure Prg (T:Px)(C:Cx)(D:Dm):Prop where
 eC:C.eC=T.fu
 fu:T.fu<1000000
 bs:C.bs=T.bs
 bz:C.bz=T.H.bZ.map (·.2.length)
 ng:C.ng=D.ng
 gl:D.ng<1000000
 nr:D.nr=T.H.bZ.length
 rs:∀s∈T.H.bZ,s.2.length<1000000
 ps:D.ps.length=T.bs.length
 pv:∀(i:Nat) (h:i<D.ps.length) (h2:i<T.bs.length),D.ps[i]<=T.bs[i].vars.length
 wb:∀b∈T.bs,WB D b.code/\rN b.vars.length b.code/\Sm.ey b.code<1000000000/\b.vars.length<1000000
 nb:T.bs.length<1000000000
def ji(I:Hq):Nat:=match I.fl with|a::_=>a.1 | []=>0
def PE(T:Px)(C:Cx)(D:Dm)(n:Nat)(fE:E->Fm->Rs->Int×Rs):Prop:=∀(J:Nat)(L:List Fm)(r:Rs)(I:Hq)(st:ai)(f:Fm)(e:E),jm T J (f::L) r I st->WE D e->FX f.vs.length e->E.sz e<1000000000->Gd C 0 r->C.eC<=r.cZ+n->
 ∃st' I',(aT S).call 0 J 123 [.ptr I.p 0 0 0,.ptr (ji I) 0 0 0,.agg e.aG] st=some (.int .i64 (fE e f r).1,st')/\I'.p=I.p/\I'.fl=I.fl/\jm T J (f::L) (fE e f r).2 I' st'
def PS(T:Px)(C:Cx)(D:Dm)(n:Nat)(fS:Sm->Rs×Fm->Rs×Fm):Prop:=∀(J:Nat)(L:List Fm)(r:Rs)(I:Hq)(st:ai)(f:Fm)(s:Sm),jm T J (f::L) r I st->WS D s->FY f.vs.length s->Sm.sz s<1000000000->Gd C 0 r->C.eC<=r.cZ+n->
 ∃st' I',(aT S).call 0 J 78 [.ptr I.p 0 0 0,.ptr (ji I) 0 0 0,.agg s.aG] st=some (.fF [],st')/\I'.p=I.p/\I'.fl=I.fl/\jm T J ((fS s (r,f)).2::L) (fS s (r,f)).1 I' st'
structure Hy (T:Px)(C:Cx)(D:Dm)(n:Nat)(fE:E->Fm->Rs->Int×Rs)(fS:Sm->Rs×Fm->Rs×Fm):Prop where
 oE:∀e f r,On r (fE e f r).2
 oS:∀s x,On x.1 (fS s x).1
 gE:GE C fE
 gS:GS C fS
 E:PE T C D n fE
 S:PS T C D n fS
variable {T:Px}{C:Cx}{D:Dm}{n:Nat}{fE:E->Fm->Rs->Int×Rs}{fS:Sm->Rs×Fm->Rs×Fm}{J:Nat}{L:List Fm}{r:Rs}{I:Hq}{st st':ai}{f:Fm}
def Ag(a:List Int)(x:Option (List Int)×Rs):Option (List Int)×Rs:=match x with|(some l,r)=>(some (a++l),r)|(none,r)=>(none,r)
def Ar(x:Option (List Int)):AV:=match x with|some l=>.fF [cC 1 (bp l),.bool true]|none=>.fF [.U,.bool false]
theorem Rv{e:E}{l:List E}:vals fE f (e::l) r=if (fE e f r).2.e≠0 then (none,(fE e f r).2) else match vals fE f l (fE e f r).2 with
  |(some vs,r2)=>(some ((fE e f r).1::vs),r2)
  |(none,r2)=>(none,r2):=rfl
theorem Rw{s:Sm}{l:List Sm}{x:Rs×Fm}:m8 fS (s::l) x=if x.2.done=true\/x.1.e≠0 then x else m8 fS l (fS s x):=rfl
theorem Jn(H:Hy T C D n fE fS)(l:List E)(h:jm T J (f::L) r I st)(hw:WL D l)(hr:x9 f.vs.length l)(eI:E.ey l<1000000000)(hG:Gd C 0 r)(hn:C.eC<=r.cZ+n) :
  ∃st' I',(aT S).call 0 J 100 [.ptr I.p 0 0 0,.ptr (ji I) 0 0 0,bf l] st=some (Ar (vals fE f l r).1,st')/\I'.p=I.p/\I'.fl=I.fl/\jm T J (f::L) (vals fE f l r).2 I' st':=by
 have hz:dg 11 (bf l)=true:=mY;have dw:aR (bf l)=true:=bP;have gn:(bf l).aa=bf l:=bS;have eM:bg (bf l)=E.rows l:=aZ;have hlen:=E.fo l;rw[Bo]at hw;rw[kJ]at hr;obtain⟨v',st',h1,rfl,I',h2⟩:∃v' st',(aT S).call 0 J 100 [.ptr I.p 0 0 0,.ptr (ji I) 0 0 0,bf l] st=some (v',st')/\v'=Ar (vals fE f l r).1/\∃I',I'.p=I.p/\I'.fl=I.fl/\jm T J (f::L) (vals fE f l r).2 I' st':=by
  refine qE (sf:=acH) rfl rfl rfl ?_;generalize bf l=lv at *;simp[acH,dw,gn,eM];refine bu OF.eq_1 (λx:Nat×List Int×Rs×Hq×ai×List AV=>⟨[(0,.val (.ptr I.p 0 0 0)),(1,.val (.ptr (ji I) 0 0 0)),(8,.val (cC 1 (bp x.2.1))),(11,.val lv),(12,.val (.int .i64 l.length)),(13,.val (.int .i64 x.1))],[x.2.2.2.2.2],x.2.2.2.2.1⟩)
   (λx=>x.1<=l.length/\x.2.1.length=x.1/\Ag x.2.1 (vals fE f (l.drop x.1) x.2.2.1)=vals fE f l r/\x.2.2.2.1.p=I.p/\x.2.2.2.1.fl=I.fl/\jm T J (f::L) x.2.2.1 x.2.2.2.1 x.2.2.2.2.1/\Gd C 0 x.2.2.1/\C.eC<=x.2.2.1.cZ+n) (λx=>l.length-x.1) (0,[],r,I,st,[]) (by simp[cC,bp]) ⟨by simp,rfl,?_,rfl,rfl,h,hG,hn⟩ ?_
  simp only[List.drop_zero];rcases vals fE f l r with⟨_|v,y⟩<;>rfl;rintro⟨k,acc,r1,I1,s1,b⟩ ⟨hk,ais,hp,ip,il,h1,g1,n1⟩ ih;simp only at hk ais hp ip il h1 g1 n1 ih;by_cases bw:k<l.length;have FZ:=wk k (by omega);have hm:=List.getElem_mem bw;obtain⟨s2,I2,eF,ip2,il2,h2⟩:=H.E J L r1 I1 s1 f l[k] h1 (hw _ hm) (hr _ hm) (by have:=E.cR hm;omega) g1 n1;have Rx:=H.oE l[k] f r1;have g2:=(H.gE 0 l[k] f r1 g1).1;have et:ji I1=ji I:=by unfold ji;rw[il]
  rw[et,ip]at eF;rw[List.drop_eq_getElem_cons bw,Rv]at hp;have gE:=Hi bw;have wJ:k<(E.rows l).length:=by simpa [gd] using bw
  have uE:=Bl bw wJ;have e1:aR (bf l[k].ay)=true:=bP;have e2:(bf l[k].ay).aa=bf l[k].ay:=bS;have en:=λwl li=>ux wl li h2;rw[ip2,ip]at en;have qi:x7 1 8 (cC 1 (bp acc)) [[.int .i64 (fE l[k] f r1).1]]=some (cC 1 (bp (acc++[(fE l[k] f r1).1]))):=by
   rw[gm (by rfl) (by simp[dx];omega)];simp
  rw[E.aB]at eF gE uE;by_cases q:(fE l[k] f r1).2.e=0;rw[if_neg (by simpa using q)]at hp;have yu:Ag (acc++[(fE l[k] f r1).1]) (vals fE f (l.drop (k+1)) (fE l[k] f r1).2)=vals fE f l r:=by
   rw[<-hp];rcases vals fE f (l.drop (k+1)) (fE l[k] f r1).2 with⟨_|v,y⟩
   rfl
   simp[Ag]
  have iF:=λb=>ih (k+1,acc++[(fE l[k] f r1).1],(fE l[k] f r1).2,I2,s2,b) ⟨by simp only;omega,by simp[ais],yu,by rw[ip2,ip],by rw[il2,il],h2,g2,by have:=Rx.st;simp only;omega⟩ (by simp only;omega);simp only at iF;generalize fE l[k] f r1=y at *;generalize l[k]=x at *;generalize bf x.ay=xe at *;have g0:aR (cC 1 (bp acc))=true:=dz;have g1:aR (cC 1 (bp (acc++[y.1])))=true:=dz;generalize cC 1 (bp (acc++[y.1]))=m1 at *;generalize cC 1 (bp acc)=m0 at *;simp[bw,FZ,hz,gn,eM,uE,eF,e1,e2,en,q,qi,ah,AV.aa];exact iF _;rw[if_pos (by simpa using q)]at hp;have yu:vals fE f l r=(none,(fE l[k] f r1).2):=by rw[<-hp];rfl
  rw[yu];generalize fE l[k] f r1=y at *;generalize l[k]=x at *;generalize bf x.ay=xe at *;have g0:aR (cC 1 (bp acc))=true:=dz;have g1:aR (cC 1 (bp (acc++[y.1])))=true:=dz;generalize cC 1 (bp (acc++[y.1]))=m1 at *;generalize cC 1 (bp acc)=m0 at *;simp[bw,hz,gn,eM,uE,eF,e1,e2,en,q,qi,ah,AV.aa,cP];exact⟨rfl,I2,by rw[ip2,ip],by rw[il2,il],h2⟩;have j8:k=l.length:=by omega
  rw[j8,List.drop_length]at hp;have yu:vals fE f l r=(some acc,r1):=by rw[<-hp];simp[vals,Ag]
  rw[yu];have g0:aR (cC 1 (bp acc))=true:=dz;have RR:Ar (some acc)=.fF [cC 1 (bp acc),.bool true]:=rfl;simp only[RR];generalize cC 1 (bp acc)=m0 at *;simp[bw,cP];exact⟨I1,ip,il,h1⟩
 exact⟨st',I',h1,h2⟩
theorem fM(H:Hy T C D n fE fS)(l:List Sm)(h:jm T J (f::L) r I st)(hw:WB D l)(hr:rN f.vs.length l)(eI:Sm.ey l<1000000000)(hG:Gd C 0 r)(hn:C.eC<=r.cZ+n) :
  ∃st' I',(aT S).call 0 J 49 [.ptr I.p 0 0 0,.ptr (ji I) 0 0 0,bF l] st=some (.fF [],st')/\I'.p=I.p/\I'.fl=I.fl/\jm T J ((m8 fS l (r,f)).2::L) (m8 fS l (r,f)).1 I' st':=by
 have hz:dg 9 (bF l)=true:=Db;have dw:aR (bF l)=true:=bN;have gn:(bF l).aa=bF l:=bQ;have eM:bg (bF l)=Sm.rows l:=aZ;have hlen:=Sm.fo l;rw[VF]at hw;rw[rO]at hr;obtain⟨v',st',h1,rfl,I',h2⟩:∃v' st',(aT S).call 0 J 49 [.ptr I.p 0 0 0,.ptr (ji I) 0 0 0,bF l] st=some (v',st')/\v'=.fF []/\∃I',I'.p=I.p/\I'.fl=I.fl/\jm T J ((m8 fS l (r,f)).2::L) (m8 fS l (r,f)).1 I' st':=by
  refine qE (sf:=s49) rfl rfl rfl ?_;generalize bF l=lv at *;simp[s49,dw,gn,eM];refine bu Ua.eq_1 (λx:Nat×(Rs×Fm)×Hq×ai×List AV=>⟨[(0,.val (.ptr I.p 0 0 0)),(1,.val (.ptr (ji I) 0 0 0)),(8,.val lv),(9,.val (.int .i64 l.length)),(10,.val (.int .i64 x.1))],[x.2.2.2.2],x.2.2.2.1⟩)
   (λx=>x.1<=l.length/\m8 fS (l.drop x.1) x.2.1=m8 fS l (r,f)/\x.2.2.1.p=I.p/\x.2.2.1.fl=I.fl/\jm T J (x.2.1.2::L) x.2.1.1 x.2.2.1 x.2.2.2.1/\Gd C 0 x.2.1.1/\x.2.1.2.vs.length=f.vs.length/\C.eC<=x.2.1.1.cZ+n) (λx=>l.length-x.1) (0,(r,f),I,st,[]) (by simp) ⟨by simp,by simp,rfl,rfl,h,hG,rfl,hn⟩ ?_
  rintro⟨k,⟨r1,f1⟩,I1,s1,b⟩ ⟨hk,hp,ip,il,h1,g1,v1,n1⟩ ih;simp only at hk hp ip il h1 g1 v1 n1 ih;by_cases bw:k<l.length;have FZ:=wk k (by omega);have hm:=List.getElem_mem bw;have gE:=Jc bw;have wJ:k<(Sm.rows l).length:=by simpa using bw
  have uE:=Dd bw wJ;obtain⟨e1,b1,l1⟩:aR (bf l[k].es)=true/\aR (bF l[k].bd)=true/\aR (bF l[k].el)=true:=⟨bP,bN,bN⟩;have e2:(bf l[k].es).aa=bf l[k].es:=bS;have b2:(bF l[k].bd).aa=bF l[k].bd:=bQ;have l2:(bF l[k].el).aa=bF l[k].el:=bQ;have et:ji I1=ji I:=by unfold ji;rw[il]
  have en:=λwl li=>ux wl li h1;rw[ip]at en;obtain⟨c1,c2,hc,t1,t2,t3⟩:=h1.top;have tp:ji I=c1.1:=by rw[<-et];unfold ji;rw[hc]
  rw[List.drop_eq_getElem_cons bw,Rw]at hp;by_cases q:f1.done=true\/r1.e≠0;rw[if_pos q]at hp;rw[<-hp];rw[Sm.aB]at gE uE;generalize l[k]=x at *;generalize bf x.es=xe at *;generalize bF x.bd=xb at *;generalize bF x.el=xl at *;by_cases qd:f1.done=true;simp[bw,hz,gn,eM,uE,e1,b1,l1,e2,b2,l2,tp,t1,rU,cut,qd,ah,AV.aa,cP];exact⟨I1,ip,il,h1⟩;have qe:r1.e≠0:=by rcases q with q|q;exact absurd q qd;exact q
  simp[bw,hz,gn,eM,uE,e1,b1,l1,e2,b2,l2,tp,t1,rU,cut,qd,qe,en,ah,AV.aa,cP];exact⟨I1,ip,il,h1⟩;rw[if_neg q]at hp;obtain⟨s2,I2,eF,ip2,il2,h2⟩:=H.S J L r1 I1 s1 f1 l[k] h1 (hw _ hm) (by rw[v1];exact hr _ hm) (by have:=Sm.cR hm;omega) g1 n1;have Rx:=H.oS l[k] (r1,f1);obtain⟨g2,_,v2⟩:=H.gS 0 l[k] (r1,f1) g1;rw[et,ip]at eF;have qd:f1.done=false:=by cases hd:f1.done with|false=>rfl|true=>exact absurd (.inl hd) q
  have qe:r1.e=0:=Decidable.byContradiction λc=>q (.inr c);have iF:=λb=>ih (k+1,fS l[k] (r1,f1),I2,s2,b) ⟨by simp only;omega,hp,by rw[ip2,ip],by rw[il2,il],h2,g2,by simp only at v2 ⊢;rw[v2,v1],by have:=Rx.st;simp only at this ⊢;omega⟩ (by simp only;omega);simp only at iF;rw[Sm.aB]at eF gE uE;generalize l[k]=x at *;generalize bf x.es=xe at *;generalize bF x.bd=xb at *;generalize bF x.el=xl at *;rw[tp]at eF;simp[bw,FZ,hz,gn,eM,uE,eF,e1,b1,l1,e2,b2,l2,tp,t1,rU,cut,qd,qe,en,ah,AV.aa];rw[<-tp];exact iF _;have j8:k=l.length:=by omega
  rw[j8,List.drop_length]at hp;have yu:m8 fS l (r,f)=(r1,f1):=by rw[<-hp];rfl
  rw[yu];simp[bw,lR];exact⟨I1,ip,il,h1⟩
 exact⟨st',I',h1,h2⟩
end Bp
namespace Bp
open Ax Go bX V7 lf mG zj K9 S9
variable {T:Px}{C:Cx}{D:Dm}{n:Nat}{fE:E->Fm->Rs->Int×Rs}{fS:Sm->Rs×Fm->Rs×Fm}{J:Nat}{L:List Fm}{r:Rs}{I:Hq}{st st':ai}{f:Fm}
theorem Zq{J id v:Nat}{old new:List Int}{st:ai}{bx:aX}(h:st[id]?=some (.rows v 1 (bp old)))(hn:new.length<=old.length) :
  aP 0 J (.copy 1) [.val (.mu id v),.val (aK 1 (bp new))] st bx=some (.val (.int .i64 new.length),st.set id (.rows v 1 (bp (new++old.drop new.length))),bx):=by
 have hf:bV 1 (bp new)=true:=by simp[bV,bp]
 have hp:(bp new).all AV.af=true:=by simp[bp,AV.af,AV.au]
 have hb:cV st (aK 1 (bp new))=some (bp new):=by
  cases new with
  |nil=>rfl|cons a b=>rfl
 simp only[aP,h,hb];simp[hf,hp,hn]
theorem xD(K:Prg T C D)(H:Hy T C D n fE fS)(i:Int)(l:List Int)(h:jm T J L r I st)(hi:0<=i)(hb:i.toNat<T.bs.length)(hl:l.length<=(T.bs[i.toNat]).vars.length)(hG:Gd C 0 r)(hn:C.eC<=r.cZ+n) :
  ∃st' I',(aT S).call 0 J 30 [.ptr I.p 0 0 0,.int .i64 i,aK 1 (bp l)] st=some (.int .i64 (fQ C fS i l r).1,st')/\I'.p=I.p/\I'.fl=I.fl/\jm T J L (fQ C fS i l r).2 I' st':=by
 have hP:=h.P;have hnf:=hG.nf;by_cases h40:40<=r.nf;obtain⟨s1,l1,t1,r1⟩:=Aq h 6;have ec:fQ C fS i l r=(0,kL r 6):=by unfold fQ;rw[if_pos h40]
 rw[ec];have c40:(40:Int)<=(r.nf:Int):=by omega
 refine⟨s1,I,?_,rfl,rfl,r1⟩;refine an (sf:=s30) rfl rfl rfl ?_;simp[s30,hP,kN,cut,c40,t1];obtain⟨k,rfl⟩:∃k:Nat,i=k:=⟨i.toNat,by omega⟩;have hk:k<T.bs.length:=by omega
 simp only[Int.toNat_natCast]at hl hb;obtain⟨w1,w2,w3,w4⟩:=K.wb _ (List.getElem_mem hk);have egd:C.bs.getD k B0=T.bs[k]:=by rw[K.bs];simp[hk]
 have c40:¬(40:Int)<=(r.nf:Int):=by omega
 have Fw:=wk r.nf (by omega);have R1:=h.aG { r with nf:=r.nf+1 } I.iv rfl rfl rfl h.iv;obtain⟨s1,xy⟩:∃s,s=st.set I.p (.rows 0 14 [kN T I.s I.iv I.g (r.nf+1) r.e r.code (sv r I) r.cZ]):=⟨_,rfl⟩;have R1':jm T J L { r with nf:=r.nf+1 } I s1:=by rw[xy];exact R1
 have P1:=R1'.P;obtain⟨s2,AY⟩:∃s,s=s1++[.rows 0 1 (bp (List.replicate T.bs[k].vars.length 0)),.rows 0 3 [rU ⟨[],0,false⟩ s1.length]]:=⟨_,rfl⟩;have P2:s2[I.p]?=some (.rows 0 14 [kN T I.s I.iv I.g (r.nf+1) r.e r.code (sv r I) r.cZ]):=by rw[AY,List.getElem?_append_left (lS P1)];exact P1
 have v2:s2[s1.length]?=some (.rows 0 1 (bp (List.replicate T.bs[k].vars.length 0))):=by rw[AY];simp
 have f2:s2[s1.length+1]?=some (.rows 0 3 [rU ⟨[],0,false⟩ s1.length]):=by rw[AY];simp
 have cp:=λli bx=>Zq (J:=li) (bx:=bx) (new:=l) v2 (by simpa using hl);have anp:l++(List.replicate T.bs[k].vars.length (0:Int)).drop l.length=l++List.replicate (T.bs[k].vars.length-l.length) 0:=by rw[List.drop_replicate]
 rw[anp]at cp;obtain⟨s3,Pq⟩:∃s,s=s2.set s1.length (.rows 0 1 (bp (l++List.replicate (T.bs[k].vars.length-l.length) 0))):=⟨_,rfl⟩;rw[<-Pq]at cp;have o3:∀j,j<s1.length->s3[j]?=s1[j]?:=λj hj=>by rw[Pq,List.getElem?_set_ne (by omega),AY,List.getElem?_append_left hj]
 have f3:s3[s1.length+1]?=some (.rows 0 3 [rU ⟨[],0,false⟩ s1.length]):=by rw[Pq,List.getElem?_set_ne (by omega)];exact f2
 have v3:s3[s1.length]?=some (.rows 0 1 (bp (l++List.replicate (T.bs[k].vars.length-l.length) 0))):=by rw[Pq];exact List.getElem?_set_self (lS v2)
 have P3:s3[I.p]?=some (.rows 0 14 [kN T I.s I.iv I.g (r.nf+1) r.e r.code (sv r I) r.cZ]):=by rw[o3 _ (lS P1)];exact P1
 have R3:=R1'.push (a:=s1.length) (b:=s1.length+1) (g:=⟨l++List.replicate (T.bs[k].vars.length-l.length) 0,0,false⟩) o3 (Nat.le_refl _) (by omega) (by omega) f3 v3;have G3:Gd C 0 { r with nf:=r.nf+1 }:=⟨hG.s,hG.o,hG.g,hG.st,by show r.nf+1<=40;omega⟩;have RR:(l++List.replicate (T.bs[k].vars.length-l.length) (0:Int)).length=T.bs[k].vars.length:=by simp;omega
 have hrf:rN (l++List.replicate (T.bs[k].vars.length-l.length) (0:Int)).length T.bs[k].code:=by rw[RR];exact w2
 obtain⟨s4,I4,eF,ip,il,R4⟩:=fM H T.bs[k].code R3 w1 hrf w3 G3 hn;simp only[ji]at eF;have ec:fQ C fS (k:Int) l r=((m8 fS T.bs[k].code ({ r with nf:=r.nf+1 },⟨l++List.replicate (T.bs[k].vars.length-l.length) 0,0,false⟩)).2.res,{ (m8 fS T.bs[k].code ({ r with nf:=r.nf+1 },⟨l++List.replicate (T.bs[k].vars.length-l.length) 0,0,false⟩)).1 with nf:=(m8 fS T.bs[k].code ({ r with nf:=r.nf+1 },⟨l++List.replicate (T.bs[k].vars.length-l.length) 0,0,false⟩)).1.nf-1 }):=by
  unfold fQ;rw[if_neg h40,Int.toNat_natCast,egd]
 have G4:=xT H.gS T.bs[k].code 0 ({ r with nf:=r.nf+1 },⟨l++List.replicate (T.bs[k].vars.length-l.length) 0,0,false⟩) G3;rw[ec];generalize m8 fS T.bs[k].code ({ r with nf:=r.nf+1 },⟨l++List.replicate (T.bs[k].vars.length-l.length) 0,0,false⟩)=y at *;obtain⟨y1,y2⟩:=y;simp only at R4 G4 ⊢;obtain⟨_,G4n,_⟩:=G4;have P4:=R4.P;obtain⟨c1,c2,hc,t1,t2,t3,t4,t5,t6,t7⟩:=R4.top;rw[il]at hc;cases hc;simp only at t1 t2 t4 t5;have R5:=R4.pop (by rw[il]);have R6:=R5.aG { y1 with nf:=y1.nf-1 } I4.iv rfl rfl rfl R4.iv;have GP:IntKind.i64.wrap ((y1.nf:Int)-1)=((y1.nf-1:Nat):Int):=by rw[dn]<;>omega
 have iR:I4.p≠s1.length+1:=NL R4.lp t5 (by decide);rw[ip]at P4 iR;simp only at P4 iR;obtain⟨s5,Zr⟩:∃s,s=s4.set I.p (.rows 0 14 [kN T I4.s I4.iv I4.g (y1.nf-1) y1.e y1.code (sv y1 I4) y1.cZ]):=⟨_,rfl⟩;have f5:s5[s1.length+1]?=some (.rows 0 3 [rU y2 s1.length]):=by rw[Zr,List.getElem?_set_ne iR];exact t1
 refine⟨s5,{ I4 with fl:=I.fl },?_,ip,rfl,by rw[Zr,<-ip];exact R6⟩;have hlp:=h.Jl;have Od:(T.bs.map Bd.aG)[k]?=some [cM T.bs[k].vars,bF T.bs[k].code,.int .i64 T.bs[k].a]:=by simp[hk,Bd.aG]
 have hkm:k<(T.bs.map Bd.aG).length:=by simpa using hk
 have anq:(T.bs.map Bd.aG)[k]=[cM T.bs[k].vars,bF T.bs[k].code,.int .i64 T.bs[k].a]:=by simp[Bd.aG]
 have z1:aR (cM T.bs[k].vars)=true:=ig;have z2:(cM T.bs[k].vars).aa=cM T.bs[k].vars:=iQ;have z3:aR (bF T.bs[k].code)=true:=bN;have z4:(bF T.bs[k].code).aa=bF T.bs[k].code:=bQ;have z5:bg (cM T.bs[k].vars)=T.bs[k].vars.map Vd.aG:=aZ;have b1:dg 3 (aK 3 (T.bs.map Bd.aG))=true:=fZ (by simp[bV,Bd.aG]);have b2:(aK 3 (T.bs.map Bd.aG)).aa=aK 3 (T.bs.map Bd.aG):=bO;have b3:bg (aK 3 (T.bs.map Bd.aG))=T.bs.map Bd.aG:=aZ;have b4:aR (aK 3 (T.bs.map Bd.aG))=true:=bL;have a1:aR (aK 1 (bp l))=true:=bL;have a2:(aK 1 (bp l)).aa=aK 1 (bp l):=bO;have sR:(T.bs[k].vars.length:Int)*8<=dx:=by unfold dx;omega
 have hint:List.replicate T.bs[k].vars.length [AV.int .i64 0]=bp (List.replicate T.bs[k].vars.length 0):=by simp[bp]
 simp only[kN]at hP P1 P2 P3 P4 xy Zr;simp only[rU]at AY f2 f3 f5
 push_cast at P1 P2 P3 xy
 refine an (sf:=s30) rfl rfl rfl ?_;generalize aK 3 (T.bs.map Bd.aG)=BV at *;generalize aK 1 (bp l)=AL at *;have q2:s1++[.rows 0 1 (bp (List.replicate T.bs[k].vars.length 0)),.rows 0 3 [[.mu s1.length 0,.int .i64 0,.bool false]]]=s2:=AY.symm;have arl:∀y,(s4.set I.p y)[s1.length+1]?=s4[s1.length+1]?:=λy=>List.getElem?_set_ne iR;simp only[rU]at t1;simp[s30,hP,cut,c40,Fw,xy.symm,P1,b1,b2,b3,hk,anq,sR,hint,q2,f2,cp,P3,z4,eF,P4,GP,Zr.symm,f5]
end Bp
namespace Bp
open Ax Go bX V7 lf mG zj K9 S9
variable {T:Px}{C:Cx}{D:Dm}{n:Nat}{fE:E->Fm->Rs->Int×Rs}{fS:Sm->Rs×Fm->Rs×Fm}{J:Nat}{L:List Fm}{r:Rs}{I:Hq}{st st':ai}{f:Fm}
theorem As:∀{l:List E}{r:Rs}{vs:List Int}{r2:Rs},vals fE f l r=(some vs,r2)->vs.length=l.length
 |[],r,vs,r2,e=>by unfold vals at e;cases e;rfl|x::l,r,vs,r2,e=>by
  unfold vals at e;split at e;cases e;split at e;rename_i h2;cases e;simp[As h2];cases e
theorem Jo{l:List Int}(h:l.length=1):l=[r9 l]:=by
 match l,h with
 |[a],_=>rfl
theorem ad8{l:List Int}(h:l.length=2):l=[r9 l,Mp l]:=by
 match l,h with
 |[a,b],_=>rfl
theorem ad9(h:jm T J (f::L) r I st){ref:Int}(h1:ref<f.vs.length)(h2 : -1-ref<r.g.length)(hb:r.g.length<1000000) :
  ∃j k,(∀wl li,(aT S).call wl li 101 [.ptr I.p 0 0 0,.ptr (ji I) 0 0 0,.int .i64 ref] st=some (.ptr j 0 k 0,st))/\st[j]?=some (.rows 0 1 (bp (if ref<0 then r.g else f.vs)))/\(bp (if ref<0 then r.g else f.vs))[k]?=some [.int .i64 (zj.Af f r ref)]:=by
 obtain⟨a,b,ha,t1,t2,_⟩:=h.top;have et:ji I=a.1:=by unfold ji;rw[ha]
 rw[et];by_cases q:ref<0;obtain⟨k,rfl⟩:∃k:Nat,ref = -1-(k:Int):=⟨(-1-ref).toNat,by omega⟩;have hk:k<r.g.length:=by omega
 refine⟨I.g,k,λwl li=>aaY wl li h _ hk hb,by rw[if_pos q];exact h.G,?_⟩;have e:(-1-(-1-(k:Int))).toNat=k:=by omega
 unfold zj.Af;rw[if_pos q,if_pos q,e];simp[bp,hk];obtain⟨k,rfl⟩:∃k:Nat,ref=(k:Int):=⟨ref.toNat,by omega⟩;have hk:k<f.vs.length:=by omega
 refine⟨a.2,k,λwl li=>aaZ wl li h ha hk,by rw[if_neg q];exact t2,?_⟩;unfold zj.Af;rw[if_neg q,if_neg q];simp[bp,hk]
theorem jH(K:Prg T C D){N:Nat}{gE:E->Fm->Rs->Int×Rs}(iz:∀e f r,tg C r=false->gE e f r=(0,stop r))(abH:∀e f r,tg C r=true->N≠0->gE e f r=mK C fE fS e f (dm r))
  (HN:∀n,N=n+1->Hy T C D n fE fS):PE T C D N gE:=by
 intro J L r I st f e h hw hr eI hG hn;obtain⟨s1,l1,t1,R1⟩:=zM h (by have:=K.fu;omega) C K.eC;have e1:aR (bf e.ay)=true:=bP;have e2:(bf e.ay).aa=bf e.ay:=bS;rw[E.aB];by_cases ho:tg C r=true
 ·rw[if_pos ho]at R1;obtain⟨n,rfl⟩:∃n,N=n+1:=⟨N-1,by have:=(Ao.1 ho).2;omega⟩;have H:=HN n rfl;rw[abH _ _ _ ho (by omega)];rw[ho]at t1;have G1:Gd C 1 (dm r):=hG.dm ho;have G0:Gd C 0 (dm r):=G1.u0 (by omega);have hn1:C.eC<=(dm r).cZ+n:=by show C.eC<=r.cZ+1+n;omega
  rw[Ph]at hw;rw[xO]at hr;have hsk:=E.vp e;obtain⟨s2,I2,t2,ip,il,R2⟩:=Jn H e.ay R1 hw.2 hr.2 (by omega) G0 hn1;have Rx:=xS H.oE f e.ay (dm r);have G2:=(vA H.gE f e.ay 1 (dm r) G1).1;have hte:(dm r).e=0:=(Ao.1 ho).1;cases hv:vals fE f e.ay (dm r) with
  |mk o r2=>
  rw[hv]at t2 R2 Rx G2;simp only at R2 Rx G2;have hlen:∀l,o=some l->l.length=e.ay.length:=λl hl=>As (by rw[hv,hl]);have he0:∀l,o=some l->r2.e=0:=λl hl=>De (fE:=fE) (f:=f) e.ay (dm r) hte l r2 (by rw[hv,hl]);cases o with
  |none=>
   have ex:mK C fE fS e f (dm r)=(0,r2):=(by unfold mK;rw[hv]);rw[ex];refine⟨s2,I2,?_,ip,il,R2⟩;refine an (sf:=Nf) rfl rfl rfl ?_;simp only[Ar]at t2;generalize bf e.ay=KV at *;simp[Nf,t1,t2,e1,e2,ir.b8,AV.aa]
  |some l=>
   have ex:mK C fE fS e f (dm r)=j6 C (fQ C fS) e.k e.n e.ref e.ty.r f l r2:=(by unfold mK;rw[hv]);rw[ex];have hl:=hlen l rfl;have Ww:=he0 l rfl;obtain⟨⟨k1,k24⟩,kg,k1a,k2a,kc,kn,kf⟩:=hw.1;have Ws:=hr.1;have hP:=R2.P;have hS2:r2.s.length<1000000:=(by have:=G2.s;have:=G2.st;have:=K.eC;have:=K.fu;omega);have Pa:=G2.g;have et:ji I2=ji I:=(by unfold ji;rw[il]);rw[ip]at hP;have m1:aR (cC 1 (bp l))=true:=dz;have m2:(cC 1 (bp l)).aa=aK 1 (bp l):=rfl;have m3:aR (aK 1 (bp l))=true:=bL;have m4:(aK 1 (bp l)).aa=aK 1 (bp l):=bO;have m5:bg (aK 1 (bp l))=bp l:=aZ;have m6:dg 1 (aK 1 (bp l))=true:=fZ (by simp[bV,bp]);obtain⟨v',st',h1,rfl,h2⟩:∃v' st',(aT S).call 0 J 123 [.ptr I.p 0 0 0,.ptr (ji I) 0 0 0,.agg [.int .i64 e.k,.int .i64 e.n,.str e.nm,.str e.on,.int .i64 e.od,bf e.ay,.int .i64 e.a,.int .i64 e.ty.b,.int .i64 e.ty.r,.int .i64 e.ty.d,.int .i64 e.ref]] st=some (v',st')/\
     v'=.int .i64 (j6 C (fQ C fS) e.k e.n e.ref e.ty.r f l r2).1/\∃I',I'.p=I.p/\I'.fl=I.fl/\jm T J (f::L) (j6 C (fQ C fS) e.k e.n e.ref e.ty.r f l r2).2 I' st':=by
    refine qE (sf:=Nf) rfl rfl rfl ?_;simp only[Ar]at t2;generalize bf e.ay=KV at *;generalize cC 1 (bp l)=MV at *;generalize hLV:aK 1 (bp l)=LV at *;simp[Nf,t1,t2,e1,e2,m2,ir.b8,AV.aa];by_cases c1:e.k=1;have ep:j6 C (fQ C fS) e.k e.n e.ref e.ty.r f l r2=(e.n,r2):=(by simp[j6,c1]);rw[ep];simp[c1,cP];exact⟨I2,ip,il,R2⟩;by_cases c2:e.k=2;have ep:j6 C (fQ C fS) e.k e.n e.ref e.ty.r f l r2=(e.n,r2):=(by simp[j6,c2]);rw[ep];simp[c2,cP];exact⟨I2,ip,il,R2⟩;by_cases c4:e.k=4;have ep:j6 C (fQ C fS) e.k e.n e.ref e.ty.r f l r2=(zj.Af f r2 e.ref,r2):=(by simp[j6,c4]);rw[ep];have Od:=K.gl;obtain⟨j,k,v1,v2,v3⟩:=ad9 R2 (Ws c4) (by rw[Pa,K.ng];exact kg c4) (by rw[Pa,K.ng];exact Od);rw[et,ip]at v1;generalize bp (if e.ref<0 then r2.g else f.vs)=G at *;simp[c4,cP,v1,v2,cut,v3];exact⟨I2,ip,il,R2⟩;by_cases c5:e.k=5;obtain⟨a,rfl⟩:∃a,l=[a]:=⟨_,Jo (by rw[hl];exact k1a (.inl c5))⟩;have ep:j6 C (fQ C fS) e.k e.n e.ref e.ty.r f [a] r2=F8 r2 (vL r2.s a e.ref):=(by simp[j6,c5,r9]);rw[ep];have ld:=λwl li=>aa1 wl li R2 hS2 a e.ref;obtain⟨s3,l3,t3,R3⟩:=Bq R2 (vL r2.s a e.ref).1 (vL r2.s a e.ref).2;rw[ip]at t3;simp[c5,cP,aF,aC,hP,kN,cut,m5,m6,bp,ld,t3];exact⟨rfl,I2,ip,il,R3⟩;by_cases c6:e.k=6;obtain⟨a,b,rfl⟩:∃a b,l=[a,b]:=⟨_,_,ad8 (by rw[hl];exact k2a (.inl c6))⟩;have ep:j6 C (fQ C fS) e.k e.n e.ref e.ty.r f [a,b] r2=F8 r2 (vL r2.s a b):=(by simp[j6,c6,r9,Mp]);rw[ep];have ld:=λwl li=>aa1 wl li R2 hS2 a b;obtain⟨s3,l3,t3,R3⟩:=Bq R2 (vL r2.s a b).1 (vL r2.s a b).2;rw[ip]at t3;simp[c6,cP,aF,aC,hP,kN,cut,m5,m6,bp,ld,t3];exact⟨rfl,I2,ip,il,R3⟩;by_cases vR:e.k=10;obtain⟨a,rfl⟩:∃a,l=[a]:=⟨_,Jo (by rw[hl];exact k1a (by omega))⟩;have ep:j6 C (fQ C fS) e.k e.n e.ref e.ty.r f [a] r2=F8 r2 (NH r2.s a):=(by simp[j6,vR,r9]);rw[ep];have ld:=λwl li=>NI wl li R2 hS2 a;obtain⟨s3,l3,t3,R3⟩:=Bq R2 (NH r2.s a).1 (NH r2.s a).2;rw[ip]at t3;simp[vR,cP,aF,aC,hP,kN,cut,m5,m6,bp,ld,t3];exact⟨rfl,I2,ip,il,R3⟩;by_cases c8:e.k=8;have ep:j6 C (fQ C fS) e.k e.n e.ref e.ty.r f l r2=Ai r2 (vv (C.bz.getD e.ty.r.toNat 0:Nat)):=(by simp[j6,c8]);rw[ep];obtain⟨kn1,kn2⟩:=kn c8;rw[K.nr]at kn2;obtain⟨q,hq⟩:∃q:Nat,e.ty.r=q:=⟨e.ty.r.toNat,by omega⟩;have hq2:q<T.H.bZ.length:=(by omega);have eq1:C.bz.getD e.ty.r.toNat 0=T.H.bZ[q].2.length:=(by rw[K.bz,hq];simp[hq2]);rw[eq1];obtain⟨s3,I3,l3,t3,Hr,LN,R3⟩:=NJ R2 hS2 (T.H.bZ[q].2.length:Nat);have b1:dg 2 (aK 2 (T.H.bZ.map gV))=true:=fZ (by simp[bV,gV]);have b2:(aK 2 (T.H.bZ.map gV)).aa=aK 2 (T.H.bZ.map gV):=bO;have b3:bg (aK 2 (T.H.bZ.map gV))=T.H.bZ.map gV:=aZ;have z1:aR (cM T.H.bZ[q].2)=true:=ig;have z2:(cM T.H.bZ[q].2).aa=cM T.H.bZ[q].2:=iQ;have z5:bg (cM T.H.bZ[q].2)=T.H.bZ[q].2.map Vd.aG:=aZ;simp only[kN]at hP;generalize aK 2 (T.H.bZ.map gV)=BV at *;simp[c8,cP,aF,aC,hP,cut,hq,b1,b2,b3,hq2,gV,z1,z2,z5,t3];exact⟨I3,by rw[Hr,ip],by rw[LN,il],R3⟩;by_cases c9:e.k=9;obtain⟨a,rfl⟩:∃a,l=[a]:=⟨_,Jo (by rw[hl];exact k1a (by omega))⟩;have ep:j6 C (fQ C fS) e.k e.n e.ref e.ty.r f [a] r2=Aj r2 a:=(by simp[j6,c9,r9]);rw[ep];obtain⟨s3,I3,v,c,l3,t3,Hr,LN,R3⟩:=NK R2 hS2 a;rcases R3 with⟨rfl,rfl,ha,R3⟩|⟨rfl,ha,rfl,R3⟩;obtain⟨s4,l4,t4,R4⟩:=Bq R3 0 4;rw[Hr,ip]at t4;have em:Aj r2 a=(0,kL r2 4):=(by unfold Aj;rw[if_pos ha]);rw[em];simp[c9,cP,aF,aC,hP,kN,cut,m5,m6,bp,t3,t4];exact⟨I3,by rw[Hr,ip],by rw[LN,il],R4⟩;obtain⟨s4,l4,t4,R4⟩:=Bq R3 (Ai r2 a.toNat).1 0;rw[Hr,ip]at t4;have em:Aj r2 a=Ai r2 a.toNat:=(by unfold Aj;rw[if_neg ha]);rw[em];simp[c9,cP,aF,aC,hP,kN,cut,m5,m6,bp,t3,t4];exact⟨I3,by rw[Hr,ip],by rw[LN,il],R4⟩;by_cases zl:e.k=11;have ep:j6 C (fQ C fS) e.k e.n e.ref e.ty.r f l r2=wT r2:=(by simp[j6,zl]);rw[ep];obtain⟨s3,I3,l3,t3,Hr,LN,R3⟩:=Zn R2;rw[ip]at t3;simp[zl,cP,t3];exact⟨I3,by rw[Hr,ip],by rw[LN,il],R3⟩;by_cases c7:e.k=7;have ep:j6 C (fQ C fS) e.k e.n e.ref e.ty.r f l r2=fQ C fS e.ref l r2:=(by simp[j6,c7]);rw[ep];obtain⟨kc1,kc2,kc3⟩:=kc c7;have hb:e.ref.toNat<T.bs.length:=(by rw[<-K.ps];exact kc2);obtain⟨s3,I3,t3,Hr,LN,R3⟩:=xD K H e.ref l R2 kc1 hb (by rw[hl,kc3];exact K.pv _ kc2 hb) (G2.u0 (by omega)) (by have:=Rx.st;omega);rw[ip,hLV]at t3;simp[c7,cP,t3];exact⟨I3,by rw[Hr,ip],by rw[LN,il],R3⟩;by_cases c3:e.k=3;have ep:j6 C (fQ C fS) e.k e.n e.ref e.ty.r f l r2=(0,r2):=(by simp[j6,c3]);rw[ep];simp[c3,cP];exact⟨I2,ip,il,R2⟩;by_cases AK:e.k=12;obtain⟨a,rfl⟩:∃a,l=[a]:=⟨_,Jo (by rw[hl];exact k1a (by omega))⟩;have ep:j6 C (fQ C fS) e.k e.n e.ref e.ty.r f [a] r2=(unI 12 a,r2):=(by simp[j6,AK,r9]);rw[ep];have un:=λwl li st=>aa0 wl li 12 a st;simp[AK,cP,aF,aC,m5,m6,bp,un];exact⟨I2,ip,il,R2⟩;by_cases AM:e.k=13;obtain⟨a,rfl⟩:∃a,l=[a]:=⟨_,Jo (by rw[hl];exact k1a (by omega))⟩;have ep:j6 C (fQ C fS) e.k e.n e.ref e.ty.r f [a] r2=(unI 13 a,r2):=(by simp[j6,AM,r9]);rw[ep];have un:=λwl li st=>aa0 wl li 13 a st;simp[AM,cP,aF,aC,m5,m6,bp,un];exact⟨I2,ip,il,R2⟩;obtain⟨a,b,rfl⟩:∃a b,l=[a,b]:=⟨_,_,ad8 (by rw[hl];exact k2a (by omega))⟩;have ep:j6 C (fQ C fS) e.k e.n e.ref e.ty.r f [a,b] r2=F8 r2 (NG e.k a b):=(by simp[j6,c1,c2,c3,c4,c5,c6,c7,c8,c9,vR,zl,AK,AM,r9,Mp]);rw[ep];have bi:=λwl li st=>ad7 wl li e.k a b st;obtain⟨s3,l3,t3,R3⟩:=Bq R2 (NG e.k a b).1 (NG e.k a b).2;rw[ip]at t3;simp[c1,c2,c3,c4,c5,c6,c7,c8,c9,vR,zl,AK,AM,cP,aF,aC,m5,m6,bp,bi,t3];exact⟨rfl,I2,ip,il,R3⟩
   obtain⟨I',h3⟩:=h2;exact⟨st',I',h1,h3⟩
 rw[if_neg ho]at R1;have hof:tg C r=false:=by cases hh:tg C r with|false=>rfl|true=>exact absurd hh ho
 rw[iz _ _ _ hof];rw[hof]at t1;refine⟨s1,I,?_,rfl,rfl,R1⟩;refine an (sf:=Nf) rfl rfl rfl ?_;generalize bf e.ay=KV at *;simp[Nf,t1,e1,ir.b8,AV.aa]
end Bp
