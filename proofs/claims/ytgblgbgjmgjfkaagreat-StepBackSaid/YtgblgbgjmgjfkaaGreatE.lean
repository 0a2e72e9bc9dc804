/- Part of a proof. -/
import Derived.Test.YtgblgbgjmgjfkaaGreatS
import Derived.Test.YtgblgbgjmgjfkaaGreatV

open List renaming length->Q
open Option renaming some->Z,none->K
open Bool renaming true->Y,false->X
open List renaming getElem?_eq_some_iff->aad,getElem_mem->aah,drop_eq_getElem_cons->aan,drop_length->aaF,take_of_length_le->aas,replicate->aag,getElem?_set_ne->aao,zipWith->afm,getElem?_append_left->aaj,eq_nil_of_length_eq_zero->aau
open Int renaming toNat_natCast->abu
set_option maxRecDepth 100000
set_option maxHeartbeats 8000000
namespace S9
open Ax Go aM V7 jb jn K9
def uO(s:AV)(f:Option Int):iW:=.rows 0 3 [[s,.int .i64 (cE f),.int .i64 (cX f)]]
def oG(m:Nat)(st:aO)(s:AV)(S:List Bool):Prop:=(∃j v,s=.mu j v/\st[j]?=Z (sO v S)/\m≠j)\/(s=.aF/\S=[])
theorem zA{m st s S o}(h:oG m st s S):oG m (st.set m o) s S:=by
 rcases h with⟨j,v,rfl,g,H⟩|h;exact .inl ⟨j,v,rfl,by grind,H⟩;exact .inr h
theorem ad3(e):∀l f w st m s,st[m]?=Z (uO s f)->oG m st s l->DD (Q l) e->E.sz e<1000000000->
  (bh S).call 0 w 135 [.ptr m 0 0 0,.agg e.aK] st=Z (.fC [],st.set m (uO s (yc f (OT l e)))):=by
 induction e using E.C6 with
 |_ e ih=>
  intro l f w st m s J hj hr fM;have Af:=E.sx e;have dQ:=E.mq e.aP;have hz:cU 11 (bL e.aP)=Y:=ox;have q:bn (bL e.aP)=Y:=cu;have B:(bL e.aP).aj=bL e.aP:=ck;have z:bf (bL e.aP)=E.rows e.aP:=br;have uq:Q (E.rows e.aP)=Q e.aP:=by simp
  have N:=λwl w a st=>U7.FL wl w a st;rw[yd]at hr;obtain⟨Kb,F⟩:=hr;rw[nh]at F;rw[ahE,E.aU];have hil:m<Q st:=(aad.1 J).1;generalize uy:bL e.aP=kv at *;refine aG (sf:=amr) rfl rfl rfl ?_;simp[amr,q];refine bM WA.eq_1 (λx:Nat×Option Int=>⟨[(0,.val (.ptr m 0 0 0)),(3,.fp 0 0),(4,.val (.int .i64 x.1))],[[.int .i64 e.k,.int .i64 e.n,.str e.nm,.str e.on,.int .i64 e.od,kv,.int .i64 e.a,.int .i64 e.ty.b,.int .i64 e.ty.r,.int .i64 e.ty.d,.int .i64 e.ref]],st.set m (uO s x.2)⟩)
   (λx=>x.1<=Q e.aP/\yc x.2 (tC l (e.aP.drop x.1))=yc f (tC l e.aP)) (λx=>Q e.aP-x.1) (0,f) (by simp[kL J]) ⟨by simp,by simp⟩ ?_
  rintro⟨k,g⟩ ⟨hk,H⟩ M;simp only at hk H M;have UU:(st.set m (uO s g))[m]?=Z (uO s g):=mz J;have EF:oG m (st.set m (uO s g)) s l:=zA hj;have Bt:∀o,(st.set m (uO s g)).set m o=st.set m o:=λo=>by simp_all
  by_cases R:k<Q e.aP;have hw:=wk k (by omega);have hm:=aah R;have O:=λw=>ih _ hm l g w (st.set m (uO s g)) m s UU EF (F _ hm) (by have:=E.sw hm;omega);rw[aan R,M9,<-tA]at H;have C:=M (k+1,yc g (OT l e.aP[k])) ⟨by grind,H⟩ (by grind);simp only at C;simp only[Bt]at O;have gE:=Nd R;have mY:k<Q (E.rows e.aP):=by grind
  have FU:=Ch R mY;rw[E.aU e.aP[k]]at O gE FU;have xv:bn (bL e.aP[k].aP)=Y:=cu;have xw:(bL e.aP[k].aP).aj=bL e.aP[k].aP:=ck;generalize e.aP[k]=x,st.set m (uO s g)=I at *;generalize st.set m (uO s (yc g (OT l x)))=s2 at *;simp[R,hw,hz,q,B,z,FU,O,xw,AV.aj];exact C
  ·have dQ:k=Q e.aP:=(by omega);rw[dQ,aaF]at H;simp only[tC,zq]at H;subst H;rw[<-tA];clear M J;generalize yc f (tC l e.aP)=g at *;have HT:Q (st.set m (uO s g))=Q st:=(by simp);have W:(st.set m (uO s g)).take (Q st)=st.set m (uO s g):=aas (by simp);have P:(st.set m (uO s g))[m]?=Z (.rows 0 3 [[s,.int .i64 (cE g),.int .i64 (cX g)]]):=UU;have ht2:∀o,(st.set m o).take (Q st)=st.set m o:=λo=>aas (by simp);by_cases D:e.k=4
   ·by_cases h0:0<=e.ref
    ·have hlr:=Kb D;obtain⟨r,hrr⟩:∃r:Nat,e.ref=r:=⟨e.ref.toNat,by omega⟩;have p:r<Q l:=(by omega);obtain⟨j,v,rfl,L,iT⟩:∃j v,s=.mu j v/\(st.set m (uO s g))[j]?=Z (.rows v 1 (lK l))/\m≠j:=by
      rcases EF with h|⟨_,h⟩;all_goals grind
     have hb:=xq p;have hsu:l[r]?=Z l[r]:=List.getElem?_eq_getElem p;have t:(e.k=4)=True:=eq_true D;have T:(if e.k=4/\0<=e.ref/\l[e.ref.toNat]?=Z X then Z e.a else K)=(if l[r]=X then Z e.a else K):=(by grind);rw[T];rw[hrr];cases G:l[r] with
     |true=>
      rw[G]at hb;simp only[Bool.true_eq_false,bC,zq];generalize st.set m (uO (.mu j v) g)=I at *;simp[R,t,q,B,z,p,P,L,G,W,aA,ay]
     |false=>
      rw[G]at hb;simp only[bz];cases g with
      |none=>
       simp only[yc,cE,cX]at P ⊢;have xz:(st.set m (uO (.mu j v) K)).set m (.rows 0 3 [[.mu j v,.int .i64 3,.int .i64 e.a]])=st.set m (uO (.mu j v) (Z e.a)):=Bt _;have ht3:=ht2 (uO (.mu j v) (Z e.a));generalize st.set m (uO (.mu j v) (Z e.a))=s2,st.set m (uO (.mu j v) K)=I at *;simp[R,t,q,B,z,p,L,G,P,N,bw,AV.aD,AV.aH,aB,xz,ht3,aA,ay]
      |some y=>
       simp only[yc,cE,cX]at P ⊢;generalize st.set m (uO (.mu j v) (Z y))=I at *;simp[R,t,q,B,z,p,L,G,P,W,aA,ay]
    rw[U (λh=>h0 h.2.1),zq];have t:(e.k=4)=True:=eq_true D;generalize st.set m (uO s g)=I at *;simp[R,t,h0,q,B,z,W,aA,ay]
   rw[U (λh=>D h.1),zq];generalize st.set m (uO s g)=I at *;simp[R,D,q,B,z,W,aA,ay]
theorem anw(s f t st m n)(H:st[m]?=Z (uO n f))(h:oG m st n s)(r:Q s<1000000000):
  ∃g,(bh S).call 0 t 136 [.ptr m 0 0 0] st=Z (.fC [],g)/\((∃j v,n=.mu j v/\g=st.set j (sO v (s.map λ_=>Y)))\/(n=.aF/\g=st)):=by
 rcases h with⟨j,v,rfl,h,y⟩|⟨rfl,rfl⟩;refine⟨st.set j (sO v (s.map λ_=>Y)),?_,.inl ⟨j,v,rfl,rfl⟩⟩;have h:st[j]?=Z (.rows v 1 (lK s)):=h;have U:∀o,(st.set j o)[m]?=Z (.rows 0 3 [[.mu j v,.int .i64 (cE f),.int .i64 (cX f)]]):=λo=>by rw[xm (Ne.symm y)];exact H
 have W:∀l:List Bool,(st.set j (sO v l))[j]?=Z (.rows v 1 (lK l)):=λl=>mz h;have G:∀(a b:iW),(st.set j a).set j b=st.set j b:=λa b=>by simp_all
 have F:∀o,(st.set j o).take (Q st)=st.set j o:=λo=>aas (by simp);refine aG (sf:=acw) rfl rfl rfl ?_;simp[acw];refine bM Oq.eq_1 (λk:Nat=>⟨[(0,.val (.ptr m 0 0 0)),(2,.val (.int .i64 k))],[],st.set j (sO v (aag k Y++s.drop k))⟩)
  (λk=>k<=Q s) (λk=>Q s-k) 0 (by simp[kL h]) (by simp) ?_
 intro k E z;have w:Q (aag k Y++s.drop k)=Q s:=by simp;omega
 have N:=W (aag k Y++s.drop k);have p:=U (sO v (aag k Y++s.drop k));by_cases R:k<Q s;have x:=wk k (by omega);have D:k<Q (aag k Y++s.drop k):=by omega
 have C:=xq D;have r:=Se R;have I:=z (k+1) (by omega) (by omega);have q:(st.set j (sO v (aag k Y++s.drop k))).set j (.rows v 1 (lK (aag (k+1) Y++s.drop (k+1))))=st.set j (sO v (aag (k+1) Y++s.drop (k+1))):=G _ _;generalize aag (k+1) Y++s.drop (k+1)=B,aag k Y++s.drop k=l at *;generalize st.set j (sO v l)=J at *;simp[R,x,N,p,w,r,q,bw,AV.aD,AV.aH,aB];exact I;have D:k=Q s:=by omega
 simp_all [List.map_const'];refine⟨st,?_,.inr ⟨rfl,rfl⟩⟩;have H:st[m]?=Z (.rows 0 3 [[.aF,.int .i64 (cE f),.int .i64 (cX f)]]):=H;refine aG (sf:=acw) rfl rfl rfl ?_;simp[acw];rw[Aj Oq.eq_1];simp[H]
structure Fr (ic:Nat)(st:aO)(SV:AV)(st':aO)(LM:AV):Prop where
 len:st.length<=st'.length
 kF:∀i,i<st.length->i≠ic->(∀v,SV≠.mu i v)->st'[i]?=st[i]?
 iY:∀i v,LM=.mu i v->(∃v',SV=.mu i v')\/st.length<=i
theorem Fr.refl{m st s}:Fr m st s st s:=⟨Nat.le_refl _,λ_ _ _ _=>rfl,λ_i v h=>.inl ⟨v,h⟩⟩
theorem Fr.trans{m st qS qh g s S}(h:Fr m st g qS s)(k:Fr m qS s qh S):Fr m st g qh S:=by
 refine⟨Nat.le_trans h.len k.len,λi H I p=>?_,λi v e=>?_⟩
 ·rw[k.kF i (by have:=h.len;omega) I λv e=>?_,h.kF i H I p];rcases h.iY i v e with⟨j,n⟩|l;all_goals grind
 rcases k.iY i v e with⟨j,n⟩|l;exact h.iY i j n;exact .inr (by have:=h.len;omega)
theorem Fr.cell{m st s o}:Fr m st s (st.set m o) s:=
 ⟨by simp,λi H I _=>aao (Ne.symm I),λi v h=>.inl ⟨v,h⟩⟩
def OkW(l:List Sm):Prop:=∀(g:List Bool)(f:Option Int)(st:aO)(m:Nat)(h:AV),st[m]?=Z (uO h f)->oG m st h g->sA (Q g) l->Sm.eJ l<1000000000->Q g<1000000000->
 ∃s L,(bh S).call 0 0 90 [.ptr m 0 0 0,cn l] st=Z (.fC [],s)/\s[m]?=Z (uO L (yc f (nA g l).2))/\oG m s L (nA g l).1/\Fr m st h s L
def D7:aW->aW
 |.seq _ (.seq (.block _ (.seq _ b)) _)=>b|x=>x
def sE:aW:=D7 uX
def u6:aW:=j7 sE
theorem ayo(s:Sm)(j f st m h)(H:st[m]?=Z (uO h f))(J:oG m st h j)(t:AF (Q j) s.es)(fM:E.eJ s.es<1000000000){rs q kk}(L)(n:Nat)(go:W S 0 0 rs q (.code u6::kk) .normal ⟨[(0,.val (.ptr m 0 0 0)),(1,.val L),(4,.val (.int .i64 n)),(5,.fp 0 0)],[s.aK],st.set m (uO h (yc f (tC j s.es)))⟩):
  W S 0 0 rs q (.code sE::kk) .normal ⟨[(0,.val (.ptr m 0 0 0)),(1,.val L),(4,.val (.int .i64 n)),(5,.fp 0 0)],[s.aK],st⟩:=by
 have O:cU 11 (bL s.es)=Y:=ox;have kO:bn (bL s.es)=Y:=cu;have kY:(bL s.es).aj=bL s.es:=ck;have P:bf (bL s.es)=E.rows s.es:=br;have D:=E.mq s.es;rw[nh]at t;have I:m<Q st:=(aad.1 H).1;rw[Sm.aU]at *;generalize cn s.bd=y,cn s.el=lw at *;generalize uy:bL s.es=kv at *;show W S 0 0 rs q (.code (.seq (.seq (.region [{ dst:=Z 6,op:=.move,args:=[.const (.int .i64 0)],guard:=K }] K []) (.block 2 (.loop Um))) u6)::kk) .normal _;generalize u6=T at *;simp;refine bM Um.eq_1 (λx:Nat×Option Int=>⟨[(0,.val (.ptr m 0 0 0)),(1,.val L),(4,.val (.int .i64 n)),(5,.fp 0 0),(6,.val (.int .i64 x.1))],[[.int .i64 s.k,.str s.nm,.str s.on,.int .i64 s.od,kv,y,lw,.int .i64 s.a,.int .i64 s.ref]],st.set m (uO h x.2)⟩)
  (λx=>x.1<=Q s.es/\yc x.2 (tC j (s.es.drop x.1))=yc f (tC j s.es)) (λx=>Q s.es-x.1) (0,f) (by simp[kL H]) ⟨by simp,by simp⟩ ?_
 rintro⟨k,g⟩ ⟨M,l⟩ G;simp only at M l G;have U:(st.set m (uO h g))[m]?=Z (uO h g):=mz H;have v:oG m (st.set m (uO h g)) h j:=zA J;have B:∀o,(st.set m (uO h g)).set m o=st.set m o:=λo=>by simp_all
 by_cases R:k<Q s.es;have N:=wk k (by omega);have r:=aah R;have F:=λw=>ad3 s.es[k] j g w (st.set m (uO h g)) m h U v (t _ r) (by have:=E.sw r;omega);rw[aan R,M9,<-tA]at l;have C:=G (k+1,yc g (OT j s.es[k])) ⟨by grind,l⟩ (by grind);simp only at C;simp only[B]at F;have z:=Nd R;have mY:k<Q (E.rows s.es):=by grind
 have p:=Ch R mY;rw[E.aU s.es[k]]at F z p;have xv:bn (bL s.es[k].aP)=Y:=cu;have xw:(bL s.es[k].aP).aj=bL s.es[k].aP:=ck;generalize s.es[k]=x,st.set m (uO h g)=s1 at *;generalize st.set m (uO h (yc g (OT j x)))=s2 at *;simp[R,N,O,kO,kY,P,p,F,xw,AV.aj];exact C;have D:k=Q s.es:=by omega
 simp_all [tC,zq]
theorem FX{m}{st:aO}{j v S s}(h:st[j]?=Z (sO v S))(I:m≠j):oG m (st.set j (sO v s)) (.mu j v) s:=.inl ⟨j,v,rfl,mz h,I⟩
theorem Fr.mu{m st j v o}:Fr m st (.mu j v) (st.set j o) (.mu j v):=
 ⟨by simp,λi hi I p=>aao (λe=>p v (by rw[e])),λi v h=>.inl ⟨v,h⟩⟩
def akl(s:Sm):Prop:=∀(h:List Bool)(f:Option Int)(st:aO)(m:Nat)(j:AV),st[m]?=Z (uO j f)->oG m st j h->IE h.length s->Sm.sz s<1000000000->h.length<1000000000->
 ∀{rs:List qg} {Q:Ex->St->Prop} {kk:List B1} (n:AV) (k:Nat),
  (∀g L,g[m]?=Z (uO L (yc f (Cc h s).2))->oG m g L (Cc h s).1->Fr m st j g L->W S 0 0 rs Q kk .normal ⟨[(0,.val (.ptr m 0 0 0)),(1,.val n),(4,.val (.int .i64 k))],[s.aK],g⟩)->
  W S 0 0 rs Q (.code sE::kk) .normal ⟨[(0,.val (.ptr m 0 0 0)),(1,.val n),(4,.val (.int .i64 k)),(5,.fp 0 0)],[s.aK],st⟩
theorem Xk(l)(hs:∀s∈l,akl s):OkW l:=by
 intro n f st m v hc hj hr fM hn;have hz:cU 9 (cn l)=Y:=O2;have G:bn (cn l)=Y:=cW;have J:(cn l).aj=cn l:=bZ;have F:bf (cn l)=Sm.rows l:=br;have B:=Sm.mq l;rw[xd]at hr;obtain⟨z,h,r,rfl,L,t⟩:∃z h,(bh S).call 0 0 90 [.ptr m 0 0 0,cn l] st=Z (z,h)/\z=.fC []/\∃L,h[m]?=Z (uO L (yc f (nA n l).2))/\oG m h L (nA n l).1/\Fr m st v h L:=by
  refine ki (sf:=s90) rfl rfl rfl ?_;generalize cn l=M at *;simp[s90];refine bM uX.eq_1 (λx:Nat×List Bool×Option Int×aO×AV×List AV=>⟨[(0,.val (.ptr m 0 0 0)),(1,.val M),(4,.val (.int .i64 x.1))],[x.2.2.2.2.2],x.2.2.2.1⟩)
   (λx=>x.1<=l.length/\x.2.1.length=n.length/\yc x.2.2.1 (nA x.2.1 (l.drop x.1)).2=yc f (nA n l).2/\(nA x.2.1 (l.drop x.1)).1=(nA n l).1/\x.2.2.2.1[m]?=Z (uO x.2.2.2.2.1 x.2.2.1)/\oG m x.2.2.2.1 x.2.2.2.2.1 x.2.1/\Fr m st v x.2.2.2.1 x.2.2.2.2.1)
   (λx=>l.length-x.1) (0,n,f,st,v,[]) (by simp) ⟨by simp,rfl,by simp,by simp,hc,hj,Fr.refl⟩ ?_
  rintro⟨k,q,g,g9,o,b⟩ ⟨hk,y,j,H,p,T,N⟩ E;simp only at hk y j H p T N E;by_cases R:k<l.length;have hw:=wk k (by omega);have C:=aah R;have U:=fun {rs:List qg} {Q:Ex->St->Prop} {kk:List B1}=>hs _ C q g g9 m o p T (by grind) (by have:=Sm.sw C;omega) (by omega) (rs:=rs) (Q:=Q) (kk:=kk) M k;rw[aan R,Y5]at j H;simp only at j H;rw[<-tA]at j;have gE:=O5 R;have mY:k<(Sm.rows l).length:=by grind
  have D:=Dc R mY;obtain⟨e1,O,l1⟩:=gJ (s:=l[k]);have e2:(bL l[k].es).aj=bL l[k].es:=ck;have P:(cn l[k].bd).aj=cn l[k].bd:=bZ;have l2:(cn l[k].el).aj=cn l[k].el:=bZ;show W S 0 0 _ _ (.code (.seq (.seq _ _) (.seq (.block 1 (.seq _ sE)) _))::_) .normal _;have I:=λ(h:aO) (L:AV) (r:h[m]?=Z (uO L (yc g (Cc q l[k]).2))) (t:oG m h L (Cc q l[k]).1) (w:Fr m g9 o h L)=>E (k+1,(Cc q l[k]).1,yc g (Cc q l[k]).2,h,L,l[k].aK) ⟨by grind,by grind [RM],j,H,r,t,N.trans w⟩ (by grind);simp only at I;simp only[Sm.aU l[k]]at gE D I U;generalize sE=BD,bL l[k].es=xe,cn l[k].bd=xb,cn l[k].el=xl at *;simp[R,hz,G,J,F,D,e1,O,l1,e2,P,l2,aB];refine U λh L r t w=>?_;simp[hw];exact I h L r t w;have dQ:k=l.length:=by omega
  rw[dQ,aaF,adn]at j H;simp only[zq]at j H;subst j H;simp[R,G,J,F,mA]
  grind
 grind
theorem tK{m st s S}(h:oG m st s S):s.aj=s/\s.cT=Y/\s.cells=[s]:=by
 rcases h with⟨j,v,rfl,_⟩|⟨rfl,_⟩<;>simp_all
theorem ad6{m st S s}(q:m<Q st)(h:oG m st S s)(r:Q s<1000000000):∃W ext,(∀g B,bD 0 g (.j8 1 1) [.val .aF,.val S] st B=Z (.val W,st++ext,B))/\oG m (st++ext) W s/\(∀i v,W=.mu i v->i=Q st/\Q st<Q (st++ext)):=by
 by_cases p:s=[];subst p;refine⟨.aF,[],λg B=>?_,.inr ⟨rfl,rfl⟩,λi v h=>by cases h⟩;rcases h with⟨j,v,rfl,H,k⟩|⟨rfl,_⟩;have H:st[j]?=Z (.rows v 1 []):=H;simp[bD,uN,dO,fO,H,cy];simp[bD,uN,dO,fO,cy];rcases h with⟨j,v,rfl,H,k⟩|⟨_,h⟩;refine⟨.mu (Q st) 0,[sO 0 s],λg B=>?_,.inl ⟨Q st,0,rfl,by simp,by omega⟩,λi v h=>by grind⟩;have n:cy 1 (lK s)=Y:=by simp[cy,lK]
 have o:Q s<=dj:=by unfold dj;omega
 have I:(lK s).isEmpty=X:=by cases s with
  |nil=>grind|cons a l=>rfl
 have H:st[j]?=Z (.rows v 1 (lK s)):=H;simp[bD,uN,dO,fO,H,Sc,n,o]
 grind
 grind
theorem ZB{A B k}(h)(H:k<Q B):((afm (λa b=>a&&b) A B).take k++B.drop k).set k (A[k]&&B[k])=(afm (λa b=>a&&b) A B).take (k+1)++B.drop (k+1):=by
 rw[aan H,List.set_append_right _ _ (by simp;omega),List.take_succ_eq_append_getElem (by simp;omega)];have:k-Q ((afm (λa b=>a&&b) A B).take k)=0:=by simp;omega
 grind
theorem aia{A B k}(h:k<Q A)(H l):((afm (λa b=>a&&b) A B).take k++B.drop k)[k]=B[k]:=by
 grind
theorem oC(s)(hB:OkW s.bd)(hL:OkW s.el):akl s:=by
 intro l f st m n hc hj hr fM G rs q kk lv k0 go;have hz:=Sm.w9 s;obtain⟨r1,r2,r3,r4,r5⟩:=(ye _ _).1 hr;have hil:m<Q st:=(aad.1 hc).1;obtain⟨e1,b1,l1⟩:=gJ (s:=s);have b2:(cn s.bd).aj=cn s.bd:=bZ;have l2:(cn s.el).aj=cn s.el:=bZ;refine ayo s l f st m n hc hj r1 (by omega) lv k0 ?_;rw[ahF]at go;generalize hg:yc f (tC l s.es)=g at *;have UU:(st.set m (uO n g))[m]?=Z (uO n g):=mz hc;have E:oG m (st.set m (uO n g)) n l:=zA hj;have Sz:Fr m st n (st.set m (uO n g)) n:=Fr.cell;have asP:m<Q (st.set m (uO n g)):=by grind
 generalize st.set m (uO n g)=p at *;clear hc hj;rw[Sm.aU]at *;generalize bL s.es=ev at *;generalize hbv:cn s.bd=bv at *;generalize HI:cn s.el=lw at *;by_cases R:s.k=1
 ·obtain⟨h0,bK⟩:=r2 (.inl R);obtain⟨r,I⟩:∃r:Nat,s.ref=r:=⟨s.ref.toNat,by omega⟩;have uq:r<Q l:=by omega
  have kj:(s.k=1)=True:=eq_true R;obtain⟨j,v,rfl,L,P⟩:∃j v,n=.mu j v/\p[j]?=Z (.rows v 1 (lK l))/\m≠j:=by
   rcases E with h|⟨_,h⟩;all_goals grind
  rw[af R,I,abu,hg]at go;have go:=go (p.set j (sO v (l.set r X))) (.mu j v) (by grind) (FX L P) (Sz.trans Fr.mu);have Po:p[m]?=Z (.rows 0 3 [[.mu j v,.int .i64 (cE g),.int .i64 (cX g)]]):=UU;have hb:=xq uq;simp[u6,sE,D7,uX,j7,kj,I,Po,L,uq,bw,AV.aD,AV.aH,aB,aA,ay];exact go
 rw[U R]at go;by_cases Mh:s.k=2\/s.k=3
 ·rw[af Mh]at go;by_cases h0:0<=s.ref
  ·have bK:s.ref<Q l:=by
    grind
   obtain⟨r,I⟩:∃r:Nat,s.ref=r:=⟨s.ref.toNat,by omega⟩;have uq:r<Q l:=(by omega);obtain⟨j,v,rfl,L,P⟩:∃j v,n=.mu j v/\p[j]?=Z (.rows v 1 (lK l))/\m≠j:=by
    rcases E with h|⟨_,h⟩;all_goals grind
   rw[af h0,I,abu,hg]at go;have go:=go (p.set j (sO v (l.set r Y))) (.mu j v) (by grind) (FX L P) (Sz.trans Fr.mu);have Po:p[m]?=Z (.rows 0 3 [[.mu j v,.int .i64 (cE g),.int .i64 (cX g)]]):=UU;have hb:=xq uq;rcases Mh with h|h;have h2':(s.k=2)=True:=eq_true h;simp[u6,sE,D7,uX,j7,R,h2',I,Po,L,uq,bw,AV.aD,AV.aH,aB,aA,ay];exact go;have h2:¬s.k=2:=(by omega);have Ma:(s.k=3)=True:=eq_true h;simp[u6,sE,D7,uX,j7,R,h2,Ma,I,Po,L,uq,bw,AV.aD,AV.aH,aB,aA,ay];exact go
  have h3:s.k=3:=by
   grind
  have h2:¬s.k=2:=by omega
  have Ma:(s.k=3)=True:=eq_true h3;rw[U h0,hg]at go;have go:=go p n UU E Sz;simp[u6,sE,D7,uX,j7,R,h2,Ma,h0];exact go
 rw[U Mh]at go;have h2:¬s.k=2:=λh=>Mh (.inl h);have h3:¬s.k=3:=λh=>Mh (.inr h);by_cases h7:s.k=7
 ·have h7':(s.k=7)=True:=eq_true h7;rw[af h7,hg]at go;obtain⟨s2,fN,E2⟩:=anw l g 0 p m n UU E G;have go:W S 0 0 rs q kk .normal ⟨[(0,.val (.ptr m 0 0 0)),(1,.val lv),(4,.val (.int .i64 k0))],[[.int .i64 s.k,.str s.nm,.str s.on,.int .i64 s.od,ev,bv,lw,.int .i64 s.a,.int .i64 s.ref]],s2⟩:=by
   rcases E2 with⟨j,v,rfl,rfl⟩|⟨rfl,rfl⟩
   ·obtain⟨L,P⟩:p[j]?=Z (sO v l)/\m≠j:=by
     rcases E with⟨j',t,e,h,H⟩|⟨e,_⟩;all_goals grind
    exact go _ (.mu j v) (by grind) (FX L P) (Sz.trans Fr.mu)
   refine go s2 .aF UU ?_ Sz;rcases E with⟨_,_,e,_⟩|⟨_,rfl⟩;cases e;exact .inr ⟨rfl,rfl⟩
  simp_all [u6,sE,D7,uX,j7]
 rw[U h7]at go;by_cases h6:s.k=6
 ·have h6':(s.k=6)=True:=eq_true h6;rw[af h6]at go;simp only at go;rw[<-tA,hg]at go;obtain⟨WS,ext,UW,rJ,hw3⟩:=ad6 asP E G;have Po:(p++ext)[m]?=Z (uO n g):=by grind
  have L:oG m (p++ext) n l:=by
   rcases E with⟨j,v,rfl,h,H⟩|h;exact .inl ⟨j,v,rfl,by grind,H⟩;exact .inr h
  have hSW:∀i v t,WS=.mu i v->n≠.mu i t:=λi v t h e=>by
   obtain⟨hi,_⟩:=hw3 i v h;rcases E with⟨j,w,e2,h,_⟩|⟨e2,_⟩;all_goals grind
  obtain⟨D,y,fN,N,hj3,SA⟩:=hB l g (p++ext) m n Po L r4 (by omega) G;rw[hbv]at fN;generalize hg2:yc g (nA l s.bd).2=z at *;have O:oG m D WS l:=by
   rcases rJ with⟨j,v,rfl,h,H⟩|h;refine .inl ⟨j,v,rfl,?_,H⟩;rw[SA.kF j (aad.1 h).1 (Ne.symm H) λt=>hSW j v t rfl];exact h;exact .inr h
  have hl3:Q p<=Q D:=by have:=SA.len;grind
  have go:=go (D.set m (uO WS z)) WS (mz N) (zA O) (by
   refine Sz.trans ⟨by grind,λi hi P hv=>?_,λi v h=>.inr (by grind)⟩;rw[xm (Ne.symm P),SA.kF i (by simp;omega) P hv,aaj hi])
  obtain⟨wv,wc,wl⟩:=tK O;obtain⟨vv,vc,_⟩:=tK E;have T:p[m]?=Z (.rows 0 3 [[n,.int .i64 (cE g),.int .i64 (cX g)]]):=UU;have aid:D[m]?=Z (.rows 0 3 [[y,.int .i64 (cE z),.int .i64 (cX z)]]):=N;have DB:∀x,D.set m (.rows 0 3 [[x,.int .i64 (cE z),.int .i64 (cX z)]])=D.set m (uO x z):=λx=>rfl;generalize p++ext=s2 at *;simp[u6,sE,D7,uX,j7,R,h2,h3,h7,h6',T,vv,wc,wl,UW,fN,b2,aid,bw,aB];exact go
 rw[U h6]at go;by_cases h5:s.k=5
 ·have h5':(s.k=5)=True:=eq_true h5;rw[af h5]at go;simp only at go;rw[<-tA,<-tA,hg]at go;obtain⟨WS,ext,UW,rJ,hw3⟩:=ad6 asP E G;have Po:(p++ext)[m]?=Z (uO n g):=by grind
  have L:oG m (p++ext) n l:=by
   rcases E with⟨j,v,rfl,h,H⟩|h;exact .inl ⟨j,v,rfl,by grind,H⟩;exact .inr h
  have hSW:∀i v t,WS=.mu i v->n≠.mu i t:=λi v t h e=>by
   obtain⟨hi,_⟩:=hw3 i v h;rcases E with⟨j,w,e2,h,_⟩|⟨e2,_⟩;all_goals grind
  obtain⟨D,y,fN,N,hj3,SA⟩:=hB l g (p++ext) m n Po L r4 (by omega) G;rw[hbv]at fN;generalize hg2:yc g (nA l s.bd).2=z at *;have O:oG m D WS l:=by
   rcases rJ with⟨j,v,rfl,h,H⟩|h;refine .inl ⟨j,v,rfl,?_,H⟩;rw[SA.kF j (aad.1 h).1 (Ne.symm H) λt=>hSW j v t rfl];exact h;exact .inr h
  have hl3:Q p<=Q D:=by have:=SA.len;grind
  have ayq:Fr m st n (D.set m (uO WS z)) WS:=by
   refine Sz.trans ⟨by grind,λi hi P hv=>?_,λi v h=>.inr (by grind)⟩;rw[xm (Ne.symm P),SA.kF i (by simp;omega) P hv,aaj hi]
  obtain⟨By,C,UX,hc5,hj5,anB⟩:=hL l z (D.set m (uO WS z)) m WS (mz N) (zA O) r5 (by omega) G;rw[HI]at UX;generalize hg3:yc z (nA l s.el).2=g3 at *;have qj:∀i v t,y=.mu i v->WS≠.mu i t:=λi v t h e=>by
   obtain⟨hi,JF⟩:=hw3 i t e;rcases SA.iY i v h with⟨w,e2⟩|hl;all_goals grind
  have ays:oG m By y (nA l s.bd).1:=by
   rcases hj3 with⟨j,v,rfl,h,H⟩|h;refine .inl ⟨j,v,rfl,?_,H⟩;rw[anB.kF j (by grind) (Ne.symm H) λt=>qj j v t rfl,xm H];exact h;exact .inr h
  have tV:∀i v t,C=.mu i v->y≠.mu i t:=λi v t h e=>by
   rcases anB.iY i v h with⟨w,e2⟩|hl
   grind
   ·rcases hj3 with⟨j,w,e2,h2,_⟩|⟨e2,_⟩;all_goals grind
  have hAl:Q (nA l s.bd).1=Q l:=Ce _ _;have hBl:Q (nA l s.el).1=Q l:=Ce _ _;generalize (nA l s.bd).1=A,(nA l s.el).1=B at *;obtain⟨wv,wc,wl⟩:=tK O;obtain⟨vv,vc,_⟩:=tK E;obtain⟨v3,c3,_⟩:=tK hj3;have T:p[m]?=Z (.rows 0 3 [[n,.int .i64 (cE g),.int .i64 (cX g)]]):=UU;have aid:D[m]?=Z (.rows 0 3 [[y,.int .i64 (cE z),.int .i64 (cX z)]]):=N;have DB:D.set m (.rows 0 3 [[WS,.int .i64 (cE z),.int .i64 (cX z)]])=D.set m (uO WS z):=rfl;generalize p++ext=s2,D.set m (uO WS z)=s4 at *;have V8:Fr m st n By C:=ayq.trans anB;by_cases hs0:Q l=0;have hA:A=[]:=aau (by omega);have hBn:B=[]:=aau (by omega);subst hA hBn;have go:=go By C hc5 (by simpa using hj5) V8;have hlen:uh By .sl C=Z 0:=by
   rcases hj5 with⟨j,v,rfl,h,_⟩|⟨rfl,_⟩;have h:By[j]?=Z (.rows v 1 []):=h;simp[h];simp
  obtain⟨v5,c5,_⟩:=tK hj5;have ayt:By[m]?=Z (.rows 0 3 [[C,.int .i64 (cE g3),.int .i64 (cX g3)]]):=hc5;have Nc:∀wl ai bx,bD wl ai (.len .sl) [.val C] By bx=Z (.val (.int .i64 0),By,bx):=λwl ai bx=>by rw[ajR,hlen];rfl
  simp[u6,sE,D7,uX,j7,R,h2,h3,h7,h6,h5',T,vv,v3,wc,wl,UW,fN,UX,b2,l2,aid,DB,bw,aB];rw[Aj Un.eq_1];simp[-ajR,-agU,ayt,v5,Nc];exact go
  ·obtain⟨J,F,rfl,anC,asT⟩:∃j v,C=.mu j v/\By[j]?=Z (.rows v 1 (lK B))/\m≠j:=by
    rcases hj5 with h|⟨_,h⟩;all_goals grind
   obtain⟨j3,w3,rfl,aDy,aDz⟩:∃j v,y=.mu j v/\By[j]?=Z (.rows v 1 (lK A))/\m≠j:=by
    rcases ays with h|⟨_,h⟩;all_goals grind
   have aDA:J≠j3:=λe=>tV J F w3 rfl (by rw[e]);have hcS:∀o,(By.set J o)[m]?=Z (.rows 0 3 [[.mu J F,.int .i64 (cE g3),.int .i64 (cX g3)]]):=λo=>by rw[xm (Ne.symm asT)];exact hc5
   have hAS:∀o,(By.set J o)[j3]?=Z (.rows w3 1 (lK A)):=λo=>by grind
   have hBS:∀sk:List Bool,(By.set J (sO F sk))[J]?=Z (.rows F 1 (lK sk)):=λsk=>mz anC;have Bt:∀(a b:iW),(By.set J a).set J b=By.set J b:=λa b=>by rw[List.set_set]
   have aDD:Q (afm (λa b=>a&&b) A B)=Q l:=(by grind);have go:=go (By.set J (sO F (afm (λa b=>a&&b) A B))) (.mu J F) (hcS _) (FX anC asT) (V8.trans Fr.mu);simp[u6,sE,D7,uX,j7,R,h2,h3,h7,h6,h5',T,vv,wc,wl,UW,fN,UX,b2,l2,aid,DB,bw,aB];refine bM Un.eq_1 (λk:Nat=>⟨[(0,.val (.ptr m 0 0 0)),(1,.val lv),(4,.val (.int .i64 k0)),(9,.val (.mu j3 w3)),(10,.val (.int .i64 k))],[[.int .i64 s.k,.str s.nm,.str s.on,.int .i64 s.od,ev,bv,lw,.int .i64 s.a,.int .i64 s.ref]],By.set J (sO F ((afm (λa b=>a&&b) A B).take k++B.drop k))⟩)
    (λk=>k<=Q l) (λk=>Q l-k) 0 (by simp[kL anC]) (by simp) ?_
   intro k hk ih;have hl:Q ((afm (λa b=>a&&b) A B).take k++B.drop k)=Q l:=(by simp;omega);have a1:=hcS (sO F ((afm (λa b=>a&&b) A B).take k++B.drop k));have a2:=hAS (sO F ((afm (λa b=>a&&b) A B).take k++B.drop k));have a3:=hBS ((afm (λa b=>a&&b) A B).take k++B.drop k);by_cases bK:k<Q l;have hw:=wk k (by omega);have dQ:k<Q ((afm (λa b=>a&&b) A B).take k++B.drop k):=(by omega);have hlA:k<Q A:=(by omega);have hlB:k<Q B:=(by omega);have M:=aia hlA hlB dQ;have G:=ZB hlA hlB;have bA:=xq hlA;have bS:=xq dQ;rw[M]at bS;have iD:=ih (k+1) (by omega) (by omega);have a4:(By.set J (sO F ((afm (λa b=>a&&b) A B).take k++B.drop k))).set J (.rows F 1 (lK ((afm (λa b=>a&&b) A B).take (k+1)++B.drop (k+1))))=By.set J (sO F ((afm (λa b=>a&&b) A B).take (k+1)++B.drop (k+1))):=Bt _ _;generalize (afm (λa b=>a&&b) A B).take (k+1)++B.drop (k+1)=sk',(afm (λa b=>a&&b) A B).take k++B.drop k=sk at *;generalize By.set J (sO F sk)=By at *;cases hBk:B[k] with
   |true=>
    rw[hBk]at G bS M;rw[Bool.and_true]at G;simp[bK,hw,a1,a2,a3,hl,hlA,M,G,a4,bw,AV.aD,AV.aH,aB,aA,ay];exact iD
   |false=>
    rw[hBk]at G bS M;rw[Bool.and_false]at G;simp[bK,hw,a1,a3,hl,M,G,a4,bw,AV.aD,AV.aH,aB,aA,ay];exact iD
   have dQ:k=Q l:=(by omega);have xz:(afm (λa b=>a&&b) A B).take k++B.drop k=afm (λa b=>a&&b) A B:=by
    grind
   rw[xz]at a1 a2 a3 hl ⊢;generalize By.set J (sO F (afm (λa b=>a&&b) A B))=By at *;simp[bK,a1,a3,hl];exact go
 rw[U h5,hg]at go;have go:=go p n UU E Sz;simp_all [u6,sE,D7,uX,j7]
theorem asU(s:Sm):OkW s.bd/\OkW s.el:=by
 induction s using Sm.C6 with
 |_ s n U=>grind [Xk,oC]
theorem aie(l):OkW l:=by grind [Xk,oC,asU]
open N7 U7 in
theorem SB(wl w:Nat)(p:Pg)(st:aO)(hg:(mw p).ok)(sJ:GD.sm (mw p))(fM:∀f∈p.funcs,Q f.params+Sm.eJ f.body<1000000000)(vm:∀bs,rK (aY p) (aY p).aZ p.funcs=.ok bs->∀b∈bs,Sm.eJ b.code<1000000000/\Q b.vars<1000000000):
  (bh S).call wl w 35 [.agg p.aK] st=Z (G8 (qc p),st):=by
 have j:=λwl w st=>R9.Li wl w p st hg sJ fM;have hfn:Q p.funcs<1000000000:=by have:=sJ.funcs;grind [tY]
 refine bu (sf:=s35) rfl rfl (by simp[Pg.aK,AV.aD,AV.aH]) rfl (by simp[G8,AV.aH,AV.aD]) ?_;unfold u5 at j;unfold qc;have r1:bn (aN 3 (p.aR.map Rc.aK))=Y:=bU;have r2:(aN 3 (p.aR.map Rc.aK)).aj=aN 3 (p.aR.map Rc.aK):=cg;have O:bn (aN 7 (p.funcs.map Fc.aK))=Y:=bU;have P:(aN 7 (p.funcs.map Fc.aK)).aj=aN 7 (p.funcs.map Fc.aK):=cg;have T:bn (aN 4 (p.ax.map PD.cells))=Y:=bU;have U:(aN 4 (p.ax.map PD.cells)).aj=aN 4 (p.ax.map PD.cells):=cg;simp only[Pg.aK]at j ⊢;generalize aN 3 (p.aR.map Rc.aK)=PR,aN 7 (p.funcs.map Fc.aK)=PF,aN 4 (p.ax.map PD.cells)=PG at *;cases hF:kR (mw p) with
 |some a=>
  rw[hF]at j;simp only[G8,cE,cX]at j ⊢;simp[s35,j,r1,r2,O,P,T,U,aB,AV.aj]
 |none=>
  rw[hF]at j;simp only at j ⊢;cases z:rK (aY p) (aY p).aZ p.funcs with
  |error a=>
   rw[z]at j;simp only[FC,G8,cE,cX]at j ⊢;simp[s35,j,r1,r2,O,P,T,U,aB,AV.aj]
  |ok bs=>
   rw[z]at j;simp only[FC,qQ,List.cons_append,List.nil_append]at j ⊢;have y:=vm bs z;clear vm;have kO:Q (aY p).aZ=Q p.funcs:=(by simp[aY]);have XZ:=AD kO z;have m:=Fx z;have z1:bn (aN 3 (bs.map Bd.aK))=Y:=bU;have D:(aN 3 (bs.map Bd.aK)).aj=aN 3 (bs.map Bd.aK):=cg;have z3:bf (aN 3 (bs.map Bd.aK))=bs.map Bd.aK:=br;have z4:cU 3 (aN 3 (bs.map Bd.aK))=Y:=jz (by simp[cy,Bd.aK]);have a1:bn (aN 2 ((aY p).bN.map gh))=Y:=bU;have a2:(aN 2 ((aY p).bN.map gh)).aj=aN 2 ((aY p).bN.map gh):=cg;have b1:bn (aN 6 ((aY p).aZ.map Sg.aK))=Y:=bU;have q:(aN 6 ((aY p).aZ.map Sg.aK)).aj=aN 6 ((aY p).aZ.map Sg.aK):=cg;have J:bf (aN 6 ((aY p).aZ.map Sg.aK))=(aY p).aZ.map Sg.aK:=br;have M:cU 6 (aN 6 ((aY p).aZ.map Sg.aK))=Y:=jz (by simp[cy,Sg.aK]);have c1:bn (cM (aY p).ax)=Y:=iQ;have c2:(cM (aY p).ax).aj=cM (aY p).ax:=l8;generalize aN 2 ((aY p).bN.map gh)=HS,aN 6 ((aY p).aZ.map Sg.aK)=HG,cM (aY p).ax=GL,aN 3 (bs.map Bd.aK)=BV at *;have Nb:∀k:Nat,k<Q bs->k<Q (aY p).aZ:=λk h=>by omega
   have hnb:Q bs<1000000000:=(by omega);generalize (aY p).aZ=SS at *;clear z;simp[s35,j,r1,r2,O,P,T,U,z1,D,a1,a2,b1,q,c1,c2,aB,AV.aj];refine bM acF.eq_1 (λx:Nat×aO=>⟨[(2,.fp 1 0),(3,.fp 2 0),(5,.val (.int .i64 x.1))],[[PR,PG,PF],[.int .i64 0,.int .i64 0],[HS,GL,HG,.int .i64 (dJ p),BV],[.int .i64 0,.int .i64 0]],x.2⟩)
    (λx=>x.1<=Q bs/\Mb (SS.drop x.1) (bs.drop x.1)=Mb SS bs) (λx=>Q bs-x.1) (0,[]) (by simp) ⟨by simp,by simp⟩ ?_
   rintro⟨k,s⟩ ⟨hk,H⟩ ih;simp only at hk H ih;by_cases R:k<Q bs;have hw:=wk k (by omega);have B:=Nb k R;rw[Zl B R]at H;obtain⟨q1,q2⟩:=m k B R;obtain⟨q3,q4⟩:=y _ (aah R);have G:∀h:k<Q (bs.map Bd.aK),(bs.map Bd.aK)[k]=[cM bs[k].vars,cn bs[k].code,.int .i64 bs[k].a]:=λh=>by simp[Bd.aK]
   have Tp:∀h:k<Q (SS.map Sg.aK),(SS.map Sg.aK)[k]=[.str SS[k].nm,cM SS[k].ps,.bool SS[k].bY,.int .i64 SS[k].res.b,.int .i64 SS[k].res.r,.int .i64 SS[k].res.d]:=λh=>by simp[Sg.aK]
   have C:k<Q (bs.map Bd.aK):=(by grind);have v:k<Q (SS.map Sg.aK):=(by grind);have l:=G C;have t:=Tp v;clear G Tp;have v1:bn (cM bs[k].vars)=Y:=iQ;have v2:(cM bs[k].vars).aj=cM bs[k].vars:=l8;have v3:Q (bf (cM bs[k].vars))=Q bs[k].vars:=(by simp);have w1:bn (cn bs[k].code)=Y:=cW;have w2:(cn bs[k].code).aj=cn bs[k].code:=bZ;have p1:bn (cM SS[k].ps)=Y:=iQ;have p2:(cM SS[k].ps).aj=cM SS[k].ps:=l8;have p3:Q (bf (cM SS[k].ps))=Q SS[k].ps:=(by simp);have wL:(Q bs[k].vars:Int)<=dj:=(by unfold dj;omega);have W:=aie bs[k].code;unfold su0 at H;have TV:Q (aag (Q SS[k].ps) Y++aag (Q bs[k].vars-Q SS[k].ps) X)=Q bs[k].vars:=(by simp;omega);obtain⟨st',LM,F,L,_,_⟩:=W (aag (Q SS[k].ps) Y++aag (Q bs[k].vars-Q SS[k].ps) X) K (s++[sO 0 (aag (Q SS[k].ps) Y++aag (Q bs[k].vars-Q SS[k].ps) X),uO (.mu (Q s) 0) K]) (Q s+1) (.mu (Q s) 0)
    (by grind) (.inl ⟨Q s,0,rfl,by simp,by omega⟩) (by grind) q3 (by grind)
   have ho:∀g:Option Int,yc K g=g:=λg=>rfl;rw[ho]at L;generalize mT:bs[k].code=cs at *;generalize hbv:Q bs[k].vars=n at *;generalize hbp:Q SS[k].ps=N at *;generalize hfb:cM bs[k].vars=FV at *;generalize X8:cM SS[k].ps=FP at *;generalize hsc:cn cs=SC at *;generalize bs[k]=bk,SS[k]=sk at *;simp[-MQ,MQ,R,l,z1,D,z3,z4,v1,v2,v3,wL,Zk,aB,AV.aj];refine bM acE.eq_1 (λi:Nat=>⟨[(2,.fp 1 0),(3,.fp 2 0),(5,.val (.int .i64 k)),(6,.val (.ptr (Q s+1) 0 0 0)),(7,.val (.int .i64 i))],[[PR,PG,PF],[.int .i64 0,.int .i64 0],[HS,GL,HG,.int .i64 (dJ p),BV],[.int .i64 0,.int .i64 0]],s++[sO 0 (aag i Y++(aag n X).drop i),.rows 0 3 [[.mu (Q s) 0,.int .i64 0,.int .i64 0]]]⟩)
    (λi=>i<=N) (λi=>N-i) 0 (by simp) (by simp) ?_
   intro i hi uC;by_cases hil:i<N;have hwi:=wk i (by omega);have LZ:i<Q (aag n X):=(by simp;omega);have hn:=Se LZ;have hll:Q (aag i Y++(aag n X).drop i)=n:=(by simp;omega);have hib:i<Q (aag i Y++(aag n X).drop i):=(by omega);have hb:=xq hib;have E:=uC (i+1) (by omega) (by omega);generalize aag (i+1) Y++(aag n X).drop (i+1)=s2,aag i Y++(aag n X).drop i=s1 at *;have I:i<n:=(by omega);simp[hil,B,hwi,hll,I,hn,t,q,J,M,p1,p2,p3,bw,AV.aD,AV.aH,aB];exact E;have hik:i=N:=(by omega);rw[hik,ahR];generalize aag N Y++aag (n-N) X=s0 at *;cases ZC:(nA s0 cs).2 with
   |none=>
    rw[ZC]at L H;have H:Mb (SS.drop (k+1)) (bs.drop (k+1))=Mb SS bs:=H;have iD:=λo=>ih (k+1,o) ⟨by grind,H⟩ (by grind);simp only at iD;simp only[uO,cE,cX]at F L;simp[F,L,hw,B,t,l,R,q,J,M,p1,p2,p3,D,z3,z4,w2];exact iD _
   |some a=>
    rw[ZC]at L H;have H:Z a=Mb SS bs:=H;rw[<-H];simp only[uO,cE,cX,G8]at F L ⊢;simp[F,L,B,t,l,R,q,J,M,p1,p2,p3,D,z3,z4,w2,aB]
   have dQ:k=Q bs:=(by omega);rw[dQ,aaF,adA]at H;rw[<-H];simp_all [G8,cE,cX]
end S9
