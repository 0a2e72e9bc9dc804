/- Part of a proof. -/
import Derived.Test.YtgblgbgjmgjfkaaGreatS
import Derived.Test.YtgblgbgjmgjfkaaGreatV

open List renaming getElem?_eq_some_iff->aac,getElem_mem->acH,drop_eq_getElem_cons->adB,drop_length->aep,take_of_length_le->aea,replicate->acp,getElem?_set_ne->ad6,zipWith->ae8,getElem?_append_left->acJ,eq_nil_of_length_eq_zero->ad8
open Int renaming toNat_natCast->aeu
set_option maxRecDepth 100000
set_option maxHeartbeats 8000000
namespace S9
open Ax Go aO V7 iQ iZ K9
def uO(s:AV)(f:Option Int):dJ:=.rows 0 3 [[s,.int .i64 (cE f),.int .i64 (cX f)]]
def nI(o:Nat)(st:aj)(s:AV)(S:List Bool):Prop:=(∃j v,s=.mu j v/\st[j]?=some (sO v S)/\o≠j)\/(s=.aF/\S=[])
theorem yM{I:Nat}{st:aj}{s:AV}{S:List Bool}{o:dJ}(h:nI I st s S):nI I (st.set I o) s S:=by
 rcases h with⟨j,v,rfl,g,H⟩|h;exact .inl ⟨j,v,rfl,by grind,H⟩;exact .inr h
theorem acV(e:E):∀(l:List Bool)(f:Option Int)(p:Nat)(st:aj)(I:Nat)(s:AV),st[I]?=some (uO s f)->nI I st s l->CN l.length e->E.sz e<1000000000->
  (aZ S).call 0 p 135 [.ptr I 0 0 0,.agg e.aI] st=some (.eY [],st.set I (uO s (xz f (NX l e)))):=by
 induction e using E.Cf with
 |_ e ih=>
  intro l f p st I s D hj hr eO;have zi:=E.rj e;have gW:=E.lF e.aN;have hz:cN 11 (bG e.aN)=true:=nC;have J:bf (bG e.aN)=true:=ck;have K:(bG e.aN).ai=bG e.aN:=bY;have q:aY (bG e.aN)=E.rows e.aN:=bn;have tj:(E.rows e.aN).length=e.aN.length:=by simp
  have M:=λwl p a st=>U7.EK wl p a st;rw[xB]at hr;obtain⟨Ju,N⟩:=hr;rw[mo]at N;rw[agr,E.aQ];have Zh:I<st.length:=(aac.1 D).1;generalize sP:bG e.aN=kv at *;refine aG (sf:=akH) rfl rfl rfl ?_;simp[akH,J];refine bN Vw.eq_1 (λx:Nat×Option Int=>⟨[(0,.val (.ptr I 0 0 0)),(3,.fp 0 0),(4,.val (.int .i64 x.1))],[[.int .i64 e.k,.int .i64 e.n,.str e.nm,.str e.on,.int .i64 e.od,kv,.int .i64 e.a,.int .i64 e.ty.b,.int .i64 e.ty.r,.int .i64 e.ty.d,.int .i64 e.ref]],st.set I (uO s x.2)⟩)
   (λx=>x.1<=e.aN.length/\xz x.2 (sx l (e.aN.drop x.1))=xz f (sx l e.aN)) (λx=>e.aN.length-x.1) (0,f) (by simp[jX D]) ⟨by simp,by simp⟩ ?_
  rintro⟨k,g⟩ ⟨hk,H⟩ Y;simp only at hk H Y;have Ub:(st.set I (uO s g))[I]?=some (uO s g):=lH D;have Z:nI I (st.set I (uO s g)) s l:=yM hj;have X:∀o,(st.set I (uO s g)).set I o=st.set I o:=λo=>by simp_all
  by_cases F:k<e.aN.length;have hw:=wk k (by omega);have R:=acH F;have P:=λp=>ih _ R l g p (st.set I (uO s g)) I s Ub Z (N _ R) (by have:=E.ri R;omega);rw[adB F,Mq,<-sw]at H;have w:=Y (k+1,xz g (NX l e.aN[k])) ⟨by grind,H⟩ (by grind);simp only at w;simp only[X]at P;have gE:=Mu F;have mg:k<(E.rows e.aN).length:=by grind
  have EP:=Bo F mg;rw[E.aQ e.aN[k]]at P gE EP;have xv:bf (bG e.aN[k].aN)=true:=ck;have xw:(bG e.aN[k].aN).ai=bG e.aN[k].aN:=bY;generalize e.aN[k]=x,st.set I (uO s g)=C at *;generalize st.set I (uO s (xz g (NX l x)))=s2 at *;simp[F,hw,hz,J,K,q,EP,P,xw,AV.ai];exact w
  ·have gW:k=e.aN.length:=(by omega);rw[gW,aep]at H;simp only[sx,yG]at H;subst H;rw[<-sw];clear Y D;generalize xz f (sx l e.aN)=g at *;have GN:(st.set I (uO s g)).length=st.length:=(by simp);have L:(st.set I (uO s g)).take st.length=st.set I (uO s g):=aea (by simp);have O:(st.set I (uO s g))[I]?=some (.rows 0 3 [[s,.int .i64 (cE g),.int .i64 (cX g)]]):=Ub;have V:∀o,(st.set I o).take st.length=st.set I o:=λo=>aea (by simp);by_cases z:e.k=4
   ·by_cases h0:0<=e.ref
    ·have hlr:=Ju z;obtain⟨r,T⟩:∃r:Nat,e.ref=r:=⟨e.ref.toNat,by omega⟩;have m:r<l.length:=(by omega);obtain⟨j,v,rfl,G,iO⟩:∃j v,s=.mu j v/\(st.set I (uO s g))[j]?=some (.rows v 1 (kG l))/\I≠j:=by
      rcases Z with h|⟨_,h⟩;all_goals grind
     have hb:=wF m;have hsu:l[r]?=some l[r]:=List.getElem?_eq_getElem m;have t:(e.k=4)=True:=eq_true z;have Q:(if e.k=4/\0<=e.ref/\l[e.ref.toNat]?=some false then some e.a else none)=(if l[r]=false then some e.a else none):=(by grind);rw[Q];rw[T];cases B:l[r] with
     |true=>
      rw[B]at hb;simp only[Bool.true_eq_false,br,yG];generalize st.set I (uO (.mu j v) g)=C at *;simp[F,t,J,K,q,m,O,G,B,L,aD,aC]
     |false=>
      rw[B]at hb;simp only[bh];cases g with
      |none=>
       simp only[xz,cE,cX]at O ⊢;have wL:(st.set I (uO (.mu j v) none)).set I (.rows 0 3 [[.mu j v,.int .i64 3,.int .i64 e.a]])=st.set I (uO (.mu j v) (some e.a)):=X _;have W:=V (uO (.mu j v) (some e.a));generalize st.set I (uO (.mu j v) (some e.a))=s2,st.set I (uO (.mu j v) none)=C at *;simp[F,t,J,K,q,m,G,B,O,M,bu,AV.aB,AV.aH,ay,wL,W,aD,aC]
      |some y=>
       simp only[xz,cE,cX]at O ⊢;generalize st.set I (uO (.mu j v) (some y))=C at *;simp[F,t,J,K,q,m,G,B,O,L,aD,aC]
    rw[U (λh=>h0 h.2.1),yG];have t:(e.k=4)=True:=eq_true z;generalize st.set I (uO s g)=C at *;simp[F,t,h0,J,K,q,L,aD,aC]
   rw[U (λh=>z h.1),yG];generalize st.set I (uO s g)=C at *;simp[F,z,J,K,q,L,aD,aC]
theorem al4(s:List Bool)(f:Option Int)(r:Nat)(st:aj)(I:Nat)(l:AV)(H:st[I]?=some (uO l f))(X:nI I st l s)(p:s.length<1000000000) :
  ∃g,(aZ S).call 0 r 136 [.ptr I 0 0 0] st=some (.eY [],g)/\((∃j v,l=.mu j v/\g=st.set j (sO v (s.map λ_=>true)))\/(l=.aF/\g=st)):=by
 rcases X with⟨j,v,rfl,X,y⟩|⟨rfl,rfl⟩;refine⟨st.set j (sO v (s.map λ_=>true)),?_,.inl ⟨j,v,rfl,rfl⟩⟩;have X:st[j]?=some (.rows v 1 (kG s)):=X;have U:∀o,(st.set j o)[I]?=some (.rows 0 3 [[.mu j v,.int .i64 (cE f),.int .i64 (cX f)]]):=λo=>by rw[wE (Ne.symm y)];exact H
 have M:∀h:List Bool,(st.set j (sO v h))[j]?=some (.rows v 1 (kG h)):=λh=>lH X;have q:∀(a b:dJ),(st.set j a).set j b=st.set j b:=λa b=>by simp_all
 have E:∀o,(st.set j o).take st.length=st.set j o:=λo=>aea (by simp);refine aG (sf:=abF) rfl rfl rfl ?_;simp[abF];refine bN NG.eq_1 (λk:Nat=>⟨[(0,.val (.ptr I 0 0 0)),(2,.val (.int .i64 k))],[],st.set j (sO v (acp k true++s.drop k))⟩)
  (λk=>k<=s.length) (λk=>s.length-k) 0 (by simp[jX X]) (by simp) ?_
 intro k D z;have w:(acp k true++s.drop k).length=s.length:=by simp;omega
 have t:=M (acp k true++s.drop k);have m:=U (sO v (acp k true++s.drop k));by_cases F:k<s.length;have x:=wk k (by omega);have G:k<(acp k true++s.drop k).length:=by omega
 have C:=wF G;have p:=Ra F;have W:=z (k+1) (by omega) (by omega);have n:(st.set j (sO v (acp k true++s.drop k))).set j (.rows v 1 (kG (acp (k+1) true++s.drop (k+1))))=st.set j (sO v (acp (k+1) true++s.drop (k+1))):=q _ _;generalize acp (k+1) true++s.drop (k+1)=B,acp k true++s.drop k=h at *;generalize st.set j (sO v h)=J at *;simp[F,x,t,m,w,p,n,bu,AV.aB,AV.aH,ay];exact W;have G:k=s.length:=by omega
 simp_all [List.map_const'];refine⟨st,?_,.inr ⟨rfl,rfl⟩⟩;have H:st[I]?=some (.rows 0 3 [[.aF,.int .i64 (cE f),.int .i64 (cX f)]]):=H;refine aG (sf:=abF) rfl rfl rfl ?_;simp[abF];rw[zm NG.eq_1];simp[H]
end S9
namespace S9
open Ax Go aO V7 iQ iZ K9
structure Fr (ic:Nat)(st:aj)(SV:AV)(st':aj)(K1:AV):Prop where
 len:st.length<=st'.length
 jf:∀i,i<st.length->i≠ic->(∀v,SV≠.mu i v)->st'[i]?=st[i]?
 ju:∀i v,K1=.mu i v->(∃v',SV=.mu i v')\/st.length<=i
variable{o:Nat}{st:aj}{s:AV}
theorem Fr.refl:Fr o st s st s:=⟨Nat.le_refl _,λ_ _ _ _=>rfl,λ_i v h=>.inl ⟨v,h⟩⟩
theorem Fr.trans{qg pg:aj}{g S:AV}(h:Fr o st g qg s)(k:Fr o qg s pg S):Fr o st g pg S:=by
 refine⟨Nat.le_trans h.len k.len,λi H M p=>?_,λi v e=>?_⟩
 ·rw[k.jf i (by have:=h.len;omega) M λv e=>?_,h.jf i H M p];rcases h.ju i v e with⟨V,n⟩|j;all_goals grind
 rcases k.ju i v e with⟨V,n⟩|j;exact h.ju i V n;exact .inr (by have:=h.len;omega)
theorem Fr.cell{I:Nat}{o:dJ}:Fr I st s (st.set I o) s:=
 ⟨by simp,λi H M _=>ad6 (Ne.symm M),λi v h=>.inl ⟨v,h⟩⟩
def Zn(l:List Sm):Prop:=∀(g:List Bool)(f:Option Int)(st:aj)(o:Nat)(h:AV),st[o]?=some (uO h f)->nI o st h g->rq g.length l->Sm.eD l<1000000000->g.length<1000000000->
 ∃s k,(aZ S).call 0 0 90 [.ptr o 0 0 0,bZ l] st=some (.eY [],s)/\s[o]?=some (uO k (xz f (mE g l).2))/\nI o s k (mE g l).1/\Fr o st h s k
def Dl:aT->aT
 |.seq _ (.seq (.block _ (.seq _ b)) _)=>b|x=>x
def rB:aT:=Dl tZ
def uo:aT:=jG rB
theorem awH(s:Sm)(j:List Bool)(f:Option Int)(st:aj)(I:Nat)(h:AV)(H:st[I]?=some (uO h f))(X:nI I st h j)(q:zJ j.length s.es)(eO:E.eD s.es<1000000000){rs:List jv}{Q:Ex->St->Prop}{kk:List uQ}(Z:AV)(K:Nat)
  (go:W S 0 0 rs Q (.code uo::kk) .normal ⟨[(0,.val (.ptr I 0 0 0)),(1,.val Z),(4,.val (.int .i64 K)),(5,.fp 0 0)],[s.aI],st.set I (uO h (xz f (sx j s.es)))⟩) :
  W S 0 0 rs Q (.code rB::kk) .normal ⟨[(0,.val (.ptr I 0 0 0)),(1,.val Z),(4,.val (.int .i64 K)),(5,.fp 0 0)],[s.aI],st⟩:=by
 have B:cN 11 (bG s.es)=true:=nC;have L:bf (bG s.es)=true:=ck;have M:(bG s.es).ai=bG s.es:=bY;have J:aY (bG s.es)=E.rows s.es:=bn;have v:=E.lF s.es;rw[mo]at q;have Y:I<st.length:=(aac.1 H).1;rw[Sm.aQ]at *;generalize bZ s.bd=O,bZ s.el=P at *;generalize sP:bG s.es=N at *;show W S 0 0 rs Q (.code (.seq (.seq (.region [{ dst:=some 6,op:=.move,args:=[.const (.int .i64 0)],guard:=none }] none []) (.block 2 (.loop Tv))) uo)::kk) .normal _;generalize uo=T at *;simp;refine bN Tv.eq_1 (λx:Nat×Option Int=>⟨[(0,.val (.ptr I 0 0 0)),(1,.val Z),(4,.val (.int .i64 K)),(5,.fp 0 0),(6,.val (.int .i64 x.1))],[[.int .i64 s.k,.str s.nm,.str s.on,.int .i64 s.od,N,O,P,.int .i64 s.a,.int .i64 s.ref]],st.set I (uO h x.2)⟩)
  (λx=>x.1<=s.es.length/\xz x.2 (sx j (s.es.drop x.1))=xz f (sx j s.es)) (λx=>s.es.length-x.1) (0,f) (by simp[jX H]) ⟨by simp,by simp⟩ ?_
 rintro⟨k,g⟩ ⟨y,m⟩ C;simp only at y m C;have U:(st.set I (uO h g))[I]?=some (uO h g):=lH H;have D:nI I (st.set I (uO h g)) h j:=yM X;have G:∀o,(st.set I (uO h g)).set I o=st.set I o:=λo=>by simp_all
 by_cases F:k<s.es.length;have z:=wk k (by omega);have p:=acH F;have l:=λr=>acV s.es[k] j g r (st.set I (uO h g)) I h U D (q _ p) (by have:=E.ri p;omega);rw[adB F,Mq,<-sw]at m;have w:=C (k+1,xz g (NX j s.es[k])) ⟨by grind,m⟩ (by grind);simp only at w;simp only[G]at l;have t:=Mu F;have R:k<(E.rows s.es).length:=by grind
 have n:=Bo F R;rw[E.aQ s.es[k]]at l t n;have xv:bf (bG s.es[k].aN)=true:=ck;have V:(bG s.es[k].aN).ai=bG s.es[k].aN:=bY;generalize s.es[k]=x,st.set I (uO h g)=s1 at *;generalize st.set I (uO h (xz g (NX j x)))=s2 at *;simp[F,z,B,L,M,J,n,l,V,AV.ai];exact w;have v:k=s.es.length:=by omega
 simp_all [sx,yG]
theorem ER{j v:Nat}{S s:List Bool}(h:st[j]?=some (sO v S))(M:o≠j):nI o (st.set j (sO v s)) (.mu j v) s:=.inl ⟨j,v,rfl,lH h,M⟩
theorem Fr.mu{I:Nat}{j v:Nat}{o:dJ}:Fr I st (.mu j v) (st.set j o) (.mu j v):=
 ⟨by simp,λi hi M p=>ad6 (λe=>p v (by rw[e])),λi v h=>.inl ⟨v,h⟩⟩
def ai0(s:Sm):Prop:=∀(h:List Bool)(f:Option Int)(st:aj)(o:Nat)(j:AV),st[o]?=some (uO j f)->nI o st j h->HK h.length s->Sm.sz s<1000000000->h.length<1000000000->
 ∀{rs:List jv} {Q:Ex->St->Prop} {kk:List uQ} (Z:AV) (K:Nat),
  (∀g k,g[o]?=some (uO k (xz f (Bj h s).2))->nI o g k (Bj h s).1->Fr o st j g k->W S 0 0 rs Q kk .normal ⟨[(0,.val (.ptr o 0 0 0)),(1,.val Z),(4,.val (.int .i64 K))],[s.aI],g⟩)->
  W S 0 0 rs Q (.code rB::kk) .normal ⟨[(0,.val (.ptr o 0 0 0)),(1,.val Z),(4,.val (.int .i64 K)),(5,.fp 0 0)],[s.aI],st⟩
theorem Wg(l:List Sm)(hs:∀s∈l,ai0 s):Zn l:=by
 intro m f st o v Y hj hr eO hn;have hz:cN 9 (bZ l)=true:=Ob;have D:bf (bZ l)=true:=cQ;have E:(bZ l).ai=bZ l:=bQ;have J:aY (bZ l)=Sm.rows l:=bn;have B:=Sm.lF l;rw[wA]at hr;obtain⟨V,h,r,rfl,K,t⟩:∃V h,(aZ S).call 0 0 90 [.ptr o 0 0 0,bZ l] st=some (V,h)/\V=.eY []/\∃K,h[o]?=some (uO K (xz f (mE m l).2))/\nI o h K (mE m l).1/\Fr o st v h K:=by
  refine jL (sf:=s90) rfl rfl rfl ?_;generalize bZ l=Z at *;simp[s90];refine bN tZ.eq_1 (λx:Nat×List Bool×Option Int×aj×AV×List AV=>⟨[(0,.val (.ptr o 0 0 0)),(1,.val Z),(4,.val (.int .i64 x.1))],[x.2.2.2.2.2],x.2.2.2.1⟩)
   (λx=>x.1<=l.length/\x.2.1.length=m.length/\xz x.2.2.1 (mE x.2.1 (l.drop x.1)).2=xz f (mE m l).2/\(mE x.2.1 (l.drop x.1)).1=(mE m l).1/\x.2.2.2.1[o]?=some (uO x.2.2.2.2.1 x.2.2.1)/\nI o x.2.2.2.1 x.2.2.2.2.1 x.2.1/\Fr o st v x.2.2.2.1 x.2.2.2.2.1)
   (λx=>l.length-x.1) (0,m,f,st,v,[]) (by simp) ⟨by simp,rfl,by simp,by simp,Y,hj,Fr.refl⟩ ?_
  rintro⟨k,q,g,gD,n,b⟩ ⟨hk,y,j,H,p,U,z⟩ I;simp only at hk y j H p U z I;by_cases F:k<l.length;have hw:=wk k (by omega);have C:=acH F;have L:=fun {rs:List jv} {Q:Ex->St->Prop} {kk:List uQ}=>hs _ C q g gD o n p U (by grind) (by have:=Sm.ri C;omega) (by omega) (rs:=rs) (Q:=Q) (kk:=kk) Z k;rw[adB F,Yb]at j H;simp only at j H;rw[<-sw]at j;have R:=Oe F;have mg:k<(Sm.rows l).length:=by grind
  have T:=Cl F mg;obtain⟨O,M,l1⟩:=gh (s:=l[k]);have P:(bG l[k].es).ai=bG l[k].es:=bY;have N:(bZ l[k].bd).ai=bZ l[k].bd:=bQ;have l2:(bZ l[k].el).ai=bZ l[k].el:=bQ;show W S 0 0 _ _ (.code (.seq (.seq _ _) (.seq (.block 1 (.seq _ rB)) _))::_) .normal _;have G:=λ(h:aj) (K:AV) (r:h[o]?=some (uO K (xz g (Bj q l[k]).2))) (t:nI o h K (Bj q l[k]).1) (w:Fr o gD n h K)=>I (k+1,(Bj q l[k]).1,xz g (Bj q l[k]).2,h,K,l[k].aI) ⟨by grind,by grind [QY],j,H,r,t,z.trans w⟩ (by grind);simp only at G;simp only[Sm.aQ l[k]]at R T G L;generalize rB=BD,bG l[k].es=xe,bZ l[k].bd=xb,bZ l[k].el=xl at *;simp[F,hz,D,E,J,T,O,M,l1,P,N,l2,ay];refine L λh K r t w=>?_;simp[hw];exact G h K r t w;have X:k=l.length:=by omega
  rw[X,aep,ab6]at j H;simp only[yG]at j H;subst j H;simp[F,D,E,J,lI]
  grind
 grind
end S9
namespace S9
open Ax Go aO V7 iQ iZ K9
theorem sD{o:Nat}{st:aj}{s:AV}{S:List Bool}(h:nI o st s S):s.ai=s/\s.cM=true/\s.cells=[s]:=by
 rcases h with⟨j,v,rfl,_⟩|⟨rfl,_⟩<;>simp_all
theorem acY{o:Nat}{st:aj}{S:AV}{s:List Bool}(q:o<st.length)(h:nI o st S s)(r:s.length<1000000000):∃W ext,(∀k B,bz 0 k (.jH 1 1) [.val .aF,.val S] st B=some (.val W,st++ext,B))/\nI o (st++ext) W s/\(∀i v,W=.mu i v->i=st.length/\st.length<(st++ext).length):=by
 by_cases p:s=[];subst p;refine⟨.aF,[],λk B=>?_,.inr ⟨rfl,rfl⟩,λi v h=>by cases h⟩;rcases h with⟨j,v,rfl,H,g⟩|⟨rfl,_⟩;have H:st[j]?=some (.rows v 1 []):=H;simp[bz,tR,dG,fA,H,cr];simp[bz,tR,dG,fA,cr];rcases h with⟨j,v,rfl,H,g⟩|⟨_,h⟩;refine⟨.mu st.length 0,[sO 0 s],λk B=>?_,.inl ⟨st.length,0,rfl,by simp,by omega⟩,λi v h=>by grind⟩;have m:cr 1 (kG s)=true:=by simp[cr,kG]
 have n:s.length<=cZ:=by unfold cZ;omega
 have M:(kG s).isEmpty=false:=by cases s with
  |nil=>grind|cons a l=>rfl
 have H:st[j]?=some (.rows v 1 (kG s)):=H;simp[bz,tR,dG,fA,H,Q9,m,n]
 grind
 grind
theorem YI{A B:List Bool}{k:Nat}(h:k<A.length)(H:k<B.length):((ae8 (λa b=>a&&b) A B).take k++B.drop k).set k (A[k]&&B[k])=(ae8 (λa b=>a&&b) A B).take (k+1)++B.drop (k+1):=by
 rw[adB H,List.set_append_right _ _ (by simp;omega),List.take_succ_eq_append_getElem (by simp;omega)];have:k-((ae8 (λa b=>a&&b) A B).take k).length=0:=by simp;omega
 grind
theorem agX{A B:List Bool}{k:Nat}(h:k<A.length)(H:k<B.length)(j:k<((ae8 (λa b=>a&&b) A B).take k++B.drop k).length):((ae8 (λa b=>a&&b) A B).take k++B.drop k)[k]=B[k]:=by
 grind
theorem oL(s:Sm)(hB:Zn s.bd)(hL:Zn s.el):ai0 s:=by
 intro l f st I m hc hj hr eO z rs Q kk lv k0 go;have hz:=Sm.wz s;obtain⟨r1,r2,r3,r4,r5⟩:=(xC _ _).1 hr;have Zh:I<st.length:=(aac.1 hc).1;obtain⟨e1,b1,l1⟩:=gh (s:=s);have b2:(bZ s.bd).ai=bZ s.bd:=bQ;have l2:(bZ s.el).ai=bZ s.el:=bQ;refine awH s l f st I m hc hj r1 (by omega) lv k0 ?_;rw[ags]at go;generalize hg:xz f (sx l s.es)=g at *;have Ub:(st.set I (uO m g))[I]?=some (uO m g):=lH hc;have Z:nI I (st.set I (uO m g)) m l:=yM hj;have Rv:Fr I st m (st.set I (uO m g)) m:=Fr.cell;have arc:I<(st.set I (uO m g)).length:=by grind
 generalize st.set I (uO m g)=n at *;clear hc hj;rw[Sm.aQ]at *;generalize bG s.es=ev at *;generalize hbv:bZ s.bd=bv at *;generalize GB:bZ s.el=lw at *;by_cases L:s.k=1
 ·obtain⟨h0,bP⟩:=r2 (.inl L);obtain⟨r,D⟩:∃r:Nat,s.ref=r:=⟨s.ref.toNat,by omega⟩;have tj:r<l.length:=by omega
  have Hr:(s.k=1)=True:=eq_true L;obtain⟨j,v,rfl,C,M⟩:∃j v,m=.mu j v/\n[j]?=some (.rows v 1 (kG l))/\I≠j:=by
   rcases Z with h|⟨_,h⟩;all_goals grind
  rw[af L,D,aeu,hg]at go;have go:=go (n.set j (sO v (l.set r false))) (.mu j v) (by grind) (ER C M) (Rv.trans Fr.mu);have Y:n[I]?=some (.rows 0 3 [[.mu j v,.int .i64 (cE g),.int .i64 (cX g)]]):=Ub;have hb:=wF tj;simp[uo,rB,Dl,tZ,jG,Hr,D,Y,C,tj,bu,AV.aB,AV.aH,ay,aD,aC];exact go
 rw[U L]at go;by_cases Sp:s.k=2\/s.k=3
 ·rw[af Sp]at go;by_cases h0:0<=s.ref
  ·have bP:s.ref<l.length:=by
    grind
   obtain⟨r,D⟩:∃r:Nat,s.ref=r:=⟨s.ref.toNat,by omega⟩;have tj:r<l.length:=(by omega);obtain⟨j,v,rfl,C,M⟩:∃j v,m=.mu j v/\n[j]?=some (.rows v 1 (kG l))/\I≠j:=by
    rcases Z with h|⟨_,h⟩;all_goals grind
   rw[af h0,D,aeu,hg]at go;have go:=go (n.set j (sO v (l.set r true))) (.mu j v) (by grind) (ER C M) (Rv.trans Fr.mu);have Y:n[I]?=some (.rows 0 3 [[.mu j v,.int .i64 (cE g),.int .i64 (cX g)]]):=Ub;have hb:=wF tj;rcases Sp with h|h;have Zi:(s.k=2)=True:=eq_true h;simp[uo,rB,Dl,tZ,jG,L,Zi,D,Y,C,tj,bu,AV.aB,AV.aH,ay,aD,aC];exact go;have h2:¬s.k=2:=(by omega);have Ln:(s.k=3)=True:=eq_true h;simp[uo,rB,Dl,tZ,jG,L,h2,Ln,D,Y,C,tj,bu,AV.aB,AV.aH,ay,aD,aC];exact go
  have h3:s.k=3:=by
   grind
  have h2:¬s.k=2:=by omega
  have Ln:(s.k=3)=True:=eq_true h3;rw[U h0,hg]at go;have go:=go n m Ub Z Rv;simp[uo,rB,Dl,tZ,jG,L,h2,Ln,h0];exact go
 rw[U Sp]at go;have h2:¬s.k=2:=λh=>Sp (.inl h);have h3:¬s.k=3:=λh=>Sp (.inr h);by_cases h7:s.k=7
 ·have h7':(s.k=7)=True:=eq_true h7;rw[af h7,hg]at go;obtain⟨s2,fD,Al⟩:=al4 l g 0 n I m Ub Z z;have go:W S 0 0 rs Q kk .normal ⟨[(0,.val (.ptr I 0 0 0)),(1,.val lv),(4,.val (.int .i64 k0))],[[.int .i64 s.k,.str s.nm,.str s.on,.int .i64 s.od,ev,bv,lw,.int .i64 s.a,.int .i64 s.ref]],s2⟩:=by
   rcases Al with⟨j,v,rfl,rfl⟩|⟨rfl,rfl⟩
   ·obtain⟨C,M⟩:n[j]?=some (sO v l)/\I≠j:=by
     rcases Z with⟨j',V,e,h,H⟩|⟨e,_⟩;all_goals grind
    exact go _ (.mu j v) (by grind) (ER C M) (Rv.trans Fr.mu)
   refine go s2 .aF Ub ?_ Rv;rcases Z with⟨_,_,e,_⟩|⟨_,rfl⟩;cases e;exact .inr ⟨rfl,rfl⟩
  simp_all [uo,rB,Dl,tZ,jG]
 rw[U h7]at go;by_cases h6:s.k=6
 ·have h6':(s.k=6)=True:=eq_true h6;rw[af h6]at go;simp only at go;rw[<-sw,hg]at go;obtain⟨WS,ext,Uc,xx,X⟩:=acY arc Z z;have Y:(n++ext)[I]?=some (uO m g):=by grind
  have C:nI I (n++ext) m l:=by
   rcases Z with⟨j,v,rfl,h,H⟩|h;exact .inl ⟨j,v,rfl,by grind,H⟩;exact .inr h
  have hSW:∀i v V,WS=.mu i v->m≠.mu i V:=λi v V h e=>by
   obtain⟨hi,_⟩:=X i v h;rcases Z with⟨j,w,e2,h,_⟩|⟨e2,_⟩;all_goals grind
  obtain⟨t,p,fD,F,P,Rw⟩:=hB l g (n++ext) I m Y C r4 (by omega) z;rw[hbv]at fD;generalize hg2:xz g (mE l s.bd).2=G at *;have K:nI I t WS l:=by
   rcases xx with⟨j,v,rfl,h,H⟩|h;refine .inl ⟨j,v,rfl,?_,H⟩;rw[Rw.jf j (aac.1 h).1 (Ne.symm H) λV=>hSW j v V rfl];exact h;exact .inr h
  have hl3:n.length<=t.length:=by have:=Rw.len;grind
  have go:=go (t.set I (uO WS G)) WS (lH F) (yM K) (by
   refine Rv.trans ⟨by grind,λi hi M hv=>?_,λi v h=>.inr (by grind)⟩;rw[wE (Ne.symm M),Rw.jf i (by simp;omega) M hv,acJ hi])
  obtain⟨wv,wc,wl⟩:=sD K;obtain⟨vv,vc,_⟩:=sD Z;have N:n[I]?=some (.rows 0 3 [[m,.int .i64 (cE g),.int .i64 (cX g)]]):=Ub;have O:t[I]?=some (.rows 0 3 [[p,.int .i64 (cE G),.int .i64 (cX G)]]):=F;have CL:∀x,t.set I (.rows 0 3 [[x,.int .i64 (cE G),.int .i64 (cX G)]])=t.set I (uO x G):=λx=>rfl;generalize n++ext=s2 at *;simp[uo,rB,Dl,tZ,jG,L,h2,h3,h7,h6',N,vv,wc,wl,Uc,fD,b2,O,bu,ay];exact go
 rw[U h6]at go;by_cases h5:s.k=5
 ·have h5':(s.k=5)=True:=eq_true h5;rw[af h5]at go;simp only at go;rw[<-sw,<-sw,hg]at go;obtain⟨WS,ext,Uc,xx,X⟩:=acY arc Z z;have Y:(n++ext)[I]?=some (uO m g):=by grind
  have C:nI I (n++ext) m l:=by
   rcases Z with⟨j,v,rfl,h,H⟩|h;exact .inl ⟨j,v,rfl,by grind,H⟩;exact .inr h
  have hSW:∀i v V,WS=.mu i v->m≠.mu i V:=λi v V h e=>by
   obtain⟨hi,_⟩:=X i v h;rcases Z with⟨j,w,e2,h,_⟩|⟨e2,_⟩;all_goals grind
  obtain⟨t,p,fD,F,P,Rw⟩:=hB l g (n++ext) I m Y C r4 (by omega) z;rw[hbv]at fD;generalize hg2:xz g (mE l s.bd).2=G at *;have K:nI I t WS l:=by
   rcases xx with⟨j,v,rfl,h,H⟩|h;refine .inl ⟨j,v,rfl,?_,H⟩;rw[Rw.jf j (aac.1 h).1 (Ne.symm H) λV=>hSW j v V rfl];exact h;exact .inr h
  have hl3:n.length<=t.length:=by have:=Rw.len;grind
  have awK:Fr I st m (t.set I (uO WS G)) WS:=by
   refine Rv.trans ⟨by grind,λi hi M hv=>?_,λi v h=>.inr (by grind)⟩;rw[wE (Ne.symm M),Rw.jf i (by simp;omega) M hv,acJ hi]
  obtain⟨AB,q,Ud,hc5,R,al8⟩:=hL l G (t.set I (uO WS G)) I WS (lH F) (yM K) r5 (by omega) z;rw[GB]at Ud;generalize hg3:xz G (mE l s.el).2=g3 at *;have nZ:∀i v V,p=.mu i v->WS≠.mu i V:=λi v V h e=>by
   obtain⟨hi,Pa⟩:=X i V e;rcases Rw.ju i v h with⟨w,e2⟩|hl;all_goals grind
  have awM:nI I AB p (mE l s.bd).1:=by
   rcases P with⟨j,v,rfl,h,H⟩|h;refine .inl ⟨j,v,rfl,?_,H⟩;rw[al8.jf j (by grind) (Ne.symm H) λV=>nZ j v V rfl,wE H];exact h;exact .inr h
  have sR:∀i v V,q=.mu i v->p≠.mu i V:=λi v V h e=>by
   rcases al8.ju i v h with⟨w,e2⟩|hl
   grind
   ·rcases P with⟨j,w,e2,h2,_⟩|⟨e2,_⟩;all_goals grind
  have hAl:(mE l s.bd).1.length=l.length:=Bk _ _;have hBl:(mE l s.el).1.length=l.length:=Bk _ _;generalize (mE l s.bd).1=A,(mE l s.el).1=B at *;obtain⟨wv,wc,wl⟩:=sD K;obtain⟨vv,vc,_⟩:=sD Z;obtain⟨v3,c3,_⟩:=sD P;have N:n[I]?=some (.rows 0 3 [[m,.int .i64 (cE g),.int .i64 (cX g)]]):=Ub;have O:t[I]?=some (.rows 0 3 [[p,.int .i64 (cE G),.int .i64 (cX G)]]):=F;have CL:t.set I (.rows 0 3 [[WS,.int .i64 (cE G),.int .i64 (cX G)]])=t.set I (uO WS G):=rfl;generalize n++ext=s2,t.set I (uO WS G)=s4 at *;have Vg:Fr I st m AB q:=awK.trans al8;by_cases hs0:l.length=0;have hA:A=[]:=ad8 (by omega);have hBn:B=[]:=ad8 (by omega);subst hA hBn;have go:=go AB q hc5 (by simpa using R) Vg;have hlen:td AB .sl q=some 0:=by
   rcases R with⟨j,v,rfl,h,_⟩|⟨rfl,_⟩;have h:AB[j]?=some (.rows v 1 []):=h;simp[h];simp
  obtain⟨v5,c5,_⟩:=sD R;have awN:AB[I]?=some (.rows 0 3 [[q,.int .i64 (cE g3),.int .i64 (cX g3)]]):=hc5;have Mt:∀wl ah bx,bz wl ah (.len .sl) [.val q] AB bx=some (.val (.int .i64 0),AB,bx):=λwl ah bx=>by rw[aiw,hlen];rfl
  simp[uo,rB,Dl,tZ,jG,L,h2,h3,h7,h6,h5',N,vv,v3,wc,wl,Uc,fD,Ud,b2,l2,O,CL,bu,ay];rw[zm Tw.eq_1];simp[-aiw,-afJ,awN,v5,Mt];exact go
  ·obtain⟨J,y,rfl,al9,arf⟩:∃j v,q=.mu j v/\AB[j]?=some (.rows v 1 (kG B))/\I≠j:=by
    rcases R with h|⟨_,h⟩;all_goals grind
   obtain⟨j3,w3,rfl,aBR,aBS⟩:∃j v,p=.mu j v/\AB[j]?=some (.rows v 1 (kG A))/\I≠j:=by
    rcases awM with h|⟨_,h⟩;all_goals grind
   have aBT:J≠j3:=λe=>sR J y w3 rfl (by rw[e]);have hcS:∀o,(AB.set J o)[I]?=some (.rows 0 3 [[.mu J y,.int .i64 (cE g3),.int .i64 (cX g3)]]):=λo=>by rw[wE (Ne.symm arf)];exact hc5
   have hAS:∀o,(AB.set J o)[j3]?=some (.rows w3 1 (kG A)):=λo=>by grind
   have hBS:∀sk:List Bool,(AB.set J (sO y sk))[J]?=some (.rows y 1 (kG sk)):=λsk=>lH al9;have Av:∀(a b:dJ),(AB.set J a).set J b=AB.set J b:=λa b=>by rw[List.set_set]
   have aBW:(ae8 (λa b=>a&&b) A B).length=l.length:=(by grind);have go:=go (AB.set J (sO y (ae8 (λa b=>a&&b) A B))) (.mu J y) (hcS _) (ER al9 arf) (Vg.trans Fr.mu);simp[uo,rB,Dl,tZ,jG,L,h2,h3,h7,h6,h5',N,vv,wc,wl,Uc,fD,Ud,b2,l2,O,CL,bu,ay];refine bN Tw.eq_1 (λk:Nat=>⟨[(0,.val (.ptr I 0 0 0)),(1,.val lv),(4,.val (.int .i64 k0)),(9,.val (.mu j3 w3)),(10,.val (.int .i64 k))],[[.int .i64 s.k,.str s.nm,.str s.on,.int .i64 s.od,ev,bv,lw,.int .i64 s.a,.int .i64 s.ref]],AB.set J (sO y ((ae8 (λa b=>a&&b) A B).take k++B.drop k))⟩)
    (λk=>k<=l.length) (λk=>l.length-k) 0 (by simp[jX al9]) (by simp) ?_
   intro k hk ih;have hl:((ae8 (λa b=>a&&b) A B).take k++B.drop k).length=l.length:=(by simp;omega);have a1:=hcS (sO y ((ae8 (λa b=>a&&b) A B).take k++B.drop k));have a2:=hAS (sO y ((ae8 (λa b=>a&&b) A B).take k++B.drop k));have a3:=hBS ((ae8 (λa b=>a&&b) A B).take k++B.drop k);by_cases bP:k<l.length;have hw:=wk k (by omega);have gW:k<((ae8 (λa b=>a&&b) A B).take k++B.drop k).length:=(by omega);have T:k<A.length:=(by omega);have hlB:k<B.length:=(by omega);have E:=agX T hlB gW;have z:=YI T hlB;have bA:=wF T;have bS:=wF gW;rw[E]at bS;have gZ:=ih (k+1) (by omega) (by omega);have a4:(AB.set J (sO y ((ae8 (λa b=>a&&b) A B).take k++B.drop k))).set J (.rows y 1 (kG ((ae8 (λa b=>a&&b) A B).take (k+1)++B.drop (k+1))))=AB.set J (sO y ((ae8 (λa b=>a&&b) A B).take (k+1)++B.drop (k+1))):=Av _ _;generalize (ae8 (λa b=>a&&b) A B).take (k+1)++B.drop (k+1)=sk',(ae8 (λa b=>a&&b) A B).take k++B.drop k=sk at *;generalize AB.set J (sO y sk)=AB at *;cases hBk:B[k] with
   |true=>
    rw[hBk]at z bS E;rw[Bool.and_true]at z;simp[bP,hw,a1,a2,a3,hl,T,E,z,a4,bu,AV.aB,AV.aH,ay,aD,aC];exact gZ
   |false=>
    rw[hBk]at z bS E;rw[Bool.and_false]at z;simp[bP,hw,a1,a3,hl,E,z,a4,bu,AV.aB,AV.aH,ay,aD,aC];exact gZ
   have gW:k=l.length:=(by omega);have wL:(ae8 (λa b=>a&&b) A B).take k++B.drop k=ae8 (λa b=>a&&b) A B:=by
    grind
   rw[wL]at a1 a2 a3 hl ⊢;generalize AB.set J (sO y (ae8 (λa b=>a&&b) A B))=AB at *;simp[bP,a1,a3,hl];exact go
 rw[U h5,hg]at go;have go:=go n m Ub Z Rv;simp_all [uo,rB,Dl,tZ,jG]
theorem arh(s:Sm):Zn s.bd/\Zn s.el:=by
 induction s using Sm.Cf with
 |_ s x T=>grind [Wg,oL]
theorem ag0(l:List Sm):Zn l:=by grind [Wg,oL,arh]
end S9
namespace S9
open Ax Go aO V7 iQ iZ K9
open N7 U7 in
theorem Rx(wl w:Nat)(p:Pg)(st:aj)(hg:(lG p).ok)(rE:GD.sm (lG p))(eO:∀f∈p.funcs,f.params.length+Sm.eD f.body<1000000000)
  (uz:∀bs,qJ (aX p) (aX p).aW p.funcs=.ok bs->∀b∈bs,Sm.eD b.code<1000000000/\b.vars.length<1000000000) :
  (aZ S).call wl w 35 [.agg p.aI] st=some (F4 (pM p),st):=by
 have j:=λwl w st=>R9.KA wl w p st hg rE eO;have hfn:p.funcs.length<1000000000:=by have:=rE.funcs;grind [sW]
 refine bE (sf:=s35) rfl rfl (by simp[Pg.aI,AV.aB,AV.aH]) rfl (by simp[F4,AV.aH,AV.aB]) ?_;unfold um at j;unfold pM;have r1:bf (aM 3 (p.aU.map Rc.aI))=true:=bL;have r2:(aM 3 (p.aU.map Rc.aI)).ai=aM 3 (p.aU.map Rc.aI):=bU;have M:bf (aM 7 (p.funcs.map Fc.aI))=true:=bL;have O:(aM 7 (p.funcs.map Fc.aI)).ai=aM 7 (p.funcs.map Fc.aI):=bU;have V:bf (aM 4 (p.az.map PD.cells))=true:=bL;have W:(aM 4 (p.az.map PD.cells)).ai=aM 4 (p.az.map PD.cells):=bU;simp only[Pg.aI]at j ⊢;generalize aM 3 (p.aU.map Rc.aI)=PR,aM 7 (p.funcs.map Fc.aI)=PF,aM 4 (p.az.map PD.cells)=PG at *;cases hF:ke (lG p) with
 |some a=>
  rw[hF]at j;simp only[F4,cE,cX]at j ⊢;simp[s35,j,r1,r2,M,O,V,W,ay,AV.ai]
 |none=>
  rw[hF]at j;simp only at j ⊢;cases z:qJ (aX p) (aX p).aW p.funcs with
  |error a=>
   rw[z]at j;simp only[EF,F4,cE,cX]at j ⊢;simp[s35,j,r1,r2,M,O,V,W,ay,AV.ai]
  |ok bs=>
   rw[z]at j;simp only[EF,qa,List.cons_append,List.nil_append]at j ⊢;have C:=uz bs z;clear uz;have jY:(aX p).aW.length=p.funcs.length:=(by simp[aX]);have W3:=zH jY z;have m:=EB z;have z1:bf (aM 3 (bs.map Bd.aI))=true:=bL;have t:(aM 3 (bs.map Bd.aI)).ai=aM 3 (bs.map Bd.aI):=bU;have z3:aY (aM 3 (bs.map Bd.aI))=bs.map Bd.aI:=bn;have z4:cN 3 (aM 3 (bs.map Bd.aI))=true:=ji (by simp[cr,Bd.aI]);have a1:bf (aM 2 ((aX p).bJ.map fQ))=true:=bL;have a2:(aM 2 ((aX p).bJ.map fQ)).ai=aM 2 ((aX p).bJ.map fQ):=bU;have b1:bf (aM 6 ((aX p).aW.map Sg.aI))=true:=bL;have B:(aM 6 ((aX p).aW.map Sg.aI)).ai=aM 6 ((aX p).aW.map Sg.aI):=bU;have J:aY (aM 6 ((aX p).aW.map Sg.aI))=(aX p).aW.map Sg.aI:=bn;have L:cN 6 (aM 6 ((aX p).aW.map Sg.aI))=true:=ji (by simp[cr,Sg.aI]);have c1:bf (cG (aX p).az)=true:=iD;have c2:(cG (aX p).az).ai=cG (aX p).az:=lu;generalize aM 2 ((aX p).bJ.map fQ)=HS,aM 6 ((aX p).aW.map Sg.aI)=HG,cG (aX p).az=GL,aM 3 (bs.map Bd.aI)=BV at *;have Hh:∀k:Nat,k<bs.length->k<(aX p).aW.length:=λk h=>by omega
   have hnb:bs.length<1000000000:=(by omega);generalize (aX p).aW=SS at *;clear z;simp[s35,j,r1,r2,M,O,V,W,z1,t,a1,a2,b1,B,c1,c2,ay,AV.ai];refine bN abB.eq_1 (λx:Nat×aj=>⟨[(2,.fp 1 0),(3,.fp 2 0),(5,.val (.int .i64 x.1))],[[PR,PG,PF],[.int .i64 0,.int .i64 0],[HS,GL,HG,.int .i64 (eu p),BV],[.int .i64 0,.int .i64 0]],x.2⟩)
    (λx=>x.1<=bs.length/\Lq (SS.drop x.1) (bs.drop x.1)=Lq SS bs) (λx=>bs.length-x.1) (0,[]) (by simp) ⟨by simp,by simp⟩ ?_
   rintro⟨k,R⟩ ⟨hk,H⟩ ih;simp only at hk H ih;by_cases F:k<bs.length;have hw:=wk k (by omega);have Z:=Hh k F;rw[Ys Z F]at H;obtain⟨q1,q2⟩:=m k Z F;obtain⟨q3,q4⟩:=C _ (acH F);have G:∀h:k<(bs.map Bd.aI).length,(bs.map Bd.aI)[k]=[cG bs[k].vars,bZ bs[k].code,.int .i64 bs[k].a]:=λh=>by simp[Bd.aI]
   have Sr:∀h:k<(SS.map Sg.aI).length,(SS.map Sg.aI)[k]=[.str SS[k].nm,cG SS[k].ps,.bool SS[k].bR,.int .i64 SS[k].res.b,.int .i64 SS[k].res.r,.int .i64 SS[k].res.d]:=λh=>by simp[Sg.aI]
   have D:k<(bs.map Bd.aI).length:=(by grind);have v:k<(SS.map Sg.aI).length:=(by grind);have l:=G D;have y:=Sr v;clear G Sr;have v1:bf (cG bs[k].vars)=true:=iD;have v2:(cG bs[k].vars).ai=cG bs[k].vars:=lu;have v3:(aY (cG bs[k].vars)).length=bs[k].vars.length:=(by simp);have w1:bf (bZ bs[k].code)=true:=cQ;have w2:(bZ bs[k].code).ai=bZ bs[k].code:=bQ;have Y:bf (cG SS[k].ps)=true:=iD;have X:(cG SS[k].ps).ai=cG SS[k].ps:=lu;have p3:(aY (cG SS[k].ps)).length=SS[k].ps.length:=(by simp);have ux:(bs[k].vars.length:Int)<=cZ:=(by unfold cZ;omega);have P:=ag0 bs[k].code;unfold su0 at H;have S3:(acp SS[k].ps.length true++acp (bs[k].vars.length-SS[k].ps.length) false).length=bs[k].vars.length:=(by simp;omega);obtain⟨st',K1,s,K,_,_⟩:=P (acp SS[k].ps.length true++acp (bs[k].vars.length-SS[k].ps.length) false) none (R++[sO 0 (acp SS[k].ps.length true++acp (bs[k].vars.length-SS[k].ps.length) false),uO (.mu R.length 0) none]) (R.length+1) (.mu R.length 0)
    (by grind) (.inl ⟨R.length,0,rfl,by simp,by omega⟩) (by grind) q3 (by grind)
   have ho:∀g:Option Int,xz none g=g:=λg=>rfl;rw[ho]at K;generalize l8:bs[k].code=cs at *;generalize hbv:bs[k].vars.length=n at *;generalize hbp:SS[k].ps.length=N at *;generalize hfb:cG bs[k].vars=FV at *;generalize W7:cG SS[k].ps=FP at *;generalize hsc:bZ cs=SC at *;generalize bs[k]=bk,SS[k]=sk at *;simp[-Mb,Mb,F,l,z1,t,z3,z4,v1,v2,v3,ux,Yr,ay,AV.ai];refine bN abA.eq_1 (λi:Nat=>⟨[(2,.fp 1 0),(3,.fp 2 0),(5,.val (.int .i64 k)),(6,.val (.ptr (R.length+1) 0 0 0)),(7,.val (.int .i64 i))],[[PR,PG,PF],[.int .i64 0,.int .i64 0],[HS,GL,HG,.int .i64 (eu p),BV],[.int .i64 0,.int .i64 0]],R++[sO 0 (acp i true++(acp n false).drop i),.rows 0 3 [[.mu R.length 0,.int .i64 0,.int .i64 0]]]⟩)
    (λi=>i<=N) (λi=>N-i) 0 (by simp) (by simp) ?_
   intro i hi tE;by_cases Zh:i<N;have U:=wk i (by omega);have Ld:i<(acp n false).length:=(by simp;omega);have hn:=Ra Ld;have T:(acp i true++(acp n false).drop i).length=n:=(by simp;omega);have Q:i<(acp i true++(acp n false).drop i).length:=(by omega);have hb:=wF Q;have E:=tE (i+1) (by omega) (by omega);generalize acp (i+1) true++(acp n false).drop (i+1)=s2,acp i true++(acp n false).drop i=s1 at *;have I:i<n:=(by omega);simp[Zh,Z,U,T,I,hn,y,B,J,L,Y,X,p3,bu,AV.aB,AV.aH,ay];exact E;have Zf:i=N:=(by omega);rw[Zf,agE];generalize acp N true++acp (n-N) false=s0 at *;cases q:(mE s0 cs).2 with
   |none=>
    rw[q]at K H;have H:Lq (SS.drop (k+1)) (bs.drop (k+1))=Lq SS bs:=H;have gZ:=λo=>ih (k+1,o) ⟨by grind,H⟩ (by grind);simp only at gZ;simp only[uO,cE,cX]at s K;simp[s,K,hw,Z,y,l,F,B,J,L,Y,X,p3,t,z3,z4,w2];exact gZ _
   |some a=>
    rw[q]at K H;have H:some a=Lq SS bs:=H;rw[<-H];simp only[uO,cE,cX,F4]at s K ⊢;simp[s,K,Z,y,l,F,B,J,L,Y,X,p3,t,z3,z4,w2,ay]
   have gW:k=bs.length:=(by omega);rw[gW,aep,aco]at H;rw[<-H];simp_all [F4,cE,cX]
end S9
