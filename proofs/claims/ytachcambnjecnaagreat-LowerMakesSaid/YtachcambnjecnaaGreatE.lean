/- Part of a proof. -/
import Derived.Test.YtachcambnjecnaaGreatS
import Derived.Test.YtachcambnjecnaaGreatO
import Derived.Test.YtachcambnjecnaaGreatV

set_option maxRecDepth 100000
set_option maxHeartbeats 8000000
namespace S9
open Ax Go bu V7 jG j9 K9
def uO(SV:AV)(f:Option Int):dy:=.rows 0 3 [[SV,.int .i64 (cE f),.int .i64 (cX f)]]
def lD(ic:Nat)(st:aj)(SV:AV)(su:List Bool):Prop:=(∃j v,SV=.mu j v/\st[j]?=some (sO v su)/\ic≠j)\/(SV=.U/\su=[])
theorem tR{ic:Nat}{st:aj}{SV:AV}{su:List Bool}{o:dy}(h:lD ic st SV su):lD ic (st.set ic o) SV su:=by
 rcases h with⟨j,v,rfl,h1,h2⟩|h;exact .inl ⟨j,v,rfl,by rw[fN h2];exact h1,h2⟩;exact .inr h
theorem TB(e:E):∀(su:List Bool)(f:Option Int)(af:Nat)(st:aj)(ic:Nat)(SV:AV),st[ic]?=some (uO SV f)->lD ic st SV su->HT su.length e->E.sz e<1000000000->
  (bh S).call 0 af 91 [.ptr ic 0 0 0,.agg e.row] st=some (.fm [],st.set ic (uO SV (lA f (zY su e)))):=by
 induction e using E.yu with
 |_ e ih=>
  intro su f af st ic SV hc hj hr dF;have nj:=E.mz e;have eK:=E.dD e.aC;have hz:bX 11 (aI e.aC)=true:=iM;have cA:aD (aI e.aC)=true:=aQ;have dW:(aI e.aC).view=aI e.aC:=aN;have cN:aM (aI e.aC)=E.rows e.aC:=aE;have ni:(E.rows e.aC).length=e.aC.length:=by simp
  have ewr:=λwl af a st=>U7.AB wl af a st;rw[Aa]at hr;obtain⟨DA,Yx⟩:=hr;rw[lW]at Yx;rw[Nh,E.az];have E5:ic<st.length:=(List.getElem?_eq_some_iff.1 hc).1;generalize ow:aI e.aC=kv at *;refine ay (sf:=s91) rfl rfl rfl ?_;simp[s91,cA];refine bf R1.eq_1 (λx:Nat×Option Int=>⟨[(0,.val (.ptr ic 0 0 0)),(3,.fp 0 0),(4,.val (.int .i64 x.1))],[[.int .i64 e.k,.int .i64 e.n,.str e.nm,.str e.on,.int .i64 e.od,kv,.int .i64 e.a,.int .i64 e.ty.b,.int .i64 e.ty.r,.int .i64 e.ty.d,.int .i64 e.cG]],st.set ic (uO SV x.2)⟩)
   (λx=>x.1<=e.aC.length/\lA x.2 (lI su (e.aC.drop x.1))=lA f (lI su e.aC)) (λx=>e.aC.length-x.1) (0,f) (by simp[gb hc]) ⟨by simp,by simp⟩ ?_
  rintro⟨k,g⟩ ⟨hk,hp⟩ Gs;simp only at hk hp Gs;have xK:(st.set ic (uO SV g))[ic]?=some (uO SV g):=eX hc;have vk:lD ic (st.set ic (uO SV g)) SV su:=tR hj;have oz:∀o,(st.set ic (uO SV g)).set ic o=st.set ic o:=λo=>by rw[List.set_set]
  by_cases aW:k<e.aC.length;have hw:=wk k (by omega);have hm:=List.getElem_mem aW;have ct:=λaf=>ih _ hm su g af (st.set ic (uO SV g)) ic SV xK vk (Yx _ hm) (by have:=E.iA hm;omega);rw[List.drop_eq_getElem_cons aW,xD,<-iH]at hp;have ED:=Gs (k+1,lA g (zY su e.aC[k])) ⟨by simp only;omega,hp⟩ (by simp only;omega);simp only at ED;simp only[oz]at ct;have gE:=uZ aW;have gY:k<(E.rows e.aC).length:=by simpa using aW
  have tO:=oW aW gY;rw[E.az e.aC[k]]at ct gE tO;have xv:aD (aI e.aC[k].aC)=true:=aQ;have xw:(aI e.aC[k].aC).view=aI e.aC[k].aC:=aN;generalize e.aC[k]=x at *;generalize st.set ic (uO SV g)=s1 at *;generalize st.set ic (uO SV (lA g (zY su x)))=s2 at *;simp[aW,hw,hz,cA,dW,cN,tO,ct,xw,AV.view];exact ED;have eK:k=e.aC.length:=by omega
  rw[eK,List.drop_length]at hp;simp only[lI,kT]at hp;subst hp;rw[<-iH];clear Gs hc;generalize lA f (lI su e.aC)=g at *;have Ur:(st.set ic (uO SV g)).length=st.length:=by simp
  have I0:(st.set ic (uO SV g)).take st.length=st.set ic (uO SV g):=List.take_of_length_le (by simp);have Bg:(st.set ic (uO SV g))[ic]?=some (.rows 0 3 [[SV,.int .i64 (cE g),.int .i64 (cX g)]]):=xK;have Yn:∀o,(st.set ic o).take st.length=st.set ic o:=λo=>List.take_of_length_le (by simp);by_cases h4:e.k=4;by_cases h0:0<=e.cG;have hlr:=DA h4;obtain⟨r,vq⟩:∃r:Nat,e.cG=r:=⟨e.cG.toNat,by omega⟩;have Bh:r<su.length:=by omega
  obtain⟨j,v,rfl,DD,jn⟩:∃j v,SV=.mu j v/\(st.set ic (uO SV g))[j]?=some (.rows v 1 (fT su))/\ic≠j:=by
   rcases vk with h|⟨_,h⟩;exact h;rw[h]at Bh;simp at Bh
  have hb:=jj Bh;have hsu:su[r]?=some su[r]:=List.getElem?_eq_getElem Bh;have Ly:(e.k=4)=True:=eq_true h4;have Qo:(if e.k=4/\0<=e.cG/\su[e.cG.toNat]?=some false then some e.a else none)=(if su[r]=false then some e.a else none):=by rw[vq,Int.toNat_natCast,hsu];simp[h4]
  rw[Qo];rw[vq];cases hx:su[r] with
  |true=>
   rw[hx]at hb;simp only[Bool.true_eq_false,if_false,kT];generalize st.set ic (uO (.mu j v) g)=s1 at *;simp[aW,Ly,cA,dW,cN,Bh,Bg,DD,hx,I0,au,an]
  |false=>
   rw[hx]at hb;simp only[if_true];cases g with
   |none=>
    simp only[lA,cE,cX]at Bg ⊢;have tP:(st.set ic (uO (.mu j v) none)).set ic (.rows 0 3 [[.mu j v,.int .i64 3,.int .i64 e.a]])=st.set ic (uO (.mu j v) (some e.a)):=oz _;have ht3:=Yn (uO (.mu j v) (some e.a));generalize st.set ic (uO (.mu j v) (some e.a))=s2 at *;generalize st.set ic (uO (.mu j v) none)=s1 at *;simp[aW,Ly,cA,dW,cN,Bh,DD,hx,Bg,ewr,aY,AV.ai,AV.ax,ag,tP,ht3,au,an]
   |some y=>
    simp only[lA,cE,cX]at Bg ⊢;generalize st.set ic (uO (.mu j v) (some y))=s1 at *;simp[aW,Ly,cA,dW,cN,Bh,DD,hx,Bg,I0,au,an]
  rw[if_neg (λh=>h0 h.2.1),kT];have Ly:(e.k=4)=True:=eq_true h4;generalize st.set ic (uO SV g)=s1 at *;simp[aW,Ly,h0,cA,dW,cN,I0,au,an];rw[if_neg (λh=>h4 h.1),kT];generalize st.set ic (uO SV g)=s1 at *;simp[aW,h4,cA,dW,cN,I0,au,an]
theorem aaU(su:List Bool)(f:Option Int)(af:Nat)(st:aj)(ic:Nat)(SV:AV)(hc:st[ic]?=some (uO SV f))(hj:lD ic st SV su)(hn:su.length<1000000000) :
  ∃bV,(bh S).call 0 af 92 [.ptr ic 0 0 0] st=some (.fm [],bV)/\((∃j v,SV=.mu j v/\bV=st.set j (sO v (su.map λ_=>true)))\/(SV=.U/\bV=st)):=by
 rcases hj with⟨j,v,rfl,hj,jn⟩|⟨rfl,rfl⟩;refine⟨st.set j (sO v (su.map λ_=>true)),?_,.inl ⟨j,v,rfl,rfl⟩⟩;have hj:st[j]?=some (.rows v 1 (fT su)):=hj;have xK:∀o,(st.set j o)[ic]?=some (.rows 0 3 [[.mu j v,.int .i64 (cE f),.int .i64 (cX f)]]):=λo=>by rw[fN (Ne.symm jn)];exact hc
 have vR:∀sk:List Bool,(st.set j (sO v sk))[j]?=some (.rows v 1 (fT sk)):=λsk=>eX hj;have oz:∀(a b:dy),(st.set j a).set j b=st.set j b:=λa b=>by rw[List.set_set]
 have ht:∀o,(st.set j o).take st.length=st.set j o:=λo=>List.take_of_length_le (by simp);refine ay (sf:=s92) rfl rfl rfl ?_;simp[s92];refine bf Lg.eq_1 (λk:Nat=>⟨[(0,.val (.ptr ic 0 0 0)),(2,.val (.int .i64 k))],[],st.set j (sO v (List.replicate k true++su.drop k))⟩)
  (λk=>k<=su.length) (λk=>su.length-k) 0 (by simp[gb hj]) (by simp) ?_
 intro k hk ih;have hl:(List.replicate k true++su.drop k).length=su.length:=by simp;omega
 have hh:=vR (List.replicate k true++su.drop k);have KC:=xK (sO v (List.replicate k true++su.drop k));by_cases aW:k<su.length;have hw:=wk k (by omega);have eK:k<(List.replicate k true++su.drop k).length:=by omega
 have hb:=jj eK;have hn:=Aq aW;have dx:=ih (k+1) (by omega) (by omega);have hup:(st.set j (sO v (List.replicate k true++su.drop k))).set j (.rows v 1 (fT (List.replicate (k+1) true++su.drop (k+1))))=st.set j (sO v (List.replicate (k+1) true++su.drop (k+1))):=oz _ _;generalize List.replicate (k+1) true++su.drop (k+1)=sk' at *;generalize List.replicate k true++su.drop k=sk at *;generalize st.set j (sO v sk)=s2 at *;simp[aW,hw,hh,KC,hl,hn,hup,aY,AV.ai,AV.ax,ag];exact dx;have eK:k=su.length:=by omega
 have tP:List.replicate k true++su.drop k=su.map λ_=>true:=by
  rw[eK,List.drop_length,List.append_nil,List.map_const']
 rw[tP]at hh KC hl ⊢;have I0:=ht (sO v (su.map λ_=>true));generalize st.set j (sO v (su.map λ_=>true))=s2 at *;simp[aW,hh,KC,hl,I0];refine⟨st,?_,.inr ⟨rfl,rfl⟩⟩;have hc:st[ic]?=some (.rows 0 3 [[.U,.int .i64 (cE f),.int .i64 (cX f)]]):=hc;refine ay (sf:=s92) rfl rfl rfl ?_;simp[s92];rw[qx Lg.eq_1];simp[hc]
end S9
namespace S9
open Ax Go bu V7 jG j9 K9
structure Fr (ic:Nat)(st:aj)(SV:AV)(bV:aj)(EY:AV):Prop where
 len:st.length<=bV.length
 kJ:∀i,i<st.length->i≠ic->(∀v,SV≠.mu i v)->bV[i]?=st[i]?
 iO:∀i v,EY=.mu i v->(∃v',SV=.mu i v')\/st.length<=i
theorem Fr.refl{ic:Nat}{st:aj}{SV:AV}:Fr ic st SV st SV:=⟨Nat.le_refl _,λ_ _ _ _=>rfl,λ_i v h=>.inl ⟨v,h⟩⟩
theorem Fr.trans{ic:Nat}{st kL kO:aj}{SV SV1 SV2:AV}(h:Fr ic st SV kL SV1)(k:Fr ic kL SV1 kO SV2):Fr ic st SV kO SV2:=by
 refine⟨Nat.le_trans h.len k.len,λi hi jn hv=>?_,λi v e=>?_⟩;rw[k.kJ i (by have:=h.len;omega) jn λv e=>?_,h.kJ i hi jn hv];rcases h.iO i v e with⟨v',e'⟩|hl;exact hv v' e';omega;rcases k.iO i v e with⟨v',e'⟩|hl;exact h.iO i v' e';exact .inr (by have:=h.len;omega)
theorem Fr.cell{ic:Nat}{st:aj}{SV:AV}{o:dy}:Fr ic st SV (st.set ic o) SV:=
 ⟨by simp,λi hi jn _=>List.getElem?_set_ne (Ne.symm jn),λi v h=>.inl ⟨v,h⟩⟩
def Kt(l:List Sm):Prop:=∀(su:List Bool)(f:Option Int)(st:aj)(ic:Nat)(SV:AV),st[ic]?=some (uO SV f)->lD ic st SV su->tG su.length l->Sm.cQ l<1000000000->su.length<1000000000->
 ∃bV EY,(bh S).call 0 0 53 [.ptr ic 0 0 0,aS l] st=some (.fm [],bV)/\bV[ic]?=some (uO EY (lA f (gW su l).2))/\lD ic bV EY (gW su l).1/\Fr ic st SV bV EY
def yz:bw->bw
 |.seq _ (.seq (.block _ (.seq _ b)) _)=>b|x=>x
def ou:bw:=yz pZ
def qc:bw:=gi ou
theorem ajX(s:Sm)(su:List Bool)(f:Option Int)(st:aj)(ic:Nat)(SV:AV)(hc:st[ic]?=some (uO SV f))(hj:lD ic st SV su)(hr:zZ su.length s.es)(dF:E.cQ s.es<1000000000){rs:List iE}{Q:Ex->St->Prop}{kk:List qv}(lv:AV)(k0:Nat)
  (go:W S 0 0 rs Q (.code qc::kk) .normal ⟨[(0,.val (.ptr ic 0 0 0)),(1,.val lv),(4,.val (.int .i64 k0)),(5,.fp 0 0)],[s.row],st.set ic (uO SV (lA f (lI su s.es)))⟩) :
  W S 0 0 rs Q (.code ou::kk) .normal ⟨[(0,.val (.ptr ic 0 0 0)),(1,.val lv),(4,.val (.int .i64 k0)),(5,.fp 0 0)],[s.row],st⟩:=by
 have hz:bX 11 (aI s.es)=true:=iM;have cA:aD (aI s.es)=true:=aQ;have dW:(aI s.es).view=aI s.es:=aN;have cN:aM (aI s.es)=E.rows s.es:=aE;have eK:=E.dD s.es;rw[lW]at hr;have E5:ic<st.length:=(List.getElem?_eq_some_iff.1 hc).1;rw[Sm.az]at *;generalize aS s.bd=bv at *;generalize aS s.el=lw at *;generalize ow:aI s.es=kv at *;show W S 0 0 rs Q (.code (.seq (.seq (.region [{ dst:=some 6,op:=.move,args:=[.const (.int .i64 0)],guard:=none }] none []) (.block 2 (.loop La))) qc)::kk) .normal _;generalize qc=T at *;simp;refine bf La.eq_1 (λx:Nat×Option Int=>⟨[(0,.val (.ptr ic 0 0 0)),(1,.val lv),(4,.val (.int .i64 k0)),(5,.fp 0 0),(6,.val (.int .i64 x.1))],[[.int .i64 s.k,.str s.nm,.str s.on,.int .i64 s.od,kv,bv,lw,.int .i64 s.a,.int .i64 s.cG]],st.set ic (uO SV x.2)⟩)
  (λx=>x.1<=s.es.length/\lA x.2 (lI su (s.es.drop x.1))=lA f (lI su s.es)) (λx=>s.es.length-x.1) (0,f) (by simp[gb hc]) ⟨by simp,by simp⟩ ?_
 rintro⟨k,g⟩ ⟨hk,hp⟩ Gs;simp only at hk hp Gs;have xK:(st.set ic (uO SV g))[ic]?=some (uO SV g):=eX hc;have vk:lD ic (st.set ic (uO SV g)) SV su:=tR hj;have oz:∀o,(st.set ic (uO SV g)).set ic o=st.set ic o:=λo=>by rw[List.set_set]
 by_cases aW:k<s.es.length;have hw:=wk k (by omega);have hm:=List.getElem_mem aW;have ct:=λaf=>TB s.es[k] su g af (st.set ic (uO SV g)) ic SV xK vk (hr _ hm) (by have:=E.iA hm;omega);rw[List.drop_eq_getElem_cons aW,xD,<-iH]at hp;have ED:=Gs (k+1,lA g (zY su s.es[k])) ⟨by simp only;omega,hp⟩ (by simp only;omega);simp only at ED;simp only[oz]at ct;have gE:=uZ aW;have gY:k<(E.rows s.es).length:=by simpa using aW
 have tO:=oW aW gY;rw[E.az s.es[k]]at ct gE tO;have xv:aD (aI s.es[k].aC)=true:=aQ;have xw:(aI s.es[k].aC).view=aI s.es[k].aC:=aN;generalize s.es[k]=x at *;generalize st.set ic (uO SV g)=s1 at *;generalize st.set ic (uO SV (lA g (zY su x)))=s2 at *;simp[aW,hw,hz,cA,dW,cN,tO,ct,xw,AV.view];exact ED;have eK:k=s.es.length:=by omega
 rw[eK,List.drop_length]at hp;simp only[lI,kT]at hp;subst hp;simp[aW,cA,dW,cN];exact go
theorem AF{ic:Nat}{st:aj}{j v:Nat}{su su':List Bool}(h:st[j]?=some (sO v su))(jn:ic≠j):lD ic (st.set j (sO v su')) (.mu j v) su':=.inl ⟨j,v,rfl,eX h,jn⟩
theorem Fr.mu{ic:Nat}{st:aj}{j v:Nat}{o:dy}:Fr ic st (.mu j v) (st.set j o) (.mu j v):=
 ⟨by simp,λi hi jn hv=>List.getElem?_set_ne (λe=>hv v (by rw[e])),λi v h=>.inl ⟨v,h⟩⟩
def X5(s:Sm):Prop:=∀(su:List Bool)(f:Option Int)(st:aj)(ic:Nat)(SV:AV),st[ic]?=some (uO SV f)->lD ic st SV su->Fq su.length s->Sm.sz s<1000000000->su.length<1000000000->
 ∀{rs:List iE} {Q:Ex->St->Prop} {kk:List qv} (lv:AV) (k0:Nat),
  (∀bV EY,bV[ic]?=some (uO EY (lA f (n8 su s).2))->lD ic bV EY (n8 su s).1->Fr ic st SV bV EY->W S 0 0 rs Q kk .normal ⟨[(0,.val (.ptr ic 0 0 0)),(1,.val lv),(4,.val (.int .i64 k0))],[s.row],bV⟩)->
  W S 0 0 rs Q (.code ou::kk) .normal ⟨[(0,.val (.ptr ic 0 0 0)),(1,.val lv),(4,.val (.int .i64 k0)),(5,.fp 0 0)],[s.row],st⟩
theorem Ii(l:List Sm)(hs:∀s∈l,X5 s):Kt l:=by
 intro su f st ic SV hc hj hr dF hn;have hz:bX 9 (aS l)=true:=Aj;have cA:aD (aS l)=true:=bn;have dW:(aS l).view=aS l:=aO;have cN:aM (aS l)=Sm.rows l:=aE;have hlen:=Sm.dD l;rw[rM]at hr;obtain⟨v',bV,h1,rfl,EY,h2⟩:∃v' bV,(bh S).call 0 0 53 [.ptr ic 0 0 0,aS l] st=some (v',bV)/\v'=.fm []/\∃EY,bV[ic]?=some (uO EY (lA f (gW su l).2))/\lD ic bV EY (gW su l).1/\Fr ic st SV bV EY:=by
  refine iT (sf:=s53) rfl rfl rfl ?_;generalize aS l=lv at *;simp[s53];refine bf pZ.eq_1 (λx:Nat×List Bool×Option Int×aj×AV×List AV=>⟨[(0,.val (.ptr ic 0 0 0)),(1,.val lv),(4,.val (.int .i64 x.1))],[x.2.2.2.2.2],x.2.2.2.1⟩)
   (λx=>x.1<=l.length/\x.2.1.length=su.length/\lA x.2.2.1 (gW x.2.1 (l.drop x.1)).2=lA f (gW su l).2/\(gW x.2.1 (l.drop x.1)).1=(gW su l).1/\x.2.2.2.1[ic]?=some (uO x.2.2.2.2.1 x.2.2.1)/\lD ic x.2.2.2.1 x.2.2.2.2.1 x.2.1/\Fr ic st SV x.2.2.2.1 x.2.2.2.2.1)
   (λx=>l.length-x.1) (0,su,f,st,SV,[]) (by simp) ⟨by simp,rfl,by simp,by simp,hc,hj,Fr.refl⟩ ?_
  rintro⟨k,sk,g,fP,SVk,b⟩ ⟨hk,Ta,hp,hq,TN,tV,UR⟩ ih;simp only at hk Ta hp hq TN tV UR ih;by_cases aW:k<l.length;have hw:=wk k (by omega);have hm:=List.getElem_mem aW;have we:=fun {rs:List iE} {Q:Ex->St->Prop} {kk:List qv}=>hs _ hm sk g fP ic SVk TN tV (by rw[Ta];exact hr _ hm) (by have:=Sm.iA hm;omega) (by omega) (rs:=rs) (Q:=Q) (kk:=kk) lv k;rw[List.drop_eq_getElem_cons aW,Gp]at hp hq;simp only at hp hq;rw[<-iH]at hp;have gE:=wL aW;have gY:k<(Sm.rows l).length:=by simpa using aW
  have mZ:=qG aW gY;obtain⟨e1,b1,l1⟩:=eF (s:=l[k]);have e2:(aI l[k].es).view=aI l[k].es:=aN;have b2:(aS l[k].bd).view=aS l[k].bd:=aO;have l2:(aS l[k].el).view=aS l[k].el:=aO;show W S 0 0 _ _ (.code (.seq (.seq _ _) (.seq (.block 1 (.seq _ ou)) _))::_) .normal _;have dx:=λ(bV:aj) (EY:AV) (h1:bV[ic]?=some (uO EY (lA g (n8 sk l[k]).2))) (h2:lD ic bV EY (n8 sk l[k]).1) (h3:Fr ic fP SVk bV EY)=>ih (k+1,(n8 sk l[k]).1,lA g (n8 sk l[k]).2,bV,EY,l[k].row) ⟨by simp only;omega,by simp only[Eh];exact Ta,hp,hq,h1,h2,UR.trans h3⟩ (by simp only;omega);simp only at dx;simp only[Sm.az l[k]]at gE mZ dx we;generalize ou=BD at *;generalize aI l[k].es=xe at *;generalize aS l[k].bd=xb at *;generalize aS l[k].el=xl at *;simp[aW,hz,cA,dW,cN,mZ,e1,b1,l1,e2,b2,l2,ag];refine we λbV EY h1 h2 h3=>?_;simp[hw];exact dx bV EY h1 h2 h3;have eK:k=l.length:=by omega
  rw[eK,List.drop_length,JK]at hp hq;simp only[kT]at hp hq;subst hp hq;simp[aW,cA,dW,cN,S8];exact⟨SVk,TN,tV,UR⟩
 exact⟨bV,EY,h1,h2⟩
end S9
namespace S9
open Ax Go bu V7 jG j9 K9
theorem oZ{ic:Nat}{st:aj}{SV:AV}{su:List Bool}(h:lD ic st SV su):SV.view=SV/\SV.cx=true/\SV.cells=[SV]:=by
 rcases h with⟨j,v,rfl,_⟩|⟨rfl,_⟩<;>exact⟨rfl,rfl,rfl⟩
theorem TC{ic:Nat}{st:aj}{SV:AV}{su:List Bool}(hi:ic<st.length)(h:lD ic st SV su)(hn:su.length<1000000000):∃W ext,(∀af bx,aV 0 af (.jx 1 1) [.val .U,.val SV] st bx=some (.val W,st++ext,bx))/\lD ic (st++ext) W su/\(∀i v,W=.mu i v->i=st.length/\st.length<(st++ext).length):=by
 by_cases hs:su=[];subst hs;refine⟨.U,[],λaf bx=>?_,.inr ⟨rfl,rfl⟩,λi v h=>by cases h⟩;rcases h with⟨j,v,rfl,h1,h2⟩|⟨rfl,_⟩;have h1:st[j]?=some (.rows v 1 []):=h1;simp[aV,vA,dY,fJ,h1,bN];simp[aV,vA,dY,fJ,bN];rcases h with⟨j,v,rfl,h1,h2⟩|⟨_,h⟩;refine⟨.mu st.length 0,[sO 0 su],λaf bx=>?_,.inl ⟨st.length,0,rfl,by simp,by omega⟩,λi v h=>by cases h;simp⟩;have hf:bN 1 (fT su)=true:=by simp[bN,fT]
 have hr:su.length<=cR:=by unfold cR;omega
 have jn:(fT su).isEmpty=false:=by cases su with
  |nil=>exact absurd rfl hs|cons a l=>rfl
 have h1:st[j]?=some (.rows v 1 (fT su)):=h1;simp[aV,vA,dY,fJ,h1,B2,hf,hr];cases su with
 |nil=>exact absurd rfl hs|cons a l=>simp[fT]
 exact absurd h hs
theorem Pk{A B:List Bool}{k:Nat}(h1:k<A.length)(h2:k<B.length):((List.zipWith (λa b=>a&&b) A B).take k++B.drop k).set k (A[k]&&B[k])=(List.zipWith (λa b=>a&&b) A B).take (k+1)++B.drop (k+1):=by
 rw[List.drop_eq_getElem_cons h2,List.set_append_right _ _ (by simp;omega),List.take_succ_eq_append_getElem (by simp;omega)];have:k-((List.zipWith (λa b=>a&&b) A B).take k).length=0:=by simp;omega
 rw[this];simp only[List.set_cons_zero,List.getElem_zipWith,List.append_assoc,List.singleton_append]
theorem WH{A B:List Bool}{k:Nat}(h1:k<A.length)(h2:k<B.length)(h3:k<((List.zipWith (λa b=>a&&b) A B).take k++B.drop k).length):((List.zipWith (λa b=>a&&b) A B).take k++B.drop k)[k]=B[k]:=by
 rw[List.getElem_append_right (by simp;omega),List.getElem_drop];congr 1;simp;omega
theorem zF(s:Sm)(hB:Kt s.bd)(hL:Kt s.el):X5 s:=by
 intro su f st ic SV hc hj hr dF hn rs Q kk lv k0 go;have hz:=Sm.jM s;obtain⟨r1,r2,r3,r4,r5⟩:=(uJ _ _).1 hr;have E5:ic<st.length:=(List.getElem?_eq_some_iff.1 hc).1;obtain⟨e1,b1,l1⟩:=eF (s:=s);have b2:(aS s.bd).view=aS s.bd:=aO;have l2:(aS s.el).view=aS s.el:=aO;refine ajX s su f st ic SV hc hj r1 (by omega) lv k0 ?_;rw[Ni]at go;generalize hg:lA f (lI su s.es)=g at *;have xK:(st.set ic (uO SV g))[ic]?=some (uO SV g):=eX hc;have vk:lD ic (st.set ic (uO SV g)) SV su:=tR hj;have Kg:Fr ic st SV (st.set ic (uO SV g)) SV:=Fr.cell;have WI:ic<(st.set ic (uO SV g)).length:=by simpa using E5
 generalize st.set ic (uO SV g)=s1 at *;clear hc hj;rw[Sm.az]at *;generalize aI s.es=ev at *;generalize hbv:aS s.bd=bv at *;generalize Ca:aS s.el=lw at *;by_cases h1:s.k=1;obtain⟨h0,aW⟩:=r2 (.inl h1);obtain⟨r,vq⟩:∃r:Nat,s.cG=r:=⟨s.cG.toNat,by omega⟩;have ni:r<su.length:=by omega
 have h1':(s.k=1)=True:=eq_true h1;obtain⟨j,v,rfl,DD,jn⟩:∃j v,SV=.mu j v/\s1[j]?=some (.rows v 1 (fT su))/\ic≠j:=by
  rcases vk with h|⟨_,h⟩;exact h;rw[h]at ni;simp at ni
 rw[if_pos h1,vq,Int.toNat_natCast,hg]at go;have go:=go (s1.set j (sO v (su.set r false))) (.mu j v) (by rw[fN (Ne.symm jn)];exact xK) (AF DD jn) (Kg.trans Fr.mu);have Bg:s1[ic]?=some (.rows 0 3 [[.mu j v,.int .i64 (cE g),.int .i64 (cX g)]]):=xK;have hb:=jj ni;simp[qc,ou,yz,pZ,gi,h1',vq,Bg,DD,ni,aY,AV.ai,AV.ax,ag,au,an];exact go;rw[if_neg h1]at go;by_cases It:s.k=2\/s.k=3;rw[if_pos It]at go;by_cases h0:0<=s.cG;have aW:s.cG<su.length:=by
  rcases It with h|h;exact(r2 (.inr h)).2;exact r3 h
 obtain⟨r,vq⟩:∃r:Nat,s.cG=r:=⟨s.cG.toNat,by omega⟩;have ni:r<su.length:=by omega
 obtain⟨j,v,rfl,DD,jn⟩:∃j v,SV=.mu j v/\s1[j]?=some (.rows v 1 (fT su))/\ic≠j:=by
  rcases vk with h|⟨_,h⟩;exact h;rw[h]at ni;simp at ni
 rw[if_pos h0,vq,Int.toNat_natCast,hg]at go;have go:=go (s1.set j (sO v (su.set r true))) (.mu j v) (by rw[fN (Ne.symm jn)];exact xK) (AF DD jn) (Kg.trans Fr.mu);have Bg:s1[ic]?=some (.rows 0 3 [[.mu j v,.int .i64 (cE g),.int .i64 (cX g)]]):=xK;have hb:=jj ni;rcases It with h|h;have M6:(s.k=2)=True:=eq_true h;simp[qc,ou,yz,pZ,gi,h1,M6,vq,Bg,DD,ni,aY,AV.ai,AV.ax,ag,au,an];exact go;have h2:¬s.k=2:=by omega
 have Kq:(s.k=3)=True:=eq_true h;simp[qc,ou,yz,pZ,gi,h1,h2,Kq,vq,Bg,DD,ni,aY,AV.ai,AV.ax,ag,au,an];exact go;have h3:s.k=3:=by
  rcases It with h|h;exact absurd (r2 (.inr h)).1 h0;exact h
 have h2:¬s.k=2:=by omega
 have Kq:(s.k=3)=True:=eq_true h3;rw[if_neg h0,hg]at go;have go:=go s1 SV xK vk Kg;simp[qc,ou,yz,pZ,gi,h1,h2,Kq,h0];exact go;rw[if_neg It]at go;have h2:¬s.k=2:=λh=>It (.inl h);have h3:¬s.k=3:=λh=>It (.inr h);by_cases h7:s.k=7;have h7':(s.k=7)=True:=eq_true h7;rw[if_pos h7,hg]at go;obtain⟨s2,ct,Uv⟩:=aaU su g 0 s1 ic SV xK vk hn;have go:W S 0 0 rs Q kk .normal ⟨[(0,.val (.ptr ic 0 0 0)),(1,.val lv),(4,.val (.int .i64 k0))],[[.int .i64 s.k,.str s.nm,.str s.on,.int .i64 s.od,ev,bv,lw,.int .i64 s.a,.int .i64 s.cG]],s2⟩:=by
  rcases Uv with⟨j,v,rfl,rfl⟩|⟨rfl,rfl⟩;obtain⟨DD,jn⟩:s1[j]?=some (sO v su)/\ic≠j:=by
   rcases vk with⟨j',v',e,h,h'⟩|⟨e,_⟩;cases e;exact⟨h,h'⟩;cases e
  exact go _ (.mu j v) (by rw[fN (Ne.symm jn)];exact xK) (AF DD jn) (Kg.trans Fr.mu);refine go s2 .U xK ?_ Kg;rcases vk with⟨_,_,e,_⟩|⟨_,rfl⟩;cases e;exact .inr ⟨rfl,rfl⟩
 simp[qc,ou,yz,pZ,gi,h1,h2,h3,h7',ct];exact go;rw[if_neg h7]at go;by_cases h6:s.k=6;have h6':(s.k=6)=True:=eq_true h6;rw[if_pos h6]at go;simp only at go;rw[<-iH,hg]at go;obtain⟨WS,ext,hw1,BJ,hw3⟩:=TC WI vk hn;have Bg:(s1++ext)[ic]?=some (uO SV g):=by rw[List.getElem?_append_left WI];exact xK
 have DD:lD ic (s1++ext) SV su:=by
  rcases vk with⟨j,v,rfl,h,h'⟩|h;exact .inl ⟨j,v,rfl,by rw[List.getElem?_append_left (List.getElem?_eq_some_iff.1 h).1];exact h,h'⟩;exact .inr h
 have hSW:∀i v v',WS=.mu i v->SV≠.mu i v':=λi v v' h e=>by
  obtain⟨hi,_⟩:=hw3 i v h;rcases vk with⟨j,w,e2,h,_⟩|⟨e2,_⟩;rw[e2]at e;cases e;have:=(List.getElem?_eq_some_iff.1 h).1;omega;rw[e2]at e;cases e
 obtain⟨s3,SV3,ct,hc3,hj3,Kh⟩:=hB su g (s1++ext) ic SV Bg DD r4 (by omega) hn;rw[hbv]at ct;generalize VX:lA g (gW su s.bd).2=g2 at *;have hws:lD ic s3 WS su:=by
  rcases BJ with⟨j,v,rfl,h,h'⟩|h;refine .inl ⟨j,v,rfl,?_,h'⟩;rw[Kh.kJ j (List.getElem?_eq_some_iff.1 h).1 (Ne.symm h') λv'=>hSW j v v' rfl];exact h;exact .inr h
 have OW:s1.length<=s3.length:=by have:=Kh.len;simp at this;omega
 have go:=go (s3.set ic (uO WS g2)) WS (eX hc3) (tR hws) (by
  refine Kg.trans ⟨by simpa using OW,λi hi jn hv=>?_,λi v h=>.inr (by obtain⟨h1,_⟩:=hw3 i v h;omega)⟩;rw[fN (Ne.symm jn),Kh.kJ i (by simp;omega) jn hv,List.getElem?_append_left hi])
 obtain⟨wv,wc,wl⟩:=oZ hws;obtain⟨vv,vc,_⟩:=oZ vk;have WJ:s1[ic]?=some (.rows 0 3 [[SV,.int .i64 (cE g),.int .i64 (cX g)]]):=xK;have WK:s3[ic]?=some (.rows 0 3 [[SV3,.int .i64 (cE g2),.int .i64 (cX g2)]]):=hc3;have vR:∀x,s3.set ic (.rows 0 3 [[x,.int .i64 (cE g2),.int .i64 (cX g2)]])=s3.set ic (uO x g2):=λx=>rfl;generalize s1++ext=s2 at *;simp[qc,ou,yz,pZ,gi,h1,h2,h3,h7,h6',WJ,vv,wc,wl,hw1,ct,b2,WK,aY,ag];exact go;rw[if_neg h6]at go;by_cases h5:s.k=5;have h5':(s.k=5)=True:=eq_true h5;rw[if_pos h5]at go;simp only at go;rw[<-iH,<-iH,hg]at go;obtain⟨WS,ext,hw1,BJ,hw3⟩:=TC WI vk hn;have Bg:(s1++ext)[ic]?=some (uO SV g):=by rw[List.getElem?_append_left WI];exact xK
 have DD:lD ic (s1++ext) SV su:=by
  rcases vk with⟨j,v,rfl,h,h'⟩|h;exact .inl ⟨j,v,rfl,by rw[List.getElem?_append_left (List.getElem?_eq_some_iff.1 h).1];exact h,h'⟩;exact .inr h
 have hSW:∀i v v',WS=.mu i v->SV≠.mu i v':=λi v v' h e=>by
  obtain⟨hi,_⟩:=hw3 i v h;rcases vk with⟨j,w,e2,h,_⟩|⟨e2,_⟩;rw[e2]at e;cases e;have:=(List.getElem?_eq_some_iff.1 h).1;omega;rw[e2]at e;cases e
 obtain⟨s3,SV3,ct,hc3,hj3,Kh⟩:=hB su g (s1++ext) ic SV Bg DD r4 (by omega) hn;rw[hbv]at ct;generalize VX:lA g (gW su s.bd).2=g2 at *;have hws:lD ic s3 WS su:=by
  rcases BJ with⟨j,v,rfl,h,h'⟩|h;refine .inl ⟨j,v,rfl,?_,h'⟩;rw[Kh.kJ j (List.getElem?_eq_some_iff.1 h).1 (Ne.symm h') λv'=>hSW j v v' rfl];exact h;exact .inr h
 have OW:s1.length<=s3.length:=by have:=Kh.len;simp at this;omega
 have ajZ:Fr ic st SV (s3.set ic (uO WS g2)) WS:=by
  refine Kg.trans ⟨by simpa using OW,λi hi jn hv=>?_,λi v h=>.inr (by obtain⟨h1,_⟩:=hw3 i v h;omega)⟩;rw[fN (Ne.symm jn),Kh.kJ i (by simp;omega) jn hv,List.getElem?_append_left hi]
 obtain⟨s5,SV5,Md,hc5,hj5,aaX⟩:=hL su g2 (s3.set ic (uO WS g2)) ic WS (eX hc3) (tR hws) r5 (by omega) hn;rw[Ca]at Md;generalize hg3:lA g2 (gW su s.el).2=g3 at *;have mh:∀i v v',SV3=.mu i v->WS≠.mu i v':=λi v v' h e=>by
  obtain⟨hi,Kk⟩:=hw3 i v' e;rcases Kh.iO i v h with⟨w,e2⟩|hl;exact hSW i v' w e e2;omega
 have aj1:lD ic s5 SV3 (gW su s.bd).1:=by
  rcases hj3 with⟨j,v,rfl,h,h'⟩|h;refine .inl ⟨j,v,rfl,?_,h'⟩;rw[aaX.kJ j (by simpa using (List.getElem?_eq_some_iff.1 h).1) (Ne.symm h') λv'=>mh j v v' rfl,fN h'];exact h;exact .inr h
 have lJ:∀i v v',SV5=.mu i v->SV3≠.mu i v':=λi v v' h e=>by
  rcases aaX.iO i v h with⟨w,e2⟩|hl;exact mh i v' w e e2;rcases hj3 with⟨j,w,e2,h2,_⟩|⟨e2,_⟩;rw[e2]at e;cases e;have:=(List.getElem?_eq_some_iff.1 h2).1;simp at hl;omega;rw[e2]at e;cases e
 have hAl:(gW su s.bd).1.length=su.length:=rL _ _;have hBl:(gW su s.el).1.length=su.length:=rL _ _;generalize (gW su s.bd).1=A at *;generalize (gW su s.el).1=B at *;obtain⟨wv,wc,wl⟩:=oZ hws;obtain⟨vv,vc,_⟩:=oZ vk;obtain⟨v3,c3,_⟩:=oZ hj3;have WJ:s1[ic]?=some (.rows 0 3 [[SV,.int .i64 (cE g),.int .i64 (cX g)]]):=xK;have WK:s3[ic]?=some (.rows 0 3 [[SV3,.int .i64 (cE g2),.int .i64 (cX g2)]]):=hc3;have vR:s3.set ic (.rows 0 3 [[WS,.int .i64 (cE g2),.int .i64 (cX g2)]])=s3.set ic (uO WS g2):=rfl;generalize s1++ext=s2 at *;generalize s3.set ic (uO WS g2)=s4 at *;have UR:Fr ic st SV s5 SV5:=ajZ.trans aaX;by_cases hs0:su.length=0;have hA:A=[]:=List.eq_nil_of_length_eq_zero (by omega);have hBn:B=[]:=List.eq_nil_of_length_eq_zero (by omega);subst hA hBn;have go:=go s5 SV5 hc5 (by simpa using hj5) UR;have hlen:ov s5 .sl SV5=some 0:=by
  rcases hj5 with⟨j,v,rfl,h,_⟩|⟨rfl,_⟩;have h:s5[j]?=some (.rows v 1 []):=h;simp[h];simp
 obtain⟨v5,c5,_⟩:=oZ hj5;have aj2:s5[ic]?=some (.rows 0 3 [[SV5,.int .i64 (cE g3),.int .i64 (cX g3)]]):=hc5;have BZ:∀wl af bx,aV wl af (.len .sl) [.val SV5] s5 bx=some (.val (.int .i64 0),s5,bx):=λwl af bx=>by rw[Xk,hlen];rfl
 simp[qc,ou,yz,pZ,gi,h1,h2,h3,h7,h6,h5',WJ,vv,v3,wc,wl,hw1,ct,Md,b2,l2,WK,vR,aY,ag];rw[qx Lb.eq_1];simp[-Xk,-U9,aj2,v5,BZ];exact go;obtain⟨j5,w5,rfl,aaY,afn⟩:∃j v,SV5=.mu j v/\s5[j]?=some (.rows v 1 (fT B))/\ic≠j:=by
  rcases hj5 with h|⟨_,h⟩;exact h;rw[h]at hBl;simp at hBl;omega
 obtain⟨j3,w3,rfl,aj3,ans⟩:∃j v,SV3=.mu j v/\s5[j]?=some (.rows v 1 (fT A))/\ic≠j:=by
  rcases aj1 with h|⟨_,h⟩;exact h;rw[h]at hAl;simp at hAl;omega
 have aj4:j5≠j3:=λe=>lJ j5 w5 w3 rfl (by rw[e]);have hcS:∀o,(s5.set j5 o)[ic]?=some (.rows 0 3 [[.mu j5 w5,.int .i64 (cE g3),.int .i64 (cX g3)]]):=λo=>by rw[fN (Ne.symm afn)];exact hc5
 have hAS:∀o,(s5.set j5 o)[j3]?=some (.rows w3 1 (fT A)):=λo=>by rw[fN aj4];exact aj3
 have hBS:∀sk:List Bool,(s5.set j5 (sO w5 sk))[j5]?=some (.rows w5 1 (fT sk)):=λsk=>eX aaY;have oz:∀(a b:dy),(s5.set j5 a).set j5 b=s5.set j5 b:=λa b=>by rw[List.set_set]
 have aay:(List.zipWith (λa b=>a&&b) A B).length=su.length:=by simp[hAl,hBl]
 have go:=go (s5.set j5 (sO w5 (List.zipWith (λa b=>a&&b) A B))) (.mu j5 w5) (hcS _) (AF aaY afn) (UR.trans Fr.mu);simp[qc,ou,yz,pZ,gi,h1,h2,h3,h7,h6,h5',WJ,vv,wc,wl,hw1,ct,Md,b2,l2,WK,vR,aY,ag];refine bf Lb.eq_1 (λk:Nat=>⟨[(0,.val (.ptr ic 0 0 0)),(1,.val lv),(4,.val (.int .i64 k0)),(9,.val (.mu j3 w3)),(10,.val (.int .i64 k))],[[.int .i64 s.k,.str s.nm,.str s.on,.int .i64 s.od,ev,bv,lw,.int .i64 s.a,.int .i64 s.cG]],s5.set j5 (sO w5 ((List.zipWith (λa b=>a&&b) A B).take k++B.drop k))⟩)
  (λk=>k<=su.length) (λk=>su.length-k) 0 (by simp[gb aaY]) (by simp) ?_
 intro k hk ih;have hl:((List.zipWith (λa b=>a&&b) A B).take k++B.drop k).length=su.length:=by simp;omega
 have a1:=hcS (sO w5 ((List.zipWith (λa b=>a&&b) A B).take k++B.drop k));have a2:=hAS (sO w5 ((List.zipWith (λa b=>a&&b) A B).take k++B.drop k));have a3:=hBS ((List.zipWith (λa b=>a&&b) A B).take k++B.drop k);by_cases aW:k<su.length;have hw:=wk k (by omega);have eK:k<((List.zipWith (λa b=>a&&b) A B).take k++B.drop k).length:=by omega
 have Wf:k<A.length:=by omega
 have hlB:k<B.length:=by omega
 have TD:=WH Wf hlB eK;have hn:=Pk Wf hlB;have bA:=jj Wf;have bS:=jj eK;rw[TD]at bS;have dx:=ih (k+1) (by omega) (by omega);have a4:(s5.set j5 (sO w5 ((List.zipWith (λa b=>a&&b) A B).take k++B.drop k))).set j5 (.rows w5 1 (fT ((List.zipWith (λa b=>a&&b) A B).take (k+1)++B.drop (k+1))))=s5.set j5 (sO w5 ((List.zipWith (λa b=>a&&b) A B).take (k+1)++B.drop (k+1))):=oz _ _;generalize (List.zipWith (λa b=>a&&b) A B).take (k+1)++B.drop (k+1)=sk' at *;generalize (List.zipWith (λa b=>a&&b) A B).take k++B.drop k=sk at *;generalize s5.set j5 (sO w5 sk)=s5 at *;cases hBk:B[k] with
 |true=>
  rw[hBk]at hn bS TD;rw[Bool.and_true]at hn;simp[aW,hw,a1,a2,a3,hl,Wf,TD,hn,a4,aY,AV.ai,AV.ax,ag,au,an];exact dx
 |false=>
  rw[hBk]at hn bS TD;rw[Bool.and_false]at hn;simp[aW,hw,a1,a3,hl,TD,hn,a4,aY,AV.ai,AV.ax,ag,au,an];exact dx
 have eK:k=su.length:=by omega
 have tP:(List.zipWith (λa b=>a&&b) A B).take k++B.drop k=List.zipWith (λa b=>a&&b) A B:=by
  rw[eK,<-hBl,List.drop_length,List.append_nil,hBl,<-aay,List.take_length]
 rw[tP]at a1 a2 a3 hl ⊢;generalize s5.set j5 (sO w5 (List.zipWith (λa b=>a&&b) A B))=s5 at *;simp[aW,a1,a3,hl];exact go;rw[if_neg h5,hg]at go;have go:=go s1 SV xK vk Kg;simp[qc,ou,yz,pZ,gi,h1,h2,h3,h5,h6,h7];exact go
theorem X6(s:Sm):Kt s.bd/\Kt s.el:=by
 induction s using Sm.yu with
 |_ s sW k7=>exact⟨Ii s.bd λx hx=>zF x (sW x hx).1 (sW x hx).2,Ii s.el λx hx=>zF x (k7 x hx).1 (k7 x hx).2⟩
theorem WL(l:List Sm):Kt l:=Ii l λs _=>zF s (X6 s).1 (X6 s).2
end S9
namespace S9
open Ax Go bu V7 jG j9 K9
open N7 U7 in
theorem TE(wl af:Nat)(p:Pg)(st:aj)(hg:(iY p).ok)(o9:GD.sm (iY p))(dF:∀f∈p.funcs,f.params.length+Sm.cQ f.body<1000000000)
  (pM:∀bs,qh (aG p) (aG p).sigs p.funcs=.ok bs->∀b∈bs,Sm.cQ b.code<1000000000/\b.vars.length<1000000000) :
  (bh S).call wl af 25 [.agg p.row] st=some (tQ (u0 p),st):=by
 have ec:=λwl af st=>R9.wN wl af p st hg o9 dF;have Ga:p.funcs.length<1000000000:=by have:=o9.funcs;rw[mY,List.length_map]at this;exact this
 refine bL (sf:=s25) rfl rfl (by simp[Pg.row,AV.ai,AV.ax]) rfl (by simp[tQ,AV.ax,AV.ai]) ?_;unfold mI at ec;unfold u0;have r1:aD (aA 3 (p.aR.map Rc.row))=true:=aL;have r2:(aA 3 (p.aR.map Rc.row)).view=aA 3 (p.aR.map Rc.row):=aJ;have f1:aD (aA 7 (p.funcs.map Fc.row))=true:=aL;have f2:(aA 7 (p.funcs.map Fc.row)).view=aA 7 (p.funcs.map Fc.row):=aJ;have g1:aD (aA 4 (p.globals.map PD.cells))=true:=aL;have g2:(aA 4 (p.globals.map PD.cells)).view=aA 4 (p.globals.map PD.cells):=aJ;simp only[Pg.row]at ec ⊢;generalize aA 3 (p.aR.map Rc.row)=PR at *;generalize aA 7 (p.funcs.map Fc.row)=PF at *;generalize aA 4 (p.globals.map PD.cells)=PG at *;cases hF:iS (iY p) with
 |some a=>
  rw[hF]at ec;simp only[tQ,cE,cX]at ec ⊢;simp[s25,ec,r1,r2,f1,f2,g1,g2,ag,AV.view]
 |none=>
  rw[hF]at ec;simp only at ec ⊢;cases hR:qh (aG p) (aG p).sigs p.funcs with
  |error a=>
   rw[hR]at ec;simp only[uN,tQ,cE,cX]at ec ⊢;simp[s25,ec,r1,r2,f1,f2,g1,g2,ag,AV.view]
  |ok bs=>
   rw[hR]at ec;simp only[uN,jS,List.cons_append,List.nil_append]at ec ⊢;have aaz:=pM bs hR;clear pM;have cA:(aG p).sigs.length=p.funcs.length:=(by simp[aG]);have NK:=sC cA hR;have hrefs:=Ei hR;have z1:aD (aA 3 (bs.map Bd.row))=true:=aL;have z2:(aA 3 (bs.map Bd.row)).view=aA 3 (bs.map Bd.row):=aJ;have z3:aM (aA 3 (bs.map Bd.row))=bs.map Bd.row:=aE;have z4:bX 3 (aA 3 (bs.map Bd.row))=true:=gf (by simp[bN,Bd.row]);have a1:aD (aA 2 ((aG p).bK.map dw))=true:=aL;have a2:(aA 2 ((aG p).bK.map dw)).view=aA 2 ((aG p).bK.map dw):=aJ;have b1:aD (aA 6 ((aG p).sigs.map Sg.row))=true:=aL;have b2:(aA 6 ((aG p).sigs.map Sg.row)).view=aA 6 ((aG p).sigs.map Sg.row):=aJ;have b3:aM (aA 6 ((aG p).sigs.map Sg.row))=(aG p).sigs.map Sg.row:=aE;have b4:bX 6 (aA 6 ((aG p).sigs.map Sg.row))=true:=gf (by simp[bN,Sg.row]);have c1:aD (br (aG p).globals)=true:=dK;have c2:(br (aG p).globals).view=br (aG p).globals:=fC;generalize aA 2 ((aG p).bK.map dw)=HS at *;generalize aA 6 ((aG p).sigs.map Sg.row)=HG at *;generalize br (aG p).globals=GL at *;generalize aA 3 (bs.map Bd.row)=BV at *;have Ks:∀k:Nat,k<bs.length->k<(aG p).sigs.length:=λk h=>by omega
   have Qn:bs.length<1000000000:=(by omega);generalize (aG p).sigs=SS at *;clear hR;simp[s25,ec,r1,r2,f1,f2,g1,g2,z1,z2,a1,a2,b1,b2,c1,c2,ag,AV.view];refine bf Rh.eq_1 (λx:Nat×aj=>⟨[(2,.fp 1 0),(3,.fp 2 0),(5,.val (.int .i64 x.1))],[[PR,PG,PF],[.int .i64 0,.int .i64 0],[HS,GL,HG,.int .i64 (fW p),BV],[.int .i64 0,.int .i64 0]],x.2⟩)
    (λx=>x.1<=bs.length/\yT (SS.drop x.1) (bs.drop x.1)=yT SS bs) (λx=>bs.length-x.1) (0,[]) (by simp) ⟨by simp,by simp⟩ ?_
   rintro⟨k,B3⟩ ⟨hk,hp⟩ ih;simp only at hk hp ih;by_cases aW:k<bs.length;have hw:=wk k (by omega);have nj:=Ks k aW;rw[Gy nj aW]at hp;obtain⟨q1,q2⟩:=hrefs k nj aW;obtain⟨q3,q4⟩:=aaz _ (List.getElem_mem aW);have Ns:∀h:k<(bs.map Bd.row).length,(bs.map Bd.row)[k]=[br bs[k].vars,aS bs[k].code,.int .i64 bs[k].a]:=λh=>by simp[Bd.row]
   have yx:∀h:k<(SS.map Sg.row).length,(SS.map Sg.row)[k]=[.str SS[k].nm,br SS[k].ps,.bool SS[k].bO,.int .i64 SS[k].bz.b,.int .i64 SS[k].bz.r,.int .i64 SS[k].bz.d]:=λh=>by simp[Sg.row]
   have aaA:k<(bs.map Bd.row).length:=(by simpa using aW);have EB:k<(SS.map Sg.row).length:=(by simpa using nj);have Tc:=Ns aaA;have EC:=yx EB;clear Ns yx;have v1:aD (br bs[k].vars)=true:=dK;have v2:(br bs[k].vars).view=br bs[k].vars:=fC;have v3:(aM (br bs[k].vars)).length=bs[k].vars.length:=(by simp);have w1:aD (aS bs[k].code)=true:=bn;have w2:(aS bs[k].code).view=aS bs[k].code:=aO;have p1:aD (br SS[k].ps)=true:=dK;have p2:(br SS[k].ps).view=br SS[k].ps:=fC;have p3:(aM (br SS[k].ps)).length=SS[k].ps.length:=(by simp);have mE:(bs[k].vars.length:Int)<=cR:=(by unfold cR;omega);have hbc:=WL bs[k].code;unfold su0 at hp;have Du:(List.replicate SS[k].ps.length true++List.replicate (bs[k].vars.length-SS[k].ps.length) false).length=bs[k].vars.length:=(by simp;omega);obtain⟨bV,EY,ct,Il,_,_⟩:=hbc (List.replicate SS[k].ps.length true++List.replicate (bs[k].vars.length-SS[k].ps.length) false) none (B3++[sO 0 (List.replicate SS[k].ps.length true++List.replicate (bs[k].vars.length-SS[k].ps.length) false),uO (.mu B3.length 0) none]) (B3.length+1) (.mu B3.length 0)
    (by rw[List.getElem?_append_right (by omega)];simp) (.inl ⟨B3.length,0,rfl,by simp,by omega⟩) (by rw[Du];exact q2) q3 (by rw[Du];exact q4)
   have ho:∀g:Option Int,lA none g=g:=λg=>rfl;rw[ho]at Il;generalize jO:bs[k].code=cs at *;generalize hbv:bs[k].vars.length=n at *;generalize hbp:SS[k].ps.length=np at *;generalize hfb:br bs[k].vars=FV at *;generalize Mo:br SS[k].ps=FP at *;generalize hsc:aS cs=SC at *;generalize bs[k]=bk at *;generalize SS[k]=sk at *;simp[-xq,xq,aW,Tc,z1,z2,z3,z4,v1,v2,v3,mE,Gx,ag,AV.view];refine bf Rg.eq_1 (λi:Nat=>⟨[(2,.fp 1 0),(3,.fp 2 0),(5,.val (.int .i64 k)),(6,.val (.ptr (B3.length+1) 0 0 0)),(7,.val (.int .i64 i))],[[PR,PG,PF],[.int .i64 0,.int .i64 0],[HS,GL,HG,.int .i64 (fW p),BV],[.int .i64 0,.int .i64 0]],B3++[sO 0 (List.replicate i true++(List.replicate n false).drop i),.rows 0 3 [[.mu B3.length 0,.int .i64 0,.int .i64 0]]]⟩)
    (λi=>i<=np) (λi=>np-i) 0 (by simp) (by simp) ?_
   intro i hi k7;by_cases E5:i<np;have hwi:=wk i (by omega);have IM:i<(List.replicate n false).length:=(by simp;omega);have hn:=Aq IM;have hll:(List.replicate i true++(List.replicate n false).drop i).length=n:=(by simp;omega);have hib:i<(List.replicate i true++(List.replicate n false).drop i).length:=(by omega);have hb:=jj hib;have aaB:=k7 (i+1) (by omega) (by omega);generalize List.replicate (i+1) true++(List.replicate n false).drop (i+1)=s2 at *;generalize List.replicate i true++(List.replicate n false).drop i=s1 at *;have aaC:i<n:=(by omega);simp[E5,nj,hwi,hll,aaC,hn,EC,b2,b3,b4,p1,p2,p3,aY,AV.ai,AV.ax,ag];exact aaB;have QA:i=np:=(by omega);rw[QA,Nr];generalize List.replicate np true++List.replicate (n-np) false=s0 at *;cases hgv:(gW s0 cs).2 with
   |none=>
    rw[hgv]at Il hp;have hp:yT (SS.drop (k+1)) (bs.drop (k+1))=yT SS bs:=hp;have dx:=λo=>ih (k+1,o) ⟨by simp only;omega,hp⟩ (by simp only;omega);simp only at dx;simp only[uO,cE,cX]at ct Il;simp[ct,Il,hw,nj,EC,Tc,aW,b2,b3,b4,p1,p2,p3,z2,z3,z4,w2];exact dx _
   |some a=>
    rw[hgv]at Il hp;have hp:some a=yT SS bs:=hp;rw[<-hp];simp only[uO,cE,cX,tQ]at ct Il ⊢;simp[ct,Il,nj,EC,Tc,aW,b2,b3,b4,p1,p2,p3,z2,z3,z4,w2,ag]
   have eK:k=bs.length:=(by omega);rw[eK,List.drop_length,J3]at hp;rw[<-hp];simp[aW,z1,z2,z3,tQ,cE,cX,ag]
end S9
