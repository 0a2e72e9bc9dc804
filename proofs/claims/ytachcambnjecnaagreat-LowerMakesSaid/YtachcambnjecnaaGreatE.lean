/- Part of a proof. -/
import Derived.Test.YtachcambnjecnaaGreatS
import Derived.Test.YtachcambnjecnaaGreatO
import Derived.Test.YtachcambnjecnaaGreatV

set_option maxRecDepth 100000
set_option maxHeartbeats 8000000
namespace S9
open Ax Go bu V7 jG ke K9
def uO(SV:AV)(f:Option Int):dz:=.rows 0 3 [[SV,.int .i64 (cE f),.int .i64 (cX f)]]
def lD(ic:Nat)(st:aj)(SV:AV)(su:List Bool):Prop:=(∃j v,SV=.mu j v/\st[j]?=some (sO v su)/\ic≠j)\/(SV=.U/\su=[])
theorem tT{ic:Nat}{st:aj}{SV:AV}{su:List Bool}{o:dz}(h:lD ic st SV su):lD ic (st.set ic o) SV su:=by
 rcases h with⟨j,v,rfl,h1,h2⟩|h;exact .inl ⟨j,v,rfl,by rw[fN h2];exact h1,h2⟩;exact .inr h
theorem TF(e:E):∀(su:List Bool)(f:Option Int)(af:Nat)(st:aj)(ic:Nat)(SV:AV),st[ic]?=some (uO SV f)->lD ic st SV su->HX su.length e->E.sz e<1000000000->
  (bh S).call 0 af 91 [.ptr ic 0 0 0,.agg e.row] st=some (.fm [],st.set ic (uO SV (lA f (Aa su e)))):=by
 induction e using E.yx with
 |_ e ih=>
  intro su f af st ic SV hc hj hr dH;have nk:=E.mz e;have eL:=E.dG e.aC;have hz:bX 11 (aI e.aC)=true:=iM;have cC:aD (aI e.aC)=true:=aR;have dW:(aI e.aC).view=aI e.aC:=aN;have cP:aM (aI e.aC)=E.rows e.aC:=aE;have nj:(E.rows e.aC).length=e.aC.length:=by simp
  have ewr:=λwl af a st=>U7.AE wl af a st;rw[Ac]at hr;obtain⟨DE,YD⟩:=hr;rw[lW]at YD;rw[Nn,E.az];have E9:ic<st.length:=(List.getElem?_eq_some_iff.1 hc).1;generalize ow:aI e.aC=kv at *;refine ay (sf:=s91) rfl rfl rfl ?_;simp[s91,cC];refine bf R7.eq_1 (λx:Nat×Option Int=>⟨[(0,.val (.ptr ic 0 0 0)),(3,.fp 0 0),(4,.val (.int .i64 x.1))],[[.int .i64 e.k,.int .i64 e.n,.str e.nm,.str e.on,.int .i64 e.od,kv,.int .i64 e.a,.int .i64 e.ty.b,.int .i64 e.ty.r,.int .i64 e.ty.d,.int .i64 e.cH]],st.set ic (uO SV x.2)⟩)
   (λx=>x.1<=e.aC.length/\lA x.2 (lI su (e.aC.drop x.1))=lA f (lI su e.aC)) (λx=>e.aC.length-x.1) (0,f) (by simp[gb hc]) ⟨by simp,by simp⟩ ?_
  rintro⟨k,g⟩ ⟨hk,hp⟩ Gy;simp only at hk hp Gy;have xM:(st.set ic (uO SV g))[ic]?=some (uO SV g):=eY hc;have vo:lD ic (st.set ic (uO SV g)) SV su:=tT hj;have oz:∀o,(st.set ic (uO SV g)).set ic o=st.set ic o:=λo=>by rw[List.set_set]
  by_cases aX:k<e.aC.length;have hw:=wk k (by omega);have hm:=List.getElem_mem aX;have ct:=λaf=>ih _ hm su g af (st.set ic (uO SV g)) ic SV xM vo (YD _ hm) (by have:=E.iA hm;omega);rw[List.drop_eq_getElem_cons aX,xF,<-iH]at hp;have EH:=Gy (k+1,lA g (Aa su e.aC[k])) ⟨by simp only;omega,hp⟩ (by simp only;omega);simp only at EH;simp only[oz]at ct;have gE:=u5 aX;have gy:k<(E.rows e.aC).length:=by simpa using aX
  have tQ:=oY aX gy;rw[E.az e.aC[k]]at ct gE tQ;have xv:aD (aI e.aC[k].aC)=true:=aR;have xw:(aI e.aC[k].aC).view=aI e.aC[k].aC:=aN;generalize e.aC[k]=x at *;generalize st.set ic (uO SV g)=s1 at *;generalize st.set ic (uO SV (lA g (Aa su x)))=s2 at *;simp[aX,hw,hz,cC,dW,cP,tQ,ct,xw,AV.view];exact EH;have eL:k=e.aC.length:=by omega
  rw[eL,List.drop_length]at hp;simp only[lI,kU]at hp;subst hp;rw[<-iH];clear Gy hc;generalize lA f (lI su e.aC)=g at *;have Uv:(st.set ic (uO SV g)).length=st.length:=by simp
  have I4:(st.set ic (uO SV g)).take st.length=st.set ic (uO SV g):=List.take_of_length_le (by simp);have Bi:(st.set ic (uO SV g))[ic]?=some (.rows 0 3 [[SV,.int .i64 (cE g),.int .i64 (cX g)]]):=xM;have Yt:∀o,(st.set ic o).take st.length=st.set ic o:=λo=>List.take_of_length_le (by simp);by_cases h4:e.k=4;by_cases h0:0<=e.cH;have hlr:=DE h4;obtain⟨r,vu⟩:∃r:Nat,e.cH=r:=⟨e.cH.toNat,by omega⟩;have Bj:r<su.length:=by omega
  obtain⟨j,v,rfl,DH,jn⟩:∃j v,SV=.mu j v/\(st.set ic (uO SV g))[j]?=some (.rows v 1 (fT su))/\ic≠j:=by
   rcases vo with h|⟨_,h⟩;exact h;rw[h]at Bj;simp at Bj
  have hb:=jj Bj;have hsu:su[r]?=some su[r]:=List.getElem?_eq_getElem Bj;have LH:(e.k=4)=True:=eq_true h4;have Qt:(if e.k=4/\0<=e.cH/\su[e.cH.toNat]?=some false then some e.a else none)=(if su[r]=false then some e.a else none):=by rw[vu,Int.toNat_natCast,hsu];simp[h4]
  rw[Qt];rw[vu];cases hx:su[r] with
  |true=>
   rw[hx]at hb;simp only[Bool.true_eq_false,if_false,kU];generalize st.set ic (uO (.mu j v) g)=s1 at *;simp[aX,LH,cC,dW,cP,Bj,Bi,DH,hx,I4,au,an]
  |false=>
   rw[hx]at hb;simp only[if_true];cases g with
   |none=>
    simp only[lA,cE,cX]at Bi ⊢;have tR:(st.set ic (uO (.mu j v) none)).set ic (.rows 0 3 [[.mu j v,.int .i64 3,.int .i64 e.a]])=st.set ic (uO (.mu j v) (some e.a)):=oz _;have ht3:=Yt (uO (.mu j v) (some e.a));generalize st.set ic (uO (.mu j v) (some e.a))=s2 at *;generalize st.set ic (uO (.mu j v) none)=s1 at *;simp[aX,LH,cC,dW,cP,Bj,DH,hx,Bi,ewr,aQ,AV.ai,AV.ax,ag,tR,ht3,au,an]
   |some y=>
    simp only[lA,cE,cX]at Bi ⊢;generalize st.set ic (uO (.mu j v) (some y))=s1 at *;simp[aX,LH,cC,dW,cP,Bj,DH,hx,Bi,I4,au,an]
  rw[if_neg (λh=>h0 h.2.1),kU];have LH:(e.k=4)=True:=eq_true h4;generalize st.set ic (uO SV g)=s1 at *;simp[aX,LH,h0,cC,dW,cP,I4,au,an];rw[if_neg (λh=>h4 h.1),kU];generalize st.set ic (uO SV g)=s1 at *;simp[aX,h4,cC,dW,cP,I4,au,an]
theorem aaZ(su:List Bool)(f:Option Int)(af:Nat)(st:aj)(ic:Nat)(SV:AV)(hc:st[ic]?=some (uO SV f))(hj:lD ic st SV su)(hn:su.length<1000000000) :
  ∃bV,(bh S).call 0 af 92 [.ptr ic 0 0 0] st=some (.fm [],bV)/\((∃j v,SV=.mu j v/\bV=st.set j (sO v (su.map λ_=>true)))\/(SV=.U/\bV=st)):=by
 rcases hj with⟨j,v,rfl,hj,jn⟩|⟨rfl,rfl⟩;refine⟨st.set j (sO v (su.map λ_=>true)),?_,.inl ⟨j,v,rfl,rfl⟩⟩;have hj:st[j]?=some (.rows v 1 (fT su)):=hj;have xM:∀o,(st.set j o)[ic]?=some (.rows 0 3 [[.mu j v,.int .i64 (cE f),.int .i64 (cX f)]]):=λo=>by rw[fN (Ne.symm jn)];exact hc
 have vV:∀sk:List Bool,(st.set j (sO v sk))[j]?=some (.rows v 1 (fT sk)):=λsk=>eY hj;have oz:∀(a b:dz),(st.set j a).set j b=st.set j b:=λa b=>by rw[List.set_set]
 have ht:∀o,(st.set j o).take st.length=st.set j o:=λo=>List.take_of_length_le (by simp);refine ay (sf:=s92) rfl rfl rfl ?_;simp[s92];refine bf Lm.eq_1 (λk:Nat=>⟨[(0,.val (.ptr ic 0 0 0)),(2,.val (.int .i64 k))],[],st.set j (sO v (List.replicate k true++su.drop k))⟩)
  (λk=>k<=su.length) (λk=>su.length-k) 0 (by simp[gb hj]) (by simp) ?_
 intro k hk ih;have hl:(List.replicate k true++su.drop k).length=su.length:=by simp;omega
 have hh:=vV (List.replicate k true++su.drop k);have KG:=xM (sO v (List.replicate k true++su.drop k));by_cases aX:k<su.length;have hw:=wk k (by omega);have eL:k<(List.replicate k true++su.drop k).length:=by omega
 have hb:=jj eL;have hn:=As aX;have dy:=ih (k+1) (by omega) (by omega);have hup:(st.set j (sO v (List.replicate k true++su.drop k))).set j (.rows v 1 (fT (List.replicate (k+1) true++su.drop (k+1))))=st.set j (sO v (List.replicate (k+1) true++su.drop (k+1))):=oz _ _;generalize List.replicate (k+1) true++su.drop (k+1)=sk' at *;generalize List.replicate k true++su.drop k=sk at *;generalize st.set j (sO v sk)=s2 at *;simp[aX,hw,hh,KG,hl,hn,hup,aQ,AV.ai,AV.ax,ag];exact dy;have eL:k=su.length:=by omega
 have tR:List.replicate k true++su.drop k=su.map λ_=>true:=by
  rw[eL,List.drop_length,List.append_nil,List.map_const']
 rw[tR]at hh KG hl ⊢;have I4:=ht (sO v (su.map λ_=>true));generalize st.set j (sO v (su.map λ_=>true))=s2 at *;simp[aX,hh,KG,hl,I4];refine⟨st,?_,.inr ⟨rfl,rfl⟩⟩;have hc:st[ic]?=some (.rows 0 3 [[.U,.int .i64 (cE f),.int .i64 (cX f)]]):=hc;refine ay (sf:=s92) rfl rfl rfl ?_;simp[s92];rw[qA Lm.eq_1];simp[hc]
end S9
namespace S9
open Ax Go bu V7 jG ke K9
structure Fr (ic:Nat)(st:aj)(SV:AV)(bV:aj)(E3:AV):Prop where
 len:st.length<=bV.length
 kL:∀i,i<st.length->i≠ic->(∀v,SV≠.mu i v)->bV[i]?=st[i]?
 iO:∀i v,E3=.mu i v->(∃v',SV=.mu i v')\/st.length<=i
theorem Fr.refl{ic:Nat}{st:aj}{SV:AV}:Fr ic st SV st SV:=⟨Nat.le_refl _,λ_ _ _ _=>rfl,λ_i v h=>.inl ⟨v,h⟩⟩
theorem Fr.trans{ic:Nat}{st kM kP:aj}{SV SV1 SV2:AV}(h:Fr ic st SV kM SV1)(k:Fr ic kM SV1 kP SV2):Fr ic st SV kP SV2:=by
 refine⟨Nat.le_trans h.len k.len,λi hi jn hv=>?_,λi v e=>?_⟩;rw[k.kL i (by have:=h.len;omega) jn λv e=>?_,h.kL i hi jn hv];rcases h.iO i v e with⟨v',e'⟩|hl;exact hv v' e';omega;rcases k.iO i v e with⟨v',e'⟩|hl;exact h.iO i v' e';exact .inr (by have:=h.len;omega)
theorem Fr.cell{ic:Nat}{st:aj}{SV:AV}{o:dz}:Fr ic st SV (st.set ic o) SV:=
 ⟨by simp,λi hi jn _=>List.getElem?_set_ne (Ne.symm jn),λi v h=>.inl ⟨v,h⟩⟩
def Kx(l:List Sm):Prop:=∀(su:List Bool)(f:Option Int)(st:aj)(ic:Nat)(SV:AV),st[ic]?=some (uO SV f)->lD ic st SV su->tJ su.length l->Sm.cR l<1000000000->su.length<1000000000->
 ∃bV E3,(bh S).call 0 0 53 [.ptr ic 0 0 0,aT l] st=some (.fm [],bV)/\bV[ic]?=some (uO E3 (lA f (gX su l).2))/\lD ic bV E3 (gX su l).1/\Fr ic st SV bV E3
def yB:bw->bw
 |.seq _ (.seq (.block _ (.seq _ b)) _)=>b|x=>x
def ou:bw:=yB p8
def qf:bw:=gi ou
theorem aj0(s:Sm)(su:List Bool)(f:Option Int)(st:aj)(ic:Nat)(SV:AV)(hc:st[ic]?=some (uO SV f))(hj:lD ic st SV su)(hr:Ab su.length s.es)(dH:E.cR s.es<1000000000){rs:List iE}{Q:Ex->St->Prop}{kk:List qy}(lv:AV)(k0:Nat)
  (go:W S 0 0 rs Q (.code qf::kk) .normal ⟨[(0,.val (.ptr ic 0 0 0)),(1,.val lv),(4,.val (.int .i64 k0)),(5,.fp 0 0)],[s.row],st.set ic (uO SV (lA f (lI su s.es)))⟩) :
  W S 0 0 rs Q (.code ou::kk) .normal ⟨[(0,.val (.ptr ic 0 0 0)),(1,.val lv),(4,.val (.int .i64 k0)),(5,.fp 0 0)],[s.row],st⟩:=by
 have hz:bX 11 (aI s.es)=true:=iM;have cC:aD (aI s.es)=true:=aR;have dW:(aI s.es).view=aI s.es:=aN;have cP:aM (aI s.es)=E.rows s.es:=aE;have eL:=E.dG s.es;rw[lW]at hr;have E9:ic<st.length:=(List.getElem?_eq_some_iff.1 hc).1;rw[Sm.az]at *;generalize aT s.bd=bv at *;generalize aT s.el=lw at *;generalize ow:aI s.es=kv at *;show W S 0 0 rs Q (.code (.seq (.seq (.region [{ dst:=some 6,op:=.move,args:=[.const (.int .i64 0)],guard:=none }] none []) (.block 2 (.loop Lg))) qf)::kk) .normal _;generalize qf=T at *;simp;refine bf Lg.eq_1 (λx:Nat×Option Int=>⟨[(0,.val (.ptr ic 0 0 0)),(1,.val lv),(4,.val (.int .i64 k0)),(5,.fp 0 0),(6,.val (.int .i64 x.1))],[[.int .i64 s.k,.str s.nm,.str s.on,.int .i64 s.od,kv,bv,lw,.int .i64 s.a,.int .i64 s.cH]],st.set ic (uO SV x.2)⟩)
  (λx=>x.1<=s.es.length/\lA x.2 (lI su (s.es.drop x.1))=lA f (lI su s.es)) (λx=>s.es.length-x.1) (0,f) (by simp[gb hc]) ⟨by simp,by simp⟩ ?_
 rintro⟨k,g⟩ ⟨hk,hp⟩ Gy;simp only at hk hp Gy;have xM:(st.set ic (uO SV g))[ic]?=some (uO SV g):=eY hc;have vo:lD ic (st.set ic (uO SV g)) SV su:=tT hj;have oz:∀o,(st.set ic (uO SV g)).set ic o=st.set ic o:=λo=>by rw[List.set_set]
 by_cases aX:k<s.es.length;have hw:=wk k (by omega);have hm:=List.getElem_mem aX;have ct:=λaf=>TF s.es[k] su g af (st.set ic (uO SV g)) ic SV xM vo (hr _ hm) (by have:=E.iA hm;omega);rw[List.drop_eq_getElem_cons aX,xF,<-iH]at hp;have EH:=Gy (k+1,lA g (Aa su s.es[k])) ⟨by simp only;omega,hp⟩ (by simp only;omega);simp only at EH;simp only[oz]at ct;have gE:=u5 aX;have gy:k<(E.rows s.es).length:=by simpa using aX
 have tQ:=oY aX gy;rw[E.az s.es[k]]at ct gE tQ;have xv:aD (aI s.es[k].aC)=true:=aR;have xw:(aI s.es[k].aC).view=aI s.es[k].aC:=aN;generalize s.es[k]=x at *;generalize st.set ic (uO SV g)=s1 at *;generalize st.set ic (uO SV (lA g (Aa su x)))=s2 at *;simp[aX,hw,hz,cC,dW,cP,tQ,ct,xw,AV.view];exact EH;have eL:k=s.es.length:=by omega
 rw[eL,List.drop_length]at hp;simp only[lI,kU]at hp;subst hp;simp[aX,cC,dW,cP];exact go
theorem AH{ic:Nat}{st:aj}{j v:Nat}{su su':List Bool}(h:st[j]?=some (sO v su))(jn:ic≠j):lD ic (st.set j (sO v su')) (.mu j v) su':=.inl ⟨j,v,rfl,eY h,jn⟩
theorem Fr.mu{ic:Nat}{st:aj}{j v:Nat}{o:dz}:Fr ic st (.mu j v) (st.set j o) (.mu j v):=
 ⟨by simp,λi hi jn hv=>List.getElem?_set_ne (λe=>hv v (by rw[e])),λi v h=>.inl ⟨v,h⟩⟩
def X9(s:Sm):Prop:=∀(su:List Bool)(f:Option Int)(st:aj)(ic:Nat)(SV:AV),st[ic]?=some (uO SV f)->lD ic st SV su->Fw su.length s->Sm.sz s<1000000000->su.length<1000000000->
 ∀{rs:List iE} {Q:Ex->St->Prop} {kk:List qy} (lv:AV) (k0:Nat),
  (∀bV E3,bV[ic]?=some (uO E3 (lA f (n8 su s).2))->lD ic bV E3 (n8 su s).1->Fr ic st SV bV E3->W S 0 0 rs Q kk .normal ⟨[(0,.val (.ptr ic 0 0 0)),(1,.val lv),(4,.val (.int .i64 k0))],[s.row],bV⟩)->
  W S 0 0 rs Q (.code ou::kk) .normal ⟨[(0,.val (.ptr ic 0 0 0)),(1,.val lv),(4,.val (.int .i64 k0)),(5,.fp 0 0)],[s.row],st⟩
theorem Im(l:List Sm)(hs:∀s∈l,X9 s):Kx l:=by
 intro su f st ic SV hc hj hr dH hn;have hz:bX 9 (aT l)=true:=Al;have cC:aD (aT l)=true:=bn;have dW:(aT l).view=aT l:=aO;have cP:aM (aT l)=Sm.rows l:=aE;have hlen:=Sm.dG l;rw[rN]at hr;obtain⟨v',bV,h1,rfl,E3,h2⟩:∃v' bV,(bh S).call 0 0 53 [.ptr ic 0 0 0,aT l] st=some (v',bV)/\v'=.fm []/\∃E3,bV[ic]?=some (uO E3 (lA f (gX su l).2))/\lD ic bV E3 (gX su l).1/\Fr ic st SV bV E3:=by
  refine iT (sf:=s53) rfl rfl rfl ?_;generalize aT l=lv at *;simp[s53];refine bf p8.eq_1 (λx:Nat×List Bool×Option Int×aj×AV×List AV=>⟨[(0,.val (.ptr ic 0 0 0)),(1,.val lv),(4,.val (.int .i64 x.1))],[x.2.2.2.2.2],x.2.2.2.1⟩)
   (λx=>x.1<=l.length/\x.2.1.length=su.length/\lA x.2.2.1 (gX x.2.1 (l.drop x.1)).2=lA f (gX su l).2/\(gX x.2.1 (l.drop x.1)).1=(gX su l).1/\x.2.2.2.1[ic]?=some (uO x.2.2.2.2.1 x.2.2.1)/\lD ic x.2.2.2.1 x.2.2.2.2.1 x.2.1/\Fr ic st SV x.2.2.2.1 x.2.2.2.2.1)
   (λx=>l.length-x.1) (0,su,f,st,SV,[]) (by simp) ⟨by simp,rfl,by simp,by simp,hc,hj,Fr.refl⟩ ?_
  rintro⟨k,sk,g,fP,SVk,b⟩ ⟨hk,Tf,hp,hq,TS,tX,UW⟩ ih;simp only at hk Tf hp hq TS tX UW ih;by_cases aX:k<l.length;have hw:=wk k (by omega);have hm:=List.getElem_mem aX;have wh:=fun {rs:List iE} {Q:Ex->St->Prop} {kk:List qy}=>hs _ hm sk g fP ic SVk TS tX (by rw[Tf];exact hr _ hm) (by have:=Sm.iA hm;omega) (by omega) (rs:=rs) (Q:=Q) (kk:=kk) lv k;rw[List.drop_eq_getElem_cons aX,Gu]at hp hq;simp only at hp hq;rw[<-iH]at hp;have gE:=wN aX;have gy:k<(Sm.rows l).length:=by simpa using aX
  have m9:=qJ aX gy;obtain⟨e1,b1,l1⟩:=eG (s:=l[k]);have e2:(aI l[k].es).view=aI l[k].es:=aN;have b2:(aT l[k].bd).view=aT l[k].bd:=aO;have l2:(aT l[k].el).view=aT l[k].el:=aO;show W S 0 0 _ _ (.code (.seq (.seq _ _) (.seq (.block 1 (.seq _ ou)) _))::_) .normal _;have dy:=λ(bV:aj) (E3:AV) (h1:bV[ic]?=some (uO E3 (lA g (n8 sk l[k]).2))) (h2:lD ic bV E3 (n8 sk l[k]).1) (h3:Fr ic fP SVk bV E3)=>ih (k+1,(n8 sk l[k]).1,lA g (n8 sk l[k]).2,bV,E3,l[k].row) ⟨by simp only;omega,by simp only[El];exact Tf,hp,hq,h1,h2,UW.trans h3⟩ (by simp only;omega);simp only at dy;simp only[Sm.az l[k]]at gE m9 dy wh;generalize ou=BD at *;generalize aI l[k].es=xe at *;generalize aT l[k].bd=xb at *;generalize aT l[k].el=xl at *;simp[aX,hz,cC,dW,cP,m9,e1,b1,l1,e2,b2,l2,ag];refine wh λbV E3 h1 h2 h3=>?_;simp[hw];exact dy bV E3 h1 h2 h3;have eL:k=l.length:=by omega
  rw[eL,List.drop_length,JO]at hp hq;simp only[kU]at hp hq;subst hp hq;simp[aX,cC,dW,cP,Te];exact⟨SVk,TS,tX,UW⟩
 exact⟨bV,E3,h1,h2⟩
end S9
namespace S9
open Ax Go bu V7 jG ke K9
theorem o6{ic:Nat}{st:aj}{SV:AV}{su:List Bool}(h:lD ic st SV su):SV.view=SV/\SV.cy=true/\SV.cells=[SV]:=by
 rcases h with⟨j,v,rfl,_⟩|⟨rfl,_⟩<;>exact⟨rfl,rfl,rfl⟩
theorem TH{ic:Nat}{st:aj}{SV:AV}{su:List Bool}(hi:ic<st.length)(h:lD ic st SV su)(hn:su.length<1000000000):∃W ext,(∀af bx,aW 0 af (.jx 1 1) [.val .U,.val SV] st bx=some (.val W,st++ext,bx))/\lD ic (st++ext) W su/\(∀i v,W=.mu i v->i=st.length/\st.length<(st++ext).length):=by
 by_cases hs:su=[];subst hs;refine⟨.U,[],λaf bx=>?_,.inr ⟨rfl,rfl⟩,λi v h=>by cases h⟩;rcases h with⟨j,v,rfl,h1,h2⟩|⟨rfl,_⟩;have h1:st[j]?=some (.rows v 1 []):=h1;simp[aW,vD,dZ,fJ,h1,bL];simp[aW,vD,dZ,fJ,bL];rcases h with⟨j,v,rfl,h1,h2⟩|⟨_,h⟩;refine⟨.mu st.length 0,[sO 0 su],λaf bx=>?_,.inl ⟨st.length,0,rfl,by simp,by omega⟩,λi v h=>by cases h;simp⟩;have hf:bL 1 (fT su)=true:=by simp[bL,fT]
 have hr:su.length<=cT:=by unfold cT;omega
 have jn:(fT su).isEmpty=false:=by cases su with
  |nil=>exact absurd rfl hs|cons a l=>rfl
 have h1:st[j]?=some (.rows v 1 (fT su)):=h1;simp[aW,vD,dZ,fJ,h1,B4,hf,hr];cases su with
 |nil=>exact absurd rfl hs|cons a l=>simp[fT]
 exact absurd h hs
theorem Pq{A B:List Bool}{k:Nat}(h1:k<A.length)(h2:k<B.length):((List.zipWith (λa b=>a&&b) A B).take k++B.drop k).set k (A[k]&&B[k])=(List.zipWith (λa b=>a&&b) A B).take (k+1)++B.drop (k+1):=by
 rw[List.drop_eq_getElem_cons h2,List.set_append_right _ _ (by simp;omega),List.take_succ_eq_append_getElem (by simp;omega)];have:k-((List.zipWith (λa b=>a&&b) A B).take k).length=0:=by simp;omega
 rw[this];simp only[List.set_cons_zero,List.getElem_zipWith,List.append_assoc,List.singleton_append]
theorem WL{A B:List Bool}{k:Nat}(h1:k<A.length)(h2:k<B.length)(h3:k<((List.zipWith (λa b=>a&&b) A B).take k++B.drop k).length):((List.zipWith (λa b=>a&&b) A B).take k++B.drop k)[k]=B[k]:=by
 rw[List.getElem_append_right (by simp;omega),List.getElem_drop];congr 1;simp;omega
theorem zH(s:Sm)(hB:Kx s.bd)(hL:Kx s.el):X9 s:=by
 intro su f st ic SV hc hj hr dH hn rs Q kk lv k0 go;have hz:=Sm.jM s;obtain⟨r1,r2,r3,r4,r5⟩:=(uL _ _).1 hr;have E9:ic<st.length:=(List.getElem?_eq_some_iff.1 hc).1;obtain⟨e1,b1,l1⟩:=eG (s:=s);have b2:(aT s.bd).view=aT s.bd:=aO;have l2:(aT s.el).view=aT s.el:=aO;refine aj0 s su f st ic SV hc hj r1 (by omega) lv k0 ?_;rw[No]at go;generalize hg:lA f (lI su s.es)=g at *;have xM:(st.set ic (uO SV g))[ic]?=some (uO SV g):=eY hc;have vo:lD ic (st.set ic (uO SV g)) SV su:=tT hj;have Kk:Fr ic st SV (st.set ic (uO SV g)) SV:=Fr.cell;have WM:ic<(st.set ic (uO SV g)).length:=by simpa using E9
 generalize st.set ic (uO SV g)=s1 at *;clear hc hj;rw[Sm.az]at *;generalize aI s.es=ev at *;generalize hbv:aT s.bd=bv at *;generalize Ce:aT s.el=lw at *;by_cases h1:s.k=1;obtain⟨h0,aX⟩:=r2 (.inl h1);obtain⟨r,vu⟩:∃r:Nat,s.cH=r:=⟨s.cH.toNat,by omega⟩;have nj:r<su.length:=by omega
 have h1':(s.k=1)=True:=eq_true h1;obtain⟨j,v,rfl,DH,jn⟩:∃j v,SV=.mu j v/\s1[j]?=some (.rows v 1 (fT su))/\ic≠j:=by
  rcases vo with h|⟨_,h⟩;exact h;rw[h]at nj;simp at nj
 rw[if_pos h1,vu,Int.toNat_natCast,hg]at go;have go:=go (s1.set j (sO v (su.set r false))) (.mu j v) (by rw[fN (Ne.symm jn)];exact xM) (AH DH jn) (Kk.trans Fr.mu);have Bi:s1[ic]?=some (.rows 0 3 [[.mu j v,.int .i64 (cE g),.int .i64 (cX g)]]):=xM;have hb:=jj nj;simp[qf,ou,yB,p8,gi,h1',vu,Bi,DH,nj,aQ,AV.ai,AV.ax,ag,au,an];exact go;rw[if_neg h1]at go;by_cases Ix:s.k=2\/s.k=3;rw[if_pos Ix]at go;by_cases h0:0<=s.cH;have aX:s.cH<su.length:=by
  rcases Ix with h|h;exact(r2 (.inr h)).2;exact r3 h
 obtain⟨r,vu⟩:∃r:Nat,s.cH=r:=⟨s.cH.toNat,by omega⟩;have nj:r<su.length:=by omega
 obtain⟨j,v,rfl,DH,jn⟩:∃j v,SV=.mu j v/\s1[j]?=some (.rows v 1 (fT su))/\ic≠j:=by
  rcases vo with h|⟨_,h⟩;exact h;rw[h]at nj;simp at nj
 rw[if_pos h0,vu,Int.toNat_natCast,hg]at go;have go:=go (s1.set j (sO v (su.set r true))) (.mu j v) (by rw[fN (Ne.symm jn)];exact xM) (AH DH jn) (Kk.trans Fr.mu);have Bi:s1[ic]?=some (.rows 0 3 [[.mu j v,.int .i64 (cE g),.int .i64 (cX g)]]):=xM;have hb:=jj nj;rcases Ix with h|h;have Nc:(s.k=2)=True:=eq_true h;simp[qf,ou,yB,p8,gi,h1,Nc,vu,Bi,DH,nj,aQ,AV.ai,AV.ax,ag,au,an];exact go;have h2:¬s.k=2:=by omega
 have Ku:(s.k=3)=True:=eq_true h;simp[qf,ou,yB,p8,gi,h1,h2,Ku,vu,Bi,DH,nj,aQ,AV.ai,AV.ax,ag,au,an];exact go;have h3:s.k=3:=by
  rcases Ix with h|h;exact absurd (r2 (.inr h)).1 h0;exact h
 have h2:¬s.k=2:=by omega
 have Ku:(s.k=3)=True:=eq_true h3;rw[if_neg h0,hg]at go;have go:=go s1 SV xM vo Kk;simp[qf,ou,yB,p8,gi,h1,h2,Ku,h0];exact go;rw[if_neg Ix]at go;have h2:¬s.k=2:=λh=>Ix (.inl h);have h3:¬s.k=3:=λh=>Ix (.inr h);by_cases h7:s.k=7;have h7':(s.k=7)=True:=eq_true h7;rw[if_pos h7,hg]at go;obtain⟨s2,ct,Uz⟩:=aaZ su g 0 s1 ic SV xM vo hn;have go:W S 0 0 rs Q kk .normal ⟨[(0,.val (.ptr ic 0 0 0)),(1,.val lv),(4,.val (.int .i64 k0))],[[.int .i64 s.k,.str s.nm,.str s.on,.int .i64 s.od,ev,bv,lw,.int .i64 s.a,.int .i64 s.cH]],s2⟩:=by
  rcases Uz with⟨j,v,rfl,rfl⟩|⟨rfl,rfl⟩;obtain⟨DH,jn⟩:s1[j]?=some (sO v su)/\ic≠j:=by
   rcases vo with⟨j',v',e,h,h'⟩|⟨e,_⟩;cases e;exact⟨h,h'⟩;cases e
  exact go _ (.mu j v) (by rw[fN (Ne.symm jn)];exact xM) (AH DH jn) (Kk.trans Fr.mu);refine go s2 .U xM ?_ Kk;rcases vo with⟨_,_,e,_⟩|⟨_,rfl⟩;cases e;exact .inr ⟨rfl,rfl⟩
 simp[qf,ou,yB,p8,gi,h1,h2,h3,h7',ct];exact go;rw[if_neg h7]at go;by_cases h6:s.k=6;have h6':(s.k=6)=True:=eq_true h6;rw[if_pos h6]at go;simp only at go;rw[<-iH,hg]at go;obtain⟨WS,ext,hw1,BO,hw3⟩:=TH WM vo hn;have Bi:(s1++ext)[ic]?=some (uO SV g):=by rw[List.getElem?_append_left WM];exact xM
 have DH:lD ic (s1++ext) SV su:=by
  rcases vo with⟨j,v,rfl,h,h'⟩|h;exact .inl ⟨j,v,rfl,by rw[List.getElem?_append_left (List.getElem?_eq_some_iff.1 h).1];exact h,h'⟩;exact .inr h
 have hSW:∀i v v',WS=.mu i v->SV≠.mu i v':=λi v v' h e=>by
  obtain⟨hi,_⟩:=hw3 i v h;rcases vo with⟨j,w,e2,h,_⟩|⟨e2,_⟩;rw[e2]at e;cases e;have:=(List.getElem?_eq_some_iff.1 h).1;omega;rw[e2]at e;cases e
 obtain⟨s3,SV3,ct,hc3,hj3,Kl⟩:=hB su g (s1++ext) ic SV Bi DH r4 (by omega) hn;rw[hbv]at ct;generalize V2:lA g (gX su s.bd).2=g2 at *;have hws:lD ic s3 WS su:=by
  rcases BO with⟨j,v,rfl,h,h'⟩|h;refine .inl ⟨j,v,rfl,?_,h'⟩;rw[Kl.kL j (List.getElem?_eq_some_iff.1 h).1 (Ne.symm h') λv'=>hSW j v v' rfl];exact h;exact .inr h
 have O2:s1.length<=s3.length:=by have:=Kl.len;simp at this;omega
 have go:=go (s3.set ic (uO WS g2)) WS (eY hc3) (tT hws) (by
  refine Kk.trans ⟨by simpa using O2,λi hi jn hv=>?_,λi v h=>.inr (by obtain⟨h1,_⟩:=hw3 i v h;omega)⟩;rw[fN (Ne.symm jn),Kl.kL i (by simp;omega) jn hv,List.getElem?_append_left hi])
 obtain⟨wv,wc,wl⟩:=o6 hws;obtain⟨vv,vc,_⟩:=o6 vo;have WN:s1[ic]?=some (.rows 0 3 [[SV,.int .i64 (cE g),.int .i64 (cX g)]]):=xM;have WQ:s3[ic]?=some (.rows 0 3 [[SV3,.int .i64 (cE g2),.int .i64 (cX g2)]]):=hc3;have vV:∀x,s3.set ic (.rows 0 3 [[x,.int .i64 (cE g2),.int .i64 (cX g2)]])=s3.set ic (uO x g2):=λx=>rfl;generalize s1++ext=s2 at *;simp[qf,ou,yB,p8,gi,h1,h2,h3,h7,h6',WN,vv,wc,wl,hw1,ct,b2,WQ,aQ,ag];exact go;rw[if_neg h6]at go;by_cases h5:s.k=5;have h5':(s.k=5)=True:=eq_true h5;rw[if_pos h5]at go;simp only at go;rw[<-iH,<-iH,hg]at go;obtain⟨WS,ext,hw1,BO,hw3⟩:=TH WM vo hn;have Bi:(s1++ext)[ic]?=some (uO SV g):=by rw[List.getElem?_append_left WM];exact xM
 have DH:lD ic (s1++ext) SV su:=by
  rcases vo with⟨j,v,rfl,h,h'⟩|h;exact .inl ⟨j,v,rfl,by rw[List.getElem?_append_left (List.getElem?_eq_some_iff.1 h).1];exact h,h'⟩;exact .inr h
 have hSW:∀i v v',WS=.mu i v->SV≠.mu i v':=λi v v' h e=>by
  obtain⟨hi,_⟩:=hw3 i v h;rcases vo with⟨j,w,e2,h,_⟩|⟨e2,_⟩;rw[e2]at e;cases e;have:=(List.getElem?_eq_some_iff.1 h).1;omega;rw[e2]at e;cases e
 obtain⟨s3,SV3,ct,hc3,hj3,Kl⟩:=hB su g (s1++ext) ic SV Bi DH r4 (by omega) hn;rw[hbv]at ct;generalize V2:lA g (gX su s.bd).2=g2 at *;have hws:lD ic s3 WS su:=by
  rcases BO with⟨j,v,rfl,h,h'⟩|h;refine .inl ⟨j,v,rfl,?_,h'⟩;rw[Kl.kL j (List.getElem?_eq_some_iff.1 h).1 (Ne.symm h') λv'=>hSW j v v' rfl];exact h;exact .inr h
 have O2:s1.length<=s3.length:=by have:=Kl.len;simp at this;omega
 have aj2:Fr ic st SV (s3.set ic (uO WS g2)) WS:=by
  refine Kk.trans ⟨by simpa using O2,λi hi jn hv=>?_,λi v h=>.inr (by obtain⟨h1,_⟩:=hw3 i v h;omega)⟩;rw[fN (Ne.symm jn),Kl.kL i (by simp;omega) jn hv,List.getElem?_append_left hi]
 obtain⟨s5,SV5,Mj,hc5,hj5,aa2⟩:=hL su g2 (s3.set ic (uO WS g2)) ic WS (eY hc3) (tT hws) r5 (by omega) hn;rw[Ce]at Mj;generalize hg3:lA g2 (gX su s.el).2=g3 at *;have mh:∀i v v',SV3=.mu i v->WS≠.mu i v':=λi v v' h e=>by
  obtain⟨hi,Ko⟩:=hw3 i v' e;rcases Kl.iO i v h with⟨w,e2⟩|hl;exact hSW i v' w e e2;omega
 have aj4:lD ic s5 SV3 (gX su s.bd).1:=by
  rcases hj3 with⟨j,v,rfl,h,h'⟩|h;refine .inl ⟨j,v,rfl,?_,h'⟩;rw[aa2.kL j (by simpa using (List.getElem?_eq_some_iff.1 h).1) (Ne.symm h') λv'=>mh j v v' rfl,fN h'];exact h;exact .inr h
 have lJ:∀i v v',SV5=.mu i v->SV3≠.mu i v':=λi v v' h e=>by
  rcases aa2.iO i v h with⟨w,e2⟩|hl;exact mh i v' w e e2;rcases hj3 with⟨j,w,e2,h2,_⟩|⟨e2,_⟩;rw[e2]at e;cases e;have:=(List.getElem?_eq_some_iff.1 h2).1;simp at hl;omega;rw[e2]at e;cases e
 have hAl:(gX su s.bd).1.length=su.length:=rM _ _;have hBl:(gX su s.el).1.length=su.length:=rM _ _;generalize (gX su s.bd).1=A at *;generalize (gX su s.el).1=B at *;obtain⟨wv,wc,wl⟩:=o6 hws;obtain⟨vv,vc,_⟩:=o6 vo;obtain⟨v3,c3,_⟩:=o6 hj3;have WN:s1[ic]?=some (.rows 0 3 [[SV,.int .i64 (cE g),.int .i64 (cX g)]]):=xM;have WQ:s3[ic]?=some (.rows 0 3 [[SV3,.int .i64 (cE g2),.int .i64 (cX g2)]]):=hc3;have vV:s3.set ic (.rows 0 3 [[WS,.int .i64 (cE g2),.int .i64 (cX g2)]])=s3.set ic (uO WS g2):=rfl;generalize s1++ext=s2 at *;generalize s3.set ic (uO WS g2)=s4 at *;have UW:Fr ic st SV s5 SV5:=aj2.trans aa2;by_cases hs0:su.length=0;have hA:A=[]:=List.eq_nil_of_length_eq_zero (by omega);have hBn:B=[]:=List.eq_nil_of_length_eq_zero (by omega);subst hA hBn;have go:=go s5 SV5 hc5 (by simpa using hj5) UW;have hlen:ov s5 .sl SV5=some 0:=by
  rcases hj5 with⟨j,v,rfl,h,_⟩|⟨rfl,_⟩;have h:s5[j]?=some (.rows v 1 []):=h;simp[h];simp
 obtain⟨v5,c5,_⟩:=o6 hj5;have aj5:s5[ic]?=some (.rows 0 3 [[SV5,.int .i64 (cE g3),.int .i64 (cX g3)]]):=hc5;have B1:∀wl af bx,aW wl af (.len .sl) [.val SV5] s5 bx=some (.val (.int .i64 0),s5,bx):=λwl af bx=>by rw[Xo,hlen];rfl
 simp[qf,ou,yB,p8,gi,h1,h2,h3,h7,h6,h5',WN,vv,v3,wc,wl,hw1,ct,Mj,b2,l2,WQ,vV,aQ,ag];rw[qA Lh.eq_1];simp[-Xo,-Ve,aj5,v5,B1];exact go;obtain⟨j5,w5,rfl,aa3,aft⟩:∃j v,SV5=.mu j v/\s5[j]?=some (.rows v 1 (fT B))/\ic≠j:=by
  rcases hj5 with h|⟨_,h⟩;exact h;rw[h]at hBl;simp at hBl;omega
 obtain⟨j3,w3,rfl,aj6,anw⟩:∃j v,SV3=.mu j v/\s5[j]?=some (.rows v 1 (fT A))/\ic≠j:=by
  rcases aj4 with h|⟨_,h⟩;exact h;rw[h]at hAl;simp at hAl;omega
 have aj7:j5≠j3:=λe=>lJ j5 w5 w3 rfl (by rw[e]);have hcS:∀o,(s5.set j5 o)[ic]?=some (.rows 0 3 [[.mu j5 w5,.int .i64 (cE g3),.int .i64 (cX g3)]]):=λo=>by rw[fN (Ne.symm aft)];exact hc5
 have hAS:∀o,(s5.set j5 o)[j3]?=some (.rows w3 1 (fT A)):=λo=>by rw[fN aj7];exact aj6
 have hBS:∀sk:List Bool,(s5.set j5 (sO w5 sk))[j5]?=some (.rows w5 1 (fT sk)):=λsk=>eY aa3;have oz:∀(a b:dz),(s5.set j5 a).set j5 b=s5.set j5 b:=λa b=>by rw[List.set_set]
 have aaE:(List.zipWith (λa b=>a&&b) A B).length=su.length:=by simp[hAl,hBl]
 have go:=go (s5.set j5 (sO w5 (List.zipWith (λa b=>a&&b) A B))) (.mu j5 w5) (hcS _) (AH aa3 aft) (UW.trans Fr.mu);simp[qf,ou,yB,p8,gi,h1,h2,h3,h7,h6,h5',WN,vv,wc,wl,hw1,ct,Mj,b2,l2,WQ,vV,aQ,ag];refine bf Lh.eq_1 (λk:Nat=>⟨[(0,.val (.ptr ic 0 0 0)),(1,.val lv),(4,.val (.int .i64 k0)),(9,.val (.mu j3 w3)),(10,.val (.int .i64 k))],[[.int .i64 s.k,.str s.nm,.str s.on,.int .i64 s.od,ev,bv,lw,.int .i64 s.a,.int .i64 s.cH]],s5.set j5 (sO w5 ((List.zipWith (λa b=>a&&b) A B).take k++B.drop k))⟩)
  (λk=>k<=su.length) (λk=>su.length-k) 0 (by simp[gb aa3]) (by simp) ?_
 intro k hk ih;have hl:((List.zipWith (λa b=>a&&b) A B).take k++B.drop k).length=su.length:=by simp;omega
 have a1:=hcS (sO w5 ((List.zipWith (λa b=>a&&b) A B).take k++B.drop k));have a2:=hAS (sO w5 ((List.zipWith (λa b=>a&&b) A B).take k++B.drop k));have a3:=hBS ((List.zipWith (λa b=>a&&b) A B).take k++B.drop k);by_cases aX:k<su.length;have hw:=wk k (by omega);have eL:k<((List.zipWith (λa b=>a&&b) A B).take k++B.drop k).length:=by omega
 have Wj:k<A.length:=by omega
 have hlB:k<B.length:=by omega
 have TI:=WL Wj hlB eL;have hn:=Pq Wj hlB;have bA:=jj Wj;have bS:=jj eL;rw[TI]at bS;have dy:=ih (k+1) (by omega) (by omega);have a4:(s5.set j5 (sO w5 ((List.zipWith (λa b=>a&&b) A B).take k++B.drop k))).set j5 (.rows w5 1 (fT ((List.zipWith (λa b=>a&&b) A B).take (k+1)++B.drop (k+1))))=s5.set j5 (sO w5 ((List.zipWith (λa b=>a&&b) A B).take (k+1)++B.drop (k+1))):=oz _ _;generalize (List.zipWith (λa b=>a&&b) A B).take (k+1)++B.drop (k+1)=sk' at *;generalize (List.zipWith (λa b=>a&&b) A B).take k++B.drop k=sk at *;generalize s5.set j5 (sO w5 sk)=s5 at *;cases hBk:B[k] with
 |true=>
  rw[hBk]at hn bS TI;rw[Bool.and_true]at hn;simp[aX,hw,a1,a2,a3,hl,Wj,TI,hn,a4,aQ,AV.ai,AV.ax,ag,au,an];exact dy
 |false=>
  rw[hBk]at hn bS TI;rw[Bool.and_false]at hn;simp[aX,hw,a1,a3,hl,TI,hn,a4,aQ,AV.ai,AV.ax,ag,au,an];exact dy
 have eL:k=su.length:=by omega
 have tR:(List.zipWith (λa b=>a&&b) A B).take k++B.drop k=List.zipWith (λa b=>a&&b) A B:=by
  rw[eL,<-hBl,List.drop_length,List.append_nil,hBl,<-aaE,List.take_length]
 rw[tR]at a1 a2 a3 hl ⊢;generalize s5.set j5 (sO w5 (List.zipWith (λa b=>a&&b) A B))=s5 at *;simp[aX,a1,a3,hl];exact go;rw[if_neg h5,hg]at go;have go:=go s1 SV xM vo Kk;simp[qf,ou,yB,p8,gi,h1,h2,h3,h5,h6,h7];exact go
theorem Ya(s:Sm):Kx s.bd/\Kx s.el:=by
 induction s using Sm.yx with
 |_ s sY k8=>exact⟨Im s.bd λx hx=>zH x (sY x hx).1 (sY x hx).2,Im s.el λx hx=>zH x (k8 x hx).1 (k8 x hx).2⟩
theorem WR(l:List Sm):Kx l:=Im l λs _=>zH s (Ya s).1 (Ya s).2
end S9
namespace S9
open Ax Go bu V7 jG ke K9
open N7 U7 in
theorem TJ(wl af:Nat)(p:Pg)(st:aj)(hg:(iY p).ok)(pg:GD.sm (iY p))(dH:∀f∈p.funcs,f.params.length+Sm.cR f.body<1000000000)
  (pP:∀bs,qk (aG p) (aG p).sigs p.funcs=.ok bs->∀b∈bs,Sm.cR b.code<1000000000/\b.vars.length<1000000000) :
  (bh S).call wl af 25 [.agg p.row] st=some (tS (u6 p),st):=by
 have ec:=λwl af st=>R9.wP wl af p st hg pg dH;have Gf:p.funcs.length<1000000000:=by have:=pg.funcs;rw[mZ,List.length_map]at this;exact this
 refine bN (sf:=s25) rfl rfl (by simp[Pg.row,AV.ai,AV.ax]) rfl (by simp[tS,AV.ax,AV.ai]) ?_;unfold mJ at ec;unfold u6;have r1:aD (aA 3 (p.aS.map Rc.row))=true:=aL;have r2:(aA 3 (p.aS.map Rc.row)).view=aA 3 (p.aS.map Rc.row):=aJ;have f1:aD (aA 7 (p.funcs.map Fc.row))=true:=aL;have f2:(aA 7 (p.funcs.map Fc.row)).view=aA 7 (p.funcs.map Fc.row):=aJ;have g1:aD (aA 4 (p.globals.map PD.cells))=true:=aL;have g2:(aA 4 (p.globals.map PD.cells)).view=aA 4 (p.globals.map PD.cells):=aJ;simp only[Pg.row]at ec ⊢;generalize aA 3 (p.aS.map Rc.row)=PR at *;generalize aA 7 (p.funcs.map Fc.row)=PF at *;generalize aA 4 (p.globals.map PD.cells)=PG at *;cases hF:iS (iY p) with
 |some a=>
  rw[hF]at ec;simp only[tS,cE,cX]at ec ⊢;simp[s25,ec,r1,r2,f1,f2,g1,g2,ag,AV.view]
 |none=>
  rw[hF]at ec;simp only at ec ⊢;cases hR:qk (aG p) (aG p).sigs p.funcs with
  |error a=>
   rw[hR]at ec;simp only[uQ,tS,cE,cX]at ec ⊢;simp[s25,ec,r1,r2,f1,f2,g1,g2,ag,AV.view]
  |ok bs=>
   rw[hR]at ec;simp only[uQ,jS,List.cons_append,List.nil_append]at ec ⊢;have aaF:=pP bs hR;clear pP;have cC:(aG p).sigs.length=p.funcs.length:=(by simp[aG]);have NQ:=sE cC hR;have hrefs:=En hR;have z1:aD (aA 3 (bs.map Bd.row))=true:=aL;have z2:(aA 3 (bs.map Bd.row)).view=aA 3 (bs.map Bd.row):=aJ;have z3:aM (aA 3 (bs.map Bd.row))=bs.map Bd.row:=aE;have z4:bX 3 (aA 3 (bs.map Bd.row))=true:=gf (by simp[bL,Bd.row]);have a1:aD (aA 2 ((aG p).bK.map dx))=true:=aL;have a2:(aA 2 ((aG p).bK.map dx)).view=aA 2 ((aG p).bK.map dx):=aJ;have b1:aD (aA 6 ((aG p).sigs.map Sg.row))=true:=aL;have b2:(aA 6 ((aG p).sigs.map Sg.row)).view=aA 6 ((aG p).sigs.map Sg.row):=aJ;have b3:aM (aA 6 ((aG p).sigs.map Sg.row))=(aG p).sigs.map Sg.row:=aE;have b4:bX 6 (aA 6 ((aG p).sigs.map Sg.row))=true:=gf (by simp[bL,Sg.row]);have c1:aD (br (aG p).globals)=true:=dL;have c2:(br (aG p).globals).view=br (aG p).globals:=fC;generalize aA 2 ((aG p).bK.map dx)=HS at *;generalize aA 6 ((aG p).sigs.map Sg.row)=HG at *;generalize br (aG p).globals=GL at *;generalize aA 3 (bs.map Bd.row)=BV at *;have Kw:∀k:Nat,k<bs.length->k<(aG p).sigs.length:=λk h=>by omega
   have Qs:bs.length<1000000000:=(by omega);generalize (aG p).sigs=SS at *;clear hR;simp[s25,ec,r1,r2,f1,f2,g1,g2,z1,z2,a1,a2,b1,b2,c1,c2,ag,AV.view];refine bf Rm.eq_1 (λx:Nat×aj=>⟨[(2,.fp 1 0),(3,.fp 2 0),(5,.val (.int .i64 x.1))],[[PR,PG,PF],[.int .i64 0,.int .i64 0],[HS,GL,HG,.int .i64 (fW p),BV],[.int .i64 0,.int .i64 0]],x.2⟩)
    (λx=>x.1<=bs.length/\yV (SS.drop x.1) (bs.drop x.1)=yV SS bs) (λx=>bs.length-x.1) (0,[]) (by simp) ⟨by simp,by simp⟩ ?_
   rintro⟨k,B5⟩ ⟨hk,hp⟩ ih;simp only at hk hp ih;by_cases aX:k<bs.length;have hw:=wk k (by omega);have nk:=Kw k aX;rw[GF nk aX]at hp;obtain⟨q1,q2⟩:=hrefs k nk aX;obtain⟨q3,q4⟩:=aaF _ (List.getElem_mem aX);have Ny:∀h:k<(bs.map Bd.row).length,(bs.map Bd.row)[k]=[br bs[k].vars,aT bs[k].code,.int .i64 bs[k].a]:=λh=>by simp[Bd.row]
   have yz:∀h:k<(SS.map Sg.row).length,(SS.map Sg.row)[k]=[.str SS[k].nm,br SS[k].ps,.bool SS[k].bP,.int .i64 SS[k].bz.b,.int .i64 SS[k].bz.r,.int .i64 SS[k].bz.d]:=λh=>by simp[Sg.row]
   have aaG:k<(bs.map Bd.row).length:=(by simpa using aX);have EF:k<(SS.map Sg.row).length:=(by simpa using nk);have Th:=Ny aaG;have EG:=yz EF;clear Ny yz;have v1:aD (br bs[k].vars)=true:=dL;have v2:(br bs[k].vars).view=br bs[k].vars:=fC;have v3:(aM (br bs[k].vars)).length=bs[k].vars.length:=(by simp);have w1:aD (aT bs[k].code)=true:=bn;have w2:(aT bs[k].code).view=aT bs[k].code:=aO;have p1:aD (br SS[k].ps)=true:=dL;have p2:(br SS[k].ps).view=br SS[k].ps:=fC;have p3:(aM (br SS[k].ps)).length=SS[k].ps.length:=(by simp);have mE:(bs[k].vars.length:Int)<=cT:=(by unfold cT;omega);have hbc:=WR bs[k].code;unfold su0 at hp;have DA:(List.replicate SS[k].ps.length true++List.replicate (bs[k].vars.length-SS[k].ps.length) false).length=bs[k].vars.length:=(by simp;omega);obtain⟨bV,E3,ct,Iq,_,_⟩:=hbc (List.replicate SS[k].ps.length true++List.replicate (bs[k].vars.length-SS[k].ps.length) false) none (B5++[sO 0 (List.replicate SS[k].ps.length true++List.replicate (bs[k].vars.length-SS[k].ps.length) false),uO (.mu B5.length 0) none]) (B5.length+1) (.mu B5.length 0)
    (by rw[List.getElem?_append_right (by omega)];simp) (.inl ⟨B5.length,0,rfl,by simp,by omega⟩) (by rw[DA];exact q2) q3 (by rw[DA];exact q4)
   have ho:∀g:Option Int,lA none g=g:=λg=>rfl;rw[ho]at Iq;generalize jO:bs[k].code=cs at *;generalize hbv:bs[k].vars.length=n at *;generalize hbp:SS[k].ps.length=np at *;generalize hfb:br bs[k].vars=FV at *;generalize Mu:br SS[k].ps=FP at *;generalize hsc:aT cs=SC at *;generalize bs[k]=bk at *;generalize SS[k]=sk at *;simp[-xx,xx,aX,Th,z1,z2,z3,z4,v1,v2,v3,mE,GC,ag,AV.view];refine bf Rl.eq_1 (λi:Nat=>⟨[(2,.fp 1 0),(3,.fp 2 0),(5,.val (.int .i64 k)),(6,.val (.ptr (B5.length+1) 0 0 0)),(7,.val (.int .i64 i))],[[PR,PG,PF],[.int .i64 0,.int .i64 0],[HS,GL,HG,.int .i64 (fW p),BV],[.int .i64 0,.int .i64 0]],B5++[sO 0 (List.replicate i true++(List.replicate n false).drop i),.rows 0 3 [[.mu B5.length 0,.int .i64 0,.int .i64 0]]]⟩)
    (λi=>i<=np) (λi=>np-i) 0 (by simp) (by simp) ?_
   intro i hi k8;by_cases E9:i<np;have hwi:=wk i (by omega);have IS:i<(List.replicate n false).length:=(by simp;omega);have hn:=As IS;have hll:(List.replicate i true++(List.replicate n false).drop i).length=n:=(by simp;omega);have hib:i<(List.replicate i true++(List.replicate n false).drop i).length:=(by omega);have hb:=jj hib;have aaH:=k8 (i+1) (by omega) (by omega);generalize List.replicate (i+1) true++(List.replicate n false).drop (i+1)=s2 at *;generalize List.replicate i true++(List.replicate n false).drop i=s1 at *;have aaI:i<n:=(by omega);simp[E9,nk,hwi,hll,aaI,hn,EG,b2,b3,b4,p1,p2,p3,aQ,AV.ai,AV.ax,ag];exact aaH;have QF:i=np:=(by omega);rw[QF,Nx];generalize List.replicate np true++List.replicate (n-np) false=s0 at *;cases hgv:(gX s0 cs).2 with
   |none=>
    rw[hgv]at Iq hp;have hp:yV (SS.drop (k+1)) (bs.drop (k+1))=yV SS bs:=hp;have dy:=λo=>ih (k+1,o) ⟨by simp only;omega,hp⟩ (by simp only;omega);simp only at dy;simp only[uO,cE,cX]at ct Iq;simp[ct,Iq,hw,nk,EG,Th,aX,b2,b3,b4,p1,p2,p3,z2,z3,z4,w2];exact dy _
   |some a=>
    rw[hgv]at Iq hp;have hp:some a=yV SS bs:=hp;rw[<-hp];simp only[uO,cE,cX,tS]at ct Iq ⊢;simp[ct,Iq,nk,EG,Th,aX,b2,b3,b4,p1,p2,p3,z2,z3,z4,w2,ag]
   have eL:k=bs.length:=(by omega);rw[eL,List.drop_length,J7]at hp;rw[<-hp];simp[aX,z1,z2,z3,tS,cE,cX,ag]
end S9
