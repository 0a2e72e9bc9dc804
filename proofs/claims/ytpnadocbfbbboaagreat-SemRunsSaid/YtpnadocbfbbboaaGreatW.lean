/- Part of a proof. -/
import Derived.Test.YtpnadocbfbbboaaGreatS
import Derived.Test.YtpnadocbfbbboaaGreatV

open List renaming getElem?_eq_some_iff->aad,set_set->ady,getElem_mem->aaq,drop_eq_getElem_cons->aaz,drop_length->aaC,take_of_length_le->ab7,replicate->aak,append_nil->ac5,getElem?_set_ne->aap,zipWith->acy,getElem?_append_left->aal,eq_nil_of_length_eq_zero->aaK
open Int renaming toNat_natCast->acL
set_option maxRecDepth 100000
set_option maxHeartbeats 8000000
namespace S9
open Ax Go bY V7 kN lZ K9
def uO(SV:AV)(f:Option Int):dA:=.rows 0 3 [[SV,.int .i64 (cE f),.int .i64 (cX f)]]
def lT(ic:Nat)(st:ay)(SV:AV)(su:List Bool):Prop:=(∃j v,SV=.mu j v/\st[j]?=some (sO v su)/\ic≠j)\/(SV=.af/\su=[])
theorem vl{ic:Nat}{st:ay}{SV:AV}{su:List Bool}{o:dA}(h:lT ic st SV su):lT ic (st.set ic o) SV su:=by
 rcases h with⟨j,v,rfl,h1,h2⟩|h;exact .inl ⟨j,v,rfl,by rw[gp h2];exact h1,h2⟩;exact .inr h
theorem Vq(e:E):∀(su:List Bool)(f:Option Int)(aa:Nat)(st:ay)(ic:Nat)(SV:AV),st[ic]?=some (uO SV f)->lT ic st SV su->AN su.length e->E.sz e<1000000000->
  (aZ S).call 0 aa 83 [.ptr ic 0 0 0,.agg e.aF] st=some (.fK [],st.set ic (uO SV (lR f (AM su e)))):=by
 induction e using E.Ga with
 |_ e ih=>
  intro su f aa st ic SV hc hj hr dM;have vJ:=E.ry e;have fR:=E.eH e.aG;have hz:cJ 11 (aT e.aG)=true:=gn;have cT:aN (aT e.aG)=true:=bz;have eC:(aT e.aG).ai=aT e.aG:=bu;have dh:bt (aT e.aG)=E.rows e.aG:=aW;have qi:(E.rows e.aG).length=e.aG.length:=by simp
  have ewr:=λwl aa a st=>U7.Bi wl aa a st;rw[rB]at hr;obtain⟨zY,hr2⟩:=hr;rw[jG]at hr2;rw[OV,E.aE];have F9:ic<st.length:=(aad.1 hc).1;generalize oN:aT e.aG=kv at *;refine aA (sf:=s83) rfl rfl rfl ?_;simp[s83,cT];refine bH TW.eq_1 (λx:Nat×Option Int=>⟨[(0,.val (.ptr ic 0 0 0)),(3,.fp 0 0),(4,.val (.int .i64 x.1))],[[.int .i64 e.k,.int .i64 e.n,.str e.nm,.str e.on,.int .i64 e.od,kv,.int .i64 e.a,.int .i64 e.ty.b,.int .i64 e.ty.r,.int .i64 e.ty.d,.int .i64 e.ref]],st.set ic (uO SV x.2)⟩)
   (λx=>x.1<=e.aG.length/\lR x.2 (lX su (e.aG.drop x.1))=lR f (lX su e.aG)) (λx=>e.aG.length-x.1) (0,f) (by simp[gd hc]) ⟨by simp,by simp⟩ ?_
  rintro⟨k,g⟩ ⟨hk,hp⟩ LP;simp only at hk hp LP;have z8:(st.set ic (uO SV g))[ic]?=some (uO SV g):=fQ hc;have wN:lT ic (st.set ic (uO SV g)) SV su:=vl hj;have oF:∀o,(st.set ic (uO SV g)).set ic o=st.set ic o:=λo=>by rw[ady]
  by_cases bC:k<e.aG.length;have hw:=wk k (by omega);have hm:=aaq bC;have cK:=λaa=>ih _ hm su g aa (st.set ic (uO SV g)) ic SV z8 wN (hr2 _ hm) (by have:=E.fZ hm;omega);rw[aaz bC,yB,<-jd]at hp;have FC:=LP (k+1,lR g (AM su e.aG[k])) ⟨by simp only;omega,hp⟩ (by simp only;omega);simp only at FC;simp only[oF]at cK;have gE:=xT bC;have kG:k<(E.rows e.aG).length:=by simpa using bC
  have u7:=qM bC kG;rw[E.aE e.aG[k]]at cK gE u7;have xv:aN (aT e.aG[k].aG)=true:=bz;have xw:(aT e.aG[k].aG).ai=aT e.aG[k].aG:=bu;generalize e.aG[k]=x,st.set ic (uO SV g)=s1 at *;generalize st.set ic (uO SV (lR g (AM su x)))=s2 at *;simp[bC,hw,hz,cT,eC,dh,u7,cK,xw,AV.ai];exact FC;have fR:k=e.aG.length:=by omega
  rw[fR,aaC]at hp;simp only[lX,lC]at hp;subst hp;rw[<-jd];clear LP hc;generalize lR f (lX su e.aG)=g at *;have Gm:(st.set ic (uO SV g)).length=st.length:=by simp
  have Gn:(st.set ic (uO SV g)).take st.length=st.set ic (uO SV g):=ab7 (by simp);have FD:(st.set ic (uO SV g))[ic]?=some (.rows 0 3 [[SV,.int .i64 (cE g),.int .i64 (cX g)]]):=z8;have ht2:∀o,(st.set ic o).take st.length=st.set ic o:=λo=>ab7 (by simp);by_cases h4:e.k=4;by_cases h0:0<=e.ref;have hlr:=zY h4;obtain⟨r,wT⟩:∃r:Nat,e.ref=r:=⟨e.ref.toNat,by omega⟩;have B5:r<su.length:=by omega
  obtain⟨j,v,rfl,uR,fy⟩:∃j v,SV=.mu j v/\(st.set ic (uO SV g))[j]?=some (.rows v 1 (gC su))/\ic≠j:=by
   rcases wN with h|⟨_,h⟩;exact h;rw[h]at B5;simp at B5
  have hb:=jH B5;have hsu:su[r]?=some su[r]:=List.getElem?_eq_getElem B5;have M8:(e.k=4)=True:=eq_true h4;have hco:(if e.k=4/\0<=e.ref/\su[e.ref.toNat]?=some false then some e.a else none)=(if su[r]=false then some e.a else none):=by rw[wT,acL,hsu];simp[h4]
  rw[hco];rw[wT];cases hx:su[r] with
  |true=>
   rw[hx]at hb;simp only[Bool.true_eq_false,aS,lC];generalize st.set ic (uO (.mu j v) g)=s1 at *;simp[bC,M8,cT,eC,dh,B5,FD,uR,hx,Gn,aD,aC]
  |false=>
   rw[hx]at hb;simp only[aQ];cases g with
   |none=>
    simp only[lR,cE,cX]at FD ⊢;have qN:(st.set ic (uO (.mu j v) none)).set ic (.rows 0 3 [[.mu j v,.int .i64 3,.int .i64 e.a]])=st.set ic (uO (.mu j v) (some e.a)):=oF _;have ht3:=ht2 (uO (.mu j v) (some e.a));generalize st.set ic (uO (.mu j v) (some e.a))=s2,st.set ic (uO (.mu j v) none)=s1 at *;simp[bC,M8,cT,eC,dh,B5,uR,hx,FD,ewr,aV,AV.ax,AV.aB,au,qN,ht3,aD,aC]
   |some y=>
    simp only[lR,cE,cX]at FD ⊢;generalize st.set ic (uO (.mu j v) (some y))=s1 at *;simp[bC,M8,cT,eC,dh,B5,uR,hx,FD,Gn,aD,aC]
  rw[U (λh=>h0 h.2.1),lC];have M8:(e.k=4)=True:=eq_true h4;generalize st.set ic (uO SV g)=s1 at *;simp[bC,M8,h0,cT,eC,dh,Gn,aD,aC];rw[U (λh=>h4 h.1),lC];generalize st.set ic (uO SV g)=s1 at *;simp[bC,h4,cT,eC,dh,Gn,aD,aC]
theorem adl(su:List Bool)(f:Option Int)(aa:Nat)(st:ay)(ic:Nat)(SV:AV)(hc:st[ic]?=some (uO SV f))(hj:lT ic st SV su)(hn:su.length<1000000000) :
  ∃st',(aZ S).call 0 aa 84 [.ptr ic 0 0 0] st=some (.fK [],st')/\((∃j v,SV=.mu j v/\st'=st.set j (sO v (su.map λ_=>true)))\/(SV=.af/\st'=st)):=by
 rcases hj with⟨j,v,rfl,hj,fy⟩|⟨rfl,rfl⟩;refine⟨st.set j (sO v (su.map λ_=>true)),?_,.inl ⟨j,v,rfl,rfl⟩⟩;have hj:st[j]?=some (.rows v 1 (gC su)):=hj;have z8:∀o,(st.set j o)[ic]?=some (.rows 0 3 [[.mu j v,.int .i64 (cE f),.int .i64 (cX f)]]):=λo=>by rw[gp (Ne.symm fy)];exact hc
 have uh:∀sk:List Bool,(st.set j (sO v sk))[j]?=some (.rows v 1 (gC sk)):=λsk=>fQ hj;have oF:∀(a b:dA),(st.set j a).set j b=st.set j b:=λa b=>by rw[ady]
 have ht:∀o,(st.set j o).take st.length=st.set j o:=λo=>ab7 (by simp);refine aA (sf:=s84) rfl rfl rfl ?_;simp[s84];refine bH ML.eq_1 (λk:Nat=>⟨[(0,.val (.ptr ic 0 0 0)),(2,.val (.int .i64 k))],[],st.set j (sO v (aak k true++su.drop k))⟩)
  (λk=>k<=su.length) (λk=>su.length-k) 0 (by simp[gd hj]) (by simp) ?_
 intro k hk ih;have hl:(aak k true++su.drop k).length=su.length:=by simp;omega
 have hh:=uh (aak k true++su.drop k);have GI:=z8 (sO v (aak k true++su.drop k));by_cases bC:k<su.length;have hw:=wk k (by omega);have fR:k<(aak k true++su.drop k).length:=by omega
 have hb:=jH fR;have hn:=A7 bC;have fD:=ih (k+1) (by omega) (by omega);have hup:(st.set j (sO v (aak k true++su.drop k))).set j (.rows v 1 (gC (aak (k+1) true++su.drop (k+1))))=st.set j (sO v (aak (k+1) true++su.drop (k+1))):=oF _ _;generalize aak (k+1) true++su.drop (k+1)=sk',aak k true++su.drop k=sk at *;generalize st.set j (sO v sk)=s2 at *;simp[bC,hw,hh,GI,hl,hn,hup,aV,AV.ax,AV.aB,au];exact fD;have fR:k=su.length:=by omega
 have qN:aak k true++su.drop k=su.map λ_=>true:=by
  rw[fR,aaC,ac5,List.map_const']
 rw[qN]at hh GI hl ⊢;have Gn:=ht (sO v (su.map λ_=>true));generalize st.set j (sO v (su.map λ_=>true))=s2 at *;simp[bC,hh,GI,hl,Gn];refine⟨st,?_,.inr ⟨rfl,rfl⟩⟩;have hc:st[ic]?=some (.rows 0 3 [[.af,.int .i64 (cE f),.int .i64 (cX f)]]):=hc;refine aA (sf:=s84) rfl rfl rfl ?_;simp[s84];rw[rj ML.eq_1];simp[hc]
end S9
namespace S9
open Ax Go bY V7 kN lZ K9
structure Fr (ic:Nat)(st:ay)(SV:AV)(st':ay)(FU:AV):Prop where
 len:st.length<=st'.length
 js:∀i,i<st.length->i≠ic->(∀v,SV≠.mu i v)->st'[i]?=st[i]?
 k8:∀i v,FU=.mu i v->(∃v',SV=.mu i v')\/st.length<=i
variable{ic:Nat}{st:ay}{SV:AV}
theorem Fr.refl:Fr ic st SV st SV:=⟨Nat.le_refl _,λ_ _ _ _=>rfl,λ_i v h=>.inl ⟨v,h⟩⟩
theorem Fr.trans{qQ qb:ay}{SV1 SV2:AV}(h:Fr ic st SV qQ SV1)(k:Fr ic qQ SV1 qb SV2):Fr ic st SV qb SV2:=by
 refine⟨Nat.le_trans h.len k.len,λi hi fy hv=>?_,λi v e=>?_⟩;rw[k.js i (by have:=h.len;omega) fy λv e=>?_,h.js i hi fy hv];rcases h.k8 i v e with⟨v',e'⟩|hl;exact hv v' e';omega;rcases k.k8 i v e with⟨v',e'⟩|hl;exact h.k8 i v' e';exact .inr (by have:=h.len;omega)
theorem Fr.cell{o:dA}:Fr ic st SV (st.set ic o) SV:=
 ⟨by simp,λi hi fy _=>aap (Ne.symm fy),λi v h=>.inl ⟨v,h⟩⟩
def LS(l:List Sm):Prop:=∀(su:List Bool)(f:Option Int)(st:ay)(ic:Nat)(SV:AV),st[ic]?=some (uO SV f)->lT ic st SV su->pK su.length l->Sm.fY l<1000000000->su.length<1000000000->
 ∃st' FU,(aZ S).call 0 0 54 [.ptr ic 0 0 0,bp l] st=some (.fK [],st')/\st'[ic]?=some (uO FU (lR f (iH su l).2))/\lT ic st' FU (iH su l).1/\Fr ic st SV st' FU
def zk:bN->bN
 |.seq _ (.seq (.block _ (.seq _ b)) _)=>b|x=>x
def oJ:bN:=zk qH
def qO:bN:=g9 oJ
theorem amn(s:Sm)(su:List Bool)(f:Option Int)(st:ay)(ic:Nat)(SV:AV)(hc:st[ic]?=some (uO SV f))(hj:lT ic st SV su)(hr:wm su.length s.es)(dM:E.fY s.es<1000000000){rs:List iW}{Q:Ex->St->Prop}{kk:List th}(lv:AV)(k0:Nat)
  (go:W S 0 0 rs Q (.code qO::kk) .normal ⟨[(0,.val (.ptr ic 0 0 0)),(1,.val lv),(4,.val (.int .i64 k0)),(5,.fp 0 0)],[s.aF],st.set ic (uO SV (lR f (lX su s.es)))⟩) :
  W S 0 0 rs Q (.code oJ::kk) .normal ⟨[(0,.val (.ptr ic 0 0 0)),(1,.val lv),(4,.val (.int .i64 k0)),(5,.fp 0 0)],[s.aF],st⟩:=by
 have hz:cJ 11 (aT s.es)=true:=gn;have cT:aN (aT s.es)=true:=bz;have eC:(aT s.es).ai=aT s.es:=bu;have dh:bt (aT s.es)=E.rows s.es:=aW;have fR:=E.eH s.es;rw[jG]at hr;have F9:ic<st.length:=(aad.1 hc).1;rw[Sm.aE]at *;generalize bp s.bd=bv,bp s.el=lw at *;generalize oN:aT s.es=kv at *;show W S 0 0 rs Q (.code (.seq (.seq (.region [{ dst:=some 6,op:=.move,args:=[.const (.int .i64 0)],guard:=none }] none []) (.block 2 (.loop MG))) qO)::kk) .normal _;generalize qO=T at *;simp;refine bH MG.eq_1 (λx:Nat×Option Int=>⟨[(0,.val (.ptr ic 0 0 0)),(1,.val lv),(4,.val (.int .i64 k0)),(5,.fp 0 0),(6,.val (.int .i64 x.1))],[[.int .i64 s.k,.str s.nm,.str s.on,.int .i64 s.od,kv,bv,lw,.int .i64 s.a,.int .i64 s.ref]],st.set ic (uO SV x.2)⟩)
  (λx=>x.1<=s.es.length/\lR x.2 (lX su (s.es.drop x.1))=lR f (lX su s.es)) (λx=>s.es.length-x.1) (0,f) (by simp[gd hc]) ⟨by simp,by simp⟩ ?_
 rintro⟨k,g⟩ ⟨hk,hp⟩ LP;simp only at hk hp LP;have z8:(st.set ic (uO SV g))[ic]?=some (uO SV g):=fQ hc;have wN:lT ic (st.set ic (uO SV g)) SV su:=vl hj;have oF:∀o,(st.set ic (uO SV g)).set ic o=st.set ic o:=λo=>by rw[ady]
 by_cases bC:k<s.es.length;have hw:=wk k (by omega);have hm:=aaq bC;have cK:=λaa=>Vq s.es[k] su g aa (st.set ic (uO SV g)) ic SV z8 wN (hr _ hm) (by have:=E.fZ hm;omega);rw[aaz bC,yB,<-jd]at hp;have FC:=LP (k+1,lR g (AM su s.es[k])) ⟨by simp only;omega,hp⟩ (by simp only;omega);simp only at FC;simp only[oF]at cK;have gE:=xT bC;have kG:k<(E.rows s.es).length:=by simpa using bC
 have u7:=qM bC kG;rw[E.aE s.es[k]]at cK gE u7;have xv:aN (aT s.es[k].aG)=true:=bz;have xw:(aT s.es[k].aG).ai=aT s.es[k].aG:=bu;generalize s.es[k]=x,st.set ic (uO SV g)=s1 at *;generalize st.set ic (uO SV (lR g (AM su x)))=s2 at *;simp[bC,hw,hz,cT,eC,dh,u7,cK,xw,AV.ai];exact FC;have fR:k=s.es.length:=by omega
 rw[fR,aaC]at hp;simp only[lX,lC]at hp;subst hp;simp[bC,cT,eC,dh];exact go
theorem Bm{j v:Nat}{su su':List Bool}(h:st[j]?=some (sO v su))(fy:ic≠j):lT ic (st.set j (sO v su')) (.mu j v) su':=.inl ⟨j,v,rfl,fQ h,fy⟩
theorem Fr.mu{j v:Nat}{o:dA}:Fr ic st (.mu j v) (st.set j o) (.mu j v):=
 ⟨by simp,λi hi fy hv=>aap (λe=>hv v (by rw[e])),λi v h=>.inl ⟨v,h⟩⟩
def aae(s:Sm):Prop:=∀(su:List Bool)(f:Option Int)(st:ay)(ic:Nat)(SV:AV),st[ic]?=some (uO SV f)->lT ic st SV su->C6 su.length s->Sm.sz s<1000000000->su.length<1000000000->
 ∀{rs:List iW} {Q:Ex->St->Prop} {kk:List th} (lv:AV) (k0:Nat),
  (∀st' FU,st'[ic]?=some (uO FU (lR f (oC su s).2))->lT ic st' FU (oC su s).1->Fr ic st SV st' FU->W S 0 0 rs Q kk .normal ⟨[(0,.val (.ptr ic 0 0 0)),(1,.val lv),(4,.val (.int .i64 k0))],[s.aF],st'⟩)->
  W S 0 0 rs Q (.code oJ::kk) .normal ⟨[(0,.val (.ptr ic 0 0 0)),(1,.val lv),(4,.val (.int .i64 k0)),(5,.fp 0 0)],[s.aF],st⟩
theorem Jr(l:List Sm)(hs:∀s∈l,aae s):LS l:=by
 intro su f st ic SV hc hj hr dM hn;have hz:cJ 9 (bp l)=true:=wz;have cT:aN (bp l)=true:=bL;have eC:(bp l).ai=bp l:=bq;have dh:bt (bp l)=Sm.rows l:=aW;have hlen:=Sm.eH l;rw[oD]at hr;obtain⟨v',st',h1,rfl,FU,h2⟩:∃v' st',(aZ S).call 0 0 54 [.ptr ic 0 0 0,bp l] st=some (v',st')/\v'=.fK []/\∃FU,st'[ic]?=some (uO FU (lR f (iH su l).2))/\lT ic st' FU (iH su l).1/\Fr ic st SV st' FU:=by
  refine fP (sf:=s54) rfl rfl rfl ?_;generalize bp l=lv at *;simp[s54];refine bH qH.eq_1 (λx:Nat×List Bool×Option Int×ay×AV×List AV=>⟨[(0,.val (.ptr ic 0 0 0)),(1,.val lv),(4,.val (.int .i64 x.1))],[x.2.2.2.2.2],x.2.2.2.1⟩)
   (λx=>x.1<=l.length/\x.2.1.length=su.length/\lR x.2.2.1 (iH x.2.1 (l.drop x.1)).2=lR f (iH su l).2/\(iH x.2.1 (l.drop x.1)).1=(iH su l).1/\x.2.2.2.1[ic]?=some (uO x.2.2.2.2.1 x.2.2.1)/\lT ic x.2.2.2.1 x.2.2.2.2.1 x.2.1/\Fr ic st SV x.2.2.2.1 x.2.2.2.2.1)
   (λx=>l.length-x.1) (0,su,f,st,SV,[]) (by simp) ⟨by simp,rfl,by simp,by simp,hc,hj,Fr.refl⟩ ?_
  rintro⟨k,sk,g,gh,SVk,b⟩ ⟨hk,Yn,hp,hq,VD,wF,My⟩ ih;simp only at hk Yn hp hq VD wF My ih;by_cases bC:k<l.length;have hw:=wk k (by omega);have hm:=aaq bC;have xG:=fun {rs:List iW} {Q:Ex->St->Prop} {kk:List th}=>hs _ hm sk g gh ic SVk VD wF (by rw[Yn];exact hr _ hm) (by have:=Sm.fZ hm;omega) (by omega) (rs:=rs) (Q:=Q) (kk:=kk) lv k;rw[aaz bC,HE]at hp hq;simp only at hp hq;rw[<-jd]at hp;have gE:=zN bC;have kG:k<(Sm.rows l).length:=by simpa using bC
  have mY:=tV bC kG;obtain⟨e1,b1,l1⟩:=fj (s:=l[k]);have e2:(aT l[k].es).ai=aT l[k].es:=bu;have b2:(bp l[k].bd).ai=bp l[k].bd:=bq;have l2:(bp l[k].el).ai=bp l[k].el:=bq;show W S 0 0 _ _ (.code (.seq (.seq _ _) (.seq (.block 1 (.seq _ oJ)) _))::_) .normal _;have fD:=λ(st':ay) (FU:AV) (h1:st'[ic]?=some (uO FU (lR g (oC sk l[k]).2))) (h2:lT ic st' FU (oC sk l[k]).1) (h3:Fr ic gh SVk st' FU)=>ih (k+1,(oC sk l[k]).1,lR g (oC sk l[k]).2,st',FU,l[k].aF) ⟨by simp only;omega,by simp only[Fi];exact Yn,hp,hq,h1,h2,My.trans h3⟩ (by simp only;omega);simp only at fD;simp only[Sm.aE l[k]]at gE mY fD xG;generalize oJ=BD,aT l[k].es=xe,bp l[k].bd=xb,bp l[k].el=xl at *;simp[bC,hz,cT,eC,dh,mY,e1,b1,l1,e2,b2,l2,au];refine xG λst' FU h1 h2 h3=>?_;simp[hw];exact fD st' FU h1 h2 h3;have fR:k=l.length:=by omega
  rw[fR,aaC,KZ]at hp hq;simp only[lC]at hp hq;subst hp hq;simp[bC,cT,eC,dh,eZ];exact⟨SVk,VD,wF,My⟩
 exact⟨st',FU,h1,h2⟩
end S9
namespace S9
open Ax Go bY V7 kN lZ K9
variable{ic:Nat}{su:List Bool}
theorem pP{st:ay}{SV:AV}(h:lT ic st SV su):SV.ai=SV/\SV.dj=true/\SV.cells=[SV]:=by
 rcases h with⟨j,v,rfl,_⟩|⟨rfl,_⟩<;>exact⟨rfl,rfl,rfl⟩
theorem Vr{st:ay}{SV:AV}(hi:ic<st.length)(h:lT ic st SV su)(hn:su.length<1000000000):∃W ext,(∀aa bx,bn 0 aa (.gu 1 1) [.val .af,.val SV] st bx=some (.val W,st++ext,bx))/\lT ic (st++ext) W su/\(∀i v,W=.mu i v->i=st.length/\st.length<(st++ext).length):=by
 by_cases hs:su=[];subst hs;refine⟨.af,[],λaa bx=>?_,.inr ⟨rfl,rfl⟩,λi v h=>by cases h⟩;rcases h with⟨j,v,rfl,h1,h2⟩|⟨rfl,_⟩;have h1:st[j]?=some (.rows v 1 []):=h1;simp[bn,r9,dx,ff,h1,cn];simp[bn,r9,dx,ff,cn];rcases h with⟨j,v,rfl,h1,h2⟩|⟨_,h⟩;refine⟨.mu st.length 0,[sO 0 su],λaa bx=>?_,.inl ⟨st.length,0,rfl,by simp,by omega⟩,λi v h=>by cases h;simp⟩;have hf:cn 1 (gC su)=true:=by simp[cn,gC]
 have hr:su.length<=cN:=by unfold cN;omega
 have fy:(gC su).isEmpty=false:=by cases su with
  |nil=>exact aU rfl hs|cons a l=>rfl
 have h1:st[j]?=some (.rows v 1 (gC su)):=h1;simp[bn,r9,dx,ff,h1,CI,hf,hr];cases su with
 |nil=>exact aU rfl hs|cons a l=>simp[gC]
 exact aU h hs
theorem Q4{A B:List Bool}{k:Nat}(h1:k<A.length)(h2:k<B.length):((acy (λa b=>a&&b) A B).take k++B.drop k).set k (A[k]&&B[k])=(acy (λa b=>a&&b) A B).take (k+1)++B.drop (k+1):=by
 rw[aaz h2,List.set_append_right _ _ (by simp;omega),List.take_succ_eq_append_getElem (by simp;omega)];have:k-((acy (λa b=>a&&b) A B).take k).length=0:=by simp;omega
 rw[this];simp only[List.set_cons_zero,List.getElem_zipWith,List.append_assoc,List.singleton_append]
theorem Y2{A B:List Bool}{k:Nat}(h1:k<A.length)(h2:k<B.length)(h3:k<((acy (λa b=>a&&b) A B).take k++B.drop k).length):((acy (λa b=>a&&b) A B).take k++B.drop k)[k]=B[k]:=by
 rw[List.getElem_append_right (by simp;omega),List.getElem_drop];congr 1;simp;omega
theorem mH(s:Sm)(hB:LS s.bd)(hL:LS s.el):aae s:=by
 intro su f st ic SV hc hj hr dM hn rs Q kk lv k0 go;have hz:=Sm.mX s;obtain⟨r1,r2,r3,r4,r5⟩:=(rC _ _).1 hr;have F9:ic<st.length:=(aad.1 hc).1;obtain⟨e1,b1,l1⟩:=fj (s:=s);have b2:(bp s.bd).ai=bp s.bd:=bq;have l2:(bp s.el).ai=bp s.el:=bq;refine amn s su f st ic SV hc hj r1 (by omega) lv k0 ?_;rw[OW]at go;generalize hg:lR f (lX su s.es)=g at *;have z8:(st.set ic (uO SV g))[ic]?=some (uO SV g):=fQ hc;have wN:lT ic (st.set ic (uO SV g)) SV su:=vl hj;have LB:Fr ic st SV (st.set ic (uO SV g)) SV:=Fr.cell;have Y3:ic<(st.set ic (uO SV g)).length:=by simpa using F9
 generalize st.set ic (uO SV g)=s1 at *;clear hc hj;rw[Sm.aE]at *;generalize aT s.es=ev at *;generalize hbv:bp s.bd=bv at *;generalize Bo:bp s.el=lw at *;by_cases h1:s.k=1;obtain⟨h0,bC⟩:=r2 (.inl h1);obtain⟨r,wT⟩:∃r:Nat,s.ref=r:=⟨s.ref.toNat,by omega⟩;have qi:r<su.length:=by omega
 have h1':(s.k=1)=True:=eq_true h1;obtain⟨j,v,rfl,uR,fy⟩:∃j v,SV=.mu j v/\s1[j]?=some (.rows v 1 (gC su))/\ic≠j:=by
  rcases wN with h|⟨_,h⟩;exact h;rw[h]at qi;simp at qi
 rw[ah h1,wT,acL,hg]at go;have go:=go (s1.set j (sO v (su.set r false))) (.mu j v) (by rw[gp (Ne.symm fy)];exact z8) (Bm uR fy) (LB.trans Fr.mu);have FD:s1[ic]?=some (.rows 0 3 [[.mu j v,.int .i64 (cE g),.int .i64 (cX g)]]):=z8;have hb:=jH qi;simp[qO,oJ,zk,qH,g9,h1',wT,FD,uR,qi,aV,AV.ax,AV.aB,au,aD,aC];exact go;rw[U h1]at go;by_cases DF:s.k=2\/s.k=3;rw[ah DF]at go;by_cases h0:0<=s.ref;have bC:s.ref<su.length:=by
  rcases DF with h|h;exact(r2 (.inr h)).2;exact r3 h
 obtain⟨r,wT⟩:∃r:Nat,s.ref=r:=⟨s.ref.toNat,by omega⟩;have qi:r<su.length:=by omega
 obtain⟨j,v,rfl,uR,fy⟩:∃j v,SV=.mu j v/\s1[j]?=some (.rows v 1 (gC su))/\ic≠j:=by
  rcases wN with h|⟨_,h⟩;exact h;rw[h]at qi;simp at qi
 rw[ah h0,wT,acL,hg]at go;have go:=go (s1.set j (sO v (su.set r true))) (.mu j v) (by rw[gp (Ne.symm fy)];exact z8) (Bm uR fy) (LB.trans Fr.mu);have FD:s1[ic]?=some (.rows 0 3 [[.mu j v,.int .i64 (cE g),.int .i64 (cX g)]]):=z8;have hb:=jH qi;rcases DF with h|h;have OK:(s.k=2)=True:=eq_true h;simp[qO,oJ,zk,qH,g9,h1,OK,wT,FD,uR,qi,aV,AV.ax,AV.aB,au,aD,aC];exact go;have h2:¬s.k=2:=by omega
 have LO:(s.k=3)=True:=eq_true h;simp[qO,oJ,zk,qH,g9,h1,h2,LO,wT,FD,uR,qi,aV,AV.ax,AV.aB,au,aD,aC];exact go;have h3:s.k=3:=by
  rcases DF with h|h;exact aU (r2 (.inr h)).1 h0;exact h
 have h2:¬s.k=2:=by omega
 have LO:(s.k=3)=True:=eq_true h3;rw[U h0,hg]at go;have go:=go s1 SV z8 wN LB;simp[qO,oJ,zk,qH,g9,h1,h2,LO,h0];exact go;rw[U DF]at go;have h2:¬s.k=2:=λh=>DF (.inl h);have h3:¬s.k=3:=λh=>DF (.inr h);by_cases h7:s.k=7;have h7':(s.k=7)=True:=eq_true h7;rw[ah h7,hg]at go;obtain⟨s2,cK,xx⟩:=adl su g 0 s1 ic SV z8 wN hn;have go:W S 0 0 rs Q kk .normal ⟨[(0,.val (.ptr ic 0 0 0)),(1,.val lv),(4,.val (.int .i64 k0))],[[.int .i64 s.k,.str s.nm,.str s.on,.int .i64 s.od,ev,bv,lw,.int .i64 s.a,.int .i64 s.ref]],s2⟩:=by
  rcases xx with⟨j,v,rfl,rfl⟩|⟨rfl,rfl⟩;obtain⟨uR,fy⟩:s1[j]?=some (sO v su)/\ic≠j:=by
   rcases wN with⟨j',v',e,h,h'⟩|⟨e,_⟩;cases e;exact⟨h,h'⟩;cases e
  exact go _ (.mu j v) (by rw[gp (Ne.symm fy)];exact z8) (Bm uR fy) (LB.trans Fr.mu);refine go s2 .af z8 ?_ LB;rcases wN with⟨_,_,e,_⟩|⟨_,rfl⟩;cases e;exact .inr ⟨rfl,rfl⟩
 simp[qO,oJ,zk,qH,g9,h1,h2,h3,h7',cK];exact go;rw[U h7]at go;by_cases h6:s.k=6;have h6':(s.k=6)=True:=eq_true h6;rw[ah h6]at go;simp only at go;rw[<-jd,hg]at go;obtain⟨WS,ext,Ny,C4,hw3⟩:=Vr Y3 wN hn;have FD:(s1++ext)[ic]?=some (uO SV g):=by rw[aal Y3];exact z8
 have uR:lT ic (s1++ext) SV su:=by
  rcases wN with⟨j,v,rfl,h,h'⟩|h;exact .inl ⟨j,v,rfl,by rw[aal (aad.1 h).1];exact h,h'⟩;exact .inr h
 have hSW:∀i v v',WS=.mu i v->SV≠.mu i v':=λi v v' h e=>by
  obtain⟨hi,_⟩:=hw3 i v h;rcases wN with⟨j,w,e2,h,_⟩|⟨e2,_⟩;rw[e2]at e;cases e;have:=(aad.1 h).1;omega;rw[e2]at e;cases e
 obtain⟨s3,SV3,cK,hc3,hj3,LC⟩:=hB su g (s1++ext) ic SV FD uR r4 (by omega) hn;rw[hbv]at cK;generalize Gu:lR g (iH su s.bd).2=g2 at *;have hws:lT ic s3 WS su:=by
  rcases C4 with⟨j,v,rfl,h,h'⟩|h;refine .inl ⟨j,v,rfl,?_,h'⟩;rw[LC.js j (aad.1 h).1 (Ne.symm h') λv'=>hSW j v v' rfl];exact h;exact .inr h
 have UW:s1.length<=s3.length:=by have:=LC.len;simp at this;omega
 have go:=go (s3.set ic (uO WS g2)) WS (fQ hc3) (vl hws) (by
  refine LB.trans ⟨by simpa using UW,λi hi fy hv=>?_,λi v h=>.inr (by obtain⟨h1,_⟩:=hw3 i v h;omega)⟩;rw[gp (Ne.symm fy),LC.js i (by simp;omega) fy hv,aal hi])
 obtain⟨wv,wc,wl⟩:=pP hws;obtain⟨vv,vc,_⟩:=pP wN;have Y4:s1[ic]?=some (.rows 0 3 [[SV,.int .i64 (cE g),.int .i64 (cX g)]]):=z8;have Y5:s3[ic]?=some (.rows 0 3 [[SV3,.int .i64 (cE g2),.int .i64 (cX g2)]]):=hc3;have uh:∀x,s3.set ic (.rows 0 3 [[x,.int .i64 (cE g2),.int .i64 (cX g2)]])=s3.set ic (uO x g2):=λx=>rfl;generalize s1++ext=s2 at *;simp[qO,oJ,zk,qH,g9,h1,h2,h3,h7,h6',Y4,vv,wc,wl,Ny,cK,b2,Y5,aV,au];exact go;rw[U h6]at go;by_cases h5:s.k=5;have h5':(s.k=5)=True:=eq_true h5;rw[ah h5]at go;simp only at go;rw[<-jd,<-jd,hg]at go;obtain⟨WS,ext,Ny,C4,hw3⟩:=Vr Y3 wN hn;have FD:(s1++ext)[ic]?=some (uO SV g):=by rw[aal Y3];exact z8
 have uR:lT ic (s1++ext) SV su:=by
  rcases wN with⟨j,v,rfl,h,h'⟩|h;exact .inl ⟨j,v,rfl,by rw[aal (aad.1 h).1];exact h,h'⟩;exact .inr h
 have hSW:∀i v v',WS=.mu i v->SV≠.mu i v':=λi v v' h e=>by
  obtain⟨hi,_⟩:=hw3 i v h;rcases wN with⟨j,w,e2,h,_⟩|⟨e2,_⟩;rw[e2]at e;cases e;have:=(aad.1 h).1;omega;rw[e2]at e;cases e
 obtain⟨s3,SV3,cK,hc3,hj3,LC⟩:=hB su g (s1++ext) ic SV FD uR r4 (by omega) hn;rw[hbv]at cK;generalize Gu:lR g (iH su s.bd).2=g2 at *;have hws:lT ic s3 WS su:=by
  rcases C4 with⟨j,v,rfl,h,h'⟩|h;refine .inl ⟨j,v,rfl,?_,h'⟩;rw[LC.js j (aad.1 h).1 (Ne.symm h') λv'=>hSW j v v' rfl];exact h;exact .inr h
 have UW:s1.length<=s3.length:=by have:=LC.len;simp at this;omega
 have amp:Fr ic st SV (s3.set ic (uO WS g2)) WS:=by
  refine LB.trans ⟨by simpa using UW,λi hi fy hv=>?_,λi v h=>.inr (by obtain⟨h1,_⟩:=hw3 i v h;omega)⟩;rw[gp (Ne.symm fy),LC.js i (by simp;omega) fy hv,aal hi]
 obtain⟨ze,SV5,NL,hc5,hj5,adp⟩:=hL su g2 (s3.set ic (uO WS g2)) ic WS (fQ hc3) (vl hws) r5 (by omega) hn;rw[Bo]at NL;generalize hg3:lR g2 (iH su s.el).2=g3 at *;have lU:∀i v v',SV3=.mu i v->WS≠.mu i v':=λi v v' h e=>by
  obtain⟨hi,Q5⟩:=hw3 i v' e;rcases LC.k8 i v h with⟨w,e2⟩|hl;exact hSW i v' w e e2;omega
 have amr:lT ic ze SV3 (iH su s.bd).1:=by
  rcases hj3 with⟨j,v,rfl,h,h'⟩|h;refine .inl ⟨j,v,rfl,?_,h'⟩;rw[adp.js j (by simpa using (aad.1 h).1) (Ne.symm h') λv'=>lU j v v' rfl,gp h'];exact h;exact .inr h
 have lW:∀i v v',SV5=.mu i v->SV3≠.mu i v':=λi v v' h e=>by
  rcases adp.k8 i v h with⟨w,e2⟩|hl;exact lU i v' w e e2;rcases hj3 with⟨j,w,e2,h2,_⟩|⟨e2,_⟩;rw[e2]at e;cases e;have:=(aad.1 h2).1;simp at hl;omega;rw[e2]at e;cases e
 have hAl:(iH su s.bd).1.length=su.length:=sS _ _;have hBl:(iH su s.el).1.length=su.length:=sS _ _;generalize (iH su s.bd).1=A,(iH su s.el).1=B at *;obtain⟨wv,wc,wl⟩:=pP hws;obtain⟨vv,vc,_⟩:=pP wN;obtain⟨v3,c3,_⟩:=pP hj3;have Y4:s1[ic]?=some (.rows 0 3 [[SV,.int .i64 (cE g),.int .i64 (cX g)]]):=z8;have Y5:s3[ic]?=some (.rows 0 3 [[SV3,.int .i64 (cE g2),.int .i64 (cX g2)]]):=hc3;have uh:s3.set ic (.rows 0 3 [[WS,.int .i64 (cE g2),.int .i64 (cX g2)]])=s3.set ic (uO WS g2):=rfl;generalize s1++ext=s2,s3.set ic (uO WS g2)=s4 at *;have My:Fr ic st SV ze SV5:=amp.trans adp;by_cases hs0:su.length=0;have hA:A=[]:=aaK (by omega);have hBn:B=[]:=aaK (by omega);subst hA hBn;have go:=go ze SV5 hc5 (by simpa using hj5) My;have hlen:oK ze .sl SV5=some 0:=by
  rcases hj5 with⟨j,v,rfl,h,_⟩|⟨rfl,_⟩;have h:ze[j]?=some (.rows v 1 []):=h;simp[h];simp
 obtain⟨v5,c5,_⟩:=pP hj5;have ams:ze[ic]?=some (.rows 0 3 [[SV5,.int .i64 (cE g3),.int .i64 (cX g3)]]):=hc5;have X2:∀wl aa bx,bn wl aa (.len .sl) [.val SV5] ze bx=some (.val (.int .i64 0),ze,bx):=λwl aa bx=>by rw[ZC,hlen];rfl
 simp[qO,oJ,zk,qH,g9,h1,h2,h3,h7,h6,h5',Y4,vv,v3,wc,wl,Ny,cK,NL,b2,l2,Y5,uh,aV,au];rw[rj MH.eq_1];simp[-ZC,-Xd,ams,v5,X2];exact go;obtain⟨j5,w5,rfl,adq,ahL⟩:∃j v,SV5=.mu j v/\ze[j]?=some (.rows v 1 (gC B))/\ic≠j:=by
  rcases hj5 with h|⟨_,h⟩;exact h;rw[h]at hBl;simp at hBl;omega
 obtain⟨j3,w3,rfl,amt,apO⟩:∃j v,SV3=.mu j v/\ze[j]?=some (.rows v 1 (gC A))/\ic≠j:=by
  rcases amr with h|⟨_,h⟩;exact h;rw[h]at hAl;simp at hAl;omega
 have amu:j5≠j3:=λe=>lW j5 w5 w3 rfl (by rw[e]);have hcS:∀o,(ze.set j5 o)[ic]?=some (.rows 0 3 [[.mu j5 w5,.int .i64 (cE g3),.int .i64 (cX g3)]]):=λo=>by rw[gp (Ne.symm ahL)];exact hc5
 have hAS:∀o,(ze.set j5 o)[j3]?=some (.rows w3 1 (gC A)):=λo=>by rw[gp amu];exact amt
 have hBS:∀sk:List Bool,(ze.set j5 (sO w5 sk))[j5]?=some (.rows w5 1 (gC sk)):=λsk=>fQ adq;have oF:∀(a b:dA),(ze.set j5 a).set j5 b=ze.set j5 b:=λa b=>by rw[ady]
 have acM:(acy (λa b=>a&&b) A B).length=su.length:=by simp[hAl,hBl]
 have go:=go (ze.set j5 (sO w5 (acy (λa b=>a&&b) A B))) (.mu j5 w5) (hcS _) (Bm adq ahL) (My.trans Fr.mu);simp[qO,oJ,zk,qH,g9,h1,h2,h3,h7,h6,h5',Y4,vv,wc,wl,Ny,cK,NL,b2,l2,Y5,uh,aV,au];refine bH MH.eq_1 (λk:Nat=>⟨[(0,.val (.ptr ic 0 0 0)),(1,.val lv),(4,.val (.int .i64 k0)),(9,.val (.mu j3 w3)),(10,.val (.int .i64 k))],[[.int .i64 s.k,.str s.nm,.str s.on,.int .i64 s.od,ev,bv,lw,.int .i64 s.a,.int .i64 s.ref]],ze.set j5 (sO w5 ((acy (λa b=>a&&b) A B).take k++B.drop k))⟩)
  (λk=>k<=su.length) (λk=>su.length-k) 0 (by simp[gd adq]) (by simp) ?_
 intro k hk ih;have hl:((acy (λa b=>a&&b) A B).take k++B.drop k).length=su.length:=by simp;omega
 have a1:=hcS (sO w5 ((acy (λa b=>a&&b) A B).take k++B.drop k));have a2:=hAS (sO w5 ((acy (λa b=>a&&b) A B).take k++B.drop k));have a3:=hBS ((acy (λa b=>a&&b) A B).take k++B.drop k);by_cases bC:k<su.length;have hw:=wk k (by omega);have fR:k<((acy (λa b=>a&&b) A B).take k++B.drop k).length:=by omega
 have Nq:k<A.length:=by omega
 have hlB:k<B.length:=by omega
 have Vs:=Y2 Nq hlB fR;have hn:=Q4 Nq hlB;have bA:=jH Nq;have bS:=jH fR;rw[Vs]at bS;have fD:=ih (k+1) (by omega) (by omega);have a4:(ze.set j5 (sO w5 ((acy (λa b=>a&&b) A B).take k++B.drop k))).set j5 (.rows w5 1 (gC ((acy (λa b=>a&&b) A B).take (k+1)++B.drop (k+1))))=ze.set j5 (sO w5 ((acy (λa b=>a&&b) A B).take (k+1)++B.drop (k+1))):=oF _ _;generalize (acy (λa b=>a&&b) A B).take (k+1)++B.drop (k+1)=sk',(acy (λa b=>a&&b) A B).take k++B.drop k=sk at *;generalize ze.set j5 (sO w5 sk)=ze at *;cases hBk:B[k] with
 |true=>
  rw[hBk]at hn bS Vs;rw[Bool.and_true]at hn;simp[bC,hw,a1,a2,a3,hl,Nq,Vs,hn,a4,aV,AV.ax,AV.aB,au,aD,aC];exact fD
 |false=>
  rw[hBk]at hn bS Vs;rw[Bool.and_false]at hn;simp[bC,hw,a1,a3,hl,Vs,hn,a4,aV,AV.ax,AV.aB,au,aD,aC];exact fD
 have fR:k=su.length:=by omega
 have qN:(acy (λa b=>a&&b) A B).take k++B.drop k=acy (λa b=>a&&b) A B:=by
  rw[fR,<-hBl,aaC,ac5,hBl,<-acM,List.take_length]
 rw[qN]at a1 a2 a3 hl ⊢;generalize ze.set j5 (sO w5 (acy (λa b=>a&&b) A B))=ze at *;simp[bC,a1,a3,hl];exact go;rw[U h5,hg]at go;have go:=go s1 SV z8 wN LB;simp[qO,oJ,zk,qH,g9,h1,h2,h3,h5,h6,h7];exact go
theorem aaf(s:Sm):LS s.bd/\LS s.el:=by
 induction s using Sm.Ga with
 |_ s Gb Bq=>exact⟨Jr s.bd λx hx=>mH x (Gb x hx).1 (Gb x hx).2,Jr s.el λx hx=>mH x (Bq x hx).1 (Bq x hx).2⟩
theorem Y6(l:List Sm):LS l:=Jr l λs _=>mH s (aaf s).1 (aaf s).2
end S9
namespace S9
open Ax Go bY V7 kN lZ K9
open N7 U7 in
theorem Vt(wl aa:Nat)(p:Pg)(st:ay)(hg:(j7 p).ok)(zX:GD.sm (j7 p))(dM:∀f∈p.funcs,f.params.length+Sm.fY f.body<1000000000)
  (uS:∀bs,sQ (aM p) (aM p).aY p.funcs=.ok bs->∀b∈bs,Sm.fY b.code<1000000000/\b.vars.length<1000000000) :
  (aZ S).call wl aa 33 [.agg p.aF] st=some (yT (nQ p),st):=by
 have ec:=λwl aa st=>R9.xX wl aa p st hg zX dM;have Om:p.funcs.length<1000000000:=by have:=zX.funcs;rw[p0,List.length_map]at this;exact this
 refine bT (sf:=s33) rfl rfl (by simp[Pg.aF,AV.ax,AV.aB]) rfl (by simp[yT,AV.aB,AV.ax]) ?_;unfold uB at ec;unfold nQ;have r1:aN (aJ 3 (p.bJ.map Rc.aF))=true:=bI;have r2:(aJ 3 (p.bJ.map Rc.aF)).ai=aJ 3 (p.bJ.map Rc.aF):=bU;have f1:aN (aJ 7 (p.funcs.map Fc.aF))=true:=bI;have f2:(aJ 7 (p.funcs.map Fc.aF)).ai=aJ 7 (p.funcs.map Fc.aF):=bU;have g1:aN (aJ 4 (p.aI.map PD.cells))=true:=bI;have g2:(aJ 4 (p.aI.map PD.cells)).ai=aJ 4 (p.aI.map PD.cells):=bU;simp only[Pg.aF]at ec ⊢;generalize aJ 3 (p.bJ.map Rc.aF)=PR,aJ 7 (p.funcs.map Fc.aF)=PF,aJ 4 (p.aI.map PD.cells)=PG at *;cases hF:jQ (j7 p) with
 |some a=>
  rw[hF]at ec;simp only[yT,cE,cX]at ec ⊢;simp[s33,ec,r1,r2,f1,f2,g1,g2,au,AV.ai]
 |none=>
  rw[hF]at ec;simp only at ec ⊢;cases hR:sQ (aM p) (aM p).aY p.funcs with
  |error a=>
   rw[hR]at ec;simp only[zO,yT,cE,cX]at ec ⊢;simp[s33,ec,r1,r2,f1,f2,g1,g2,au,AV.ai]
  |ok bs=>
   rw[hR]at ec;simp only[zO,nC,List.cons_append,List.nil_append]at ec ⊢;have acN:=uS bs hR;clear uS;have cT:(aM p).aY.length=p.funcs.length:=(by simp[aM]);have Rx:=DG cT hR;have hrefs:=AP hR;have z1:aN (aJ 3 (bs.map Bd.aF))=true:=bI;have z2:(aJ 3 (bs.map Bd.aF)).ai=aJ 3 (bs.map Bd.aF):=bU;have z3:bt (aJ 3 (bs.map Bd.aF))=bs.map Bd.aF:=aW;have z4:cJ 3 (aJ 3 (bs.map Bd.aF))=true:=dQ (by simp[cn,Bd.aF]);have a1:aN (aJ 2 ((aM p).bE.map dz))=true:=bI;have a2:(aJ 2 ((aM p).bE.map dz)).ai=aJ 2 ((aM p).bE.map dz):=bU;have b1:aN (aJ 6 ((aM p).aY.map Sg.aF))=true:=bI;have b2:(aJ 6 ((aM p).aY.map Sg.aF)).ai=aJ 6 ((aM p).aY.map Sg.aF):=bU;have b3:bt (aJ 6 ((aM p).aY.map Sg.aF))=(aM p).aY.map Sg.aF:=aW;have b4:cJ 6 (aJ 6 ((aM p).aY.map Sg.aF))=true:=dQ (by simp[cn,Sg.aF]);have c1:aN (bP (aM p).aI)=true:=dn;have c2:(bP (aM p).aI).ai=bP (aM p).aI:=eA;generalize aJ 2 ((aM p).bE.map dz)=HS,aJ 6 ((aM p).aY.map Sg.aF)=HG,bP (aM p).aI=GL,aJ 3 (bs.map Bd.aF)=BV at *;have JD:∀k:Nat,k<bs.length->k<(aM p).aY.length:=λk h=>by omega
   have Si:bs.length<1000000000:=(by omega);generalize (aM p).aY=SS at *;clear hR;simp[s33,ec,r1,r2,f1,f2,g1,g2,z1,z2,a1,a2,b1,b2,c1,c2,au,AV.ai];refine bH To.eq_1 (λx:Nat×ay=>⟨[(2,.fp 1 0),(3,.fp 2 0),(5,.val (.int .i64 x.1))],[[PR,PG,PF],[.int .i64 0,.int .i64 0],[HS,GL,HG,.int .i64 (dX p),BV],[.int .i64 0,.int .i64 0]],x.2⟩)
    (λx=>x.1<=bs.length/\zI (SS.drop x.1) (bs.drop x.1)=zI SS bs) (λx=>bs.length-x.1) (0,[]) (by simp) ⟨by simp,by simp⟩ ?_
   rintro⟨k,CJ⟩ ⟨hk,hp⟩ ih;simp only at hk hp ih;by_cases bC:k<bs.length;have hw:=wk k (by omega);have vJ:=JD k bC;rw[HM vJ bC]at hp;obtain⟨q1,q2⟩:=hrefs k vJ bC;obtain⟨q3,q4⟩:=acN _ (aaq bC);have gB':∀h:k<(bs.map Bd.aF).length,(bs.map Bd.aF)[k]=[bP bs[k].vars,bp bs[k].code,.int .i64 bs[k].a]:=λh=>by simp[Bd.aF]
   have Fu:∀h:k<(SS.map Sg.aF).length,(SS.map Sg.aF)[k]=[.str SS[k].nm,bP SS[k].ps,.bool SS[k].cP,.int .i64 SS[k].cH.b,.int .i64 SS[k].cH.r,.int .i64 SS[k].cH.d]:=λh=>by simp[Sg.aF]
   have acO:k<(bs.map Bd.aF).length:=(by simpa using bC);have FA:k<(SS.map Sg.aF).length:=(by simpa using vJ);have U3:=gB' acO;have FB:=Fu FA;clear gB' Fu;have v1:aN (bP bs[k].vars)=true:=dn;have v2:(bP bs[k].vars).ai=bP bs[k].vars:=eA;have v3:(bt (bP bs[k].vars)).length=bs[k].vars.length:=(by simp);have w1:aN (bp bs[k].code)=true:=bL;have w2:(bp bs[k].code).ai=bp bs[k].code:=bq;have p1:aN (bP SS[k].ps)=true:=dn;have p2:(bP SS[k].ps).ai=bP SS[k].ps:=eA;have p3:(bt (bP SS[k].ps)).length=SS[k].ps.length:=(by simp);have qR:(bs[k].vars.length:Int)<=cN:=(by unfold cN;omega);have hbc:=Y6 bs[k].code;unfold su0 at hp;have En:(aak SS[k].ps.length true++aak (bs[k].vars.length-SS[k].ps.length) false).length=bs[k].vars.length:=(by simp;omega);obtain⟨st',FU,cK,Jv,_,_⟩:=hbc (aak SS[k].ps.length true++aak (bs[k].vars.length-SS[k].ps.length) false) none (CJ++[sO 0 (aak SS[k].ps.length true++aak (bs[k].vars.length-SS[k].ps.length) false),uO (.mu CJ.length 0) none]) (CJ.length+1) (.mu CJ.length 0)
    (by rw[List.getElem?_append_right (by omega)];simp) (.inl ⟨CJ.length,0,rfl,by simp,by omega⟩) (by rw[En];exact q2) q3 (by rw[En];exact q4)
   have ho:∀g:Option Int,lR none g=g:=λg=>rfl;rw[ho]at Jv;generalize lz:bs[k].code=cs at *;generalize hbv:bs[k].vars.length=n at *;generalize hbp:SS[k].ps.length=np at *;generalize hfb:bP bs[k].vars=FV at *;generalize NU:bP SS[k].ps=FP at *;generalize hsc:bp cs=SC at *;generalize bs[k]=bk,SS[k]=sk at *;simp[-yp,yp,bC,U3,z1,z2,z3,z4,v1,v2,v3,qR,HL,au,AV.ai];refine bH Tn.eq_1 (λi:Nat=>⟨[(2,.fp 1 0),(3,.fp 2 0),(5,.val (.int .i64 k)),(6,.val (.ptr (CJ.length+1) 0 0 0)),(7,.val (.int .i64 i))],[[PR,PG,PF],[.int .i64 0,.int .i64 0],[HS,GL,HG,.int .i64 (dX p),BV],[.int .i64 0,.int .i64 0]],CJ++[sO 0 (aak i true++(aak n false).drop i),.rows 0 3 [[.mu CJ.length 0,.int .i64 0,.int .i64 0]]]⟩)
    (λi=>i<=np) (λi=>np-i) 0 (by simp) (by simp) ?_
   intro i hi Bq;by_cases F9:i<np;have hwi:=wk i (by omega);have JY:i<(aak n false).length:=(by simp;omega);have hn:=A7 JY;have hll:(aak i true++(aak n false).drop i).length=n:=(by simp;omega);have hib:i<(aak i true++(aak n false).drop i).length:=(by omega);have hb:=jH hib;have acP:=Bq (i+1) (by omega) (by omega);generalize aak (i+1) true++(aak n false).drop (i+1)=s2,aak i true++(aak n false).drop i=s1 at *;have acQ:i<n:=(by omega);simp[F9,vJ,hwi,hll,acQ,hn,FB,b2,b3,b4,p1,p2,p3,aV,AV.ax,AV.aB,au];exact acP;have Sw:i=np:=(by omega);rw[Sw,O5];generalize aak np true++aak (n-np) false=s0 at *;cases hgv:(iH s0 cs).2 with
   |none=>
    rw[hgv]at Jv hp;have hp:zI (SS.drop (k+1)) (bs.drop (k+1))=zI SS bs:=hp;have fD:=λo=>ih (k+1,o) ⟨by simp only;omega,hp⟩ (by simp only;omega);simp only at fD;simp only[uO,cE,cX]at cK Jv;simp[cK,Jv,hw,vJ,FB,U3,bC,b2,b3,b4,p1,p2,p3,z2,z3,z4,w2];exact fD _
   |some a=>
    rw[hgv]at Jv hp;have hp:some a=zI SS bs:=hp;rw[<-hp];simp only[uO,cE,cX,yT]at cK Jv ⊢;simp[cK,Jv,vJ,FB,U3,bC,b2,b3,b4,p1,p2,p3,z2,z3,z4,w2,au]
   have fR:k=bs.length:=(by omega);rw[fR,aaC,Lk]at hp;rw[<-hp];simp[bC,z1,z2,z3,yT,cE,cX,au]
end S9
