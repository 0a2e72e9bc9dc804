/- Part of a proof. -/
import Derived.Test.YtlcehclecbakiaaGreatS
import Derived.Test.YtlcehclecbakiaaGreatO
import Derived.Test.YtlcehclecbakiaaGreatV

open List renaming getElem?_eq_some_iff→aab,set_set→ai2,getElem_mem→aar,drop_eq_getElem_cons→aa3,drop_length→abp,take_of_length_le→ae5,replicate→aaO,append_nil→abO,getElem?_set_ne→afA,zipWith→ab8,getElem?_append_left→aaE,eq_nil_of_length_eq_zero→abJ
open Int renaming toNat_natCast→afC
set_option maxRecDepth 100000
set_option maxHeartbeats 8000000
namespace S9
open Ax Go aF V7 jw jX K9
def uO(SV:AV)(f:Option Int):dK:=.rows 0 3 [[SV,.int .i64 (cE f),.int .i64 (cX f)]]
def lO(ic:Nat)(st:ag)(SV:AV)(su:List Bool):Prop:=(∃j v,SV=.mu j v/\st[j]?=some (sO v su)/\ic≠j)\/(SV=.U/\su=[])
theorem uJ{ic:Nat}{st:ag}{SV:AV}{su:List Bool}{o:dK}(h:lO ic st SV su):lO ic (st.set ic o) SV su:=by
 rcases h with⟨j,v,rfl,h1,h2⟩|h;exact .inl ⟨j,v,rfl,by rw[jU h2];exact h1,h2⟩;exact .inr h
theorem WU(e:E):∀(su:List Bool)(f:Option Int)(aa:Nat)(st:ag)(ic:Nat)(SV:AV),st[ic]?=some (uO SV f)->lO ic st SV su->Lw su.length e->E.sz e<1000000000->
  (aP S).call 0 aa 103 [.ptr ic 0 0 0,.agg e.row] st=some (.ir [],st.set ic (uO SV (tE f (Jb su e)))):=by
 induction e using E.zY with
 |_ e ih=>
  intro su f aa st ic SV hc hj hr fM;have uR:=E.vP e;have cL:=E.lK e.aK;have hz:bY 11 (bf e.aK)=true:=nM;have jB:aL (bf e.aK)=true:=bQ;have kQ:(bf e.aK).view=bf e.aK:=bH;have jn:aJ (bf e.aK)=E.rows e.aK:=aM;have qQ:(E.rows e.aK).length=e.aK.length:=by simp
  have ewr:=λwl aa a st=>U7.AU wl aa a st;rw[Dt]at hr;obtain⟨Ge,hr2⟩:=hr;rw[oE]at hr2;rw[Z2,E.aE];have Q2:ic<st.length:=(aab.1 hc).1;generalize pS:bf e.aK=kv at *;refine aO (sf:=adE) rfl rfl rfl ?_;simp[adE,jB];refine aT Pe.eq_1 (λx:Nat×Option Int=>⟨[(0,.val (.ptr ic 0 0 0)),(3,.fp 0 0),(4,.val (.int .i64 x.1))],[[.int .i64 e.k,.int .i64 e.n,.str e.nm,.str e.on,.int .i64 e.od,kv,.int .i64 e.a,.int .i64 e.ty.b,.int .i64 e.ty.r,.int .i64 e.ty.d,.int .i64 e.dz]],st.set ic (uO SV x.2)⟩)
   (λx=>x.1<=e.aK.length/\tE x.2 (pI su (e.aK.drop x.1))=tE f (pI su e.aK)) (λx=>e.aK.length-x.1) (0,f) (by simp[jK hc]) ⟨by simp,by simp⟩ ?_
  rintro⟨k,g⟩ ⟨hk,hp⟩ RH;simp only at hk hp RH;have HK:(st.set ic (uO SV g))[ic]?=some (uO SV g):=jN hc;have Gf:lO ic (st.set ic (uO SV g)) SV su:=uJ hj;have BR:∀o,(st.set ic (uO SV g)).set ic o=st.set ic o:=λo=>by rw[ai2]
  by_cases aQ:k<e.aK.length;have hw:=wk k (by omega);have hm:=aar aQ;have fJ:=λaa=>ih _ hm su g aa (st.set ic (uO SV g)) ic SV HK Gf (hr2 _ hm) (by have:=E.tD hm;omega);rw[aa3 aQ,Hw,<-pH]at hp;have WW:=RH (k+1,tE g (Jb su e.aK[k])) ⟨by simp only;omega,hp⟩ (by simp only;omega);simp only at WW;simp only[BR]at fJ;have gE:=HA aQ;have lq:k<(E.rows e.aK).length:=by simpa using aQ
  have A2:=zO aQ lq;rw[E.aE e.aK[k]]at fJ gE A2;have xv:aL (bf e.aK[k].aK)=true:=bQ;have xw:(bf e.aK[k].aK).view=bf e.aK[k].aK:=bH;generalize e.aK[k]=x at *;generalize st.set ic (uO SV g)=s1 at *;generalize st.set ic (uO SV (tE g (Jb su x)))=s2 at *;simp[aQ,hw,hz,jB,kQ,jn,A2,fJ,xw,AV.view];exact WW;have cL:k=e.aK.length:=by omega
  rw[cL,abp]at hp;simp only[pI,uE]at hp;subst hp;rw[<-pH];clear RH hc;generalize tE f (pI su e.aK)=g at *;have hl1:(st.set ic (uO SV g)).length=st.length:=by simp
  have SL:(st.set ic (uO SV g)).take st.length=st.set ic (uO SV g):=ae5 (by simp);have L9:(st.set ic (uO SV g))[ic]?=some (.rows 0 3 [[SV,.int .i64 (cE g),.int .i64 (cX g)]]):=HK;have ht2:∀o,(st.set ic o).take st.length=st.set ic o:=λo=>ae5 (by simp);by_cases h4:e.k=4;by_cases h0:0<=e.dz;have hlr:=Ge h4;obtain⟨r,Tg⟩:∃r:Nat,e.dz=r:=⟨e.dz.toNat,by omega⟩;have Og:r<su.length:=by omega
  obtain⟨j,v,rfl,KP,jJ⟩:∃j v,SV=.mu j v/\(st.set ic (uO SV g))[j]?=some (.rows v 1 (jb su))/\ic≠j:=by
   rcases Gf with h|⟨_,h⟩;exact h;rw[h]at Og;simp at Og
  have hb:=sK Og;have hsu:su[r]?=some su[r]:=List.getElem?_eq_getElem Og;have h4':(e.k=4)=True:=eq_true h4;have hco:(if e.k=4/\0<=e.dz/\su[e.dz.toNat]?=some false then some e.a else none)=(if su[r]=false then some e.a else none):=by rw[Tg,afC,hsu];simp[h4]
  rw[hco];rw[Tg];cases hx:su[r] with
  |true=>
   rw[hx]at hb;simp only[Bool.true_eq_false,if_false,uE];generalize st.set ic (uO (.mu j v) g)=s1 at *;simp[aQ,h4',jB,kQ,jn,Og,L9,KP,hx,SL,ai,ah]
  |false=>
   rw[hx]at hb;simp only[if_true];cases g with
   |none=>
    simp only[tE,cE,cX]at L9 ⊢;have WX:(st.set ic (uO (.mu j v) none)).set ic (.rows 0 3 [[.mu j v,.int .i64 3,.int .i64 e.a]])=st.set ic (uO (.mu j v) (some e.a)):=BR _;have ht3:=ht2 (uO (.mu j v) (some e.a));generalize st.set ic (uO (.mu j v) (some e.a))=s2 at *;generalize st.set ic (uO (.mu j v) none)=s1 at *;simp[aQ,h4',jB,kQ,jn,Og,KP,hx,L9,ewr,bD,AV.au,AV.ay,aj,WX,ht3,ai,ah]
   |some y=>
    simp only[tE,cE,cX]at L9 ⊢;generalize st.set ic (uO (.mu j v) (some y))=s1 at *;simp[aQ,h4',jB,kQ,jn,Og,KP,hx,L9,SL,ai,ah]
  rw[if_neg (λh=>h0 h.2.1),uE];have h4':(e.k=4)=True:=eq_true h4;generalize st.set ic (uO SV g)=s1 at *;simp[aQ,h4',h0,jB,kQ,jn,SL,ai,ah];rw[if_neg (λh=>h4 h.1),uE];generalize st.set ic (uO SV g)=s1 at *;simp[aQ,h4,jB,kQ,jn,SL,ai,ah]
theorem aeN(su:List Bool)(f:Option Int)(aa:Nat)(st:ag)(ic:Nat)(SV:AV)(hc:st[ic]?=some (uO SV f))(hj:lO ic st SV su)(hn:su.length<1000000000) :
  ∃bG,(aP S).call 0 aa 104 [.ptr ic 0 0 0] st=some (.ir [],bG)/\((∃j v,SV=.mu j v/\bG=st.set j (sO v (su.map λ_=>true)))\/(SV=.U/\bG=st)):=by
 rcases hj with⟨j,v,rfl,hj,jJ⟩|⟨rfl,rfl⟩;refine⟨st.set j (sO v (su.map λ_=>true)),?_,.inl ⟨j,v,rfl,rfl⟩⟩;have hj:st[j]?=some (.rows v 1 (jb su)):=hj;have HK:∀o,(st.set j o)[ic]?=some (.rows 0 3 [[.mu j v,.int .i64 (cE f),.int .i64 (cX f)]]):=λo=>by rw[jU (Ne.symm jJ)];exact hc
 have Bs:∀sk:List Bool,(st.set j (sO v sk))[j]?=some (.rows v 1 (jb sk)):=λsk=>jN hj;have BR:∀(a b:dK),(st.set j a).set j b=st.set j b:=λa b=>by rw[ai2]
 have ht:∀o,(st.set j o).take st.length=st.set j o:=λo=>ae5 (by simp);refine aO (sf:=Vu) rfl rfl rfl ?_;simp[Vu];refine aT IW.eq_1 (λk:Nat=>⟨[(0,.val (.ptr ic 0 0 0)),(2,.val (.int .i64 k))],[],st.set j (sO v (aaO k true++su.drop k))⟩)
  (λk=>k<=su.length) (λk=>su.length-k) 0 (by simp[jK hj]) (by simp) ?_
 intro k hk ih;have hl:(aaO k true++su.drop k).length=su.length:=by simp;omega
 have hh:=Bs (aaO k true++su.drop k);have MQ:=HK (sO v (aaO k true++su.drop k));by_cases aQ:k<su.length;have hw:=wk k (by omega);have cL:k<(aaO k true++su.drop k).length:=by omega
 have hb:=sK cL;have hn:=LP aQ;have fA:=ih (k+1) (by omega) (by omega);have hup:(st.set j (sO v (aaO k true++su.drop k))).set j (.rows v 1 (jb (aaO (k+1) true++su.drop (k+1))))=st.set j (sO v (aaO (k+1) true++su.drop (k+1))):=BR _ _;generalize aaO (k+1) true++su.drop (k+1)=sk' at *;generalize aaO k true++su.drop k=sk at *;generalize st.set j (sO v sk)=s2 at *;simp[aQ,hw,hh,MQ,hl,hn,hup,bD,AV.au,AV.ay,aj];exact fA;have cL:k=su.length:=by omega
 have WX:aaO k true++su.drop k=su.map λ_=>true:=by
  rw[cL,abp,abO,List.map_const']
 rw[WX]at hh MQ hl ⊢;have SL:=ht (sO v (su.map λ_=>true));generalize st.set j (sO v (su.map λ_=>true))=s2 at *;simp[aQ,hh,MQ,hl,SL];refine⟨st,?_,.inr ⟨rfl,rfl⟩⟩;have hc:st[ic]?=some (.rows 0 3 [[.U,.int .i64 (cE f),.int .i64 (cX f)]]):=hc;refine aO (sf:=Vu) rfl rfl rfl ?_;simp[Vu];rw[vq IW.eq_1];simp[hc]
end S9
namespace S9
open Ax Go aF V7 jw jX K9
structure Fr (ic:Nat)(st:ag)(SV:AV)(bG:ag)(FG:AV):Prop where
 len:st.length<=bG.length
 kS:∀i,i<st.length->i≠ic->(∀v,SV≠.mu i v)->bG[i]?=st[i]?
 jz:∀i v,FG=.mu i v->(∃v',SV=.mu i v')\/st.length<=i
theorem Fr.refl{ic:Nat}{st:ag}{SV:AV}:Fr ic st SV st SV:=⟨Nat.le_refl _,λ_ _ _ _=>rfl,λ_i v h=>.inl ⟨v,h⟩⟩
theorem Fr.trans{ic:Nat}{st nG mQ:ag}{SV SV1 SV2:AV}(h:Fr ic st SV nG SV1)(k:Fr ic nG SV1 mQ SV2):Fr ic st SV mQ SV2:=by
 refine⟨Nat.le_trans h.len k.len,λi hi jJ hv=>?_,λi v e=>?_⟩;rw[k.kS i (by have:=h.len;omega) jJ λv e=>?_,h.kS i hi jJ hv];rcases h.jz i v e with⟨v',e'⟩|hl;exact hv v' e';omega;rcases k.jz i v e with⟨v',e'⟩|hl;exact h.jz i v' e';exact .inr (by have:=h.len;omega)
theorem Fr.cell{ic:Nat}{st:ag}{SV:AV}{o:dK}:Fr ic st SV (st.set ic o) SV:=
 ⟨by simp,λi hi jJ _=>afA (Ne.symm jJ),λi v h=>.inl ⟨v,h⟩⟩
def S0(l:List Sm):Prop:=∀(su:List Bool)(f:Option Int)(st:ag)(ic:Nat)(SV:AV),st[ic]?=some (uO SV f)->lO ic st SV su->vR su.length l->Sm.eH l<1000000000->su.length<1000000000->
 ∃bG FG,(aP S).call 0 0 73 [.ptr ic 0 0 0,bN l] st=some (.ir [],bG)/\bG[ic]?=some (uO FG (tE f (kB su l).2))/\lO ic bG FG (kB su l).1/\Fr ic st SV bG FG
def zl:aX->aX
 |.seq _ (.seq (.block _ (.seq _ b)) _)=>b|x=>x
def oK:aX:=zl qx
def qH:aX:=iF oK
theorem aoc(s:Sm)(su:List Bool)(f:Option Int)(st:ag)(ic:Nat)(SV:AV)(hc:st[ic]?=some (uO SV f))(hj:lO ic st SV su)(hr:BH su.length s.es)(fM:E.eH s.es<1000000000){rs:List iE}{Q:Ex->St->Prop}{kk:List sX}(lv:AV)(k0:Nat)
  (go:W S 0 0 rs Q (.code qH::kk) .normal ⟨[(0,.val (.ptr ic 0 0 0)),(1,.val lv),(4,.val (.int .i64 k0)),(5,.fp 0 0)],[s.row],st.set ic (uO SV (tE f (pI su s.es)))⟩) :
  W S 0 0 rs Q (.code oK::kk) .normal ⟨[(0,.val (.ptr ic 0 0 0)),(1,.val lv),(4,.val (.int .i64 k0)),(5,.fp 0 0)],[s.row],st⟩:=by
 have hz:bY 11 (bf s.es)=true:=nM;have jB:aL (bf s.es)=true:=bQ;have kQ:(bf s.es).view=bf s.es:=bH;have jn:aJ (bf s.es)=E.rows s.es:=aM;have cL:=E.lK s.es;rw[oE]at hr;have Q2:ic<st.length:=(aab.1 hc).1;rw[Sm.aE]at *;generalize bN s.bd=bv at *;generalize bN s.el=lw at *;generalize pS:bf s.es=kv at *;show W S 0 0 rs Q (.code (.seq (.seq (.region [{ dst:=some 6,op:=.move,args:=[.const (.int .i64 0)],guard:=none }] none []) (.block 2 (.loop Nw))) qH)::kk) .normal _;generalize qH=T at *;simp;refine aT Nw.eq_1 (λx:Nat×Option Int=>⟨[(0,.val (.ptr ic 0 0 0)),(1,.val lv),(4,.val (.int .i64 k0)),(5,.fp 0 0),(6,.val (.int .i64 x.1))],[[.int .i64 s.k,.str s.nm,.str s.on,.int .i64 s.od,kv,bv,lw,.int .i64 s.a,.int .i64 s.dz]],st.set ic (uO SV x.2)⟩)
  (λx=>x.1<=s.es.length/\tE x.2 (pI su (s.es.drop x.1))=tE f (pI su s.es)) (λx=>s.es.length-x.1) (0,f) (by simp[jK hc]) ⟨by simp,by simp⟩ ?_
 rintro⟨k,g⟩ ⟨hk,hp⟩ RH;simp only at hk hp RH;have HK:(st.set ic (uO SV g))[ic]?=some (uO SV g):=jN hc;have Gf:lO ic (st.set ic (uO SV g)) SV su:=uJ hj;have BR:∀o,(st.set ic (uO SV g)).set ic o=st.set ic o:=λo=>by rw[ai2]
 by_cases aQ:k<s.es.length;have hw:=wk k (by omega);have hm:=aar aQ;have fJ:=λaa=>WU s.es[k] su g aa (st.set ic (uO SV g)) ic SV HK Gf (hr _ hm) (by have:=E.tD hm;omega);rw[aa3 aQ,Hw,<-pH]at hp;have WW:=RH (k+1,tE g (Jb su s.es[k])) ⟨by simp only;omega,hp⟩ (by simp only;omega);simp only at WW;simp only[BR]at fJ;have gE:=HA aQ;have lq:k<(E.rows s.es).length:=by simpa using aQ
 have A2:=zO aQ lq;rw[E.aE s.es[k]]at fJ gE A2;have xv:aL (bf s.es[k].aK)=true:=bQ;have xw:(bf s.es[k].aK).view=bf s.es[k].aK:=bH;generalize s.es[k]=x at *;generalize st.set ic (uO SV g)=s1 at *;generalize st.set ic (uO SV (tE g (Jb su x)))=s2 at *;simp[aQ,hw,hz,jB,kQ,jn,A2,fJ,xw,AV.view];exact WW;have cL:k=s.es.length:=by omega
 rw[cL,abp]at hp;simp only[pI,uE]at hp;subst hp;simp[aQ,jB,kQ,jn];exact go
theorem A3{ic:Nat}{st:ag}{j v:Nat}{su su':List Bool}(h:st[j]?=some (sO v su))(jJ:ic≠j):lO ic (st.set j (sO v su')) (.mu j v) su':=.inl ⟨j,v,rfl,jN h,jJ⟩
theorem Fr.mu{ic:Nat}{st:ag}{j v:Nat}{o:dK}:Fr ic st (.mu j v) (st.set j o) (.mu j v):=
 ⟨by simp,λi hi jJ hv=>afA (λe=>hv v (by rw[e])),λi v h=>.inl ⟨v,h⟩⟩
def ab0(s:Sm):Prop:=∀(su:List Bool)(f:Option Int)(st:ag)(ic:Nat)(SV:AV),st[ic]?=some (uO SV f)->lO ic st SV su->Jc su.length s->Sm.sz s<1000000000->su.length<1000000000->
 ∀{rs:List iE} {Q:Ex->St->Prop} {kk:List sX} (lv:AV) (k0:Nat),
  (∀bG FG,bG[ic]?=some (uO FG (tE f (xF su s).2))->lO ic bG FG (xF su s).1->Fr ic st SV bG FG->W S 0 0 rs Q kk .normal ⟨[(0,.val (.ptr ic 0 0 0)),(1,.val lv),(4,.val (.int .i64 k0))],[s.row],bG⟩)->
  W S 0 0 rs Q (.code oK::kk) .normal ⟨[(0,.val (.ptr ic 0 0 0)),(1,.val lv),(4,.val (.int .i64 k0)),(5,.fp 0 0)],[s.row],st⟩
theorem JJ(l:List Sm)(hs:∀s∈l,ab0 s):S0 l:=by
 intro su f st ic SV hc hj hr fM hn;have hz:bY 9 (bN l)=true:=PW;have jB:aL (bN l)=true:=cZ;have kQ:(bN l).view=bN l:=bz;have jn:aJ (bN l)=Sm.rows l:=aM;have hlen:=Sm.lK l;rw[uF]at hr;obtain⟨v',bG,h1,rfl,FG,h2⟩:∃v' bG,(aP S).call 0 0 73 [.ptr ic 0 0 0,bN l] st=some (v',bG)/\v'=.ir []/\∃FG,bG[ic]?=some (uO FG (tE f (kB su l).2))/\lO ic bG FG (kB su l).1/\Fr ic st SV bG FG:=by
  refine kP (sf:=s73) rfl rfl rfl ?_;generalize bN l=lv at *;simp[s73];refine aT qx.eq_1 (λx:Nat×List Bool×Option Int×ag×AV×List AV=>⟨[(0,.val (.ptr ic 0 0 0)),(1,.val lv),(4,.val (.int .i64 x.1))],[x.2.2.2.2.2],x.2.2.2.1⟩)
   (λx=>x.1<=l.length/\x.2.1.length=su.length/\tE x.2.2.1 (kB x.2.1 (l.drop x.1)).2=tE f (kB su l).2/\(kB x.2.1 (l.drop x.1)).1=(kB su l).1/\x.2.2.2.1[ic]?=some (uO x.2.2.2.2.1 x.2.2.1)/\lO ic x.2.2.2.1 x.2.2.2.2.1 x.2.1/\Fr ic st SV x.2.2.2.1 x.2.2.2.2.1)
   (λx=>l.length-x.1) (0,su,f,st,SV,[]) (by simp) ⟨by simp,rfl,by simp,by simp,hc,hj,Fr.refl⟩ ?_
  rintro⟨k,sk,g,fC,SVk,b⟩ ⟨hk,hsk,hp,hq,hck,oe,Y2⟩ ih;simp only at hk hsk hp hq hck oe Y2 ih;by_cases aQ:k<l.length;have hw:=wk k (by omega);have hm:=aar aQ;have xu:=fun {rs:List iE} {Q:Ex->St->Prop} {kk:List sX}=>hs _ hm sk g fC ic SVk hck oe (by rw[hsk];exact hr _ hm) (by have:=Sm.tD hm;omega) (by omega) (rs:=rs) (Q:=Q) (kk:=kk) lv k;rw[aa3 aQ,Rw]at hp hq;simp only at hp hq;rw[<-pH]at hp;have gE:=Jo aQ;have lq:k<(Sm.rows l).length:=by simpa using aQ
  have BQ:=AP aQ lq;obtain⟨e1,b1,l1⟩:=eO (s:=l[k]);have e2:(bf l[k].es).view=bf l[k].es:=bH;have b2:(bN l[k].bd).view=bN l[k].bd:=bz;have l2:(bN l[k].el).view=bN l[k].el:=bz;show W S 0 0 _ _ (.code (.seq (.seq _ _) (.seq (.block 1 (.seq _ oK)) _))::_) .normal _;have fA:=λ(bG:ag) (FG:AV) (h1:bG[ic]?=some (uO FG (tE g (xF sk l[k]).2))) (h2:lO ic bG FG (xF sk l[k]).1) (h3:Fr ic fC SVk bG FG)=>ih (k+1,(xF sk l[k]).1,tE g (xF sk l[k]).2,bG,FG,l[k].row) ⟨by simp only;omega,by simp only[Lv];exact hsk,hp,hq,h1,h2,Y2.trans h3⟩ (by simp only;omega);simp only at fA;simp only[Sm.aE l[k]]at gE BQ fA xu;generalize oK=BD at *;generalize bf l[k].es=xe at *;generalize bN l[k].bd=xb at *;generalize bN l[k].el=xl at *;simp[aQ,hz,jB,kQ,jn,BQ,e1,b1,l1,e2,b2,l2,aj];refine xu λbG FG h1 h2 h3=>?_;simp[hw];exact fA bG FG h1 h2 h3;have cL:k=l.length:=by omega
  rw[cL,abp,V4]at hp hq;simp only[uE]at hp hq;subst hp hq;simp[aQ,jB,kQ,jn,Wk];exact⟨SVk,hck,oe,Y2⟩
 exact⟨bG,FG,h1,h2⟩
end S9
namespace S9
open Ax Go aF V7 jw jX K9
theorem pM{ic:Nat}{st:ag}{SV:AV}{su:List Bool}(h:lO ic st SV su):SV.view=SV/\SV.cx=true/\SV.cells=[SV]:=by
 rcases h with⟨j,v,rfl,_⟩|⟨rfl,_⟩<;>exact⟨rfl,rfl,rfl⟩
theorem WY{ic:Nat}{st:ag}{SV:AV}{su:List Bool}(hi:ic<st.length)(h:lO ic st SV su)(hn:su.length<1000000000):∃W ext,(∀aa bx,aU 0 aa (.kE 1 1) [.val .U,.val SV] st bx=some (.val W,st++ext,bx))/\lO ic (st++ext) W su/\(∀i v,W=.mu i v->i=st.length/\st.length<(st++ext).length):=by
 by_cases hs:su=[];subst hs;refine⟨.U,[],λaa bx=>?_,.inr ⟨rfl,rfl⟩,λi v h=>by cases h⟩;rcases h with⟨j,v,rfl,h1,h2⟩|⟨rfl,_⟩;have h1:st[j]?=some (.rows v 1 []):=h1;simp[aU,yG,dV,fF,h1,bw];simp[aU,yG,dV,fF,bw];rcases h with⟨j,v,rfl,h1,h2⟩|⟨_,h⟩;refine⟨.mu st.length 0,[sO 0 su],λaa bx=>?_,.inl ⟨st.length,0,rfl,by simp,by omega⟩,λi v h=>by cases h;simp⟩;have hf:bw 1 (jb su)=true:=by simp[bw,jb]
 have hr:su.length<=dQ:=by unfold dQ;omega
 have jJ:(jb su).isEmpty=false:=by cases su with
  |nil=>exact absurd rfl hs|cons a l=>rfl
 have h1:st[j]?=some (.rows v 1 (jb su)):=h1;simp[aU,yG,dV,fF,h1,LO,hf,hr];cases su with
 |nil=>exact absurd rfl hs|cons a l=>simp[jb]
 exact absurd h hs
theorem Sh{A B:List Bool}{k:Nat}(h1:k<A.length)(h2:k<B.length):((ab8 (λa b=>a&&b) A B).take k++B.drop k).set k (A[k]&&B[k])=(ab8 (λa b=>a&&b) A B).take (k+1)++B.drop (k+1):=by
 rw[aa3 h2,List.set_append_right _ _ (by simp;omega),List.take_succ_eq_append_getElem (by simp;omega)];have:k-((ab8 (λa b=>a&&b) A B).take k).length=0:=by simp;omega
 rw[this];simp only[List.set_cons_zero,List.getElem_zipWith,List.append_assoc,List.singleton_append]
theorem aaz{A B:List Bool}{k:Nat}(h1:k<A.length)(h2:k<B.length)(h3:k<((ab8 (λa b=>a&&b) A B).take k++B.drop k).length):((ab8 (λa b=>a&&b) A B).take k++B.drop k)[k]=B[k]:=by
 rw[List.getElem_append_right (by simp;omega),List.getElem_drop];congr 1;simp;omega
theorem tr(s:Sm)(hB:S0 s.bd)(hL:S0 s.el):ab0 s:=by
 intro su f st ic SV hc hj hr fM hn rs Q kk lv k0 go;have hz:=Sm.uD s;obtain⟨r1,r2,r3,r4,r5⟩:=(yu _ _).1 hr;have Q2:ic<st.length:=(aab.1 hc).1;obtain⟨e1,b1,l1⟩:=eO (s:=s);have b2:(bN s.bd).view=bN s.bd:=bz;have l2:(bN s.el).view=bN s.el:=bz;refine aoc s su f st ic SV hc hj r1 (by omega) lv k0 ?_;rw[Z3]at go;generalize hg:tE f (pI su s.es)=g at *;have HK:(st.set ic (uO SV g))[ic]?=some (uO SV g):=jN hc;have Gf:lO ic (st.set ic (uO SV g)) SV su:=uJ hj;have Ma:Fr ic st SV (st.set ic (uO SV g)) SV:=Fr.cell;have aaA:ic<(st.set ic (uO SV g)).length:=by simpa using Q2
 generalize st.set ic (uO SV g)=s1 at *;clear hc hj;rw[Sm.aE]at *;generalize bf s.es=ev at *;generalize hbv:bN s.bd=bv at *;generalize DZ:bN s.el=lw at *;by_cases h1:s.k=1;obtain⟨h0,aQ⟩:=r2 (.inl h1);obtain⟨r,Tg⟩:∃r:Nat,s.dz=r:=⟨s.dz.toNat,by omega⟩;have qQ:r<su.length:=by omega
 have iM:(s.k=1)=True:=eq_true h1;obtain⟨j,v,rfl,KP,jJ⟩:∃j v,SV=.mu j v/\s1[j]?=some (.rows v 1 (jb su))/\ic≠j:=by
  rcases Gf with h|⟨_,h⟩;exact h;rw[h]at qQ;simp at qQ
 rw[if_pos h1,Tg,afC,hg]at go;have go:=go (s1.set j (sO v (su.set r false))) (.mu j v) (by rw[jU (Ne.symm jJ)];exact HK) (A3 KP jJ) (Ma.trans Fr.mu);have L9:s1[ic]?=some (.rows 0 3 [[.mu j v,.int .i64 (cE g),.int .i64 (cX g)]]):=HK;have hb:=sK qQ;simp[qH,oK,zl,qx,iF,iM,Tg,L9,KP,qQ,bD,AV.au,AV.ay,aj,ai,ah];exact go;rw[if_neg h1]at go;by_cases Ke:s.k=2\/s.k=3;rw[if_pos Ke]at go;by_cases h0:0<=s.dz;have aQ:s.dz<su.length:=by
  rcases Ke with h|h;exact(r2 (.inr h)).2;exact r3 h
 obtain⟨r,Tg⟩:∃r:Nat,s.dz=r:=⟨s.dz.toNat,by omega⟩;have qQ:r<su.length:=by omega
 obtain⟨j,v,rfl,KP,jJ⟩:∃j v,SV=.mu j v/\s1[j]?=some (.rows v 1 (jb su))/\ic≠j:=by
  rcases Gf with h|⟨_,h⟩;exact h;rw[h]at qQ;simp at qQ
 rw[if_pos h0,Tg,afC,hg]at go;have go:=go (s1.set j (sO v (su.set r true))) (.mu j v) (by rw[jU (Ne.symm jJ)];exact HK) (A3 KP jJ) (Ma.trans Fr.mu);have L9:s1[ic]?=some (.rows 0 3 [[.mu j v,.int .i64 (cE g),.int .i64 (cX g)]]):=HK;have hb:=sK qQ;rcases Ke with h|h;have SU:(s.k=2)=True:=eq_true h;simp[qH,oK,zl,qx,iF,h1,SU,Tg,L9,KP,qQ,bD,AV.au,AV.ay,aj,ai,ah];exact go;have h2:¬s.k=2:=by omega
 have Gh:(s.k=3)=True:=eq_true h;simp[qH,oK,zl,qx,iF,h1,h2,Gh,Tg,L9,KP,qQ,bD,AV.au,AV.ay,aj,ai,ah];exact go;have h3:s.k=3:=by
  rcases Ke with h|h;exact absurd (r2 (.inr h)).1 h0;exact h
 have h2:¬s.k=2:=by omega
 have Gh:(s.k=3)=True:=eq_true h3;rw[if_neg h0,hg]at go;have go:=go s1 SV HK Gf Ma;simp[qH,oK,zl,qx,iF,h1,h2,Gh,h0];exact go;rw[if_neg Ke]at go;have h2:¬s.k=2:=λh=>Ke (.inl h);have h3:¬s.k=3:=λh=>Ke (.inr h);by_cases h7:s.k=7;have h7':(s.k=7)=True:=eq_true h7;rw[if_pos h7,hg]at go;obtain⟨s2,fJ,YE⟩:=aeN su g 0 s1 ic SV HK Gf hn;have go:W S 0 0 rs Q kk .normal ⟨[(0,.val (.ptr ic 0 0 0)),(1,.val lv),(4,.val (.int .i64 k0))],[[.int .i64 s.k,.str s.nm,.str s.on,.int .i64 s.od,ev,bv,lw,.int .i64 s.a,.int .i64 s.dz]],s2⟩:=by
  rcases YE with⟨j,v,rfl,rfl⟩|⟨rfl,rfl⟩;obtain⟨KP,jJ⟩:s1[j]?=some (sO v su)/\ic≠j:=by
   rcases Gf with⟨j',v',e,h,h'⟩|⟨e,_⟩;cases e;exact⟨h,h'⟩;cases e
  exact go _ (.mu j v) (by rw[jU (Ne.symm jJ)];exact HK) (A3 KP jJ) (Ma.trans Fr.mu);refine go s2 .U HK ?_ Ma;rcases Gf with⟨_,_,e,_⟩|⟨_,rfl⟩;cases e;exact .inr ⟨rfl,rfl⟩
 simp[qH,oK,zl,qx,iF,h1,h2,h3,h7',fJ];exact go;rw[if_neg h7]at go;by_cases h6:s.k=6;have h6':(s.k=6)=True:=eq_true h6;rw[if_pos h6]at go;simp only at go;rw[<-pH,hg]at go;obtain⟨WS,ext,hw1,nR,hw3⟩:=WY aaA Gf hn;have L9:(s1++ext)[ic]?=some (uO SV g):=by rw[aaE aaA];exact HK
 have KP:lO ic (s1++ext) SV su:=by
  rcases Gf with⟨j,v,rfl,h,h'⟩|h;exact .inl ⟨j,v,rfl,by rw[aaE (aab.1 h).1];exact h,h'⟩;exact .inr h
 have hSW:∀i v v',WS=.mu i v->SV≠.mu i v':=λi v v' h e=>by
  obtain⟨hi,_⟩:=hw3 i v h;rcases Gf with⟨j,w,e2,h,_⟩|⟨e2,_⟩;rw[e2]at e;cases e;have:=(aab.1 h).1;omega;rw[e2]at e;cases e
 obtain⟨s3,SV3,fJ,hc3,hj3,Mb⟩:=hB su g (s1++ext) ic SV L9 KP r4 (by omega) hn;rw[hbv]at fJ;generalize hg2:tE g (kB su s.bd).2=g2 at *;have hws:lO ic s3 WS su:=by
  rcases nR with⟨j,v,rfl,h,h'⟩|h;refine .inl ⟨j,v,rfl,?_,h'⟩;rw[Mb.kS j (aab.1 h).1 (Ne.symm h') λv'=>hSW j v v' rfl];exact h;exact .inr h
 have hl3:s1.length<=s3.length:=by have:=Mb.len;simp at this;omega
 have go:=go (s3.set ic (uO WS g2)) WS (jN hc3) (uJ hws) (by
  refine Ma.trans ⟨by simpa using hl3,λi hi jJ hv=>?_,λi v h=>.inr (by obtain⟨h1,_⟩:=hw3 i v h;omega)⟩;rw[jU (Ne.symm jJ),Mb.kS i (by simp;omega) jJ hv,aaE hi])
 obtain⟨wv,wc,wl⟩:=pM hws;obtain⟨vv,vc,_⟩:=pM Gf;have aaB:s1[ic]?=some (.rows 0 3 [[SV,.int .i64 (cE g),.int .i64 (cX g)]]):=HK;have aaC:s3[ic]?=some (.rows 0 3 [[SV3,.int .i64 (cE g2),.int .i64 (cX g2)]]):=hc3;have Bs:∀x,s3.set ic (.rows 0 3 [[x,.int .i64 (cE g2),.int .i64 (cX g2)]])=s3.set ic (uO x g2):=λx=>rfl;generalize s1++ext=s2 at *;simp[qH,oK,zl,qx,iF,h1,h2,h3,h7,h6',aaB,vv,wc,wl,hw1,fJ,b2,aaC,bD,aj];exact go;rw[if_neg h6]at go;by_cases h5:s.k=5;have h5':(s.k=5)=True:=eq_true h5;rw[if_pos h5]at go;simp only at go;rw[<-pH,<-pH,hg]at go;obtain⟨WS,ext,hw1,nR,hw3⟩:=WY aaA Gf hn;have L9:(s1++ext)[ic]?=some (uO SV g):=by rw[aaE aaA];exact HK
 have KP:lO ic (s1++ext) SV su:=by
  rcases Gf with⟨j,v,rfl,h,h'⟩|h;exact .inl ⟨j,v,rfl,by rw[aaE (aab.1 h).1];exact h,h'⟩;exact .inr h
 have hSW:∀i v v',WS=.mu i v->SV≠.mu i v':=λi v v' h e=>by
  obtain⟨hi,_⟩:=hw3 i v h;rcases Gf with⟨j,w,e2,h,_⟩|⟨e2,_⟩;rw[e2]at e;cases e;have:=(aab.1 h).1;omega;rw[e2]at e;cases e
 obtain⟨s3,SV3,fJ,hc3,hj3,Mb⟩:=hB su g (s1++ext) ic SV L9 KP r4 (by omega) hn;rw[hbv]at fJ;generalize hg2:tE g (kB su s.bd).2=g2 at *;have hws:lO ic s3 WS su:=by
  rcases nR with⟨j,v,rfl,h,h'⟩|h;refine .inl ⟨j,v,rfl,?_,h'⟩;rw[Mb.kS j (aab.1 h).1 (Ne.symm h') λv'=>hSW j v v' rfl];exact h;exact .inr h
 have hl3:s1.length<=s3.length:=by have:=Mb.len;simp at this;omega
 have aof:Fr ic st SV (s3.set ic (uO WS g2)) WS:=by
  refine Ma.trans ⟨by simpa using hl3,λi hi jJ hv=>?_,λi v h=>.inr (by obtain⟨h1,_⟩:=hw3 i v h;omega)⟩;rw[jU (Ne.symm jJ),Mb.kS i (by simp;omega) jJ hv,aaE hi]
 obtain⟨wH,SV5,Oh,hc5,hj5,aeQ⟩:=hL su g2 (s3.set ic (uO WS g2)) ic WS (jN hc3) (uJ hws) r5 (by omega) hn;rw[DZ]at Oh;generalize hg3:tE g2 (kB su s.el).2=g3 at *;have mw:∀i v v',SV3=.mu i v->WS≠.mu i v':=λi v v' h e=>by
  obtain⟨hi,DS⟩:=hw3 i v' e;rcases Mb.jz i v h with⟨w,e2⟩|hl;exact hSW i v' w e e2;omega
 have aoh:lO ic wH SV3 (kB su s.bd).1:=by
  rcases hj3 with⟨j,v,rfl,h,h'⟩|h;refine .inl ⟨j,v,rfl,?_,h'⟩;rw[aeQ.kS j (by simpa using (aab.1 h).1) (Ne.symm h') λv'=>mw j v v' rfl,jU h'];exact h;exact .inr h
 have nC:∀i v v',SV5=.mu i v->SV3≠.mu i v':=λi v v' h e=>by
  rcases aeQ.jz i v h with⟨w,e2⟩|hl;exact mw i v' w e e2;rcases hj3 with⟨j,w,e2,h2,_⟩|⟨e2,_⟩;rw[e2]at e;cases e;have:=(aab.1 h2).1;simp at hl;omega;rw[e2]at e;cases e
 have hAl:(kB su s.bd).1.length=su.length:=xG _ _;have hBl:(kB su s.el).1.length=su.length:=xG _ _;generalize (kB su s.bd).1=A at *;generalize (kB su s.el).1=B at *;obtain⟨wv,wc,wl⟩:=pM hws;obtain⟨vv,vc,_⟩:=pM Gf;obtain⟨v3,c3,_⟩:=pM hj3;have aaB:s1[ic]?=some (.rows 0 3 [[SV,.int .i64 (cE g),.int .i64 (cX g)]]):=HK;have aaC:s3[ic]?=some (.rows 0 3 [[SV3,.int .i64 (cE g2),.int .i64 (cX g2)]]):=hc3;have Bs:s3.set ic (.rows 0 3 [[WS,.int .i64 (cE g2),.int .i64 (cX g2)]])=s3.set ic (uO WS g2):=rfl;generalize s1++ext=s2 at *;generalize s3.set ic (uO WS g2)=s4 at *;have Y2:Fr ic st SV wH SV5:=aof.trans aeQ;by_cases hs0:su.length=0;have hA:A=[]:=abJ (by omega);have hBn:B=[]:=abJ (by omega);subst hA hBn;have go:=go wH SV5 hc5 (by simpa using hj5) Y2;have hlen:qb wH .sl SV5=some 0:=by
  rcases hj5 with⟨j,v,rfl,h,_⟩|⟨rfl,_⟩;have h:wH[j]?=some (.rows v 1 []):=h;simp[h];simp
 obtain⟨v5,c5,_⟩:=pM hj5;have aoi:wH[ic]?=some (.rows 0 3 [[SV5,.int .i64 (cE g3),.int .i64 (cX g3)]]):=hc5;have zN:∀wl aa bx,aU wl aa (.len .sl) [.val SV5] wH bx=some (.val (.int .i64 0),wH,bx):=λwl aa bx=>by rw[abv,hlen];rfl
 simp[qH,oK,zl,qx,iF,h1,h2,h3,h7,h6,h5',aaB,vv,v3,wc,wl,hw1,fJ,Oh,b2,l2,aaC,Bs,bD,aj];rw[vq Nx.eq_1];simp[-abv,-Zh,aoi,v5,zN];exact go;obtain⟨j5,w5,rfl,aeS,ajn⟩:∃j v,SV5=.mu j v/\wH[j]?=some (.rows v 1 (jb B))/\ic≠j:=by
  rcases hj5 with h|⟨_,h⟩;exact h;rw[h]at hBl;simp at hBl;omega
 obtain⟨j3,w3,rfl,aoj,ar0⟩:∃j v,SV3=.mu j v/\wH[j]?=some (.rows v 1 (jb A))/\ic≠j:=by
  rcases aoh with h|⟨_,h⟩;exact h;rw[h]at hAl;simp at hAl;omega
 have aok:j5≠j3:=λe=>nC j5 w5 w3 rfl (by rw[e]);have hcS:∀o,(wH.set j5 o)[ic]?=some (.rows 0 3 [[.mu j5 w5,.int .i64 (cE g3),.int .i64 (cX g3)]]):=λo=>by rw[jU (Ne.symm ajn)];exact hc5
 have hAS:∀o,(wH.set j5 o)[j3]?=some (.rows w3 1 (jb A)):=λo=>by rw[jU aok];exact aoj
 have hBS:∀sk:List Bool,(wH.set j5 (sO w5 sk))[j5]?=some (.rows w5 1 (jb sk)):=λsk=>jN aeS;have BR:∀(a b:dK),(wH.set j5 a).set j5 b=wH.set j5 b:=λa b=>by rw[ai2]
 have aol:(ab8 (λa b=>a&&b) A B).length=su.length:=by simp[hAl,hBl]
 have go:=go (wH.set j5 (sO w5 (ab8 (λa b=>a&&b) A B))) (.mu j5 w5) (hcS _) (A3 aeS ajn) (Y2.trans Fr.mu);simp[qH,oK,zl,qx,iF,h1,h2,h3,h7,h6,h5',aaB,vv,wc,wl,hw1,fJ,Oh,b2,l2,aaC,Bs,bD,aj];refine aT Nx.eq_1 (λk:Nat=>⟨[(0,.val (.ptr ic 0 0 0)),(1,.val lv),(4,.val (.int .i64 k0)),(9,.val (.mu j3 w3)),(10,.val (.int .i64 k))],[[.int .i64 s.k,.str s.nm,.str s.on,.int .i64 s.od,ev,bv,lw,.int .i64 s.a,.int .i64 s.dz]],wH.set j5 (sO w5 ((ab8 (λa b=>a&&b) A B).take k++B.drop k))⟩)
  (λk=>k<=su.length) (λk=>su.length-k) 0 (by simp[jK aeS]) (by simp) ?_
 intro k hk ih;have hl:((ab8 (λa b=>a&&b) A B).take k++B.drop k).length=su.length:=by simp;omega
 have a1:=hcS (sO w5 ((ab8 (λa b=>a&&b) A B).take k++B.drop k));have a2:=hAS (sO w5 ((ab8 (λa b=>a&&b) A B).take k++B.drop k));have a3:=hBS ((ab8 (λa b=>a&&b) A B).take k++B.drop k);by_cases aQ:k<su.length;have hw:=wk k (by omega);have cL:k<((ab8 (λa b=>a&&b) A B).take k++B.drop k).length:=by omega
 have hlA:k<A.length:=by omega
 have hlB:k<B.length:=by omega
 have WZ:=aaz hlA hlB cL;have hn:=Sh hlA hlB;have bA:=sK hlA;have bS:=sK cL;rw[WZ]at bS;have fA:=ih (k+1) (by omega) (by omega);have a4:(wH.set j5 (sO w5 ((ab8 (λa b=>a&&b) A B).take k++B.drop k))).set j5 (.rows w5 1 (jb ((ab8 (λa b=>a&&b) A B).take (k+1)++B.drop (k+1))))=wH.set j5 (sO w5 ((ab8 (λa b=>a&&b) A B).take (k+1)++B.drop (k+1))):=BR _ _;generalize (ab8 (λa b=>a&&b) A B).take (k+1)++B.drop (k+1)=sk' at *;generalize (ab8 (λa b=>a&&b) A B).take k++B.drop k=sk at *;generalize wH.set j5 (sO w5 sk)=wH at *;cases hBk:B[k] with
 |true=>
  rw[hBk]at hn bS WZ;rw[Bool.and_true]at hn;simp[aQ,hw,a1,a2,a3,hl,hlA,WZ,hn,a4,bD,AV.au,AV.ay,aj,ai,ah];exact fA
 |false=>
  rw[hBk]at hn bS WZ;rw[Bool.and_false]at hn;simp[aQ,hw,a1,a3,hl,WZ,hn,a4,bD,AV.au,AV.ay,aj,ai,ah];exact fA
 have cL:k=su.length:=by omega
 have WX:(ab8 (λa b=>a&&b) A B).take k++B.drop k=ab8 (λa b=>a&&b) A B:=by
  rw[cL,<-hBl,abp,abO,hBl,<-aol,List.take_length]
 rw[WX]at a1 a2 a3 hl ⊢;generalize wH.set j5 (sO w5 (ab8 (λa b=>a&&b) A B))=wH at *;simp[aQ,a1,a3,hl];exact go;rw[if_neg h5,hg]at go;have go:=go s1 SV HK Gf Ma;simp[qH,oK,zl,qx,iF,h1,h2,h3,h5,h6,h7];exact go
theorem ab2(s:Sm):S0 s.bd/\S0 s.el:=by
 induction s using Sm.zY with
 |_ s vQ rO=>exact⟨JJ s.bd λx hx=>tr x (vQ x hx).1 (vQ x hx).2,JJ s.el λx hx=>tr x (rO x hx).1 (rO x hx).2⟩
theorem aaD(l:List Sm):S0 l:=JJ l λs _=>tr s (ab2 s).1 (ab2 s).2
end S9
namespace S9
open Ax Go aF V7 jw jX K9
open N7 U7 in
theorem W3(wl aa:Nat)(p:Pg)(st:ag)(hg:(kO p).ok)(pP:GD.sm (kO p))(fM:∀f∈p.funcs,f.params.length+Sm.eH f.body<1000000000)
  (uy:∀bs,ue (aW p) (aW p).sigs p.funcs=.ok bs->∀b∈bs,Sm.eH b.code<1000000000/\b.vars.length<1000000000) :
  (aP S).call wl aa 41 [.agg p.row] st=some (Fp (AR p),st):=by
 have ec:=λwl aa st=>R9.L7 wl aa p st hg pP fM;have Ub:p.funcs.length<1000000000:=by have:=pP.funcs;rw[rA,List.length_map]at this;exact this
 refine aH (sf:=s41) rfl rfl (by simp[Pg.row,AV.au,AV.ay]) rfl (by simp[Fp,AV.ay,AV.au]) ?_;unfold sJ at ec;unfold AR;have r1:aL (aB 3 (p.aD.map Rc.row))=true:=bq;have r2:(aB 3 (p.aD.map Rc.row)).view=aB 3 (p.aD.map Rc.row):=bC;have f1:aL (aB 7 (p.funcs.map Fc.row))=true:=bq;have f2:(aB 7 (p.funcs.map Fc.row)).view=aB 7 (p.funcs.map Fc.row):=bC;have g1:aL (aB 4 (p.globals.map PD.cells))=true:=bq;have g2:(aB 4 (p.globals.map PD.cells)).view=aB 4 (p.globals.map PD.cells):=bC;simp only[Pg.row]at ec ⊢;generalize aB 3 (p.aD.map Rc.row)=PR at *;generalize aB 7 (p.funcs.map Fc.row)=PF at *;generalize aB 4 (p.globals.map PD.cells)=PG at *;cases hF:jy (kO p) with
 |some a=>
  rw[hF]at ec;simp only[Fp,cE,cX]at ec ⊢;simp[s41,ec,r1,r2,f1,f2,g1,g2,aj,AV.view]
 |none=>
  rw[hF]at ec;simp only at ec ⊢;cases hR:ue (aW p) (aW p).sigs p.funcs with
  |error a=>
   rw[hR]at ec;simp only[C4,Fp,cE,cX]at ec ⊢;simp[s41,ec,r1,r2,f1,f2,g1,g2,aj,AV.view]
  |ok bs=>
   rw[hR]at ec;simp only[C4,oH,List.cons_append,List.nil_append]at ec ⊢;have aom:=uy bs hR;clear uy;have jB:(aW p).sigs.length=p.funcs.length:=(by simp[aW]);have hbl:=Jp jB hR;have hrefs:=Lx hR;have z1:aL (aB 3 (bs.map Bd.row))=true:=bq;have z2:(aB 3 (bs.map Bd.row)).view=aB 3 (bs.map Bd.row):=bC;have z3:aJ (aB 3 (bs.map Bd.row))=bs.map Bd.row:=aM;have z4:bY 3 (aB 3 (bs.map Bd.row))=true:=kU (by simp[bw,Bd.row]);have a1:aL (aB 2 ((aW p).bL.map gD))=true:=bq;have a2:(aB 2 ((aW p).bL.map gD)).view=aB 2 ((aW p).bL.map gD):=bC;have b1:aL (aB 6 ((aW p).sigs.map Sg.row))=true:=bq;have b2:(aB 6 ((aW p).sigs.map Sg.row)).view=aB 6 ((aW p).sigs.map Sg.row):=bC;have b3:aJ (aB 6 ((aW p).sigs.map Sg.row))=(aW p).sigs.map Sg.row:=aM;have b4:bY 6 (aB 6 ((aW p).sigs.map Sg.row))=true:=kU (by simp[bw,Sg.row]);have c1:aL (cj (aW p).globals)=true:=iL;have c2:(cj (aW p).globals).view=cj (aW p).globals:=mI;generalize aB 2 ((aW p).bL.map gD)=HS at *;generalize aB 6 ((aW p).sigs.map Sg.row)=HG at *;generalize cj (aW p).globals=GL at *;generalize aB 3 (bs.map Bd.row)=BV at *;have Du:∀k:Nat,k<bs.length->k<(aW p).sigs.length:=λk h=>by omega
   have XU:bs.length<1000000000:=(by omega);generalize (aW p).sigs=SS at *;clear hR;simp[s41,ec,r1,r2,f1,f2,g1,g2,z1,z2,a1,a2,b1,b2,c1,c2,aj,AV.view];refine aT UX.eq_1 (λx:Nat×ag=>⟨[(2,.fp 1 0),(3,.fp 2 0),(5,.val (.int .i64 x.1))],[[PR,PG,PF],[.int .i64 0,.int .i64 0],[HS,GL,HG,.int .i64 (me p),BV],[.int .i64 0,.int .i64 0]],x.2⟩)
    (λx=>x.1<=bs.length/\Gj (SS.drop x.1) (bs.drop x.1)=Gj SS bs) (λx=>bs.length-x.1) (0,[]) (by simp) ⟨by simp,by simp⟩ ?_
   rintro⟨k,L8⟩ ⟨hk,hp⟩ ih;simp only at hk hp ih;by_cases aQ:k<bs.length;have hw:=wk k (by omega);have uR:=Du k aQ;rw[RW uR aQ]at hp;obtain⟨q1,q2⟩:=hrefs k uR aQ;obtain⟨q3,q4⟩:=aom _ (aar aQ);have gB':∀h:k<(bs.map Bd.row).length,(bs.map Bd.row)[k]=[cj bs[k].vars,bN bs[k].code,.int .i64 bs[k].a]:=λh=>by simp[Bd.row]
   have MD:∀h:k<(SS.map Sg.row).length,(SS.map Sg.row)[k]=[.str SS[k].nm,cj SS[k].ps,.bool SS[k].bg,.int .i64 SS[k].res.b,.int .i64 SS[k].res.r,.int .i64 SS[k].res.d]:=λh=>by simp[Sg.row]
   have aon:k<(bs.map Bd.row).length:=(by simpa using aQ);have WR:k<(SS.map Sg.row).length:=(by simpa using uR);have aeT:=gB' aon;have Sf:=MD WR;clear gB' MD;have v1:aL (cj bs[k].vars)=true:=iL;have v2:(cj bs[k].vars).view=cj bs[k].vars:=mI;have v3:(aJ (cj bs[k].vars)).length=bs[k].vars.length:=(by simp);have w1:aL (bN bs[k].code)=true:=cZ;have w2:(bN bs[k].code).view=bN bs[k].code:=bz;have p1:aL (cj SS[k].ps)=true:=iL;have p2:(cj SS[k].ps).view=cj SS[k].ps:=mI;have p3:(aJ (cj SS[k].ps)).length=SS[k].ps.length:=(by simp);have tn:(bs[k].vars.length:Int)<=dQ:=(by unfold dQ;omega);have hbc:=aaD bs[k].code;unfold su0 at hp;have Gd:(aaO SS[k].ps.length true++aaO (bs[k].vars.length-SS[k].ps.length) false).length=bs[k].vars.length:=(by simp;omega);obtain⟨bG,FG,fJ,yJ,_,_⟩:=hbc (aaO SS[k].ps.length true++aaO (bs[k].vars.length-SS[k].ps.length) false) none (L8++[sO 0 (aaO SS[k].ps.length true++aaO (bs[k].vars.length-SS[k].ps.length) false),uO (.mu L8.length 0) none]) (L8.length+1) (.mu L8.length 0)
    (by rw[List.getElem?_append_right (by omega)];simp) (.inl ⟨L8.length,0,rfl,by simp,by omega⟩) (by rw[Gd];exact q2) q3 (by rw[Gd];exact q4)
   have ho:∀g:Option Int,tE none g=g:=λg=>rfl;rw[ho]at yJ;generalize pO:bs[k].code=cs at *;generalize hbv:bs[k].vars.length=n at *;generalize hbp:SS[k].ps.length=np at *;generalize hfb:cj bs[k].vars=FV at *;generalize QB:cj SS[k].ps=FP at *;generalize Ya:bN cs=SC at *;generalize bs[k]=bk at *;generalize SS[k]=sk at *;simp[-G9,G9,aQ,aeT,z1,z2,z3,z4,v1,v2,v3,tn,RU,aj,AV.view];refine aT UW.eq_1 (λi:Nat=>⟨[(2,.fp 1 0),(3,.fp 2 0),(5,.val (.int .i64 k)),(6,.val (.ptr (L8.length+1) 0 0 0)),(7,.val (.int .i64 i))],[[PR,PG,PF],[.int .i64 0,.int .i64 0],[HS,GL,HG,.int .i64 (me p),BV],[.int .i64 0,.int .i64 0]],L8++[sO 0 (aaO i true++(aaO n false).drop i),.rows 0 3 [[.mu L8.length 0,.int .i64 0,.int .i64 0]]]⟩)
    (λi=>i<=np) (λi=>np-i) 0 (by simp) (by simp) ?_
   intro i hi rO;by_cases Q2:i<np;have hwi:=wk i (by omega);have M6:i<(aaO n false).length:=(by simp;omega);have hn:=LP M6;have hll:(aaO i true++(aaO n false).drop i).length=n:=(by simp;omega);have hib:i<(aaO i true++(aaO n false).drop i).length:=(by omega);have hb:=sK hib;have aoo:=rO (i+1) (by omega) (by omega);generalize aaO (i+1) true++(aaO n false).drop (i+1)=s2 at *;generalize aaO i true++(aaO n false).drop i=s1 at *;have aop:i<n:=(by omega);simp[Q2,uR,hwi,hll,aop,hn,Sf,b2,b3,b4,p1,p2,p3,bD,AV.au,AV.ay,aj];exact aoo;have Nl:i=np:=(by omega);rw[Nl,aah];generalize aaO np true++aaO (n-np) false=s0 at *;cases Oi:(kB s0 cs).2 with
   |none=>
    rw[Oi]at yJ hp;have hp:Gj (SS.drop (k+1)) (bs.drop (k+1))=Gj SS bs:=hp;have fA:=λo=>ih (k+1,o) ⟨by simp only;omega,hp⟩ (by simp only;omega);simp only at fA;simp only[uO,cE,cX]at fJ yJ;simp[fJ,yJ,hw,uR,Sf,aeT,aQ,b2,b3,b4,p1,p2,p3,z2,z3,z4,w2];exact fA _
   |some a=>
    rw[Oi]at yJ hp;have hp:some a=Gj SS bs:=hp;rw[<-hp];simp only[uO,cE,cX,Fp]at fJ yJ ⊢;simp[fJ,yJ,uR,Sf,aeT,aQ,b2,b3,b4,p1,p2,p3,z2,z3,z4,w2,aj]
   have cL:k=bs.length:=(by omega);rw[cL,abp,Wl]at hp;rw[<-hp];simp[aQ,z1,z2,z3,Fp,cE,cX,aj]
end S9
