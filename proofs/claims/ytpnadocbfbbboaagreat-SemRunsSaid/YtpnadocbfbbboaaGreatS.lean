/- Part of a proof. -/
import Derived.Test.YtpnadocbfbbboaaGreatD

open List renaming getElem?_eq_some_iff->aad,getElem?_set_self->aay,set_set->ady,getElem_mem->aaq,drop_eq_getElem_cons->aaz,drop_length->aaC,take_of_length_le->ab7,getElem?_append_left->aal,getElem?_append_right->aar,set_append_left->ago,set_append_right->aeh,replicate->aak,set_cons_zero->aev,append_assoc->aeF,singleton_append->ag3,append_nil->ac5,length_set->agv,zipWith->acy
open Int renaming toNat_natCast->acL
set_option maxRecDepth 100000
set_option maxHeartbeats 8000000
namespace S9
open Ax Go bY V7 kN lZ K9
variable{st:ay}{i:Nat}
theorem Ym{wl aa id cQ:Nat}{neg:Bool}{bx:bG}:bn wl aa (.NO neg) [.val (.mu id cQ),.val .af] st bx=match st[id]? with
 |some (.rows v _ _)=>if v=cQ then some (.val (.bool neg),st,bx) else none
 |_=>none:=rfl
def cE(f:Option Int):Int:=match f with|some _=>3|none=>0
def cX(f:Option Int):Int:=match f with|some x=>x|none=>0
def cO(f:Option Int):dA:=.rows 0 2 [[.int .i64 (cE f),.int .i64 (cX f)]]
abbrev sO(v:Nat)(su:List Bool):dA:=.rows v 1 (gC su)
theorem gd{o:dA}(h:st[i]?=some o):st.set i o=st:=by
 obtain⟨h1,h2⟩:=aad.1 h;rw[<-h2,List.set_getElem_self]
theorem fQ{o p:dA}(h:st[i]?=some o):(st.set i p)[i]?=some p:=by
 obtain⟨h1,_⟩:=aad.1 h;rw[aay h1]
theorem gp{j:Nat}{p:dA}(h:i≠j):(st.set i p)[j]?=st[j]?:=List.getElem?_set_ne h
theorem jH{su:List Bool}{k:Nat}(h:k<su.length):(gC su)[k]?=some [.bool su[k]]:=by simp[gC,h]
theorem U0(e:E):∀(su:List Bool)(f:Option Int)(aa:Nat)(st:ay)(ic j v:Nat),st[ic]?=some (cO f)->st[j]?=some (sO v su)->ic≠j->AN su.length e->E.sz e<1000000000->
  (aZ S).call 0 aa 96 [.ptr ic 0 0 0,.agg e.aF,.mu j v] st=some (.fK [],st.set ic (cO (lR f (AM su e)))):=by
 induction e using E.Ga with
 |_ e ih=>
  intro su f aa st ic j v hc hj fy hr dM;have vJ:=E.ry e;have fR:=E.eH e.aG;have hz:cJ 11 (aT e.aG)=true:=gn;have cT:aN (aT e.aG)=true:=bz;have eC:(aT e.aG).ai=aT e.aG:=bu;have dh:bt (aT e.aG)=E.rows e.aG:=aW;have qi:(E.rows e.aG).length=e.aG.length:=by simp
  rw[rB]at hr;obtain⟨zY,hr2⟩:=hr;rw[jG]at hr2;rw[OV,E.aE];have F9:ic<st.length:=(aad.1 hc).1;generalize oN:aT e.aG=kv at *;refine aA (sf:=s96) rfl rfl rfl ?_;simp[s96,cT,eC,dh];refine bH TZ.eq_1 (λx:Nat×Option Int×List AV=>⟨[(0,.val (.ptr ic 0 0 0)),(2,.val (.mu j v)),(4,.fp 0 0),(9,.val kv),(10,.val (.int .i64 e.aG.length)),(11,.val (.int .i64 x.1))],[[.int .i64 e.k,.int .i64 e.n,.str e.nm,.str e.on,.int .i64 e.od,kv,.int .i64 e.a,.int .i64 e.ty.b,.int .i64 e.ty.r,.int .i64 e.ty.d,.int .i64 e.ref],x.2.2],st.set ic (cO x.2.1)⟩)
   (λx=>x.1<=e.aG.length/\lR x.2.1 (lX su (e.aG.drop x.1))=lR f (lX su e.aG)) (λx=>e.aG.length-x.1) (0,f,[]) (by simp[gd hc]) ⟨by simp,by simp⟩ ?_
  rintro⟨k,g,b⟩ ⟨hk,hp⟩ LP;simp only at hk hp LP;have z8:(st.set ic (cO g))[ic]?=some (cO g):=fQ hc;have wN:(st.set ic (cO g))[j]?=some (sO v su):=by rw[gp fy];exact hj
  have oF:∀o,(st.set ic (cO g)).set ic o=st.set ic o:=λo=>by rw[ady]
  by_cases bC:k<e.aG.length;have hw:=wk k (by omega);have hm:=aaq bC;have cK:=λaa=>ih _ hm su g aa (st.set ic (cO g)) ic j v z8 wN fy (hr2 _ hm) (by have:=E.fZ hm;omega);rw[aaz bC,yB,<-jd]at hp;have FC:=λb=>LP (k+1,lR g (AM su e.aG[k]),b) ⟨by simp only;omega,hp⟩ (by simp only;omega);simp only at FC;simp only[oF]at cK;have gE:=xT bC;have mY:=λh2=>qM bC h2;have kG:k<(E.rows e.aG).length:=by simpa using bC
  have u7:=mY kG;clear mY;rw[E.aE e.aG[k]]at cK gE u7;have xv:aN (aT e.aG[k].aG)=true:=bz;have xw:(aT e.aG[k].aG).ai=aT e.aG[k].aG:=bu;generalize e.aG[k]=x,st.set ic (cO g)=s1 at *;generalize st.set ic (cO (lR g (AM su x)))=s2 at *;simp[bC,hw,hz,eC,dh,u7,cK,xv,xw,au,AV.ai];exact FC _;have fR:k=e.aG.length:=by omega
  rw[fR,aaC]at hp;simp only[lX,lC]at hp;subst hp;rw[<-jd];clear LP hc;generalize lR f (lX su e.aG)=g at *;have Gm:(st.set ic (cO g)).length=st.length:=by simp
  have Gn:(st.set ic (cO g)).take st.length=st.set ic (cO g):=ab7 (by simp);have FD:(st.set ic (cO g))[ic]?=some (.rows 0 2 [[.int .i64 (cE g),.int .i64 (cX g)]]):=z8;have uR:(st.set ic (cO g))[j]?=some (.rows v 1 (gC su)):=wN;have ht2:∀o,(st.set ic o).take st.length=st.set ic o:=λo=>ab7 (by simp);by_cases h4:e.k=4;by_cases h0:0<=e.ref;have hlr:=zY h4;obtain⟨r,wT⟩:∃r:Nat,e.ref=r:=⟨e.ref.toNat,by omega⟩;have B5:r<su.length:=by omega
  have hb:=jH B5;have hsu:su[r]?=some su[r]:=List.getElem?_eq_getElem B5;have Rx:(gC su).length=su.length:=by simp
  have M8:(e.k=4)=True:=eq_true h4;have hco:(if e.k=4/\0<=e.ref/\su[e.ref.toNat]?=some false then some e.a else none)=(if su[r]=false then some e.a else none):=by rw[wT,acL,hsu];simp[h4]
  rw[hco];rw[wT];cases hx:su[r] with
  |true=>
   rw[hx]at hb;simp only[Bool.true_eq_false,aS,lC];generalize st.set ic (cO g)=s1 at *;simp[bC,M8,B5,uR,hx,Gn]
  |false=>
   rw[hx]at hb;simp only[aQ];cases g with
   |none=>
    simp only[lR,cE,cX]at FD ⊢;have qN:(st.set ic (cO none)).set ic (.rows 0 2 [[.int .i64 3,.int .i64 e.a]])=st.set ic (cO (some e.a)):=oF _;have ht3:=ht2 (cO (some e.a));generalize st.set ic (cO (some e.a))=s2,st.set ic (cO none)=s1 at *;simp[bC,M8,B5,uR,hx,FD,aV,AV.ax,AV.aB,au,qN,ht3]
   |some y=>
    simp only[lR,cE,cX]at FD ⊢;generalize st.set ic (cO (some y))=s1 at *;simp[bC,M8,B5,uR,hx,FD,Gn]
  rw[U (λh=>h0 h.2.1),lC];have M8:(e.k=4)=True:=eq_true h4;generalize st.set ic (cO g)=s1 at *;simp[bC,M8,h0,Gn];rw[U (λh=>h4 h.1),lC];generalize st.set ic (cO g)=s1 at *;simp[bC,h4,Gn]
end S9
namespace S9
open Ax Go bY V7 kN lZ K9
variable{rs:List iW}{P:AV->ay->Prop}
theorem eZ{st:ay}{s:St}:Ye rs Ax.Mode.yK st P .normal s↔∃v,yM s rs=some v/\P v s.st:=by
 simp only[Ye,Kv,Ax.Mode.nu];constructor;rintro⟨r,⟨v,h0,h1⟩,h2⟩;cases h1;exact⟨v,h0,h2⟩;rintro⟨v,h0,h2⟩;exact⟨(v,s.st),⟨v,h0,rfl⟩,h2⟩
theorem ck{st:ay}{v:AV}{s:St}:Ye rs Ax.Mode.yK st P (.ret v) s↔P v s.st:=by
 simp only[Ye,Ku,Ax.Mode.nu];constructor;rintro⟨r,h1,h2⟩;cases h1;exact h2;exact λh=>⟨(v,s.st),rfl,h⟩
theorem CI(su:List Bool):(gC su).map AV.cW=gC su:=by
 simp only[gC,List.map_map];exact List.map_congr_left λ_ _=>rfl
theorem Fy(aa:Nat)(su:List Bool)(st:ay)(j v:Nat)(hj:st[j]?=some (sO v su))(hn:su.length<1000000000) :
  (aZ S).call 0 aa 76 [.mu j v] st=some (.mu st.length 0,st++[sO 0 su]):=by
 have lW:∀aa bx,bn 0 aa (.gu 1 1) [.val .mE,.val (.mu j v)] st bx=some (.val (.mu st.length 0),st++[sO 0 su],bx):=λaa bx=>by
  have hf:cn 1 (gC su)=true:=by simp[cn,gC]
  have hr:su.length<=cN:=by unfold cN;omega
  simp[bn,r9,dx,ff,hj,CI,hf,hr]
 refine aA (sf:=s76) rfl rfl rfl ?_;simp[s76,Ym,hj,lW]
def ag5(s:Sm):Prop:=∀(su:List Bool)(f:Option Int)(aa:Nat)(st:ay)(ic j v:Nat),st[ic]?=some (cO f)->st[j]?=some (sO v su)->ic≠j->C6 su.length s->Sm.sz s<1000000000->su.length<1000000000->
 ∃ext,(aZ S).call 0 aa 77 [.ptr ic 0 0 0,.agg s.aF,.mu j v] st=some (.mu j v,(st.set ic (cO (lR f (oC su s).2))).set j (sO v (oC su s).1)++ext)
def ag6(l:List Sm):Prop:=∀(su:List Bool)(f:Option Int)(aa:Nat)(st:ay)(ic j v:Nat),st[ic]?=some (cO f)->st[j]?=some (sO v su)->ic≠j->pK su.length l->Sm.fY l<1000000000->su.length<1000000000->
 ∃ext,(aZ S).call 0 aa 47 [.ptr ic 0 0 0,bp l,.mu j v] st=some (.mu st.length 0,st.set ic (cO (lR f (iH su l).2))++sO 0 (iH su l).1::ext)
theorem iL(l:List Sm)(hl:∀s∈l,ag5 s):ag6 l:=by
 intro su f aa st ic j v hc hj fy hr dM hn;have hz:cJ 9 (bp l)=true:=wz;have cT:aN (bp l)=true:=bL;have eC:(bp l).ai=bp l:=bq;have dh:bt (bp l)=Sm.rows l:=aW;have hlen:=Sm.eH l;have F9:ic<st.length:=(aad.1 hc).1;have ecl:=λaa=>Fy aa su st j v hj hn;rw[oD]at hr;have acI:ic≠st.length:=by omega
 obtain⟨v',st',h1,rfl,ext,rfl⟩:∃v' st',(aZ S).call 0 aa 47 [.ptr ic 0 0 0,bp l,.mu j v] st=some (v',st')/\v'=.mu st.length 0/\∃ext,st'=st.set ic (cO (lR f (iH su l).2))++sO 0 (iH su l).1::ext:=by
  refine fP (sf:=s47) rfl rfl rfl ?_;generalize bp l=lv at *;simp[s47,cT,eC,dh,ecl];refine bH Tt.eq_1 (λx:Nat×List Bool×Option Int×ay×List AV=>⟨[(0,.val (.ptr ic 0 0 0)),(2,.val (.mu st.length 0)),(11,.val lv),(12,.val (.int .i64 l.length)),(13,.val (.int .i64 x.1))],[x.2.2.2.2],st.set ic (cO x.2.2.1)++sO 0 x.2.1::x.2.2.2.1⟩)
   (λx=>x.1<=l.length/\x.2.1.length=su.length/\lR x.2.2.1 (iH x.2.1 (l.drop x.1)).2=lR f (iH su l).2/\(iH x.2.1 (l.drop x.1)).1=(iH su l).1) (λx=>l.length-x.1) (0,su,f,[],[]) (by simp[gd hc]) ⟨by simp,rfl,by simp,by simp⟩ ?_
  rintro⟨k,sk,g,ext,b⟩ ⟨hk,Yn,hp,hq⟩ ih;simp only at hk Yn hp hq ih;by_cases bC:k<l.length;have hw:=wk k (by omega);have hm:=aaq bC;have z8:(st.set ic (cO g)++sO 0 sk::ext)[ic]?=some (cO g):=by
   rw[aal (by simpa using F9)];exact fQ hc
  have wN:(st.set ic (cO g)++sO 0 sk::ext)[st.length]?=some (sO 0 sk):=by
   rw[aar (by simp)];simp
  have hup:∀g' s',((st.set ic (cO g)++sO 0 sk::ext).set ic (cO g')).set st.length (sO 0 s')=st.set ic (cO g')++sO 0 s'::ext:=λg' s'=>by
   rw[ago _ _ (by simpa using F9),ady,aeh _ _ (by simp)];simp
  obtain⟨zP,cK⟩:=hl _ hm sk g aa _ ic st.length 0 z8 wN acI (by rw[Yn];exact hr _ hm) (by have:=Sm.fZ hm;omega) (by omega);rw[hup]at cK;rw[aaz bC,HE]at hp hq;simp only at hp hq;rw[<-jd]at hp;have fD:=λb=>ih (k+1,(oC sk l[k]).1,lR g (oC sk l[k]).2,ext++zP,b) ⟨by simp only;omega,by simp only[Fi];exact Yn,hp,hq⟩ (by simp only;omega);simp only at fD;have lW:st.set ic (cO (lR g (oC sk l[k]).2))++sO 0 (oC sk l[k]).1::ext++zP=st.set ic (cO (lR g (oC sk l[k]).2))++sO 0 (oC sk l[k]).1::(ext++zP):=by simp
  rw[lW]at cK;have gE:=zN bC;have kG:k<(Sm.rows l).length:=by simpa using bC
  have mY:=tV bC kG;obtain⟨e1,b1,l1⟩:aN (aT l[k].es)=true/\aN (bp l[k].bd)=true/\aN (bp l[k].el)=true:=⟨bz,bL,bL⟩;have e2:(aT l[k].es).ai=aT l[k].es:=bu;have b2:(bp l[k].bd).ai=bp l[k].bd:=bq;have l2:(bp l[k].el).ai=bp l[k].el:=bq;rw[Sm.aE]at cK gE mY;generalize st.set ic (cO (lR g (oC sk l[k]).2))++sO 0 (oC sk l[k]).1::(ext++zP)=s2,st.set ic (cO g)++sO 0 sk::ext=s1 at *;generalize l[k]=x at *;generalize aT x.es=xe,bp x.bd=xb,bp x.el=xl at *;simp[bC,hw,hz,eC,dh,mY,cK,e1,b1,l1,e2,b2,l2,au,AV.ai];exact fD _;have fR:k=l.length:=by omega
  rw[fR,aaC,KZ]at hp hq;simp only[lC]at hp hq;subst hp hq;simp[bC,ck]
 exact⟨ext,h1⟩
end S9
namespace S9
open Ax Go bY V7 kN lZ K9
theorem fj{s:Sm}:aN (aT s.es)=true/\aN (bp s.bd)=true/\aN (bp s.el)=true:=⟨bz,bL,bL⟩
def g9:bN->bN
 |.seq _ b=>b|x=>x
def sZ:bN:=g9 (g9 KE.body)
theorem ag7(s:Sm)(su:List Bool)(f:Option Int)(aa:Nat)(st:ay)(ic j v:Nat)(hc:st[ic]?=some (cO f))(hj:st[j]?=some (sO v su))(fy:ic≠j)(hr:wm su.length s.es)(dM:E.fY s.es<1000000000){Q:Ex->St->Prop}
  (go:∀b,W S 0 aa KE.results Q [.code sZ] .normal ⟨[(0,.val (.ptr ic 0 0 0)),(2,.val (.mu j v)),(4,.fp 0 0)],[s.aF,b],st.set ic (cO (lR f (lX su s.es)))⟩) :
  W S 0 aa KE.results Q [.code KE.body] .normal (qc KE [.ptr ic 0 0 0,.agg s.aF,.mu j v] st):=by
 have hz:cJ 11 (aT s.es)=true:=gn;have cT:aN (aT s.es)=true:=bz;have eC:(aT s.es).ai=aT s.es:=bu;have dh:bt (aT s.es)=E.rows s.es:=aW;have fR:=E.eH s.es;rw[jG]at hr;have F9:ic<st.length:=(aad.1 hc).1;obtain⟨_,b1,l1⟩:=fj (s:=s);rw[Sm.aE]at *;generalize bp s.bd=bv,bp s.el=lv at *;generalize oN:aT s.es=kv at *;simp[KE,cT,eC,dh,b1,l1];show W S 0 aa KE.results Q [.code (.loop MJ),.jB 0,.code sZ] .normal _;generalize sZ=T at *;refine bH MJ.eq_1 (λx:Nat×Option Int×List AV=>⟨[(0,.val (.ptr ic 0 0 0)),(2,.val (.mu j v)),(4,.fp 0 0),(14,.val kv),(15,.val (.int .i64 s.es.length)),(16,.val (.int .i64 x.1))],[[.int .i64 s.k,.str s.nm,.str s.on,.int .i64 s.od,kv,bv,lv,.int .i64 s.a,.int .i64 s.ref],x.2.2],st.set ic (cO x.2.1)⟩)
  (λx=>x.1<=s.es.length/\lR x.2.1 (lX su (s.es.drop x.1))=lR f (lX su s.es)) (λx=>s.es.length-x.1) (0,f,[]) (by simp[gd hc]) ⟨by simp,by simp⟩ ?_
 rintro⟨k,g,b⟩ ⟨hk,hp⟩ LP;simp only at hk hp LP;have z8:(st.set ic (cO g))[ic]?=some (cO g):=fQ hc;have wN:(st.set ic (cO g))[j]?=some (sO v su):=by rw[gp fy];exact hj
 have oF:∀o,(st.set ic (cO g)).set ic o=st.set ic o:=λo=>by rw[ady]
 by_cases bC:k<s.es.length;have hw:=wk k (by omega);have hm:=aaq bC;have cK:=λaa=>U0 s.es[k] su g aa (st.set ic (cO g)) ic j v z8 wN fy (hr _ hm) (by have:=E.fZ hm;omega);rw[aaz bC,yB,<-jd]at hp;have FC:=λb=>LP (k+1,lR g (AM su s.es[k]),b) ⟨by simp only;omega,hp⟩ (by simp only;omega);simp only at FC;simp only[oF]at cK;have gE:=xT bC;have kG:k<(E.rows s.es).length:=by simpa using bC
 have u7:=qM bC kG;rw[E.aE s.es[k]]at cK gE u7;have xv:aN (aT s.es[k].aG)=true:=bz;have xw:(aT s.es[k].aG).ai=aT s.es[k].aG:=bu;generalize s.es[k]=x,st.set ic (cO g)=s1 at *;generalize st.set ic (cO (lR g (AM su x)))=s2 at *;simp[bC,hw,hz,eC,dh,u7,cK,xv,xw,au,AV.ai];exact FC _;have fR:k=s.es.length:=by omega
 rw[fR,aaC]at hp;simp only[lX,lC]at hp;subst hp;have go:=go b;simp[bC];exact go
theorem A7{su:List Bool}{k:Nat}(h:k<su.length):(aak k true++su.drop k).set k true=aak (k+1) true++su.drop (k+1):=by
 rw[aaz h,aeh _ _ (by simp)];simp only[List.length_replicate,Nat.sub_self,aev,List.replicate_succ',aeF,ag3]
theorem mO(s:Sm):ag5 s:=by
 induction s using Sm.Ga with
 |_ s Gb Bq=>
  intro su f aa st ic j v hc hj fy hr dM hn;have hz:=Sm.mX s;obtain⟨r1,r2,r3,r4,r5⟩:=(rC _ _).1 hr;have F9:ic<st.length:=(aad.1 hc).1;have z6:j<st.length:=(aad.1 hj).1;obtain⟨e1,b1,l1⟩:=fj (s:=s);have b2:(bp s.bd).ai=bp s.bd:=bq;have l2:(bp s.el).ai=bp s.el:=bq;have hB:=iL s.bd Gb;have hL:=iL s.el Bq
  suffices hx:∃v' st',(aZ S).call 0 aa 77 [.ptr ic 0 0 0,.agg s.aF,.mu j v] st=some (v',st')/\v'=.mu j v/\∃ext,st'=(st.set ic (cO (lR f (oC su s).2))).set j (sO v (oC su s).1)++ext by
   obtain⟨v',st',h1,rfl,ext,rfl⟩:=hx;exact⟨ext,h1⟩
  refine fP (sf:=KE) rfl rfl rfl (ag7 s su f _ st ic j v hc hj fy r1 (by omega) λb=>?_);rw[OW,Sm.aE];generalize hg:lR f (lX su s.es)=g at *;have z8:(st.set ic (cO g))[ic]?=some (cO g):=fQ hc;have wN:(st.set ic (cO g))[j]?=some (.rows v 1 (gC su)):=by rw[gp fy];exact hj
  have hj0:(st.set ic (cO g)).set j (sO v su)=st.set ic (cO g):=gd wN;generalize aT s.es=ev at *;generalize hbv:bp s.bd=bv at *;generalize Bo:bp s.el=lv at *;by_cases h1:s.k=1;obtain⟨h0,bC⟩:=r2 (.inl h1);obtain⟨r,wT⟩:∃r:Nat,s.ref=r:=⟨s.ref.toNat,by omega⟩;have qi:r<su.length:=by omega
  have h1':(s.k=1)=True:=eq_true h1;have hb:=jH qi;rw[ah h1,wT,acL];simp only;rw[hg];generalize st.set ic (cO g)=s1 at *;simp[sZ,g9,KE,h1',wN,qi,aV,AV.ax,AV.aB,au,ck];rw[U h1];by_cases DF:s.k=2\/s.k=3;rw[ah DF];by_cases h0:0<=s.ref;have bC:s.ref<su.length:=by
   rcases DF with h|h;exact(r2 (.inr h)).2;exact r3 h
  obtain⟨r,wT⟩:∃r:Nat,s.ref=r:=⟨s.ref.toNat,by omega⟩;have qi:r<su.length:=by omega
  have hb:=jH qi;rw[ah h0,wT,acL];simp only;rw[hg];generalize st.set ic (cO g)=s1 at *;rcases DF with h|h;have OK:(s.k=2)=True:=eq_true h;simp[sZ,g9,KE,h1,OK,wN,qi,aV,AV.ax,AV.aB,au,ck];have h2:¬s.k=2:=by omega
  have LO:(s.k=3)=True:=eq_true h;simp[sZ,g9,KE,h1,h2,LO,wN,qi,aV,AV.ax,AV.aB,au,ck];have h3:s.k=3:=by
   rcases DF with h|h;exact aU (r2 (.inr h)).1 h0;exact h
  have h2:¬s.k=2:=by omega
  have LO:(s.k=3)=True:=eq_true h3;rw[U h0];simp only;rw[hg,hj0];generalize st.set ic (cO g)=s1 at *;simp[sZ,g9,KE,h1,h2,LO,h0,ck];rw[U DF];have h2:¬s.k=2:=λh=>DF (.inl h);have h3:¬s.k=3:=λh=>DF (.inr h);by_cases h7:s.k=7;have h7':(s.k=7)=True:=eq_true h7;rw[ah h7];simp only;rw[hg];have uh:∀sk:List Bool,((st.set ic (cO g)).set j (sO v sk))[j]?=some (.rows v 1 (gC sk)):=λsk=>fQ wN;have oF:∀(a b:dA),((st.set ic (cO g)).set j a).set j b=(st.set ic (cO g)).set j b:=λa b=>by rw[ady]
  generalize st.set ic (cO g)=s1 at *;simp[sZ,g9,KE,h1,h2,h3,h7',wN];refine bH TR.eq_1 (λk:Nat=>⟨[(2,.val (.mu j v)),(46,.val (.int .i64 su.length)),(47,.val (.int .i64 k))],[[.int .i64 s.k,.str s.nm,.str s.on,.int .i64 s.od,ev,bv,lv,.int .i64 s.a,.int .i64 s.ref],b],s1.set j (sO v (aak k true++su.drop k))⟩)
   (λk=>k<=su.length) (λk=>su.length-k) 0 (by simp[hj0]) (by simp) ?_
  intro k hk ih;by_cases bC:k<su.length;have hw:=wk k (by omega);have hl:(aak k true++su.drop k).length=su.length:=by simp;omega
  have fR:k<(aak k true++su.drop k).length:=by omega
  have hb:=jH fR;have hh:=uh (aak k true++su.drop k);have hn:=A7 bC;have fD:=ih (k+1) (by omega) (by omega);have hup:(s1.set j (sO v (aak k true++su.drop k))).set j (.rows v 1 (gC (aak (k+1) true++su.drop (k+1))))=s1.set j (sO v (aak (k+1) true++su.drop (k+1))):=oF _ _;generalize aak (k+1) true++su.drop (k+1)=sk',aak k true++su.drop k=sk at *;generalize s1.set j (sO v sk)=s2 at *;simp[bC,hw,hh,hl,hn,hup,aV,AV.ax,AV.aB,au];exact fD;have fR:k=su.length:=by omega
  have qN:aak k true++su.drop k=su.map λ_=>true:=by
   rw[fR,aaC,ac5,List.map_const']
  rw[qN];simp[bC,ck];rw[U h7];by_cases h6:s.k=6;have h6':(s.k=6)=True:=eq_true h6;rw[ah h6];simp only;rw[<-jd,hg];obtain⟨ext,cK⟩:=hB su g aa (st.set ic (cO g)) ic j v z8 wN fy r4 (by omega) hn;rw[hbv,ady,agv]at cK;have qN:(st.set ic (cO (lR g (iH su s.bd).2))).set j (sO v su)=st.set ic (cO (lR g (iH su s.bd).2)):=gd (by rw[gp fy];exact hj);rw[qN];generalize st.set ic (cO (lR g (iH su s.bd).2))=s2,st.set ic (cO g)=s1 at *;simp[sZ,g9,KE,h1,h2,h3,h7,h6',cK,b2,ck];rw[U h6];by_cases h5:s.k=5;have h5':(s.k=5)=True:=eq_true h5;rw[ah h5];simp only;rw[<-jd,<-jd,hg];obtain⟨ext,cK⟩:=hB su g aa (st.set ic (cO g)) ic j v z8 wN fy r4 (by omega) hn;rw[hbv,ady,agv]at cK;generalize hA:(iH su s.bd).1=A at *;generalize Gu:lR g (iH su s.bd).2=g2 at *;have hAl:A.length=su.length:=by rw[<-hA,sS]
  have hBl:(iH su s.el).1.length=su.length:=sS _ _;have FD:(st.set ic (cO g2)++sO 0 A::ext)[ic]?=some (cO g2):=by
   rw[aal (by simpa using F9)];exact fQ hc
  have uR:(st.set ic (cO g2)++sO 0 A::ext)[j]?=some (sO v su):=by
   rw[aal (by simpa using z6),gp fy];exact hj
  obtain⟨zP,FE⟩:=hL su g2 aa _ ic j v FD uR fy r5 (by omega) hn;rw[Bo]at FE;generalize hBB:(iH su s.el).1=B at *;generalize hg3:lR g2 (iH su s.el).2=g3 at *;have aha:(st.set ic (cO g2)++sO 0 A::ext).set ic (cO g3)=st.set ic (cO g3)++sO 0 A::ext:=by
   rw[ago _ _ (by simpa using F9),ady]
  rw[aha]at FE;have hT:st.set ic (cO g3)++sO 0 A::ext++sO 0 B::zP=st.set ic (cO g3)++(sO 0 A::ext++sO 0 B::zP):=by simp
  rw[hT]at FE;have hka:st.length≠j:=by omega
  have hkb:(st.set ic (cO g2)++sO 0 A::ext).length≠j:=by simp;omega
  have gA:∀sk,((st.set ic (cO g3)).set j (sO v sk)++(sO 0 A::ext++sO 0 B::zP))[st.length]?=some (.rows 0 1 (gC A)):=λsk=>by
   rw[aar (by simp)];simp
  have gB:∀sk,((st.set ic (cO g3)).set j (sO v sk)++(sO 0 A::ext++sO 0 B::zP))[(st.set ic (cO g2)++sO 0 A::ext).length]?=some (.rows 0 1 (gC B)):=λsk=>by
   rw[aar (by simp),aar (by simp)];simp
  have gJ:∀sk,((st.set ic (cO g3)).set j (sO v sk)++(sO 0 A::ext++sO 0 B::zP))[j]?=some (.rows v 1 (gC sk)):=λsk=>by
   rw[aal (by simpa using z6),aay (by simpa using z6)]
  have gS:∀sk sk',((st.set ic (cO g3)).set j (sO v sk)++(sO 0 A::ext++sO 0 B::zP)).set j (.rows v 1 (gC sk'))=(st.set ic (cO g3)).set j (sO v sk')++(sO 0 A::ext++sO 0 B::zP):=λsk sk'=>by
   rw[ago _ _ (by simpa using z6),ady]
  have g0:st.set ic (cO g3)++(sO 0 A::ext++sO 0 B::zP)=(st.set ic (cO g3)).set j (sO v su)++(sO 0 A::ext++sO 0 B::zP):=by
   rw[gd (show (st.set ic (cO g3))[j]?=some (sO v su) by rw[gp fy];exact hj)]
  rw[g0]at FE;have hJ0:=gJ su;generalize (st.set ic (cO g2)++sO 0 A::ext).length=kb at *;generalize hEX:sO 0 A::ext++sO 0 B::zP=EX at *;generalize st.set ic (cO g2)++sO 0 A::ext=s2 at *;generalize st.set ic (cO g)=s1 at *;generalize st.set ic (cO g3)=s3,st.length=ka at *;have U1:∀k (h:k<su.length) (h1:k<A.length) (h2:k<B.length),((acy (λa b=>a&&b) A B).take k++su.drop k).set k (A[k]&&B[k])=(acy (λa b=>a&&b) A B).take (k+1)++su.drop (k+1):=λk h h1 h2=>by
   rw[aaz h,aeh _ _ (by simp;omega),List.take_succ_eq_append_getElem (by simp;omega)];have:k-((acy (λa b=>a&&b) A B).take k).length=0:=by simp;omega
   rw[this];simp only[aev,List.getElem_zipWith,aeF,ag3]
  have acM:(acy (λa b=>a&&b) A B).length=su.length:=by simp[hAl,hBl]
  generalize hZ:acy (λa b=>a&&b) A B=Z at *;simp[sZ,g9,KE,h1,h2,h3,h7,h6,h5',cK,FE,b2,l2,hJ0,aD,aC];refine bH TS.eq_1 (λk:Nat=>⟨[(2,.val (.mu j v)),(10,.val (.mu ka 0)),(11,.val (.mu kb 0)),(74,.val (.int .i64 su.length)),(75,.val (.int .i64 k))],[[.int .i64 s.k,.str s.nm,.str s.on,.int .i64 s.od,ev,bv,lv,.int .i64 s.a,.int .i64 s.ref],b],s3.set j (sO v (Z.take k++su.drop k))++EX⟩)
   (λk=>k<=su.length) (λk=>su.length-k) 0 (by simp) (by simp) ?_
  intro k hk ih;by_cases bC:k<su.length;have hw:=wk k (by omega);have hl:(Z.take k++su.drop k).length=su.length:=by simp;omega
  have fR:k<(Z.take k++su.drop k).length:=by omega
  have Nq:k<A.length:=by omega
  have hlB:k<B.length:=by omega
  have hb:=jH fR;have bA:=jH Nq;have bB:=jH hlB;have a1:=gA (Z.take k++su.drop k);have a2:=gB (Z.take k++su.drop k);have a3:=gJ (Z.take k++su.drop k);have a4:=gS (Z.take k++su.drop k) (Z.take (k+1)++su.drop (k+1));have hn:=U1 k bC Nq hlB;have fD:=ih (k+1) (by omega) (by omega);generalize Z.take (k+1)++su.drop (k+1)=sk',Z.take k++su.drop k=sk at *;generalize s3.set j (sO v sk)++EX=s4 at *;cases hAk:A[k] with
  |true=>
   rw[hAk]at hn bA;rw[Bool.true_and]at hn;simp[bC,hw,a1,a2,a3,hl,Nq,hlB,hAk,hn,a4,aV,AV.ax,AV.aB,au];exact fD
  |false=>
   rw[hAk]at hn bA;rw[Bool.false_and]at hn;simp[bC,hw,a1,a3,hl,Nq,hAk,hn,a4,aV,AV.ax,AV.aB,au];exact fD
  have fR:k=su.length:=by omega
  have qN:Z.take k++su.drop k=Z:=by
   rw[fR,aaC,ac5,<-acM,List.take_length]
  rw[qN];simp[bC,ck];rw[U h5];simp only;rw[hg,hj0];generalize st.set ic (cO g)=s1 at *;simp[sZ,g9,KE,h1,h2,h3,h5,h6,h7,ck]
end S9
namespace S9
open Ax Go bY V7 kN lZ K9
open N7 U7 in
def nQ(p:Pg):Option Int:=match jQ (j7 p) with
 |some a=>some a|none=>match sQ (aM p) (aM p).aY p.funcs with
  |.error a=>some a|.ok bs=>zI (aM p).aY bs
def yT(o:Option Int):AV:=.agg [.int .i64 (cE o),.int .i64 (cX o)]
theorem ahb(l:List Sm):ag6 l:=iL l λs _=>mO s
theorem HL{n:Nat}:aak n [AV.bool false]=gC (aak n false):=by simp[gC]
theorem O5{np n:Nat}:aak np true++(aak n false).drop np=aak np true++aak (n-np) false:=by rw[List.drop_replicate]
theorem DG{H:Hd}:∀{ss:List Sg}{fs:List Fc}{bs:List Bd},ss.length=fs.length->sQ H ss fs=.ok bs->bs.length=fs.length
 |[],[],bs,_,h=>by unfold sQ at h;cases h;rfl|[],_::_,_,h,_=>by simp at h|_::_,[],_,h,_=>by simp at h|s::ss,f::fs,bs,hl,h=>by
  unfold sQ at h;split at h;cases h;split at h;cases h;rename_i l F6;cases h;have:=DG (by simpa using hl) F6;simp[this]
variable{ss:List Sg}
theorem HM{bs:List Bd}{k:Nat}(h:k<ss.length)(h2:k<bs.length):zI (ss.drop k) (bs.drop k)=lR (iH (su0 ss[k] bs[k]) bs[k].code).2 (zI (ss.drop (k+1)) (bs.drop (k+1))):=by
 rw[aaz h,aaz h2];rfl
theorem Lk:zI ss []=none:=by cases ss<;>rfl
open N7 U7 in
theorem Yo(wl aa:Nat)(p:Pg)(st:ay)(hg:(j7 p).ok)(zX:GD.sm (j7 p))(dM:∀f∈p.funcs,f.params.length+Sm.fY f.body<1000000000)
  (uS:∀bs,sQ (aM p) (aM p).aY p.funcs=.ok bs->∀b∈bs,Sm.fY b.code<1000000000/\b.vars.length<1000000000) :
  (aZ S).call wl aa 28 [.agg p.aF] st=some (yT (nQ p),st):=by
 have ec:=λwl aa st=>K9.xX wl aa p st hg zX dM;have Om:p.funcs.length<1000000000:=by have:=zX.funcs;rw[p0,List.length_map]at this;exact this
 refine bT (sf:=s28) rfl rfl (by simp[Pg.aF,AV.ax,AV.aB]) rfl (by simp[yT,AV.aB,AV.ax]) ?_;unfold uB at ec;unfold nQ;have r1:aN (aJ 3 (p.bJ.map Rc.aF))=true:=bI;have r2:(aJ 3 (p.bJ.map Rc.aF)).ai=aJ 3 (p.bJ.map Rc.aF):=bU;have f1:aN (aJ 7 (p.funcs.map Fc.aF))=true:=bI;have f2:(aJ 7 (p.funcs.map Fc.aF)).ai=aJ 7 (p.funcs.map Fc.aF):=bU;have g1:aN (aJ 4 (p.aI.map PD.cells))=true:=bI;have g2:(aJ 4 (p.aI.map PD.cells)).ai=aJ 4 (p.aI.map PD.cells):=bU;simp only[Pg.aF]at ec ⊢;generalize aJ 3 (p.bJ.map Rc.aF)=PR,aJ 7 (p.funcs.map Fc.aF)=PF,aJ 4 (p.aI.map PD.cells)=PG at *;cases hF:jQ (j7 p) with
 |some a=>
  rw[hF]at ec;simp only[yT,cE,cX]at ec ⊢;simp[s28,ec,r1,r2,f1,f2,g1,g2,au,AV.ai]
 |none=>
  rw[hF]at ec;simp only at ec ⊢;cases hR:sQ (aM p) (aM p).aY p.funcs with
  |error a=>
   rw[hR]at ec;simp only[zO,yT,cE,cX]at ec ⊢;simp[s28,ec,r1,r2,f1,f2,g1,g2,au,AV.ai]
  |ok bs=>
   rw[hR]at ec;simp only[zO,nC,List.cons_append,List.nil_append]at ec ⊢;have acN:=uS bs hR;clear uS;have cT:(aM p).aY.length=p.funcs.length:=(by simp[aM]);have Rx:=DG cT hR;have hrefs:=AP hR;have z1:aN (aJ 3 (bs.map Bd.aF))=true:=bI;have z2:(aJ 3 (bs.map Bd.aF)).ai=aJ 3 (bs.map Bd.aF):=bU;have z3:bt (aJ 3 (bs.map Bd.aF))=bs.map Bd.aF:=aW;have z4:cJ 3 (aJ 3 (bs.map Bd.aF))=true:=dQ (by simp[cn,Bd.aF]);have a1:aN (aJ 2 ((aM p).bE.map dz))=true:=bI;have a2:(aJ 2 ((aM p).bE.map dz)).ai=aJ 2 ((aM p).bE.map dz):=bU;have b1:aN (aJ 6 ((aM p).aY.map Sg.aF))=true:=bI;have b2:(aJ 6 ((aM p).aY.map Sg.aF)).ai=aJ 6 ((aM p).aY.map Sg.aF):=bU;have b3:bt (aJ 6 ((aM p).aY.map Sg.aF))=(aM p).aY.map Sg.aF:=aW;have b4:cJ 6 (aJ 6 ((aM p).aY.map Sg.aF))=true:=dQ (by simp[cn,Sg.aF]);have c1:aN (bP (aM p).aI)=true:=dn;have c2:(bP (aM p).aI).ai=bP (aM p).aI:=eA;generalize aJ 2 ((aM p).bE.map dz)=HS,aJ 6 ((aM p).aY.map Sg.aF)=HG,bP (aM p).aI=GL,aJ 3 (bs.map Bd.aF)=BV at *;have JD:∀k:Nat,k<bs.length->k<(aM p).aY.length:=λk h=>by omega
   have Si:bs.length<1000000000:=(by omega);generalize (aM p).aY=SS at *;clear hR;simp[s28,ec,r1,r2,f1,f2,g1,g2,z1,z2,z3,a1,a2,b1,b2,c1,c2,au,AV.ai];refine bH Tl.eq_1 (λx:Nat×ay×List AV=>⟨[(2,.fp 1 0),(3,.fp 2 0),(20,.val BV),(21,.val (.int .i64 bs.length)),(22,.val (.int .i64 x.1))],[[PR,PG,PF],[.int .i64 0,.int .i64 0],[HS,GL,HG,.int .i64 (dX p),BV],[.int .i64 0,.int .i64 0],x.2.2],x.2.1⟩)
    (λx=>x.1<=bs.length/\zI (SS.drop x.1) (bs.drop x.1)=zI SS bs) (λx=>bs.length-x.1) (0,[],[]) (by simp) ⟨by simp,by simp⟩ ?_
   rintro⟨k,CJ,b5⟩ ⟨hk,hp⟩ ih;simp only at hk hp ih;by_cases bC:k<bs.length;have hw:=wk k (by omega);have vJ:=JD k bC;rw[HM vJ bC]at hp;obtain⟨q1,q2⟩:=hrefs k vJ bC;obtain⟨q3,q4⟩:=acN _ (aaq bC);have gB':∀h:k<(bs.map Bd.aF).length,(bs.map Bd.aF)[k]=[bP bs[k].vars,bp bs[k].code,.int .i64 bs[k].a]:=λh=>by simp[Bd.aF]
   have Fu:∀h:k<(SS.map Sg.aF).length,(SS.map Sg.aF)[k]=[.str SS[k].nm,bP SS[k].ps,.bool SS[k].cP,.int .i64 SS[k].cH.b,.int .i64 SS[k].cH.r,.int .i64 SS[k].cH.d]:=λh=>by simp[Sg.aF]
   have acO:k<(bs.map Bd.aF).length:=(by simpa using bC);have FA:k<(SS.map Sg.aF).length:=(by simpa using vJ);have U3:=gB' acO;have FB:=Fu FA;clear gB' Fu;have v1:aN (bP bs[k].vars)=true:=dn;have v2:(bP bs[k].vars).ai=bP bs[k].vars:=eA;have v3:(bt (bP bs[k].vars)).length=bs[k].vars.length:=(by simp);have w1:aN (bp bs[k].code)=true:=bL;have w2:(bp bs[k].code).ai=bp bs[k].code:=bq;have p1:aN (bP SS[k].ps)=true:=dn;have p2:(bP SS[k].ps).ai=bP SS[k].ps:=eA;have p3:(bt (bP SS[k].ps)).length=SS[k].ps.length:=(by simp);have qR:(bs[k].vars.length:Int)<=cN:=(by unfold cN;omega);have hbc:=ahb bs[k].code;unfold su0 at hp;have En:(aak SS[k].ps.length true++aak (bs[k].vars.length-SS[k].ps.length) false).length=bs[k].vars.length:=(by simp;omega);have cK:=λaa=>hbc (aak SS[k].ps.length true++aak (bs[k].vars.length-SS[k].ps.length) false) none aa (CJ++[sO 0 (aak SS[k].ps.length true++aak (bs[k].vars.length-SS[k].ps.length) false),cO none]) (CJ.length+1) CJ.length 0
    (by rw[aar (by omega)];simp) (by simp) (by omega) (by rw[En];exact q2) q3 (by rw[En];exact q4)
   obtain⟨ext,cK⟩:=cK 0;have uh:∀g,(CJ++[sO 0 (aak SS[k].ps.length true++aak (bs[k].vars.length-SS[k].ps.length) false),cO none]).set (CJ.length+1) (cO g)=CJ++[sO 0 (aak SS[k].ps.length true++aak (bs[k].vars.length-SS[k].ps.length) false),cO g]:=λg=>by
    rw[aeh _ _ (by omega)];simp
   rw[uh]at cK;have ho:∀g:Option Int,lR none g=g:=λg=>rfl;rw[ho]at cK;generalize lz:bs[k].code=cs at *;generalize hbv:bs[k].vars.length=n at *;generalize hbp:SS[k].ps.length=np at *;generalize hfb:bP bs[k].vars=FV at *;generalize NU:bP SS[k].ps=FP at *;generalize hsc:bp cs=SC at *;generalize bs[k]=bk,SS[k]=sk at *;simp[-yp,yp,bC,vJ,U3,FB,z2,z3,z4,b2,b3,b4,v1,v2,v3,w1,w2,p1,p2,p3,qR,HL,au,AV.ai];refine bH Tj.eq_1 (λi:Nat=>⟨[(2,.fp 1 0),(3,.fp 2 0),(6,.fp 4 0),(7,.val (.mu CJ.length 0)),(20,.val BV),(21,.val (.int .i64 bs.length)),(22,.val (.int .i64 k)),(38,.val (.int .i64 np)),(39,.val (.int .i64 i))],[[PR,PG,PF],[.int .i64 0,.int .i64 0],[HS,GL,HG,.int .i64 (dX p),BV],[.int .i64 0,.int .i64 0],[FV,SC,.int .i64 bk.a]],CJ++[sO 0 (aak i true++(aak n false).drop i)]⟩)
    (λi=>i<=np) (λi=>np-i) 0 (by simp) (by simp) ?_
   intro i hi Bq;by_cases F9:i<np;have hwi:=wk i (by omega);have JY:i<(aak n false).length:=(by simp;omega);have hn:=A7 JY;have hll:(aak i true++(aak n false).drop i).length=n:=(by simp;omega);have hib:i<(aak i true++(aak n false).drop i).length:=(by omega);have hb:=jH hib;have acP:=Bq (i+1) (by omega) (by omega);generalize aak (i+1) true++(aak n false).drop (i+1)=s2,aak i true++(aak n false).drop i=s1 at *;have acQ:i<n:=(by omega);simp[F9,hwi,hll,acQ,hn,aV,AV.ax,AV.aB,au];exact acP;have Sw:i=np:=(by omega);rw[Sw,O5];generalize aak np true++aak (n-np) false=s0 at *;cases hgv:(iH s0 cs).2 with
   |none=>
    rw[hgv]at cK hp;have hp:zI (SS.drop (k+1)) (bs.drop (k+1))=zI SS bs:=hp;have fD:=λo b5=>ih (k+1,o,b5) ⟨by simp only;omega,hp⟩ (by simp only;omega);simp only at fD;simp only[cO,cE,cX]at cK;simp[cK,hw,w2];exact fD _ _
   |some a=>
    rw[hgv]at cK hp;have hp:some a=zI SS bs:=hp;rw[<-hp];simp only[cO,cE,cX,yT]at cK ⊢;simp[cK,w2,au]
   have fR:k=bs.length:=(by omega);rw[fR,aaC,Lk]at hp;rw[<-hp];simp[bC,yT,cE,cX,au]
end S9
