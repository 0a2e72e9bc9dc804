/-
  Which local may be asked without a value: the program's walk.
-/
import Derived.Test.YtachcambnjecnaaC
import Derived.Test.YtachcambnjecnaaP
import Derived.Test.YtachcambnjecnaaD

set_option maxRecDepth 100000
set_option maxHeartbeats 8000000
namespace S9
open Ax Go cz V7 kL lV K9
theorem VH{wl aa id bX:Nat}{neg:Bool}{st:aj}{bx:aU}:aL wl aa (.K7 neg) [.val (.mu id bX),.val .U] st bx=match st[id]? with
 |some (.rows v _ _)=>if v=bX then some (.val (.bool neg),st,bx) else none
 |_=>none:=rfl
def cE(f:Option Int):Int:=match f with|some _=>3|none=>0
def cX(f:Option Int):Int:=match f with|some x=>x|none=>0
def cO(f:Option Int):fL:=.rows 0 2 [[.int .i64 (cE f),.int .i64 (cX f)]]
abbrev sO(v:Nat)(su:List Bool):fL:=.rows v 1 (ju su)
theorem gv{st:aj}{i:Nat}{o:fL}(h:st[i]?=some o):st.set i o=st:=by
 obtain⟨h1,h2⟩:=List.getElem?_eq_some_iff.1 h
 rw[<-h2,List.set_getElem_self]
theorem kQ{st:aj}{i:Nat}{o p:fL}(h:st[i]?=some o):(st.set i p)[i]?=some p:=by
 obtain⟨h1,_⟩:=List.getElem?_eq_some_iff.1 h
 rw[List.getElem?_set_self h1]
theorem nu{st:aj}{i j:Nat}{p:fL}(h:i≠j):(st.set i p)[j]?=st[j]?:=List.getElem?_set_ne h
theorem nX{su:List Bool}{k:Nat}(h:k<su.length):(ju su)[k]?=some [.bool su[k]]:=by simp[ju,h]
theorem RR(e:E):∀(su:List Bool)(f:Option Int)(aa:Nat)(st:aj)(ic j v:Nat),st[ic]?=some (cO f)->st[j]?=some (sO v su)->ic≠j->Ir su.length e->E.sz e<1000000000->
  (bg S).call 0 aa 60 [.ptr ic 0 0 0,.agg e.row,.mu j v] st=some (.fK [],st.set ic (cO (mT f (xU su e)))):=by
 induction e using E.vp with
 |_ e ih=>
  intro su f aa st ic j v hc hj ku hr eH
  have oy:=E.sK e
  have jq:=E.fF e.az
  have hz:dc 11 (aW e.az)=true:=qX
  have dV:aJ (aW e.az)=true:=bu
  have iL:(aW e.az).view=aW e.az:=bF
  have fH:aZ (aW e.az)=E.rows e.az:=aT
  have rU:(E.rows e.az).length=e.az.length:=by simp
  rw[AX]at hr
  obtain⟨DE,hr2⟩:=hr
  rw[mJ]at hr2
  rw[FM,E.aG]
  have Nb:ic<st.length:=(List.getElem?_eq_some_iff.1 hc).1
  generalize hkv:aW e.az=kv at *
  refine ax (sf:=s60) rfl rfl rfl ?_
  simp[s60,dV,iL,fH]
  refine bM QS.eq_1 (λx:Nat×Option Int×List AV=>⟨[(0,.val (.ptr ic 0 0 0)),(2,.val (.mu j v)),(4,.fp 0 0),(9,.val kv),(10,.val (.int .i64 e.az.length)),(11,.val (.int .i64 x.1))],[[.int .i64 e.k,.int .i64 e.n,.str e.nm,.str e.on,.int .i64 e.od,kv,.int .i64 e.a,.int .i64 e.ty.b,.int .i64 e.ty.r,.int .i64 e.ty.d,.int .i64 e.cN],x.2.2],st.set ic (cO x.2.1)⟩)
   (λx=>x.1<=e.az.length/\mT x.2.1 (lq su (e.az.drop x.1))=mT f (lq su e.az)) (λx=>e.az.length-x.1) (0,f,[]) (by simp[gv hc]) ⟨by simp,by simp⟩ ?_
  rintro⟨k,g,b⟩ ⟨hk,hp⟩ NN
  simp only at hk hp NN
  have NY:(st.set ic (cO g))[ic]?=some (cO g):=kQ hc
  have Jp:(st.set ic (cO g))[j]?=some (sO v su):=by rw[nu ku];exact hj
  have x9:∀o,(st.set ic (cO g)).set ic o=st.set ic o:=λo=>by rw[List.set_set]
  by_cases bn:k<e.az.length
  ·have hw:IntKind.i64.wrap ((k:Int)+1)=((k+1:Nat):Int):=by rw[aY]<;>omega
   have hm:=List.getElem_mem bn
   have dF:=λaa=>ih _ hm su g aa (st.set ic (cO g)) ic j v NY Jp ku (hr2 _ hm) (by have:=E.jj hm;omega)
   rw[List.drop_eq_getElem_cons bn,vr,<-nt]at hp
   have RU:=λb=>NN (k+1,mT g (xU su e.az[k]),b) ⟨by simp only;omega,hp⟩ (by simp only;omega)
   simp only at RU
   simp only[x9]at dF
   have gE:=CU bn
   have tF:=λh2=>wU bn h2
   have oo:k<(E.rows e.az).length:=by simpa using bn
   have RW:=tF oo
   clear tF
   rw[E.aG e.az[k]]at dF gE RW
   have xv:aJ (aW e.az[k].az)=true:=bu
   have xw:(aW e.az[k].az).view=aW e.az[k].az:=bF
   generalize e.az[k]=x at *
   generalize st.set ic (cO g)=s1 at *
   generalize st.set ic (cO (mT g (xU su x)))=s2 at *
   simp[bn,hw,hz,iL,fH,RW,dF,xv,xw,af,AV.view]
   exact RU _
  ·have jq:k=e.az.length:=by omega
   rw[jq,List.drop_length]at hp
   simp only[lq,rF]at hp
   subst hp
   rw[<-nt]
   clear NN hc
   generalize mT f (lq su e.az)=g at *
   have Ou:(st.set ic (cO g)).length=st.length:=by simp
   have Lt:(st.set ic (cO g)).take st.length=st.set ic (cO g):=List.take_of_length_le (by simp)
   have RX:(st.set ic (cO g))[ic]?=some (.rows 0 2 [[.int .i64 (cE g),.int .i64 (cX g)]]):=NY
   have hj2:(st.set ic (cO g))[j]?=some (.rows v 1 (ju su)):=Jp
   have ht2:∀o,(st.set ic o).take st.length=st.set ic o:=λo=>List.take_of_length_le (by simp)
   by_cases h4:e.k=4
   ·by_cases h0:0<=e.cN
    ·have hlr:=DE h4
     obtain⟨r,yx⟩:∃r:Nat,e.cN=r:=⟨e.cN.toNat,by omega⟩
     have RY:r<su.length:=by omega
     have hb:=nX RY
     have hsu:su[r]?=some su[r]:=List.getElem?_eq_getElem RY
     have Tu:(ju su).length=su.length:=by simp
     have Vw:(e.k=4)=True:=eq_true h4
     have XY:(if e.k=4/\0<=e.cN/\su[e.cN.toNat]?=some false then some e.a else none)=(if su[r]=false then some e.a else none):=by rw[yx,Int.toNat_natCast,hsu];simp[h4]
     rw[XY]
     rw[yx]
     cases hx:su[r] with
     |true=>
      rw[hx]at hb
      simp only[Bool.true_eq_false,if_false,rF]
      generalize st.set ic (cO g)=s1 at *
      simp[bn,Vw,RY,hj2,hx,Lt]
     |false=>
      rw[hx]at hb
      simp only[if_true]
      cases g with
      |none=>
       simp only[mT,cE,cX]at RX ⊢
       have yb:(st.set ic (cO none)).set ic (.rows 0 2 [[.int .i64 3,.int .i64 e.a]])=st.set ic (cO (some e.a)):=x9 _
       have ht3:=ht2 (cO (some e.a))
       generalize st.set ic (cO (some e.a))=s2 at *
       generalize st.set ic (cO none)=s1 at *
       simp[bn,Vw,RY,hj2,hx,RX,bh,AV.ah,AV.an,af,yb,ht3]
      |some y=>
       simp only[mT,cE,cX]at RX ⊢
       generalize st.set ic (cO (some y))=s1 at *
       simp[bn,Vw,RY,hj2,hx,RX,Lt]
    ·rw[if_neg (λh=>h0 h.2.1),rF]
     have Vw:(e.k=4)=True:=eq_true h4
     generalize st.set ic (cO g)=s1 at *
     simp[bn,Vw,h0,Lt]
   ·rw[if_neg (λh=>h4 h.1),rF]
    generalize st.set ic (cO g)=s1 at *
    simp[bn,h4,Lt]
end S9
namespace S9
open Ax Go cz V7 kL lV K9
theorem mL{rs:List jV}{st:aj}{P:AV->aj->Prop}{v:AV}{s:St}:Zz rs Ax.Mode.Ds st P (.ret v) s↔P v s.st:=by
 simp only[Zz,HR,Ax.Mode.kJ]
 constructor
 ·rintro⟨r,h1,h2⟩
  cases h1
  exact h2
 ·exact λh=>⟨(v,s.st),rfl,h⟩
theorem IS(su:List Bool):(ju su).map AV.cL=ju su:=by
 simp only[ju,List.map_map]
 exact List.map_congr_left λ_ _=>rfl
theorem CY(aa:Nat)(su:List Bool)(st:aj)(j v:Nat)(hj:st[j]?=some (sO v su))(hn:su.length<1000000000) :
  (bg S).call 0 aa 44 [.mu j v] st=some (.mu st.length 0,st++[sO 0 su]):=by
 have oM:∀aa bx,aL 0 aa (.mc 1 1) [.val .kV,.val (.mu j v)] st bx=some (.val (.mu st.length 0),st++[sO 0 su],bx):=λaa bx=>by
  have hf:bU 1 (ju su)=true:=by simp[bU,ju]
  have hr:su.length<=dQ:=by unfold dQ;omega
  simp[aL,yC,dG,eC,hj,IS,hf,hr]
 refine ax (sf:=s44) rfl rfl rfl ?_
 simp[s44,VH,hj,oM]
def aew(s:Sm):Prop:=∀(su:List Bool)(f:Option Int)(aa:Nat)(st:aj)(ic j v:Nat),st[ic]?=some (cO f)->st[j]?=some (sO v su)->ic≠j->FQ su.length s->Sm.sz s<1000000000->su.length<1000000000->
 ∃ext,(bg S).call 0 aa 45 [.ptr ic 0 0 0,.agg s.row,.mu j v] st=some (.mu j v,(st.set ic (cO (mT f (lX su s).2))).set j (sO v (lX su s).1)++ext)
def aex(l:List Sm):Prop:=∀(su:List Bool)(f:Option Int)(aa:Nat)(st:aj)(ic j v:Nat),st[ic]?=some (cO f)->st[j]?=some (sO v su)->ic≠j->sL su.length l->Sm.eA l<1000000000->su.length<1000000000->
 ∃ext,(bg S).call 0 aa 26 [.ptr ic 0 0 0,bD l,.mu j v] st=some (.mu st.length 0,st.set ic (cO (mT f (gC su l).2))++sO 0 (gC su l).1::ext)
theorem fB(l:List Sm)(hl:∀s∈l,aew s):aex l:=by
 intro su f aa st ic j v hc hj ku hr eH hn
 have hz:dc 9 (bD l)=true:=F6
 have dV:aJ (bD l)=true:=bL
 have iL:(bD l).view=bD l:=bR
 have fH:aZ (bD l)=Sm.rows l:=aT
 have hlen:=Sm.fF l
 have Nb:ic<st.length:=(List.getElem?_eq_some_iff.1 hc).1
 have ecl:=λaa=>CY aa su st j v hj hn
 rw[rG]at hr
 have ajB:ic≠st.length:=by omega
 obtain⟨v',bS,h1,rfl,ext,rfl⟩:∃v' bS,(bg S).call 0 aa 26 [.ptr ic 0 0 0,bD l,.mu j v] st=some (v',bS)/\v'=.mu st.length 0/\∃ext,bS=st.set ic (cO (mT f (gC su l).2))++sO 0 (gC su l).1::ext:=by
  refine A2 (sf:=s26) rfl rfl rfl ?_
  generalize bD l=lv at *
  simp[s26,dV,iL,fH,ecl]
  refine bM Qw.eq_1 (λx:Nat×List Bool×Option Int×aj×List AV=>⟨[(0,.val (.ptr ic 0 0 0)),(2,.val (.mu st.length 0)),(11,.val lv),(12,.val (.int .i64 l.length)),(13,.val (.int .i64 x.1))],[x.2.2.2.2],st.set ic (cO x.2.2.1)++sO 0 x.2.1::x.2.2.2.1⟩)
   (λx=>x.1<=l.length/\x.2.1.length=su.length/\mT x.2.2.1 (gC x.2.1 (l.drop x.1)).2=mT f (gC su l).2/\(gC x.2.1 (l.drop x.1)).1=(gC su l).1) (λx=>l.length-x.1) (0,su,f,[],[]) (by simp[gv hc]) ⟨by simp,rfl,by simp,by simp⟩ ?_
  rintro⟨k,sk,g,ext,b⟩ ⟨hk,hsk,hp,hq⟩ ih
  simp only at hk hsk hp hq ih
  by_cases bn:k<l.length
  ·have hw:IntKind.i64.wrap ((k:Int)+1)=((k+1:Nat):Int):=by rw[aY]<;>omega
   have hm:=List.getElem_mem bn
   have NY:(st.set ic (cO g)++sO 0 sk::ext)[ic]?=some (cO g):=by
    rw[List.getElem?_append_left (by simpa using Nb)];exact kQ hc
   have Jp:(st.set ic (cO g)++sO 0 sk::ext)[st.length]?=some (sO 0 sk):=by
    rw[List.getElem?_append_right (by simp)];simp
   have hup:∀g' s',((st.set ic (cO g)++sO 0 sk::ext).set ic (cO g')).set st.length (sO 0 s')=st.set ic (cO g')++sO 0 s'::ext:=λg' s'=>by
    rw[List.set_append_left _ _ (by simpa using Nb),List.set_set,List.set_append_right _ _ (by simp)];simp
   obtain⟨wV,dF⟩:=hl _ hm sk g aa _ ic st.length 0 NY Jp ajB (by rw[hsk];exact hr _ hm) (by have:=Sm.jj hm;omega) (by omega)
   rw[hup]at dF
   rw[List.drop_eq_getElem_cons bn,vu]at hp hq
   simp only at hp hq
   rw[<-nt]at hp
   have eU:=λb=>ih (k+1,(lX sk l[k]).1,mT g (lX sk l[k]).2,ext++wV,b) ⟨by simp only;omega,by simp only[Iq];exact hsk,hp,hq⟩ (by simp only;omega)
   simp only at eU
   have oM:st.set ic (cO (mT g (lX sk l[k]).2))++sO 0 (lX sk l[k]).1::ext++wV=st.set ic (cO (mT g (lX sk l[k]).2))++sO 0 (lX sk l[k]).1::(ext++wV):=by simp
   rw[oM]at dF
   have gE:=CX bn
   have oo:k<(Sm.rows l).length:=by simpa using bn
   have tF:=ya bn oo
   obtain⟨e1,b1,l1⟩:aJ (aW l[k].es)=true/\aJ (bD l[k].bd)=true/\aJ (bD l[k].el)=true:=⟨bu,bL,bL⟩
   have e2:(aW l[k].es).view=aW l[k].es:=bF
   have b2:(bD l[k].bd).view=bD l[k].bd:=bR
   have l2:(bD l[k].el).view=bD l[k].el:=bR
   rw[Sm.aG]at dF gE tF
   generalize st.set ic (cO (mT g (lX sk l[k]).2))++sO 0 (lX sk l[k]).1::(ext++wV)=s2 at *
   generalize st.set ic (cO g)++sO 0 sk::ext=s1 at *
   generalize l[k]=x at *
   generalize aW x.es=xe at *
   generalize bD x.bd=xb at *
   generalize bD x.el=xl at *
   simp[bn,hw,hz,iL,fH,tF,dF,e1,b1,l1,e2,b2,l2,af,AV.view]
   exact eU _
  ·have jq:k=l.length:=by omega
   rw[jq,List.drop_length,CJ]at hp hq
   simp only[rF]at hp hq
   subst hp hq
   simp[bn,mL]
 exact⟨ext,h1⟩
end S9
namespace S9
open Ax Go cz V7 kL lV K9
theorem C0{s:Sm}:aJ (aW s.es)=true/\aJ (bD s.bd)=true/\aJ (bD s.el)=true:=⟨bu,bL,bL⟩
def DM:bQ->bQ
 |.seq _ b=>b
 |x=>x
def qb:bQ:=DM (DM H6.body)
theorem aez(s:Sm)(su:List Bool)(f:Option Int)(aa:Nat)(st:aj)(ic j v:Nat)(hc:st[ic]?=some (cO f))(hj:st[j]?=some (sO v su))(ku:ic≠j)(hr:y8 su.length s.es)(eH:E.eA s.es<1000000000){Q:Ex->St->Prop}
  (go:∀b,W S 0 aa H6.results Q [.code qb] .normal ⟨[(0,.val (.ptr ic 0 0 0)),(2,.val (.mu j v)),(4,.fp 0 0)],[s.row,b],st.set ic (cO (mT f (lq su s.es)))⟩) :
  W S 0 aa H6.results Q [.code H6.body] .normal (pD H6 [.ptr ic 0 0 0,.agg s.row,.mu j v] st):=by
 have hz:dc 11 (aW s.es)=true:=qX
 have dV:aJ (aW s.es)=true:=bu
 have iL:(aW s.es).view=aW s.es:=bF
 have fH:aZ (aW s.es)=E.rows s.es:=aT
 have jq:=E.fF s.es
 rw[mJ]at hr
 have Nb:ic<st.length:=(List.getElem?_eq_some_iff.1 hc).1
 obtain⟨_,b1,l1⟩:=C0 (s:=s)
 rw[Sm.aG]at *
 generalize bD s.bd=bv at *
 generalize bD s.el=lv at *
 generalize hkv:aW s.es=kv at *
 simp[H6,dV,iL,fH,b1,l1]
 show W S 0 aa H6.results Q [.code (.loop Kg),.jl 0,.code qb] .normal _
 generalize qb=T at *
 refine bM Kg.eq_1 (λx:Nat×Option Int×List AV=>⟨[(0,.val (.ptr ic 0 0 0)),(2,.val (.mu j v)),(4,.fp 0 0),(14,.val kv),(15,.val (.int .i64 s.es.length)),(16,.val (.int .i64 x.1))],[[.int .i64 s.k,.str s.nm,.str s.on,.int .i64 s.od,kv,bv,lv,.int .i64 s.a,.int .i64 s.cN],x.2.2],st.set ic (cO x.2.1)⟩)
  (λx=>x.1<=s.es.length/\mT x.2.1 (lq su (s.es.drop x.1))=mT f (lq su s.es)) (λx=>s.es.length-x.1) (0,f,[]) (by simp[gv hc]) ⟨by simp,by simp⟩ ?_
 rintro⟨k,g,b⟩ ⟨hk,hp⟩ NN
 simp only at hk hp NN
 have NY:(st.set ic (cO g))[ic]?=some (cO g):=kQ hc
 have Jp:(st.set ic (cO g))[j]?=some (sO v su):=by rw[nu ku];exact hj
 have x9:∀o,(st.set ic (cO g)).set ic o=st.set ic o:=λo=>by rw[List.set_set]
 by_cases bn:k<s.es.length
 ·have hw:IntKind.i64.wrap ((k:Int)+1)=((k+1:Nat):Int):=by rw[aY]<;>omega
  have hm:=List.getElem_mem bn
  have dF:=λaa=>RR s.es[k] su g aa (st.set ic (cO g)) ic j v NY Jp ku (hr _ hm) (by have:=E.jj hm;omega)
  rw[List.drop_eq_getElem_cons bn,vr,<-nt]at hp
  have RU:=λb=>NN (k+1,mT g (xU su s.es[k]),b) ⟨by simp only;omega,hp⟩ (by simp only;omega)
  simp only at RU
  simp only[x9]at dF
  have gE:=CU bn
  have oo:k<(E.rows s.es).length:=by simpa using bn
  have RW:=wU bn oo
  rw[E.aG s.es[k]]at dF gE RW
  have xv:aJ (aW s.es[k].az)=true:=bu
  have xw:(aW s.es[k].az).view=aW s.es[k].az:=bF
  generalize s.es[k]=x at *
  generalize st.set ic (cO g)=s1 at *
  generalize st.set ic (cO (mT g (xU su x)))=s2 at *
  simp[bn,hw,hz,iL,fH,RW,dF,xv,xw,af,AV.view]
  exact RU _
 ·have jq:k=s.es.length:=by omega
  rw[jq,List.drop_length]at hp
  simp only[lq,rF]at hp
  subst hp
  have go:=go b
  simp[bn]
  exact go
theorem IT{su:List Bool}{k:Nat}(h:k<su.length):(List.replicate k true++su.drop k).set k true=List.replicate (k+1) true++su.drop (k+1):=by
 rw[List.drop_eq_getElem_cons h,List.set_append_right _ _ (by simp)]
 simp only[List.length_replicate,Nat.sub_self,List.set_cons_zero,List.replicate_succ',List.append_assoc,List.singleton_append]
theorem sP(s:Sm):aew s:=by
 induction s using Sm.vp with
 |_ s sZ tu=>
  intro su f aa st ic j v hc hj ku hr eH hn
  have hz:=Sm.nV s
  obtain⟨r1,r2,r3,r4,r5⟩:=(vv _ _).1 hr
  have Nb:ic<st.length:=(List.getElem?_eq_some_iff.1 hc).1
  have Ow:j<st.length:=(List.getElem?_eq_some_iff.1 hj).1
  obtain⟨e1,b1,l1⟩:=C0 (s:=s)
  have b2:(bD s.bd).view=bD s.bd:=bR
  have l2:(bD s.el).view=bD s.el:=bR
  have hB:=fB s.bd sZ
  have hL:=fB s.el tu
  suffices hx:∃v' bS,(bg S).call 0 aa 45 [.ptr ic 0 0 0,.agg s.row,.mu j v] st=some (v',bS)/\v'=.mu j v/\∃ext,bS=(st.set ic (cO (mT f (lX su s).2))).set j (sO v (lX su s).1)++ext by
   obtain⟨v',bS,h1,rfl,ext,rfl⟩:=hx
   exact⟨ext,h1⟩
  refine A2 (sf:=H6) rfl rfl rfl (aez s su f _ st ic j v hc hj ku r1 (by omega) λb=>?_)
  rw[FO,Sm.aG]
  generalize hg:mT f (lq su s.es)=g at *
  have NY:(st.set ic (cO g))[ic]?=some (cO g):=kQ hc
  have Jp:(st.set ic (cO g))[j]?=some (.rows v 1 (ju su)):=by rw[nu ku];exact hj
  have hj0:(st.set ic (cO g)).set j (sO v su)=st.set ic (cO g):=gv Jp
  generalize aW s.es=ev at *
  generalize hbv:bD s.bd=bv at *
  generalize yw:bD s.el=lv at *
  by_cases h1:s.k=1
  ·obtain⟨h0,bn⟩:=r2 (.inl h1)
   obtain⟨r,yx⟩:∃r:Nat,s.cN=r:=⟨s.cN.toNat,by omega⟩
   have rU:r<su.length:=by omega
   have h1':(s.k=1)=True:=eq_true h1
   have hb:=nX rU
   rw[if_pos h1,yx,Int.toNat_natCast]
   simp only
   rw[hg]
   generalize st.set ic (cO g)=s1 at *
   simp[qb,DM,H6,h1',Jp,rU,bh,AV.ah,AV.an,af,mL]
  rw[if_neg h1]
  by_cases ZS:s.k=2\/s.k=3
  ·rw[if_pos ZS]
   by_cases h0:0<=s.cN
   ·have bn:s.cN<su.length:=by
     rcases ZS with h|h
     ·exact(r2 (.inr h)).2
     ·exact r3 h
    obtain⟨r,yx⟩:∃r:Nat,s.cN=r:=⟨s.cN.toNat,by omega⟩
    have rU:r<su.length:=by omega
    have hb:=nX rU
    rw[if_pos h0,yx,Int.toNat_natCast]
    simp only
    rw[hg]
    generalize st.set ic (cO g)=s1 at *
    rcases ZS with h|h
    ·have Oy:(s.k=2)=True:=eq_true h
     simp[qb,DM,H6,h1,Oy,Jp,rU,bh,AV.ah,AV.an,af,mL]
    ·have h2:¬s.k=2:=by omega
     have Oz:(s.k=3)=True:=eq_true h
     simp[qb,DM,H6,h1,h2,Oz,Jp,rU,bh,AV.ah,AV.an,af,mL]
   ·have h3:s.k=3:=by
     rcases ZS with h|h
     ·exact absurd (r2 (.inr h)).1 h0
     ·exact h
    have h2:¬s.k=2:=by omega
    have Oz:(s.k=3)=True:=eq_true h3
    rw[if_neg h0]
    simp only
    rw[hg,hj0]
    generalize st.set ic (cO g)=s1 at *
    simp[qb,DM,H6,h1,h2,Oz,h0,mL]
  rw[if_neg ZS]
  have h2:¬s.k=2:=λh=>ZS (.inl h)
  have h3:¬s.k=3:=λh=>ZS (.inr h)
  by_cases h7:s.k=7
  ·have h7':(s.k=7)=True:=eq_true h7
   rw[if_pos h7]
   simp only
   rw[hg]
   have JS:∀sk:List Bool,((st.set ic (cO g)).set j (sO v sk))[j]?=some (.rows v 1 (ju sk)):=λsk=>kQ Jp
   have x9:∀(a b:fL),((st.set ic (cO g)).set j a).set j b=(st.set ic (cO g)).set j b:=λa b=>by rw[List.set_set]
   generalize st.set ic (cO g)=s1 at *
   simp[qb,DM,H6,h1,h2,h3,h7',Jp]
   refine bM QG.eq_1 (λk:Nat=>⟨[(2,.val (.mu j v)),(46,.val (.int .i64 su.length)),(47,.val (.int .i64 k))],[[.int .i64 s.k,.str s.nm,.str s.on,.int .i64 s.od,ev,bv,lv,.int .i64 s.a,.int .i64 s.cN],b],s1.set j (sO v (List.replicate k true++su.drop k))⟩)
    (λk=>k<=su.length) (λk=>su.length-k) 0 (by simp[hj0]) (by simp) ?_
   intro k hk ih
   by_cases bn:k<su.length
   ·have hw:IntKind.i64.wrap ((k:Int)+1)=((k+1:Nat):Int):=by rw[aY]<;>omega
    have hl:(List.replicate k true++su.drop k).length=su.length:=by simp;omega
    have jq:k<(List.replicate k true++su.drop k).length:=by omega
    have hb:=nX jq
    have hh:=JS (List.replicate k true++su.drop k)
    have hn:=IT bn
    have eU:=ih (k+1) (by omega) (by omega)
    have hup:(s1.set j (sO v (List.replicate k true++su.drop k))).set j (.rows v 1 (ju (List.replicate (k+1) true++su.drop (k+1))))=s1.set j (sO v (List.replicate (k+1) true++su.drop (k+1))):=x9 _ _
    generalize List.replicate (k+1) true++su.drop (k+1)=sk' at *
    generalize List.replicate k true++su.drop k=sk at *
    generalize s1.set j (sO v sk)=s2 at *
    simp[bn,hw,hh,hl,hn,hup,bh,AV.ah,AV.an,af]
    exact eU
   ·have jq:k=su.length:=by omega
    have yb:List.replicate k true++su.drop k=su.map λ_=>true:=by
     rw[jq,List.drop_length,List.append_nil,List.map_const']
    rw[yb]
    simp[bn,mL]
  rw[if_neg h7]
  by_cases h6:s.k=6
  ·have h6':(s.k=6)=True:=eq_true h6
   rw[if_pos h6]
   simp only
   rw[<-nt,hg]
   obtain⟨ext,dF⟩:=hB su g aa (st.set ic (cO g)) ic j v NY Jp ku r4 (by omega) hn
   rw[hbv,List.set_set,List.length_set]at dF
   have yb:(st.set ic (cO (mT g (gC su s.bd).2))).set j (sO v su)=st.set ic (cO (mT g (gC su s.bd).2)):=gv (by rw[nu ku];exact hj)
   rw[yb]
   generalize st.set ic (cO (mT g (gC su s.bd).2))=s2 at *
   generalize st.set ic (cO g)=s1 at *
   simp[qb,DM,H6,h1,h2,h3,h7,h6',dF,b2,mL]
  rw[if_neg h6]
  by_cases h5:s.k=5
  ·have h5':(s.k=5)=True:=eq_true h5
   rw[if_pos h5]
   simp only
   rw[<-nt,<-nt,hg]
   obtain⟨ext,dF⟩:=hB su g aa (st.set ic (cO g)) ic j v NY Jp ku r4 (by omega) hn
   rw[hbv,List.set_set,List.length_set]at dF
   generalize hA:(gC su s.bd).1=A at *
   generalize Zn:mT g (gC su s.bd).2=g2 at *
   have hAl:A.length=su.length:=by rw[<-hA,ur]
   have hBl:(gC su s.el).1.length=su.length:=ur _ _
   have RX:(st.set ic (cO g2)++sO 0 A::ext)[ic]?=some (cO g2):=by
    rw[List.getElem?_append_left (by simpa using Nb)];exact kQ hc
   have hj2:(st.set ic (cO g2)++sO 0 A::ext)[j]?=some (sO v su):=by
    rw[List.getElem?_append_left (by simpa using Ow),nu ku];exact hj
   obtain⟨wV,C1⟩:=hL su g2 aa _ ic j v RX hj2 ku r5 (by omega) hn
   rw[yw]at C1
   generalize hBB:(gC su s.el).1=B at *
   generalize hg3:mT g2 (gC su s.el).2=g3 at *
   have aeC:(st.set ic (cO g2)++sO 0 A::ext).set ic (cO g3)=st.set ic (cO g3)++sO 0 A::ext:=by
    rw[List.set_append_left _ _ (by simpa using Nb),List.set_set]
   rw[aeC]at C1
   have hT:st.set ic (cO g3)++sO 0 A::ext++sO 0 B::wV=st.set ic (cO g3)++(sO 0 A::ext++sO 0 B::wV):=by simp
   rw[hT]at C1
   have hka:st.length≠j:=by omega
   have hkb:(st.set ic (cO g2)++sO 0 A::ext).length≠j:=by simp;omega
   have gA:∀sk,((st.set ic (cO g3)).set j (sO v sk)++(sO 0 A::ext++sO 0 B::wV))[st.length]?=some (.rows 0 1 (ju A)):=λsk=>by
    rw[List.getElem?_append_right (by simp)];simp
   have gB:∀sk,((st.set ic (cO g3)).set j (sO v sk)++(sO 0 A::ext++sO 0 B::wV))[(st.set ic (cO g2)++sO 0 A::ext).length]?=some (.rows 0 1 (ju B)):=λsk=>by
    rw[List.getElem?_append_right (by simp),List.getElem?_append_right (by simp)];simp
   have gJ:∀sk,((st.set ic (cO g3)).set j (sO v sk)++(sO 0 A::ext++sO 0 B::wV))[j]?=some (.rows v 1 (ju sk)):=λsk=>by
    rw[List.getElem?_append_left (by simpa using Ow),List.getElem?_set_self (by simpa using Ow)]
   have gS:∀sk sk',((st.set ic (cO g3)).set j (sO v sk)++(sO 0 A::ext++sO 0 B::wV)).set j (.rows v 1 (ju sk'))=(st.set ic (cO g3)).set j (sO v sk')++(sO 0 A::ext++sO 0 B::wV):=λsk sk'=>by
    rw[List.set_append_left _ _ (by simpa using Ow),List.set_set]
   have g0:st.set ic (cO g3)++(sO 0 A::ext++sO 0 B::wV)=(st.set ic (cO g3)).set j (sO v su)++(sO 0 A::ext++sO 0 B::wV):=by
    rw[gv (show (st.set ic (cO g3))[j]?=some (sO v su) by rw[nu ku];exact hj)]
   rw[g0]at C1
   have hJ0:=gJ su
   generalize (st.set ic (cO g2)++sO 0 A::ext).length=kb at *
   generalize hEX:sO 0 A::ext++sO 0 B::wV=EX at *
   generalize st.set ic (cO g2)++sO 0 A::ext=s2 at *
   generalize st.set ic (cO g)=s1 at *
   generalize st.set ic (cO g3)=s3 at *
   generalize st.length=ka at *
   have RZ:∀k (h:k<su.length) (h1:k<A.length) (h2:k<B.length),((List.zipWith (λa b=>a&&b) A B).take k++su.drop k).set k (A[k]&&B[k])=(List.zipWith (λa b=>a&&b) A B).take (k+1)++su.drop (k+1):=λk h h1 h2=>by
    rw[List.drop_eq_getElem_cons h,List.set_append_right _ _ (by simp;omega),List.take_succ_eq_append_getElem (by simp;omega)]
    have:k-((List.zipWith (λa b=>a&&b) A B).take k).length=0:=by simp;omega
    rw[this]
    simp only[List.set_cons_zero,List.getElem_zipWith,List.append_assoc,List.singleton_append]
   have ajD:(List.zipWith (λa b=>a&&b) A B).length=su.length:=by simp[hAl,hBl]
   generalize hZ:List.zipWith (λa b=>a&&b) A B=Z at *
   simp[qb,DM,H6,h1,h2,h3,h7,h6,h5',dF,C1,b2,l2,hJ0,aC,aA]
   refine bM QH.eq_1 (λk:Nat=>⟨[(2,.val (.mu j v)),(10,.val (.mu ka 0)),(11,.val (.mu kb 0)),(74,.val (.int .i64 su.length)),(75,.val (.int .i64 k))],[[.int .i64 s.k,.str s.nm,.str s.on,.int .i64 s.od,ev,bv,lv,.int .i64 s.a,.int .i64 s.cN],b],s3.set j (sO v (Z.take k++su.drop k))++EX⟩)
    (λk=>k<=su.length) (λk=>su.length-k) 0 (by simp) (by simp) ?_
   intro k hk ih
   by_cases bn:k<su.length
   ·have hw:IntKind.i64.wrap ((k:Int)+1)=((k+1:Nat):Int):=by rw[aY]<;>omega
    have hl:(Z.take k++su.drop k).length=su.length:=by simp;omega
    have jq:k<(Z.take k++su.drop k).length:=by omega
    have hlA:k<A.length:=by omega
    have hlB:k<B.length:=by omega
    have hb:=nX jq
    have bA:=nX hlA
    have bB:=nX hlB
    have a1:=gA (Z.take k++su.drop k)
    have a2:=gB (Z.take k++su.drop k)
    have a3:=gJ (Z.take k++su.drop k)
    have a4:=gS (Z.take k++su.drop k) (Z.take (k+1)++su.drop (k+1))
    have hn:=RZ k bn hlA hlB
    have eU:=ih (k+1) (by omega) (by omega)
    generalize Z.take (k+1)++su.drop (k+1)=sk' at *
    generalize Z.take k++su.drop k=sk at *
    generalize s3.set j (sO v sk)++EX=s4 at *
    cases hAk:A[k] with
    |true=>
     rw[hAk]at hn bA
     rw[Bool.true_and]at hn
     simp[bn,hw,a1,a2,a3,hl,hlA,hlB,hAk,hn,a4,bh,AV.ah,AV.an,af]
     exact eU
    |false=>
     rw[hAk]at hn bA
     rw[Bool.false_and]at hn
     simp[bn,hw,a1,a3,hl,hlA,hAk,hn,a4,bh,AV.ah,AV.an,af]
     exact eU
   ·have jq:k=su.length:=by omega
    have yb:Z.take k++su.drop k=Z:=by
     rw[jq,List.drop_length,List.append_nil,<-ajD,List.take_length]
    rw[yb]
    simp[bn,mL]
  rw[if_neg h5]
  simp only
  rw[hg,hj0]
  generalize st.set ic (cO g)=s1 at *
  simp[qb,DM,H6,h1,h2,h3,h5,h6,h7,mL]
end S9
namespace S9
open Ax Go cz V7 kL lV K9
open N7 U7 in
def Af(p:Pg):Option Int:=match mK (kO p) with
 |some a=>some a
 |none=>match q8 (aS p) (aS p).sigs p.funcs with
  |.error a=>some a
  |.ok bs=>DG (aS p).sigs bs
def Gd(o:Option Int):AV:=.agg [.int .i64 (cE o),.int .i64 (cX o)]
theorem aeD(l:List Sm):aex l:=fB l λs _=>sP s
theorem NZ{n:Nat}:List.replicate n [AV.bool false]=ju (List.replicate n false):=by simp[ju]
theorem VI{np n:Nat}:List.replicate np true++(List.replicate n false).drop np=List.replicate np true++List.replicate (n-np) false:=by rw[List.drop_replicate]
theorem xT{H:Hd}:∀{ss:List Sg}{fs:List Fc}{bs:List Bd},ss.length=fs.length->q8 H ss fs=.ok bs->bs.length=fs.length
 |[],[],bs,_,h=>by unfold q8 at h;cases h;rfl
 |[],_::_,_,h,_=>by simp at h
 |_::_,[],_,h,_=>by simp at h
 |s::ss,f::fs,bs,hl,h=>by
  unfold q8 at h
  split at h
  ·cases h
  ·split at h
   ·cases h
   ·rename_i l BE
    cases h
    have:=xT (by simpa using hl) BE
    simp[this]
theorem N6{ss:List Sg}{bs:List Bd}{k:Nat}(h:k<ss.length)(h2:k<bs.length):DG (ss.drop k) (bs.drop k)=mT (gC (su0 ss[k] bs[k]) bs[k].code).2 (DG (ss.drop (k+1)) (bs.drop (k+1))):=by
 rw[List.drop_eq_getElem_cons h,List.drop_eq_getElem_cons h2];rfl
theorem R1{ss:List Sg}:DG ss []=none:=by cases ss<;>rfl
open N7 U7 in
theorem VJ(wl aa:Nat)(p:Pg)(st:aj)(hg:(kO p).ok)(tD:GD.sm (kO p))(eH:∀f∈p.funcs,f.params.length+Sm.eA f.body<1000000000)
  (B9:∀bs,q8 (aS p) (aS p).sigs p.funcs=.ok bs->∀b∈bs,Sm.eA b.code<1000000000/\b.vars.length<1000000000) :
  (bg S).call wl aa 11 [.agg p.row] st=some (Gd (Af p),st):=by
 have ec:=λwl aa st=>K9.IQ wl aa p st hg tD eH
 have J8:p.funcs.length<1000000000:=by have:=tD.funcs;rw[qH,List.length_map]at this;exact this
 refine b8 (sf:=s11) rfl rfl (by simp[Pg.row,AV.ah,AV.an]) rfl (by simp[Gd,AV.an,AV.ah]) ?_
 unfold uA at ec
 unfold Af
 have r1:aJ (aB 3 (p.bG.map Rc.row))=true:=bp
 have r2:(aB 3 (p.bG.map Rc.row)).view=aB 3 (p.bG.map Rc.row):=bq
 have f1:aJ (aB 7 (p.funcs.map Fc.row))=true:=bp
 have f2:(aB 7 (p.funcs.map Fc.row)).view=aB 7 (p.funcs.map Fc.row):=bq
 have g1:aJ (aB 4 (p.globals.map PD.cells))=true:=bp
 have g2:(aB 4 (p.globals.map PD.cells)).view=aB 4 (p.globals.map PD.cells):=bq
 simp only[Pg.row]at ec ⊢
 generalize aB 3 (p.bG.map Rc.row)=PR at *
 generalize aB 7 (p.funcs.map Fc.row)=PF at *
 generalize aB 4 (p.globals.map PD.cells)=PG at *
 cases hF:mK (kO p) with
 |some a=>
  rw[hF]at ec
  simp only[Gd,cE,cX]at ec ⊢
  simp[s11,ec,r1,r2,f1,f2,g1,g2,af,AV.view]
 |none=>
  rw[hF]at ec
  simp only at ec ⊢
  cases hR:q8 (aS p) (aS p).sigs p.funcs with
  |error a=>
   rw[hR]at ec
   simp only[CZ,Gd,cE,cX]at ec ⊢
   simp[s11,ec,r1,r2,f1,f2,g1,g2,af,AV.view]
  |ok bs=>
   rw[hR]at ec
   simp only[CZ,nK,List.cons_append,List.nil_append]at ec ⊢
   have ajF:=B9 bs hR
   clear B9
   have dV:(aS p).sigs.length=p.funcs.length:=by simp[aS]
   have Tu:=xT dV hR
   have hrefs:=Is hR
   have z1:aJ (aB 3 (bs.map Bd.row))=true:=bp
   have z2:(aB 3 (bs.map Bd.row)).view=aB 3 (bs.map Bd.row):=bq
   have z3:aZ (aB 3 (bs.map Bd.row))=bs.map Bd.row:=aT
   have z4:dc 3 (aB 3 (bs.map Bd.row))=true:=jt (by simp[bU,Bd.row])
   have a1:aJ (aB 2 ((aS p).cF.map iF))=true:=bp
   have a2:(aB 2 ((aS p).cF.map iF)).view=aB 2 ((aS p).cF.map iF):=bq
   have b1:aJ (aB 6 ((aS p).sigs.map Sg.row))=true:=bp
   have b2:(aB 6 ((aS p).sigs.map Sg.row)).view=aB 6 ((aS p).sigs.map Sg.row):=bq
   have b3:aZ (aB 6 ((aS p).sigs.map Sg.row))=(aS p).sigs.map Sg.row:=aT
   have b4:dc 6 (aB 6 ((aS p).sigs.map Sg.row))=true:=jt (by simp[bU,Sg.row])
   have c1:aJ (cw (aS p).globals)=true:=jz
   have c2:(cw (aS p).globals).view=cw (aS p).globals:=jT
   generalize aB 2 ((aS p).cF.map iF)=HS at *
   generalize aB 6 ((aS p).sigs.map Sg.row)=HG at *
   generalize cw (aS p).globals=GL at *
   generalize aB 3 (bs.map Bd.row)=BV at *
   have Xa:∀k:Nat,k<bs.length->k<(aS p).sigs.length:=λk h=>by omega
   have Te:bs.length<1000000000:=by omega
   generalize (aS p).sigs=SS at *
   clear hR
   simp[s11,ec,r1,r2,f1,f2,g1,g2,z1,z2,z3,a1,a2,b1,b2,c1,c2,af,AV.view]
   refine bM Qp.eq_1 (λx:Nat×aj×List AV=>⟨[(2,.fp 1 0),(3,.fp 2 0),(20,.val BV),(21,.val (.int .i64 bs.length)),(22,.val (.int .i64 x.1))],[[PR,PG,PF],[.int .i64 0,.int .i64 0],[HS,GL,HG,.int .i64 (iG p),BV],[.int .i64 0,.int .i64 0],x.2.2],x.2.1⟩)
    (λx=>x.1<=bs.length/\DG (SS.drop x.1) (bs.drop x.1)=DG SS bs) (λx=>bs.length-x.1) (0,[],[]) (by simp) ⟨by simp,by simp⟩ ?_
   rintro⟨k,Xi,b5⟩ ⟨hk,hp⟩ ih
   simp only at hk hp ih
   by_cases bn:k<bs.length
   ·have hw:IntKind.i64.wrap ((k:Int)+1)=((k+1:Nat):Int):=by rw[aY]<;>omega
    have oy:=Xa k bn
    rw[N6 oy bn]at hp
    obtain⟨q1,q2⟩:=hrefs k oy bn
    obtain⟨q3,q4⟩:=ajF _ (List.getElem_mem bn)
    have Xj:∀h:k<(bs.map Bd.row).length,(bs.map Bd.row)[k]=[cw bs[k].vars,bD bs[k].code,.int .i64 bs[k].a]:=λh=>by simp[Bd.row]
    have KC:∀h:k<(SS.map Sg.row).length,(SS.map Sg.row)[k]=[.str SS[k].nm,cw SS[k].ps,.bool SS[k].bO,.int .i64 SS[k].br.b,.int .i64 SS[k].br.r,.int .i64 SS[k].br.d]:=λh=>by simp[Sg.row]
    have ajG:k<(bs.map Bd.row).length:=by simpa using bn
    have RP:k<(SS.map Sg.row).length:=by simpa using oy
    have ajH:=Xj ajG
    have VG:=KC RP
    clear Xj KC
    have v1:aJ (cw bs[k].vars)=true:=jz
    have v2:(cw bs[k].vars).view=cw bs[k].vars:=jT
    have v3:(aZ (cw bs[k].vars)).length=bs[k].vars.length:=by simp
    have w1:aJ (bD bs[k].code)=true:=bL
    have w2:(bD bs[k].code).view=bD bs[k].code:=bR
    have p1:aJ (cw SS[k].ps)=true:=jz
    have p2:(cw SS[k].ps).view=cw SS[k].ps:=jT
    have p3:(aZ (cw SS[k].ps)).length=SS[k].ps.length:=by simp
    have mR:(bs[k].vars.length:Int)<=dQ:=by unfold dQ;omega
    have hbc:=aeD bs[k].code
    unfold su0 at hp
    have Hy:(List.replicate SS[k].ps.length true++List.replicate (bs[k].vars.length-SS[k].ps.length) false).length=bs[k].vars.length:=by simp;omega
    have dF:=λaa=>hbc (List.replicate SS[k].ps.length true++List.replicate (bs[k].vars.length-SS[k].ps.length) false) none aa (Xi++[sO 0 (List.replicate SS[k].ps.length true++List.replicate (bs[k].vars.length-SS[k].ps.length) false),cO none]) (Xi.length+1) Xi.length 0
     (by rw[List.getElem?_append_right (by omega)];simp) (by simp) (by omega) (by rw[Hy];exact q2) q3 (by rw[Hy];exact q4)
    obtain⟨ext,dF⟩:=dF 0
    have JS:∀g,(Xi++[sO 0 (List.replicate SS[k].ps.length true++List.replicate (bs[k].vars.length-SS[k].ps.length) false),cO none]).set (Xi.length+1) (cO g)=Xi++[sO 0 (List.replicate SS[k].ps.length true++List.replicate (bs[k].vars.length-SS[k].ps.length) false),cO g]:=λg=>by
     rw[List.set_append_right _ _ (by omega)];simp
    rw[JS]at dF
    have ho:∀g:Option Int,mT none g=g:=λg=>rfl
    rw[ho]at dF
    generalize n5:bs[k].code=cs at *
    generalize hbv:bs[k].vars.length=n at *
    generalize hbp:SS[k].ps.length=np at *
    generalize hfb:cw bs[k].vars=FV at *
    generalize ML:cw SS[k].ps=FP at *
    generalize hsc:bD cs=SC at *
    generalize bs[k]=bk at *
    generalize SS[k]=sk at *
    simp[-Eg,Eg,bn,oy,ajH,VG,z2,z3,z4,b2,b3,b4,v1,v2,v3,w1,w2,p1,p2,p3,mR,NZ,af,AV.view]
    refine bM Qo.eq_1 (λi:Nat=>⟨[(2,.fp 1 0),(3,.fp 2 0),(6,.fp 4 0),(7,.val (.mu Xi.length 0)),(20,.val BV),(21,.val (.int .i64 bs.length)),(22,.val (.int .i64 k)),(38,.val (.int .i64 np)),(39,.val (.int .i64 i))],[[PR,PG,PF],[.int .i64 0,.int .i64 0],[HS,GL,HG,.int .i64 (iG p),BV],[.int .i64 0,.int .i64 0],[FV,SC,.int .i64 bk.a]],Xi++[sO 0 (List.replicate i true++(List.replicate n false).drop i)]⟩)
     (λi=>i<=np) (λi=>np-i) 0 (by simp) (by simp) ?_
    intro i hi tu
    by_cases Nb:i<np
    ·have hwi:IntKind.i64.wrap ((i:Int)+1)=((i+1:Nat):Int):=by rw[aY]<;>omega
     have JL:i<(List.replicate n false).length:=by simp;omega
     have hn:=IT JL
     have hll:(List.replicate i true++(List.replicate n false).drop i).length=n:=by simp;omega
     have hib:i<(List.replicate i true++(List.replicate n false).drop i).length:=by omega
     have hb:=nX hib
     have ajI:=tu (i+1) (by omega) (by omega)
     generalize List.replicate (i+1) true++(List.replicate n false).drop (i+1)=s2 at *
     generalize List.replicate i true++(List.replicate n false).drop i=s1 at *
     have ajJ:i<n:=by omega
     simp[Nb,hwi,hll,ajJ,hn,bh,AV.ah,AV.an,af]
     exact ajI
    ·have Um:i=np:=by omega
     rw[Um,VI]
     generalize List.replicate np true++List.replicate (n-np) false=s0 at *
     cases hgv:(gC s0 cs).2 with
     |none=>
      rw[hgv]at dF hp
      have hp:DG (SS.drop (k+1)) (bs.drop (k+1))=DG SS bs:=hp
      have eU:=λo b5=>ih (k+1,o,b5) ⟨by simp only;omega,hp⟩ (by simp only;omega)
      simp only at eU
      simp only[cO,cE,cX]at dF
      simp[dF,hw,w2]
      exact eU _ _
     |some a=>
      rw[hgv]at dF hp
      have hp:some a=DG SS bs:=hp
      rw[<-hp]
      simp only[cO,cE,cX,Gd]at dF ⊢
      simp[dF,w2,af]
   ·have jq:k=bs.length:=by omega
    rw[jq,List.drop_length,R1]at hp
    rw[<-hp]
    simp[bn,Gd,cE,cX,af]
end S9
