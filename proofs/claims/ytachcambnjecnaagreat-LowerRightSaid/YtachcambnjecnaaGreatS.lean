/-
  Which local may be asked without a value: the program's walk.
-/
import Derived.Test.YtachcambnjecnaaGreatC
import Derived.Test.YtachcambnjecnaaGreatP
import Derived.Test.YtachcambnjecnaaGreatD

set_option maxRecDepth 100000
set_option maxHeartbeats 8000000
namespace S9
open Ax Go aT V7 lP mV K9
theorem U8 {wl aa id bU:Nat}{neg:Bool}{st:an}{bx:aX}:aL wl aa (.Kj neg) [.val (.mu id bU),.val .U] st bx=match st[id]? with
 |some (.rows v _ _)=>if v=bU then some (.val (.bool neg),st,bx) else none
 |_=>none:=rfl
def cE (f:Option Int):Int:=match f with|some _=>3|none=>0
def cX (f:Option Int):Int:=match f with|some x=>x|none=>0
def cO (f:Option Int):fB:=.rows 0 2 [[.int .i64 (cE f),.int .i64 (cX f)]]
abbrev sO (v:Nat)(su:List Bool):fB:=.rows v 1 (jh su)
theorem ga {st:an}{i:Nat}{o:fB}(h:st[i]?=some o):st.set i o=st:=by
 obtain⟨h1,h2⟩:=List.getElem?_eq_some_iff.1 h
 rw[<-h2,List.set_getElem_self]
theorem kK {st:an}{i:Nat}{o p:fB}(h:st[i]?=some o):(st.set i p)[i]?=some p:=by
 obtain⟨h1,_⟩:=List.getElem?_eq_some_iff.1 h
 rw[List.getElem?_set_self h1]
theorem mZ {st:an}{i j:Nat}{p:fB}(h:i≠j):(st.set i p)[j]?=st[j]?:=List.getElem?_set_ne h
theorem nN {su:List Bool}{k:Nat}(h:k<su.length):(jh su)[k]?=some [.bool su[k]]:=by simp[jh,h]
theorem Rb (e:E):∀(su:List Bool)(f:Option Int)(aa:Nat)(st:an)(ic j v:Nat),st[ic]?=some (cO f)->st[j]?=some (sO v su)->ic≠j->HH su.length e->E.sz e<1000000000->
  (aU S).call 0 aa 101 [.ptr ic 0 0 0,.agg e.row,.mu j v] st=some (.fz [],st.set ic (cO (oG f (E8 su e)))):=by
 induction e using E.ind with
 |_ e ih=>
  intro su f aa st ic j v hc hj iQ hr dZ
  have s8:=E.sF e
  have de:=E.ff e.kids
  have hz:cD 11 (aY e.kids)=true:=qF
  have dM:aG (aY e.kids)=true:=bw
  have iq:(aY e.kids).view=aY e.kids:=bF
  have fo:aP (aY e.kids)=E.rows e.kids:=aO
  have rJ:(E.rows e.kids).length=e.kids.length:=by simp
  rw[Ao]at hr
  obtain⟨C2,hr2⟩:=hr
  rw[mq]at hr2
  rw[UJ,E.aH]
  have ND:ic<st.length:=(List.getElem?_eq_some_iff.1 hc).1
  generalize Z8:aY e.kids=kv at *
  refine ay (sf:=X5) rfl rfl rfl ?_
  simp[X5,dM,iq,fo]
  refine bu KQ.eq_1 (λx:Nat×Option Int×List AV=>⟨[(0,.val (.ptr ic 0 0 0)),(2,.val (.mu j v)),(4,.fp 0 0),(9,.val kv),(10,.val (.int .i64 e.kids.length)),(11,.val (.int .i64 x.1))],[[.int .i64 e.k,.int .i64 e.n,.str e.nm,.str e.on,.int .i64 e.od,kv,.int .i64 e.a,.int .i64 e.ty.b,.int .i64 e.ty.r,.int .i64 e.ty.d,.int .i64 e.ref],x.2.2],st.set ic (cO x.2.1)⟩)
   (λx=>x.1<=e.kids.length/\oG x.2.1 (mY su (e.kids.drop x.1))=oG f (mY su e.kids)) (λx=>e.kids.length-x.1) (0,f,[]) (by simp[ga hc]) ⟨by simp,by simp⟩ ?_
  rintro⟨k,g,b⟩ ⟨hk,hp⟩ MY
  simp only at hk hp MY
  have M8:(st.set ic (cO g))[ic]?=some (cO g):=kK hc
  have IM:(st.set ic (cO g))[j]?=some (sO v su):=by rw[mZ iQ];exact hj
  have xS:∀o,(st.set ic (cO g)).set ic o=st.set ic o:=λo=>by rw[List.set_set]
  by_cases aV:k<e.kids.length
  ·have hw:IntKind.i64.wrap ((k:Int)+1)=((k+1:Nat):Int):=by rw[wrap64]<;>omega
   have hm:=List.getElem_mem aV
   have dw:=λaa=>ih _ hm su g aa (st.set ic (cO g)) ic j v M8 IM iQ (hr2 _ hm) (by have:=E.iW hm;omega)
   rw[List.drop_eq_getElem_cons aV,DZ,<-mX]at hp
   have Rd:=λb=>MY (k+1,oG g (E8 su e.kids[k]),b) ⟨by simp only;omega,hp⟩ (by simp only;omega)
   simp only at Rd
   simp only[xS]at dw
   have gE:=Ch aV
   have tn:=λh2=>wJ aV h2
   have nX:k<(E.rows e.kids).length:=by simpa using aV
   have Re:=tn nX
   clear tn
   rw[E.aH e.kids[k]]at dw gE Re
   have xv:aG (aY e.kids[k].kids)=true:=bw
   have xw:(aY e.kids[k].kids).view=aY e.kids[k].kids:=bF
   generalize e.kids[k]=x at *
   generalize st.set ic (cO g)=s1 at *
   generalize st.set ic (cO (oG g (E8 su x)))=s2 at *
   simp[aV,hw,hz,iq,fo,Re,dw,xv,xw,af,AV.view]
   exact Rd _
  ·have de:k=e.kids.length:=by omega
   rw[de,List.drop_length]at hp
   simp only[mY,rj]at hp
   subst hp
   rw[<-mX]
   clear MY hc
   generalize oG f (mY su e.kids)=g at *
   have VP:(st.set ic (cO g)).length=st.length:=by simp
   have Kz:(st.set ic (cO g)).take st.length=st.set ic (cO g):=List.take_of_length_le (by simp)
   have U9:(st.set ic (cO g))[ic]?=some (.rows 0 2 [[.int .i64 (cE g),.int .i64 (cX g)]]):=M8
   have Z6:(st.set ic (cO g))[j]?=some (.rows v 1 (jh su)):=IM
   have ht2:∀o,(st.set ic o).take st.length=st.set ic o:=λo=>List.take_of_length_le (by simp)
   by_cases h4:e.k=4
   ·by_cases h0:0<=e.ref
    ·have hlr:=C2 h4
     obtain⟨r,wT⟩:∃r:Nat,e.ref=r:=⟨e.ref.toNat,by omega⟩
     have Rf:r<su.length:=by omega
     have hb:=nN Rf
     have hsu:su[r]?=some su[r]:=List.getElem?_eq_getElem Rf
     have SI:(jh su).length=su.length:=by simp
     have UR:(e.k=4)=True:=eq_true h4
     have W6:(if e.k=4/\0<=e.ref/\su[e.ref.toNat]?=some false then some e.a else none)=(if su[r]=false then some e.a else none):=by rw[wT,Int.toNat_natCast,hsu];simp[h4]
     rw[W6]
     rw[wT]
     cases hx:su[r] with
     |true=>
      rw[hx]at hb
      simp only[Bool.true_eq_false,if_false,rj]
      generalize st.set ic (cO g)=s1 at *
      simp[aV,UR,Rf,Z6,hx,Kz]
     |false=>
      rw[hx]at hb
      simp only[if_true]
      cases g with
      |none=>
       simp only[oG,cE,cX]at U9 ⊢
       have xU:(st.set ic (cO none)).set ic (.rows 0 2 [[.int .i64 3,.int .i64 e.a]])=st.set ic (cO (some e.a)):=xS _
       have ht3:=ht2 (cO (some e.a))
       generalize st.set ic (cO (some e.a))=s2 at *
       generalize st.set ic (cO none)=s1 at *
       simp[aV,UR,Rf,Z6,hx,U9,bp,AV.ai,AV.au,af,xU,ht3]
      |some y=>
       simp only[oG,cE,cX]at U9 ⊢
       generalize st.set ic (cO (some y))=s1 at *
       simp[aV,UR,Rf,Z6,hx,U9,Kz]
    ·rw[if_neg (λh=>h0 h.2.1),rj]
     have UR:(e.k=4)=True:=eq_true h4
     generalize st.set ic (cO g)=s1 at *
     simp[aV,UR,h0,Kz]
   ·rw[if_neg (λh=>h4 h.1),rj]
    generalize st.set ic (cO g)=s1 at *
    simp[aV,h4,Kz]
end S9
namespace S9
open Ax Go aT V7 lP mV K9
theorem mA {rs:List jP}{st:an}{P:AV->an->Prop}{v:AV}{s:St}:YS rs Ax.Mode.CP st P (.ret v) s↔P v s.st:=by
 simp only[YS,G7,Ax.Mode.fin]
 constructor
 ·rintro⟨r,h1,h2⟩
  cases h1
  exact h2
 ·exact λh=>⟨(v,s.st),rfl,h⟩
theorem Ig (su:List Bool):(jh su).map AV.cz=jh su:=by
 simp only[jh,List.map_map]
 exact List.map_congr_left λ_ _=>rfl
theorem Ck (aa:Nat)(su:List Bool)(st:an)(j v:Nat)(hj:st[j]?=some (sO v su))(hn:su.length<1000000000) :
  (aU S).call 0 aa 84 [.mu j v] st=some (.mu st.length 0,st++[sO 0 su]):=by
 have oz:∀aa bx,aL 0 aa (.lT 1 1) [.val .emp,.val (.mu j v)] st bx=some (.val (.mu st.length 0),st++[sO 0 su],bx):=λaa bx=>by
  have hf:fits 1 (jh su)=true:=by simp[fits,jh]
  have hr:su.length<=room:=by unfold room;omega
  simp[aL,yc,dy,rowsOf,hj,Ig,hf,hr]
 refine ay (sf:=s84) rfl rfl rfl ?_
 simp[s84,U8,hj,oz]
def adD (s:Sm):Prop:=∀(su:List Bool)(f:Option Int)(aa:Nat)(st:an)(ic j v:Nat),st[ic]?=some (cO f)->st[j]?=some (sO v su)->ic≠j->E9 su.length s->Sm.sz s<1000000000->su.length<1000000000->
 ∃ext,(aU S).call 0 aa 85 [.ptr ic 0 0 0,.agg s.row,.mu j v] st=some (.mu j v,(st.set ic (cO (oG f (pN su s).2))).set j (sO v (pN su s).1)++ext)
def adE (l:List Sm):Prop:=∀(su:List Bool)(f:Option Int)(aa:Nat)(st:an)(ic j v:Nat),st[ic]?=some (cO f)->st[j]?=some (sO v su)->ic≠j->sG su.length l->Sm.dV l<1000000000->su.length<1000000000->
 ∃ext,(aU S).call 0 aa 44 [.ptr ic 0 0 0,bz l,.mu j v] st=some (.mu st.length 0,st.set ic (cO (oG f (js su l).2))++sO 0 (js su l).1::ext)
theorem iO (l:List Sm)(hl:∀s∈l,adD s):adE l:=by
 intro su f aa st ic j v hc hj iQ hr dZ hn
 have hz:cD 9 (bz l)=true:=Fo
 have dM:aG (bz l)=true:=bJ
 have iq:(bz l).view=bz l:=bM
 have fo:aP (bz l)=Sm.rows l:=aO
 have hlen:=Sm.ff l
 have ND:ic<st.length:=(List.getElem?_eq_some_iff.1 hc).1
 have ecl:=λaa=>Ck aa su st j v hj hn
 rw[rm]at hr
 have aim:ic≠st.length:=by omega
 obtain⟨v',bP,h1,rfl,ext,rfl⟩:∃v' bP,(aU S).call 0 aa 44 [.ptr ic 0 0 0,bz l,.mu j v] st=some (v',bP)/\v'=.mu st.length 0/\∃ext,bP=st.set ic (cO (oG f (js su l).2))++sO 0 (js su l).1::ext:=by
  refine Ar (sf:=s44) rfl rfl rfl ?_
  generalize bz l=lv at *
  simp[s44,dM,iq,fo,ecl]
  refine bu PN.eq_1 (λx:Nat×List Bool×Option Int×an×List AV=>⟨[(0,.val (.ptr ic 0 0 0)),(2,.val (.mu st.length 0)),(11,.val lv),(12,.val (.int .i64 l.length)),(13,.val (.int .i64 x.1))],[x.2.2.2.2],st.set ic (cO x.2.2.1)++sO 0 x.2.1::x.2.2.2.1⟩)
   (λx=>x.1<=l.length/\x.2.1.length=su.length/\oG x.2.2.1 (js x.2.1 (l.drop x.1)).2=oG f (js su l).2/\(js x.2.1 (l.drop x.1)).1=(js su l).1) (λx=>l.length-x.1) (0,su,f,[],[]) (by simp[ga hc]) ⟨by simp,rfl,by simp,by simp⟩ ?_
  rintro⟨k,sk,g,ext,b⟩ ⟨hk,hsk,hp,hq⟩ ih
  simp only at hk hsk hp hq ih
  by_cases aV:k<l.length
  ·have hw:IntKind.i64.wrap ((k:Int)+1)=((k+1:Nat):Int):=by rw[wrap64]<;>omega
   have hm:=List.getElem_mem aV
   have M8:(st.set ic (cO g)++sO 0 sk::ext)[ic]?=some (cO g):=by
    rw[List.getElem?_append_left (by simpa using ND)];exact kK hc
   have IM:(st.set ic (cO g)++sO 0 sk::ext)[st.length]?=some (sO 0 sk):=by
    rw[List.getElem?_append_right (by simp)];simp
   have hup:∀g' s',((st.set ic (cO g)++sO 0 sk::ext).set ic (cO g')).set st.length (sO 0 s')=st.set ic (cO g')++sO 0 s'::ext:=λg' s'=>by
    rw[List.set_append_left _ _ (by simpa using ND),List.set_set,List.set_append_right _ _ (by simp)];simp
   obtain⟨wK,dw⟩:=hl _ hm sk g aa _ ic st.length 0 M8 IM aim (by rw[hsk];exact hr _ hm) (by have:=Sm.iW hm;omega) (by omega)
   rw[hup]at dw
   rw[List.drop_eq_getElem_cons aV,MM]at hp hq
   simp only at hp hq
   rw[<-mX]at hp
   have fD:=λb=>ih (k+1,(pN sk l[k]).1,oG g (pN sk l[k]).2,ext++wK,b) ⟨by simp only;omega,by simp only[HF];exact hsk,hp,hq⟩ (by simp only;omega)
   simp only at fD
   have oz:st.set ic (cO (oG g (pN sk l[k]).2))++sO 0 (pN sk l[k]).1::ext++wK=st.set ic (cO (oG g (pN sk l[k]).2))++sO 0 (pN sk l[k]).1::(ext++wK):=by simp
   rw[oz]at dw
   have gE:=Cj aV
   have nX:k<(Sm.rows l).length:=by simpa using aV
   have tn:=xT aV nX
   obtain⟨e1,b1,l1⟩:aG (aY l[k].es)=true/\aG (bz l[k].bd)=true/\aG (bz l[k].el)=true:=⟨bw,bJ,bJ⟩
   have e2:(aY l[k].es).view=aY l[k].es:=bF
   have b2:(bz l[k].bd).view=bz l[k].bd:=bM
   have l2:(bz l[k].el).view=bz l[k].el:=bM
   rw[Sm.aH]at dw gE tn
   generalize st.set ic (cO (oG g (pN sk l[k]).2))++sO 0 (pN sk l[k]).1::(ext++wK)=s2 at *
   generalize st.set ic (cO g)++sO 0 sk::ext=s1 at *
   generalize l[k]=x at *
   generalize aY x.es=xe at *
   generalize bz x.bd=xb at *
   generalize bz x.el=xl at *
   simp[aV,hw,hz,iq,fo,tn,dw,e1,b1,l1,e2,b2,l2,af,AV.view]
   exact fD _
  ·have de:k=l.length:=by omega
   rw[de,List.drop_length,QH]at hp hq
   simp only[rj]at hp hq
   subst hp hq
   simp[aV,mA]
 exact⟨ext,h1⟩
end S9
namespace S9
open Ax Go aT V7 lP mV K9
theorem Cl {s:Sm}:aG (aY s.es)=true/\aG (bz s.bd)=true/\aG (bz s.el)=true:=⟨bw,bJ,bJ⟩
def Dc:bG->bG
 |.seq _ b=>b
 |x=>x
def pS:bG:=Dc (Dc Hl.body)
theorem adG (s:Sm)(su:List Bool)(f:Option Int)(aa:Nat)(st:an)(ic j v:Nat)(hc:st[ic]?=some (cO f))(hj:st[j]?=some (sO v su))(iQ:ic≠j)(hr:yD su.length s.es)(dZ:E.dV s.es<1000000000){Q:Ex->St->Prop}
  (go:∀b,W S 0 aa Hl.results Q [.code pS] .normal ⟨[(0,.val (.ptr ic 0 0 0)),(2,.val (.mu j v)),(4,.fp 0 0)],[s.row,b],st.set ic (cO (oG f (mY su s.es)))⟩) :
  W S 0 aa Hl.results Q [.code Hl.body] .normal (oY Hl [.ptr ic 0 0 0,.agg s.row,.mu j v] st):=by
 have hz:cD 11 (aY s.es)=true:=qF
 have dM:aG (aY s.es)=true:=bw
 have iq:(aY s.es).view=aY s.es:=bF
 have fo:aP (aY s.es)=E.rows s.es:=aO
 have de:=E.ff s.es
 rw[mq]at hr
 have ND:ic<st.length:=(List.getElem?_eq_some_iff.1 hc).1
 obtain⟨_,b1,l1⟩:=Cl (s:=s)
 rw[Sm.aH]at *
 generalize bz s.bd=bv at *
 generalize bz s.el=lv at *
 generalize Z8:aY s.es=kv at *
 simp[Hl,dM,iq,fo,b1,l1]
 show W S 0 aa Hl.results Q [.code (.loop Jy),.iZ 0,.code pS] .normal _
 generalize pS=T at *
 refine bu Jy.eq_1 (λx:Nat×Option Int×List AV=>⟨[(0,.val (.ptr ic 0 0 0)),(2,.val (.mu j v)),(4,.fp 0 0),(14,.val kv),(15,.val (.int .i64 s.es.length)),(16,.val (.int .i64 x.1))],[[.int .i64 s.k,.str s.nm,.str s.on,.int .i64 s.od,kv,bv,lv,.int .i64 s.a,.int .i64 s.ref],x.2.2],st.set ic (cO x.2.1)⟩)
  (λx=>x.1<=s.es.length/\oG x.2.1 (mY su (s.es.drop x.1))=oG f (mY su s.es)) (λx=>s.es.length-x.1) (0,f,[]) (by simp[ga hc]) ⟨by simp,by simp⟩ ?_
 rintro⟨k,g,b⟩ ⟨hk,hp⟩ MY
 simp only at hk hp MY
 have M8:(st.set ic (cO g))[ic]?=some (cO g):=kK hc
 have IM:(st.set ic (cO g))[j]?=some (sO v su):=by rw[mZ iQ];exact hj
 have xS:∀o,(st.set ic (cO g)).set ic o=st.set ic o:=λo=>by rw[List.set_set]
 by_cases aV:k<s.es.length
 ·have hw:IntKind.i64.wrap ((k:Int)+1)=((k+1:Nat):Int):=by rw[wrap64]<;>omega
  have hm:=List.getElem_mem aV
  have dw:=λaa=>Rb s.es[k] su g aa (st.set ic (cO g)) ic j v M8 IM iQ (hr _ hm) (by have:=E.iW hm;omega)
  rw[List.drop_eq_getElem_cons aV,DZ,<-mX]at hp
  have Rd:=λb=>MY (k+1,oG g (E8 su s.es[k]),b) ⟨by simp only;omega,hp⟩ (by simp only;omega)
  simp only at Rd
  simp only[xS]at dw
  have gE:=Ch aV
  have nX:k<(E.rows s.es).length:=by simpa using aV
  have Re:=wJ aV nX
  rw[E.aH s.es[k]]at dw gE Re
  have xv:aG (aY s.es[k].kids)=true:=bw
  have xw:(aY s.es[k].kids).view=aY s.es[k].kids:=bF
  generalize s.es[k]=x at *
  generalize st.set ic (cO g)=s1 at *
  generalize st.set ic (cO (oG g (E8 su x)))=s2 at *
  simp[aV,hw,hz,iq,fo,Re,dw,xv,xw,af,AV.view]
  exact Rd _
 ·have de:k=s.es.length:=by omega
  rw[de,List.drop_length]at hp
  simp only[mY,rj]at hp
  subst hp
  have go:=go b
  simp[aV]
  exact go
theorem Ih {su:List Bool}{k:Nat}(h:k<su.length):(List.replicate k true++su.drop k).set k true=List.replicate (k+1) true++su.drop (k+1):=by
 rw[List.drop_eq_getElem_cons h,List.set_append_right _ _ (by simp)]
 simp only[List.length_replicate,Nat.sub_self,List.set_cons_zero,List.replicate_succ',List.append_assoc,List.singleton_append]
theorem sJ (s:Sm):adD s:=by
 induction s using Sm.ind with
 |_ s sW uh=>
  intro su f aa st ic j v hc hj iQ hr dZ hn
  have hz:=Sm.nK s
  obtain⟨r1,r2,r3,r4,r5⟩:=(uY _ _).1 hr
  have ND:ic<st.length:=(List.getElem?_eq_some_iff.1 hc).1
  have uP:j<st.length:=(List.getElem?_eq_some_iff.1 hj).1
  obtain⟨e1,b1,l1⟩:=Cl (s:=s)
  have b2:(bz s.bd).view=bz s.bd:=bM
  have l2:(bz s.el).view=bz s.el:=bM
  have hB:=iO s.bd sW
  have hL:=iO s.el uh
  suffices hx:∃v' bP,(aU S).call 0 aa 85 [.ptr ic 0 0 0,.agg s.row,.mu j v] st=some (v',bP)/\v'=.mu j v/\∃ext,bP=(st.set ic (cO (oG f (pN su s).2))).set j (sO v (pN su s).1)++ext by
   obtain⟨v',bP,h1,rfl,ext,rfl⟩:=hx
   exact⟨ext,h1⟩
  refine Ar (sf:=Hl) rfl rfl rfl (adG s su f _ st ic j v hc hj iQ r1 (by omega) λb=>?_)
  rw[UK,Sm.aH]
  generalize hg:oG f (mY su s.es)=g at *
  have M8:(st.set ic (cO g))[ic]?=some (cO g):=kK hc
  have IM:(st.set ic (cO g))[j]?=some (.rows v 1 (jh su)):=by rw[mZ iQ];exact hj
  have YN:(st.set ic (cO g)).set j (sO v su)=st.set ic (cO g):=ga IM
  generalize aY s.es=ev at *
  generalize hbv:bz s.bd=bv at *
  generalize yV:bz s.el=lv at *
  by_cases h1:s.k=1
  ·obtain⟨h0,aV⟩:=r2 (.inl h1)
   obtain⟨r,wT⟩:∃r:Nat,s.ref=r:=⟨s.ref.toNat,by omega⟩
   have rJ:r<su.length:=by omega
   have jE:(s.k=1)=True:=eq_true h1
   have hb:=nN rJ
   rw[if_pos h1,wT,Int.toNat_natCast]
   simp only
   rw[hg]
   generalize st.set ic (cO g)=s1 at *
   simp[pS,Dc,Hl,jE,IM,rJ,bp,AV.ai,AV.au,af,mA]
  rw[if_neg h1]
  by_cases NK:s.k=2\/s.k=3
  ·rw[if_pos NK]
   by_cases h0:0<=s.ref
   ·have aV:s.ref<su.length:=by
     rcases NK with h|h
     ·exact(r2 (.inr h)).2
     ·exact r3 h
    obtain⟨r,wT⟩:∃r:Nat,s.ref=r:=⟨s.ref.toNat,by omega⟩
    have rJ:r<su.length:=by omega
    have hb:=nN rJ
    rw[if_pos h0,wT,Int.toNat_natCast]
    simp only
    rw[hg]
    generalize st.set ic (cO g)=s1 at *
    rcases NK with h|h
    ·have NF:(s.k=2)=True:=eq_true h
     simp[pS,Dc,Hl,h1,NF,IM,rJ,bp,AV.ai,AV.au,af,mA]
    ·have h2:¬s.k=2:=by omega
     have C4:(s.k=3)=True:=eq_true h
     simp[pS,Dc,Hl,h1,h2,C4,IM,rJ,bp,AV.ai,AV.au,af,mA]
   ·have h3:s.k=3:=by
     rcases NK with h|h
     ·exact absurd (r2 (.inr h)).1 h0
     ·exact h
    have h2:¬s.k=2:=by omega
    have C4:(s.k=3)=True:=eq_true h3
    rw[if_neg h0]
    simp only
    rw[hg,YN]
    generalize st.set ic (cO g)=s1 at *
    simp[pS,Dc,Hl,h1,h2,C4,h0,mA]
  rw[if_neg NK]
  have h2:¬s.k=2:=λh=>NK (.inl h)
  have h3:¬s.k=3:=λh=>NK (.inr h)
  by_cases h7:s.k=7
  ·have h7':(s.k=7)=True:=eq_true h7
   rw[if_pos h7]
   simp only
   rw[hg]
   have Jd:∀sk:List Bool,((st.set ic (cO g)).set j (sO v sk))[j]?=some (.rows v 1 (jh sk)):=λsk=>kK IM
   have xS:∀(a b:fB),((st.set ic (cO g)).set j a).set j b=(st.set ic (cO g)).set j b:=λa b=>by rw[List.set_set]
   generalize st.set ic (cO g)=s1 at *
   simp[pS,Dc,Hl,h1,h2,h3,h7',IM]
   refine bu P8.eq_1 (λk:Nat=>⟨[(2,.val (.mu j v)),(46,.val (.int .i64 su.length)),(47,.val (.int .i64 k))],[[.int .i64 s.k,.str s.nm,.str s.on,.int .i64 s.od,ev,bv,lv,.int .i64 s.a,.int .i64 s.ref],b],s1.set j (sO v (List.replicate k true++su.drop k))⟩)
    (λk=>k<=su.length) (λk=>su.length-k) 0 (by simp[YN]) (by simp) ?_
   intro k hk ih
   by_cases aV:k<su.length
   ·have hw:IntKind.i64.wrap ((k:Int)+1)=((k+1:Nat):Int):=by rw[wrap64]<;>omega
    have hl:(List.replicate k true++su.drop k).length=su.length:=by simp;omega
    have de:k<(List.replicate k true++su.drop k).length:=by omega
    have hb:=nN de
    have hh:=Jd (List.replicate k true++su.drop k)
    have hn:=Ih aV
    have fD:=ih (k+1) (by omega) (by omega)
    have hup:(s1.set j (sO v (List.replicate k true++su.drop k))).set j (.rows v 1 (jh (List.replicate (k+1) true++su.drop (k+1))))=s1.set j (sO v (List.replicate (k+1) true++su.drop (k+1))):=xS _ _
    generalize List.replicate (k+1) true++su.drop (k+1)=sk' at *
    generalize List.replicate k true++su.drop k=sk at *
    generalize s1.set j (sO v sk)=s2 at *
    simp[aV,hw,hh,hl,hn,hup,bp,AV.ai,AV.au,af]
    exact fD
   ·have de:k=su.length:=by omega
    have xU:List.replicate k true++su.drop k=su.map λ_=>true:=by
     rw[de,List.drop_length,List.append_nil,List.map_const']
    rw[xU]
    simp[aV,mA]
  rw[if_neg h7]
  by_cases h6:s.k=6
  ·have h6':(s.k=6)=True:=eq_true h6
   rw[if_pos h6]
   simp only
   rw[<-mX,hg]
   obtain⟨ext,dw⟩:=hB su g aa (st.set ic (cO g)) ic j v M8 IM iQ r4 (by omega) hn
   rw[hbv,List.set_set,List.length_set]at dw
   have xU:(st.set ic (cO (oG g (js su s.bd).2))).set j (sO v su)=st.set ic (cO (oG g (js su s.bd).2)):=ga (by rw[mZ iQ];exact hj)
   rw[xU]
   generalize st.set ic (cO (oG g (js su s.bd).2))=s2 at *
   generalize st.set ic (cO g)=s1 at *
   simp[pS,Dc,Hl,h1,h2,h3,h7,h6',dw,b2,mA]
  rw[if_neg h6]
  by_cases h5:s.k=5
  ·have h5':(s.k=5)=True:=eq_true h5
   rw[if_pos h5]
   simp only
   rw[<-mX,<-mX,hg]
   obtain⟨ext,dw⟩:=hB su g aa (st.set ic (cO g)) ic j v M8 IM iQ r4 (by omega) hn
   rw[hbv,List.set_set,List.length_set]at dw
   generalize hA:(js su s.bd).1=A at *
   generalize YG:oG g (js su s.bd).2=g2 at *
   have hAl:A.length=su.length:=by rw[<-hA,uk]
   have hBl:(js su s.el).1.length=su.length:=uk _ _
   have U9:(st.set ic (cO g2)++sO 0 A::ext)[ic]?=some (cO g2):=by
    rw[List.getElem?_append_left (by simpa using ND)];exact kK hc
   have Z6:(st.set ic (cO g2)++sO 0 A::ext)[j]?=some (sO v su):=by
    rw[List.getElem?_append_left (by simpa using uP),mZ iQ];exact hj
   obtain⟨wK,Cm⟩:=hL su g2 aa _ ic j v U9 Z6 iQ r5 (by omega) hn
   rw[yV]at Cm
   generalize hBB:(js su s.el).1=B at *
   generalize hg3:oG g2 (js su s.el).2=g3 at *
   have adK:(st.set ic (cO g2)++sO 0 A::ext).set ic (cO g3)=st.set ic (cO g3)++sO 0 A::ext:=by
    rw[List.set_append_left _ _ (by simpa using ND),List.set_set]
   rw[adK]at Cm
   have hT:st.set ic (cO g3)++sO 0 A::ext++sO 0 B::wK=st.set ic (cO g3)++(sO 0 A::ext++sO 0 B::wK):=by simp
   rw[hT]at Cm
   have hka:st.length≠j:=by omega
   have hkb:(st.set ic (cO g2)++sO 0 A::ext).length≠j:=by simp;omega
   have gA:∀sk,((st.set ic (cO g3)).set j (sO v sk)++(sO 0 A::ext++sO 0 B::wK))[st.length]?=some (.rows 0 1 (jh A)):=λsk=>by
    rw[List.getElem?_append_right (by simp)];simp
   have gB:∀sk,((st.set ic (cO g3)).set j (sO v sk)++(sO 0 A::ext++sO 0 B::wK))[(st.set ic (cO g2)++sO 0 A::ext).length]?=some (.rows 0 1 (jh B)):=λsk=>by
    rw[List.getElem?_append_right (by simp),List.getElem?_append_right (by simp)];simp
   have gJ:∀sk,((st.set ic (cO g3)).set j (sO v sk)++(sO 0 A::ext++sO 0 B::wK))[j]?=some (.rows v 1 (jh sk)):=λsk=>by
    rw[List.getElem?_append_left (by simpa using uP),List.getElem?_set_self (by simpa using uP)]
   have gS:∀sk sk',((st.set ic (cO g3)).set j (sO v sk)++(sO 0 A::ext++sO 0 B::wK)).set j (.rows v 1 (jh sk'))=(st.set ic (cO g3)).set j (sO v sk')++(sO 0 A::ext++sO 0 B::wK):=λsk sk'=>by
    rw[List.set_append_left _ _ (by simpa using uP),List.set_set]
   have g0:st.set ic (cO g3)++(sO 0 A::ext++sO 0 B::wK)=(st.set ic (cO g3)).set j (sO v su)++(sO 0 A::ext++sO 0 B::wK):=by
    rw[ga (show (st.set ic (cO g3))[j]?=some (sO v su) by rw[mZ iQ];exact hj)]
   rw[g0]at Cm
   have hJ0:=gJ su
   generalize (st.set ic (cO g2)++sO 0 A::ext).length=kb at *
   generalize hEX:sO 0 A::ext++sO 0 B::wK=EX at *
   generalize st.set ic (cO g2)++sO 0 A::ext=s2 at *
   generalize st.set ic (cO g)=s1 at *
   generalize st.set ic (cO g3)=s3 at *
   generalize st.length=ka at *
   have Rg:∀k (h:k<su.length) (h1:k<A.length) (h2:k<B.length),((List.zipWith (λa b=>a&&b) A B).take k++su.drop k).set k (A[k]&&B[k])=(List.zipWith (λa b=>a&&b) A B).take (k+1)++su.drop (k+1):=λk h h1 h2=>by
    rw[List.drop_eq_getElem_cons h,List.set_append_right _ _ (by simp;omega),List.take_succ_eq_append_getElem (by simp;omega)]
    have:k-((List.zipWith (λa b=>a&&b) A B).take k).length=0:=by simp;omega
    rw[this]
    simp only[List.set_cons_zero,List.getElem_zipWith,List.append_assoc,List.singleton_append]
   have ain:(List.zipWith (λa b=>a&&b) A B).length=su.length:=by simp[hAl,hBl]
   generalize hZ:List.zipWith (λa b=>a&&b) A B=Z at *
   simp[pS,Dc,Hl,h1,h2,h3,h7,h6,h5',dw,Cm,b2,l2,hJ0,aA,az]
   refine bu P9.eq_1 (λk:Nat=>⟨[(2,.val (.mu j v)),(10,.val (.mu ka 0)),(11,.val (.mu kb 0)),(74,.val (.int .i64 su.length)),(75,.val (.int .i64 k))],[[.int .i64 s.k,.str s.nm,.str s.on,.int .i64 s.od,ev,bv,lv,.int .i64 s.a,.int .i64 s.ref],b],s3.set j (sO v (Z.take k++su.drop k))++EX⟩)
    (λk=>k<=su.length) (λk=>su.length-k) 0 (by simp) (by simp) ?_
   intro k hk ih
   by_cases aV:k<su.length
   ·have hw:IntKind.i64.wrap ((k:Int)+1)=((k+1:Nat):Int):=by rw[wrap64]<;>omega
    have hl:(Z.take k++su.drop k).length=su.length:=by simp;omega
    have de:k<(Z.take k++su.drop k).length:=by omega
    have hlA:k<A.length:=by omega
    have hlB:k<B.length:=by omega
    have hb:=nN de
    have bA:=nN hlA
    have bB:=nN hlB
    have a1:=gA (Z.take k++su.drop k)
    have a2:=gB (Z.take k++su.drop k)
    have a3:=gJ (Z.take k++su.drop k)
    have a4:=gS (Z.take k++su.drop k) (Z.take (k+1)++su.drop (k+1))
    have hn:=Rg k aV hlA hlB
    have fD:=ih (k+1) (by omega) (by omega)
    generalize Z.take (k+1)++su.drop (k+1)=sk' at *
    generalize Z.take k++su.drop k=sk at *
    generalize s3.set j (sO v sk)++EX=s4 at *
    cases hAk:A[k] with
    |true=>
     rw[hAk]at hn bA
     rw[Bool.true_and]at hn
     simp[aV,hw,a1,a2,a3,hl,hlA,hlB,hAk,hn,a4,bp,AV.ai,AV.au,af]
     exact fD
    |false=>
     rw[hAk]at hn bA
     rw[Bool.false_and]at hn
     simp[aV,hw,a1,a3,hl,hlA,hAk,hn,a4,bp,AV.ai,AV.au,af]
     exact fD
   ·have de:k=su.length:=by omega
    have xU:Z.take k++su.drop k=Z:=by
     rw[de,List.drop_length,List.append_nil,<-ain,List.take_length]
    rw[xU]
    simp[aV,mA]
  rw[if_neg h5]
  simp only
  rw[hg,YN]
  generalize st.set ic (cO g)=s1 at *
  simp[pS,Dc,Hl,h1,h2,h3,h5,h6,h7,mA]
end S9
namespace S9
open Ax Go aT V7 lP mV K9
open N7 U7 in
def Cn (p:Pg):Option Int:=match kj (jZ p) with
 |some a=>some a
 |none=>match qk (aS p) (aS p).sigs p.funcs with
  |.error a=>some a
  |.ok bs=>C8 (aS p).sigs bs
def Dd (o:Option Int):AV:=.agg [.int .i64 (cE o),.int .i64 (cX o)]
theorem adL (l:List Sm):adE l:=iO l λs _=>sJ s
theorem M9 {n:Nat}:List.replicate n [AV.bool false]=jh (List.replicate n false):=by simp[jh]
theorem Va {np n:Nat}:List.replicate np true++(List.replicate n false).drop np=List.replicate np true++List.replicate (n-np) false:=by rw[List.drop_replicate]
theorem xL {H:Hd}:∀{ss:List Sg}{fs:List Fc}{bs:List Bd},ss.length=fs.length->qk H ss fs=.ok bs->bs.length=fs.length
 |[],[],bs,_,h=>by unfold qk at h;cases h;rfl
 |[],_::_,_,h,_=>by simp at h
 |_::_,[],_,h,_=>by simp at h
 |s::ss,f::fs,bs,hl,h=>by
  unfold qk at h
  split at h
  ·cases h
  ·split at h
   ·cases h
   ·rename_i l F2
    cases h
    have:=xL (by simpa using hl) F2
    simp[this]
theorem Na {ss:List Sg}{bs:List Bd}{k:Nat}(h:k<ss.length)(h2:k<bs.length):C8 (ss.drop k) (bs.drop k)=oG (js (su0 ss[k] bs[k]) bs[k].code).2 (C8 (ss.drop (k+1)) (bs.drop (k+1))):=by
 rw[List.drop_eq_getElem_cons h,List.drop_eq_getElem_cons h2];rfl
theorem Rh {ss:List Sg}:C8 ss []=none:=by cases ss<;>rfl
open N7 U7 in
theorem Vb (wl aa:Nat)(p:Pg)(st:an)(hg:(jZ p).ok)(nU:GD.sm (jZ p))(dZ:∀f∈p.funcs,f.params.length+Sm.dV f.body<1000000000)
  (Bx:∀bs,qk (aS p) (aS p).sigs p.funcs=.ok bs->∀b∈bs,Sm.dV b.code<1000000000/\b.vars.length<1000000000) :
  (aU S).call wl aa 21 [.agg p.row] st=some (Dd (Cn p),st):=by
 have ec:=λwl aa st=>K9.Ie wl aa p st hg nU dZ
 have Mk:p.funcs.length<1000000000:=by have:=nU.funcs;rw[oH,List.length_map]at this;exact this
 refine bf (sf:=s21) rfl rfl (by simp[Pg.row,AV.ai,AV.au]) rfl (by simp[Dd,AV.au,AV.ai]) ?_
 unfold sK at ec
 unfold Cn
 have r1:aG (aD 3 (p.aQ.map Rc.row))=true:=bq
 have r2:(aD 3 (p.aQ.map Rc.row)).view=aD 3 (p.aQ.map Rc.row):=br
 have f1:aG (aD 7 (p.funcs.map Fc.row))=true:=bq
 have f2:(aD 7 (p.funcs.map Fc.row)).view=aD 7 (p.funcs.map Fc.row):=br
 have g1:aG (aD 4 (p.globals.map PD.cells))=true:=bq
 have g2:(aD 4 (p.globals.map PD.cells)).view=aD 4 (p.globals.map PD.cells):=br
 simp only[Pg.row]at ec ⊢
 generalize aD 3 (p.aQ.map Rc.row)=PR at *
 generalize aD 7 (p.funcs.map Fc.row)=PF at *
 generalize aD 4 (p.globals.map PD.cells)=PG at *
 cases hF:kj (jZ p) with
 |some a=>
  rw[hF]at ec
  simp only[Dd,cE,cX]at ec ⊢
  simp[s21,ec,r1,r2,f1,f2,g1,g2,af,AV.view]
 |none=>
  rw[hF]at ec
  simp only at ec ⊢
  cases hR:qk (aS p) (aS p).sigs p.funcs with
  |error a=>
   rw[hR]at ec
   simp only[zX,Dd,cE,cX]at ec ⊢
   simp[s21,ec,r1,r2,f1,f2,g1,g2,af,AV.view]
  |ok bs=>
   rw[hR]at ec
   simp only[zX,mz,List.cons_append,List.nil_append]at ec ⊢
   have aip:=Bx bs hR
   clear Bx
   have dM:(aS p).sigs.length=p.funcs.length:=by simp[aS]
   have SI:=xL dM hR
   have hrefs:=HI hR
   have z1:aG (aD 3 (bs.map Bd.row))=true:=bq
   have z2:(aD 3 (bs.map Bd.row)).view=aD 3 (bs.map Bd.row):=br
   have z3:aP (aD 3 (bs.map Bd.row))=bs.map Bd.row:=aO
   have z4:cD 3 (aD 3 (bs.map Bd.row))=true:=iJ (by simp[fits,Bd.row])
   have a1:aG (aD 2 ((aS p).bQ.map iT))=true:=bq
   have a2:(aD 2 ((aS p).bQ.map iT)).view=aD 2 ((aS p).bQ.map iT):=br
   have b1:aG (aD 6 ((aS p).sigs.map Sg.row))=true:=bq
   have b2:(aD 6 ((aS p).sigs.map Sg.row)).view=aD 6 ((aS p).sigs.map Sg.row):=br
   have b3:aP (aD 6 ((aS p).sigs.map Sg.row))=(aS p).sigs.map Sg.row:=aO
   have b4:cD 6 (aD 6 ((aS p).sigs.map Sg.row))=true:=iJ (by simp[fits,Sg.row])
   have c1:aG (bT (aS p).globals)=true:=jl
   have c2:(bT (aS p).globals).view=bT (aS p).globals:=jN
   generalize aD 2 ((aS p).bQ.map iT)=HS at *
   generalize aD 6 ((aS p).sigs.map Sg.row)=HG at *
   generalize bT (aS p).globals=GL at *
   generalize aD 3 (bs.map Bd.row)=BV at *
   have JN:∀k:Nat,k<bs.length->k<(aS p).sigs.length:=λk h=>by omega
   have Sr:bs.length<1000000000:=by omega
   generalize (aS p).sigs=SS at *
   clear hR
   simp[s21,ec,r1,r2,f1,f2,g1,g2,z1,z2,z3,a1,a2,b1,b2,c1,c2,af,AV.view]
   refine bu Py.eq_1 (λx:Nat×an×List AV=>⟨[(2,.fp 1 0),(3,.fp 2 0),(20,.val BV),(21,.val (.int .i64 bs.length)),(22,.val (.int .i64 x.1))],[[PR,PG,PF],[.int .i64 0,.int .i64 0],[HS,GL,HG,.int .i64 (fA p),BV],[.int .i64 0,.int .i64 0],x.2.2],x.2.1⟩)
    (λx=>x.1<=bs.length/\C8 (SS.drop x.1) (bs.drop x.1)=C8 SS bs) (λx=>bs.length-x.1) (0,[],[]) (by simp) ⟨by simp,by simp⟩ ?_
   rintro⟨k,Ww,b5⟩ ⟨hk,hp⟩ ih
   simp only at hk hp ih
   by_cases aV:k<bs.length
   ·have hw:IntKind.i64.wrap ((k:Int)+1)=((k+1:Nat):Int):=by rw[wrap64]<;>omega
    have s8:=JN k aV
    rw[Na s8 aV]at hp
    obtain⟨q1,q2⟩:=hrefs k s8 aV
    obtain⟨q3,q4⟩:=aip _ (List.getElem_mem aV)
    have Wx:∀h:k<(bs.map Bd.row).length,(bs.map Bd.row)[k]=[bT bs[k].vars,bz bs[k].code,.int .i64 bs[k].a]:=λh=>by simp[Bd.row]
    have JR:∀h:k<(SS.map Sg.row).length,(SS.map Sg.row)[k]=[.str SS[k].nm,bT SS[k].ps,.bool SS[k].has,.int .i64 SS[k].res.b,.int .i64 SS[k].res.r,.int .i64 SS[k].res.d]:=λh=>by simp[Sg.row]
    have aiq:k<(bs.map Bd.row).length:=by simpa using aV
    have Ra:k<(SS.map Sg.row).length:=by simpa using s8
    have air:=Wx aiq
    have U6:=JR Ra
    clear Wx JR
    have v1:aG (bT bs[k].vars)=true:=jl
    have v2:(bT bs[k].vars).view=bT bs[k].vars:=jN
    have v3:(aP (bT bs[k].vars)).length=bs[k].vars.length:=by simp
    have w1:aG (bz bs[k].code)=true:=bJ
    have w2:(bz bs[k].code).view=bz bs[k].code:=bM
    have p1:aG (bT SS[k].ps)=true:=jl
    have p2:(bT SS[k].ps).view=bT SS[k].ps:=jN
    have p3:(aP (bT SS[k].ps)).length=SS[k].ps.length:=by simp
    have mH:(bs[k].vars.length:Int)<=room:=by unfold room;omega
    have hbc:=adL bs[k].code
    unfold su0 at hp
    have EC:(List.replicate SS[k].ps.length true++List.replicate (bs[k].vars.length-SS[k].ps.length) false).length=bs[k].vars.length:=by simp;omega
    have dw:=λaa=>hbc (List.replicate SS[k].ps.length true++List.replicate (bs[k].vars.length-SS[k].ps.length) false) none aa (Ww++[sO 0 (List.replicate SS[k].ps.length true++List.replicate (bs[k].vars.length-SS[k].ps.length) false),cO none]) (Ww.length+1) Ww.length 0
     (by rw[List.getElem?_append_right (by omega)];simp) (by simp) (by omega) (by rw[EC];exact q2) q3 (by rw[EC];exact q4)
    obtain⟨ext,dw⟩:=dw 0
    have Jd:∀g,(Ww++[sO 0 (List.replicate SS[k].ps.length true++List.replicate (bs[k].vars.length-SS[k].ps.length) false),cO none]).set (Ww.length+1) (cO g)=Ww++[sO 0 (List.replicate SS[k].ps.length true++List.replicate (bs[k].vars.length-SS[k].ps.length) false),cO g]:=λg=>by
     rw[List.set_append_right _ _ (by omega)];simp
    rw[Jd]at dw
    have ho:∀g:Option Int,oG none g=g:=λg=>rfl
    rw[ho]at dw
    generalize mI:bs[k].code=cs at *
    generalize hbv:bs[k].vars.length=n at *
    generalize hbp:SS[k].ps.length=np at *
    generalize hfb:bT bs[k].vars=FV at *
    generalize LY:bT SS[k].ps=FP at *
    generalize hsc:bz cs=SC at *
    generalize bs[k]=bk at *
    generalize SS[k]=sk at *
    simp[-DH,DH,aV,s8,air,U6,z2,z3,z4,b2,b3,b4,v1,v2,v3,w1,w2,p1,p2,p3,mH,M9,af,AV.view]
    refine bu Px.eq_1 (λi:Nat=>⟨[(2,.fp 1 0),(3,.fp 2 0),(6,.fp 4 0),(7,.val (.mu Ww.length 0)),(20,.val BV),(21,.val (.int .i64 bs.length)),(22,.val (.int .i64 k)),(38,.val (.int .i64 np)),(39,.val (.int .i64 i))],[[PR,PG,PF],[.int .i64 0,.int .i64 0],[HS,GL,HG,.int .i64 (fA p),BV],[.int .i64 0,.int .i64 0],[FV,SC,.int .i64 bk.a]],Ww++[sO 0 (List.replicate i true++(List.replicate n false).drop i)]⟩)
     (λi=>i<=np) (λi=>np-i) 0 (by simp) (by simp) ?_
    intro i hi uh
    by_cases ND:i<np
    ·have hwi:IntKind.i64.wrap ((i:Int)+1)=((i+1:Nat):Int):=by rw[wrap64]<;>omega
     have I7:i<(List.replicate n false).length:=by simp;omega
     have hn:=Ih I7
     have hll:(List.replicate i true++(List.replicate n false).drop i).length=n:=by simp;omega
     have hib:i<(List.replicate i true++(List.replicate n false).drop i).length:=by omega
     have hb:=nN hib
     have ais:=uh (i+1) (by omega) (by omega)
     generalize List.replicate (i+1) true++(List.replicate n false).drop (i+1)=s2 at *
     generalize List.replicate i true++(List.replicate n false).drop i=s1 at *
     have ait:i<n:=by omega
     simp[ND,hwi,hll,ait,hn,bp,AV.ai,AV.au,af]
     exact ais
    ·have Tw:i=np:=by omega
     rw[Tw,Va]
     generalize List.replicate np true++List.replicate (n-np) false=s0 at *
     cases Zc:(js s0 cs).2 with
     |none=>
      rw[Zc]at dw hp
      have hp:C8 (SS.drop (k+1)) (bs.drop (k+1))=C8 SS bs:=hp
      have fD:=λo b5=>ih (k+1,o,b5) ⟨by simp only;omega,hp⟩ (by simp only;omega)
      simp only at fD
      simp only[cO,cE,cX]at dw
      simp[dw,hw,w2]
      exact fD _ _
     |some a=>
      rw[Zc]at dw hp
      have hp:some a=C8 SS bs:=hp
      rw[<-hp]
      simp only[cO,cE,cX,Dd]at dw ⊢
      simp[dw,w2,af]
   ·have de:k=bs.length:=by omega
    rw[de,List.drop_length,Rh]at hp
    rw[<-hp]
    simp[aV,Dd,cE,cX,af]
end S9
