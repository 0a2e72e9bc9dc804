/-
  Which local may be asked without a value: the program's walk.
-/
import Derived.Test.YtachcambnjecnaaC
import Derived.Test.YtachcambnjecnaaP
import Derived.Test.YtachcambnjecnaaD

set_option maxRecDepth 100000
set_option maxHeartbeats 8000000
namespace S9
open Ax Go cp V7 j4 k8 K9
theorem Uj {wl aa id bP:Nat}{neg:Bool}{st:aj}{bx:aS}:aI wl aa (.JW neg) [.val (.mu id bP),.val .U] st bx=match st[id]? with
 |some (.rows v _ _)=>if v=bP then some (.val (.bool neg),st,bx) else none
 |_=>none:=rfl
def cE (f:Option Int):Int:=match f with|some _=>3|none=>0
def cX (f:Option Int):Int:=match f with|some x=>x|none=>0
def cO (f:Option Int):fh:=.rows 0 2 [[.int .i64 (cE f),.int .i64 (cX f)]]
abbrev sO (v:Nat)(su:List Bool):fh:=.rows v 1 (iW su)
theorem fU {st:aj}{i:Nat}{o:fh}(h:st[i]?=some o):st.set i o=st:=by
 obtain⟨h1,h2⟩:=List.getElem?_eq_some_iff.1 h
 rw[<-h2,List.set_getElem_self]
theorem ke {st:aj}{i:Nat}{o p:fh}(h:st[i]?=some o):(st.set i p)[i]?=some p:=by
 obtain⟨h1,_⟩:=List.getElem?_eq_some_iff.1 h
 rw[List.getElem?_set_self h1]
theorem mH {st:aj}{i j:Nat}{p:fh}(h:i≠j):(st.set i p)[j]?=st[j]?:=List.getElem?_set_ne h
theorem nk {su:List Bool}{k:Nat}(h:k<su.length):(iW su)[k]?=some [.bool su[k]]:=by simp[iW,h]
theorem Qx (e:E):∀(su:List Bool)(f:Option Int)(aa:Nat)(st:aj)(ic j v:Nat),st[ic]?=some (cO f)->st[j]?=some (sO v su)->ic≠j->He su.length e->E.sz e<1000000000->
  (aW S).call 0 aa 60 [.ptr ic 0 0 0,.agg e.row,.mu j v] st=some (.fm [],st.set ic (cO (l7 f (uD su e)))):=by
 induction e using E.ind with
 |_ e ih=>
  intro su f aa st ic j v hc hj jH hr dL
  have mq:=E.rz e
  have iK:=E.eW e.kids
  have hz:cI 11 (aT e.kids)=true:=qf
  have dA:aG (aT e.kids)=true:=bg
  have g9:(aT e.kids).view=aT e.kids:=bz
  have eY:aP (aT e.kids)=E.rows e.kids:=aR
  have qO:(E.rows e.kids).length=e.kids.length:=by simp
  rw[z5]at hr
  obtain⟨CI,hr2⟩:=hr
  rw[lR]at hr2
  rw[EI,E.aE]
  have Ok:ic<st.length:=(List.getElem?_eq_some_iff.1 hc).1
  generalize Zi:aT e.kids=kv at *
  refine ax (sf:=s60) rfl rfl rfl ?_
  simp[s60,dA,g9,eY]
  refine bC Po.eq_1 (λx:Nat×Option Int×List AV=>⟨[(0,.val (.ptr ic 0 0 0)),(2,.val (.mu j v)),(4,.fp 0 0),(9,.val kv),(10,.val (.int .i64 e.kids.length)),(11,.val (.int .i64 x.1))],[[.int .i64 e.k,.int .i64 e.n,.str e.nm,.str e.on,.int .i64 e.od,kv,.int .i64 e.a,.int .i64 e.ty.b,.int .i64 e.ty.r,.int .i64 e.ty.d,.int .i64 e.ref],x.2.2],st.set ic (cO x.2.1)⟩)
   (λx=>x.1<=e.kids.length/\l7 x.2.1 (jW su (e.kids.drop x.1))=l7 f (jW su e.kids)) (λx=>e.kids.length-x.1) (0,f,[]) (by simp[fU hc]) ⟨by simp,by simp⟩ ?_
  rintro⟨k,g,b⟩ ⟨hk,hp⟩ Mw
  simp only at hk hp Mw
  have MG:(st.set ic (cO g))[ic]?=some (cO g):=ke hc
  have Ip:(st.set ic (cO g))[j]?=some (sO v su):=by rw[mH jH];exact hj
  have wW:∀o,(st.set ic (cO g)).set ic o=st.set ic o:=λo=>by rw[List.set_set]
  by_cases aZ:k<e.kids.length
  ·have hw:IntKind.i64.wrap ((k:Int)+1)=((k+1:Nat):Int):=by rw[wrap64]<;>omega
   have hm:=List.getElem_mem aZ
   have dh:=λaa=>ih _ hm su g aa (st.set ic (cO g)) ic j v MG Ip jH (hr2 _ hm) (by have:=E.iO hm;omega)
   rw[List.drop_eq_getElem_cons aZ,ue,<-mG]at hp
   have Qy:=λb=>Mw (k+1,l7 g (uD su e.kids[k]),b) ⟨by simp only;omega,hp⟩ (by simp only;omega)
   simp only at Qy
   simp only[wW]at dh
   have gE:=B0 aZ
   have rY:=λh2=>vF aZ h2
   have mw:k<(E.rows e.kids).length:=by simpa using aZ
   have Qz:=rY mw
   clear rY
   rw[E.aE e.kids[k]]at dh gE Qz
   have xv:aG (aT e.kids[k].kids)=true:=bg
   have xw:(aT e.kids[k].kids).view=aT e.kids[k].kids:=bz
   generalize e.kids[k]=x at *
   generalize st.set ic (cO g)=s1 at *
   generalize st.set ic (cO (l7 g (uD su x)))=s2 at *
   simp[aZ,hw,hz,g9,eY,Qz,dh,xv,xw,af,AV.view]
   exact Qy _
  ·have iK:k=e.kids.length:=by omega
   rw[iK,List.drop_length]at hp
   simp only[jW,qC]at hp
   subst hp
   rw[<-mG]
   clear Mw hc
   generalize l7 f (jW su e.kids)=g at *
   have RA:(st.set ic (cO g)).length=st.length:=by simp
   have Kf:(st.set ic (cO g)).take st.length=st.set ic (cO g):=List.take_of_length_le (by simp)
   have QA:(st.set ic (cO g))[ic]?=some (.rows 0 2 [[.int .i64 (cE g),.int .i64 (cX g)]]):=MG
   have Zg:(st.set ic (cO g))[j]?=some (.rows v 1 (iW su)):=Ip
   have ht2:∀o,(st.set ic o).take st.length=st.set ic o:=λo=>List.take_of_length_le (by simp)
   by_cases h4:e.k=4
   ·by_cases h0:0<=e.ref
    ·have hlr:=CI h4
     obtain⟨r,yK⟩:∃r:Nat,e.ref=r:=⟨e.ref.toNat,by omega⟩
     have QB:r<su.length:=by omega
     have hb:=nk QB
     have hsu:su[r]?=some su[r]:=List.getElem?_eq_getElem QB
     have RX:(iW su).length=su.length:=by simp
     have T7:(e.k=4)=True:=eq_true h4
     have Wh:(if e.k=4/\0<=e.ref/\su[e.ref.toNat]?=some false then some e.a else none)=(if su[r]=false then some e.a else none):=by rw[yK,Int.toNat_natCast,hsu];simp[h4]
     rw[Wh]
     rw[yK]
     cases hx:su[r] with
     |true=>
      rw[hx]at hb
      simp only[Bool.true_eq_false,if_false,qC]
      generalize st.set ic (cO g)=s1 at *
      simp[aZ,T7,QB,Zg,hx,Kf]
     |false=>
      rw[hx]at hb
      simp only[if_true]
      cases g with
      |none=>
       simp only[l7,cE,cX]at QA ⊢
       have wY:(st.set ic (cO none)).set ic (.rows 0 2 [[.int .i64 3,.int .i64 e.a]])=st.set ic (cO (some e.a)):=wW _
       have ht3:=ht2 (cO (some e.a))
       generalize st.set ic (cO (some e.a))=s2 at *
       generalize st.set ic (cO none)=s1 at *
       simp[aZ,T7,QB,Zg,hx,QA,bf,AV.ah,AV.an,af,wY,ht3]
      |some y=>
       simp only[l7,cE,cX]at QA ⊢
       generalize st.set ic (cO (some y))=s1 at *
       simp[aZ,T7,QB,Zg,hx,QA,Kf]
    ·rw[if_neg (λh=>h0 h.2.1),qC]
     have T7:(e.k=4)=True:=eq_true h4
     generalize st.set ic (cO g)=s1 at *
     simp[aZ,T7,h0,Kf]
   ·rw[if_neg (λh=>h4 h.1),qC]
    generalize st.set ic (cO g)=s1 at *
    simp[aZ,h4,Kf]
end S9
namespace S9
open Ax Go cp V7 j4 k8 K9
theorem lU {rs:List jA}{st:aj}{P:AV->aj->Prop}{v:AV}{s:St}:X2 rs Ax.Mode.Cv st P (.ret v) s↔P v s.st:=by
 simp only[X2,Gz,Ax.Mode.fin]
 constructor
 ·rintro⟨r,h1,h2⟩
  cases h1
  exact h2
 ·exact λh=>⟨(v,s.st),rfl,h⟩
theorem HI (su:List Bool):(iW su).map AV.cy=iW su:=by
 simp only[iW,List.map_map]
 exact List.map_congr_left λ_ _=>rfl
theorem B4 (aa:Nat)(su:List Bool)(st:aj)(j v:Nat)(hj:st[j]?=some (sO v su))(hn:su.length<1000000000) :
  (aW S).call 0 aa 44 [.mu j v] st=some (.mu st.length 0,st++[sO 0 su]):=by
 have nc:∀aa bx,aI 0 aa (.lu 1 1) [.val .emp,.val (.mu j v)] st bx=some (.val (.mu st.length 0),st++[sO 0 su],bx):=λaa bx=>by
  have hf:fits 1 (iW su)=true:=by simp[fits,iW]
  have hr:su.length<=room:=by unfold room;omega
  simp[aI,xE,di,rowsOf,hj,HI,hf,hr]
 refine ax (sf:=s44) rfl rfl rfl ?_
 simp[s44,Uj,hj,nc]
def acX (s:Sm):Prop:=∀(su:List Bool)(f:Option Int)(aa:Nat)(st:aj)(ic j v:Nat),st[ic]?=some (cO f)->st[j]?=some (sO v su)->ic≠j->EK su.length s->Sm.sz s<1000000000->su.length<1000000000->
 ∃ext,(aW S).call 0 aa 45 [.ptr ic 0 0 0,.agg s.row,.mu j v] st=some (.mu j v,(st.set ic (cO (l7 f (kC su s).2))).set j (sO v (kC su s).1)++ext)
def acY (l:List Sm):Prop:=∀(su:List Bool)(f:Option Int)(aa:Nat)(st:aj)(ic j v:Nat),st[ic]?=some (cO f)->st[j]?=some (sO v su)->ic≠j->rB su.length l->Sm.dG l<1000000000->su.length<1000000000->
 ∃ext,(aW S).call 0 aa 26 [.ptr ic 0 0 0,br l,.mu j v] st=some (.mu st.length 0,st.set ic (cO (l7 f (gr su l).2))++sO 0 (gr su l).1::ext)
theorem eP (l:List Sm)(hl:∀s∈l,acX s):acY l:=by
 intro su f aa st ic j v hc hj jH hr dL hn
 have hz:cI 9 (br l)=true:=EZ
 have dA:aG (br l)=true:=bE
 have g9:(br l).view=br l:=bJ
 have eY:aP (br l)=Sm.rows l:=aR
 have hlen:=Sm.eW l
 have Ok:ic<st.length:=(List.getElem?_eq_some_iff.1 hc).1
 have ecl:=λaa=>B4 aa su st j v hj hn
 rw[qD]at hr
 have ahH:ic≠st.length:=by omega
 obtain⟨v',bK,h1,rfl,ext,rfl⟩:∃v' bK,(aW S).call 0 aa 26 [.ptr ic 0 0 0,br l,.mu j v] st=some (v',bK)/\v'=.mu st.length 0/\∃ext,bK=st.set ic (cO (l7 f (gr su l).2))++sO 0 (gr su l).1::ext:=by
  refine z8 (sf:=s26) rfl rfl rfl ?_
  generalize br l=lv at *
  simp[s26,dA,g9,eY,ecl]
  refine bC O2.eq_1 (λx:Nat×List Bool×Option Int×aj×List AV=>⟨[(0,.val (.ptr ic 0 0 0)),(2,.val (.mu st.length 0)),(11,.val lv),(12,.val (.int .i64 l.length)),(13,.val (.int .i64 x.1))],[x.2.2.2.2],st.set ic (cO x.2.2.1)++sO 0 x.2.1::x.2.2.2.1⟩)
   (λx=>x.1<=l.length/\x.2.1.length=su.length/\l7 x.2.2.1 (gr x.2.1 (l.drop x.1)).2=l7 f (gr su l).2/\(gr x.2.1 (l.drop x.1)).1=(gr su l).1) (λx=>l.length-x.1) (0,su,f,[],[]) (by simp[fU hc]) ⟨by simp,rfl,by simp,by simp⟩ ?_
  rintro⟨k,sk,g,ext,b⟩ ⟨hk,hsk,hp,hq⟩ ih
  simp only at hk hsk hp hq ih
  by_cases aZ:k<l.length
  ·have hw:IntKind.i64.wrap ((k:Int)+1)=((k+1:Nat):Int):=by rw[wrap64]<;>omega
   have hm:=List.getElem_mem aZ
   have MG:(st.set ic (cO g)++sO 0 sk::ext)[ic]?=some (cO g):=by
    rw[List.getElem?_append_left (by simpa using Ok)];exact ke hc
   have Ip:(st.set ic (cO g)++sO 0 sk::ext)[st.length]?=some (sO 0 sk):=by
    rw[List.getElem?_append_right (by simp)];simp
   have hup:∀g' s',((st.set ic (cO g)++sO 0 sk::ext).set ic (cO g')).set st.length (sO 0 s')=st.set ic (cO g')++sO 0 s'::ext:=λg' s'=>by
    rw[List.set_append_left _ _ (by simpa using Ok),List.set_set,List.set_append_right _ _ (by simp)];simp
   obtain⟨vG,dh⟩:=hl _ hm sk g aa _ ic st.length 0 MG Ip ahH (by rw[hsk];exact hr _ hm) (by have:=Sm.iO hm;omega) (by omega)
   rw[hup]at dh
   rw[List.drop_eq_getElem_cons aZ,uf]at hp hq
   simp only at hp hq
   rw[<-mG]at hp
   have ey:=λb=>ih (k+1,(kC sk l[k]).1,l7 g (kC sk l[k]).2,ext++vG,b) ⟨by simp only;omega,by simp only[G9];exact hsk,hp,hq⟩ (by simp only;omega)
   simp only at ey
   have nc:st.set ic (cO (l7 g (kC sk l[k]).2))++sO 0 (kC sk l[k]).1::ext++vG=st.set ic (cO (l7 g (kC sk l[k]).2))++sO 0 (kC sk l[k]).1::(ext++vG):=by simp
   rw[nc]at dh
   have gE:=B3 aZ
   have mw:k<(Sm.rows l).length:=by simpa using aZ
   have rY:=wX aZ mw
   obtain⟨e1,b1,l1⟩:aG (aT l[k].es)=true/\aG (br l[k].bd)=true/\aG (br l[k].el)=true:=⟨bg,bE,bE⟩
   have e2:(aT l[k].es).view=aT l[k].es:=bz
   have b2:(br l[k].bd).view=br l[k].bd:=bJ
   have l2:(br l[k].el).view=br l[k].el:=bJ
   rw[Sm.aE]at dh gE rY
   generalize st.set ic (cO (l7 g (kC sk l[k]).2))++sO 0 (kC sk l[k]).1::(ext++vG)=s2 at *
   generalize st.set ic (cO g)++sO 0 sk::ext=s1 at *
   generalize l[k]=x at *
   generalize aT x.es=xe at *
   generalize br x.bd=xb at *
   generalize br x.el=xl at *
   simp[aZ,hw,hz,g9,eY,rY,dh,e1,b1,l1,e2,b2,l2,af,AV.view]
   exact ey _
  ·have iK:k=l.length:=by omega
   rw[iK,List.drop_length,G8]at hp hq
   simp only[qC]at hp hq
   subst hp hq
   simp[aZ,lU]
 exact⟨ext,h1⟩
end S9
namespace S9
open Ax Go cp V7 j4 k8 K9
theorem B6 {s:Sm}:aG (aT s.es)=true/\aG (br s.bd)=true/\aG (br s.el)=true:=⟨bg,bE,bE⟩
def CS:bG->bG
 |.seq _ b=>b
 |x=>x
def oZ:bG:=CS (CS GJ.body)
theorem ac0 (s:Sm)(su:List Bool)(f:Option Int)(aa:Nat)(st:aj)(ic j v:Nat)(hc:st[ic]?=some (cO f))(hj:st[j]?=some (sO v su))(jH:ic≠j)(hr:ya su.length s.es)(dL:E.dG s.es<1000000000){Q:Ex->St->Prop}
  (go:∀b,W S 0 aa GJ.results Q [.code oZ] .normal ⟨[(0,.val (.ptr ic 0 0 0)),(2,.val (.mu j v)),(4,.fp 0 0)],[s.row,b],st.set ic (cO (l7 f (jW su s.es)))⟩) :
  W S 0 aa GJ.results Q [.code GJ.body] .normal (oA GJ [.ptr ic 0 0 0,.agg s.row,.mu j v] st):=by
 have hz:cI 11 (aT s.es)=true:=qf
 have dA:aG (aT s.es)=true:=bg
 have g9:(aT s.es).view=aT s.es:=bz
 have eY:aP (aT s.es)=E.rows s.es:=aR
 have iK:=E.eW s.es
 rw[lR]at hr
 have Ok:ic<st.length:=(List.getElem?_eq_some_iff.1 hc).1
 obtain⟨_,b1,l1⟩:=B6 (s:=s)
 rw[Sm.aE]at *
 generalize br s.bd=bv at *
 generalize br s.el=lv at *
 generalize Zi:aT s.es=kv at *
 simp[GJ,dA,g9,eY,b1,l1]
 show W S 0 aa GJ.results Q [.code (.loop Ji),.iQ 0,.code oZ] .normal _
 generalize oZ=T at *
 refine bC Ji.eq_1 (λx:Nat×Option Int×List AV=>⟨[(0,.val (.ptr ic 0 0 0)),(2,.val (.mu j v)),(4,.fp 0 0),(14,.val kv),(15,.val (.int .i64 s.es.length)),(16,.val (.int .i64 x.1))],[[.int .i64 s.k,.str s.nm,.str s.on,.int .i64 s.od,kv,bv,lv,.int .i64 s.a,.int .i64 s.ref],x.2.2],st.set ic (cO x.2.1)⟩)
  (λx=>x.1<=s.es.length/\l7 x.2.1 (jW su (s.es.drop x.1))=l7 f (jW su s.es)) (λx=>s.es.length-x.1) (0,f,[]) (by simp[fU hc]) ⟨by simp,by simp⟩ ?_
 rintro⟨k,g,b⟩ ⟨hk,hp⟩ Mw
 simp only at hk hp Mw
 have MG:(st.set ic (cO g))[ic]?=some (cO g):=ke hc
 have Ip:(st.set ic (cO g))[j]?=some (sO v su):=by rw[mH jH];exact hj
 have wW:∀o,(st.set ic (cO g)).set ic o=st.set ic o:=λo=>by rw[List.set_set]
 by_cases aZ:k<s.es.length
 ·have hw:IntKind.i64.wrap ((k:Int)+1)=((k+1:Nat):Int):=by rw[wrap64]<;>omega
  have hm:=List.getElem_mem aZ
  have dh:=λaa=>Qx s.es[k] su g aa (st.set ic (cO g)) ic j v MG Ip jH (hr _ hm) (by have:=E.iO hm;omega)
  rw[List.drop_eq_getElem_cons aZ,ue,<-mG]at hp
  have Qy:=λb=>Mw (k+1,l7 g (uD su s.es[k]),b) ⟨by simp only;omega,hp⟩ (by simp only;omega)
  simp only at Qy
  simp only[wW]at dh
  have gE:=B0 aZ
  have mw:k<(E.rows s.es).length:=by simpa using aZ
  have Qz:=vF aZ mw
  rw[E.aE s.es[k]]at dh gE Qz
  have xv:aG (aT s.es[k].kids)=true:=bg
  have xw:(aT s.es[k].kids).view=aT s.es[k].kids:=bz
  generalize s.es[k]=x at *
  generalize st.set ic (cO g)=s1 at *
  generalize st.set ic (cO (l7 g (uD su x)))=s2 at *
  simp[aZ,hw,hz,g9,eY,Qz,dh,xv,xw,af,AV.view]
  exact Qy _
 ·have iK:k=s.es.length:=by omega
  rw[iK,List.drop_length]at hp
  simp only[jW,qC]at hp
  subst hp
  have go:=go b
  simp[aZ]
  exact go
theorem HJ {su:List Bool}{k:Nat}(h:k<su.length):(List.replicate k true++su.drop k).set k true=List.replicate (k+1) true++su.drop (k+1):=by
 rw[List.drop_eq_getElem_cons h,List.set_append_right _ _ (by simp)]
 simp only[List.length_replicate,Nat.sub_self,List.set_cons_zero,List.replicate_succ',List.append_assoc,List.singleton_append]
theorem rF (s:Sm):acX s:=by
 induction s using Sm.ind with
 |_ s rL rA=>
  intro su f aa st ic j v hc hj jH hr dL hn
  have hz:=Sm.ni s
  obtain⟨r1,r2,r3,r4,r5⟩:=(ug _ _).1 hr
  have Ok:ic<st.length:=(List.getElem?_eq_some_iff.1 hc).1
  have M6:j<st.length:=(List.getElem?_eq_some_iff.1 hj).1
  obtain⟨e1,b1,l1⟩:=B6 (s:=s)
  have b2:(br s.bd).view=br s.bd:=bJ
  have l2:(br s.el).view=br s.el:=bJ
  have hB:=eP s.bd rL
  have hL:=eP s.el rA
  suffices hx:∃v' bK,(aW S).call 0 aa 45 [.ptr ic 0 0 0,.agg s.row,.mu j v] st=some (v',bK)/\v'=.mu j v/\∃ext,bK=(st.set ic (cO (l7 f (kC su s).2))).set j (sO v (kC su s).1)++ext by
   obtain⟨v',bK,h1,rfl,ext,rfl⟩:=hx
   exact⟨ext,h1⟩
  refine z8 (sf:=GJ) rfl rfl rfl (ac0 s su f _ st ic j v hc hj jH r1 (by omega) λb=>?_)
  rw[EJ,Sm.aE]
  generalize hg:l7 f (jW su s.es)=g at *
  have MG:(st.set ic (cO g))[ic]?=some (cO g):=ke hc
  have Ip:(st.set ic (cO g))[j]?=some (.rows v 1 (iW su)):=by rw[mH jH];exact hj
  have hj0:(st.set ic (cO g)).set j (sO v su)=st.set ic (cO g):=fU Ip
  generalize aT s.es=ev at *
  generalize hbv:br s.bd=bv at *
  generalize xz:br s.el=lv at *
  by_cases h1:s.k=1
  ·obtain⟨h0,aZ⟩:=r2 (.inl h1)
   obtain⟨r,yK⟩:∃r:Nat,s.ref=r:=⟨s.ref.toNat,by omega⟩
   have qO:r<su.length:=by omega
   have h1':(s.k=1)=True:=eq_true h1
   have hb:=nk qO
   rw[if_pos h1,yK,Int.toNat_natCast]
   simp only
   rw[hg]
   generalize st.set ic (cO g)=s1 at *
   simp[oZ,CS,GJ,h1',Ip,qO,bf,AV.ah,AV.an,af,lU]
  rw[if_neg h1]
  by_cases Yl:s.k=2\/s.k=3
  ·rw[if_pos Yl]
   by_cases h0:0<=s.ref
   ·have aZ:s.ref<su.length:=by
     rcases Yl with h|h
     ·exact(r2 (.inr h)).2
     ·exact r3 h
    obtain⟨r,yK⟩:∃r:Nat,s.ref=r:=⟨s.ref.toNat,by omega⟩
    have qO:r<su.length:=by omega
    have hb:=nk qO
    rw[if_pos h0,yK,Int.toNat_natCast]
    simp only
    rw[hg]
    generalize st.set ic (cO g)=s1 at *
    rcases Yl with h|h
    ·have M8:(s.k=2)=True:=eq_true h
     simp[oZ,CS,GJ,h1,M8,Ip,qO,bf,AV.ah,AV.an,af,lU]
    ·have h2:¬s.k=2:=by omega
     have M9:(s.k=3)=True:=eq_true h
     simp[oZ,CS,GJ,h1,h2,M9,Ip,qO,bf,AV.ah,AV.an,af,lU]
   ·have h3:s.k=3:=by
     rcases Yl with h|h
     ·exact absurd (r2 (.inr h)).1 h0
     ·exact h
    have h2:¬s.k=2:=by omega
    have M9:(s.k=3)=True:=eq_true h3
    rw[if_neg h0]
    simp only
    rw[hg,hj0]
    generalize st.set ic (cO g)=s1 at *
    simp[oZ,CS,GJ,h1,h2,M9,h0,lU]
  rw[if_neg Yl]
  have h2:¬s.k=2:=λh=>Yl (.inl h)
  have h3:¬s.k=3:=λh=>Yl (.inr h)
  by_cases h7:s.k=7
  ·have h7':(s.k=7)=True:=eq_true h7
   rw[if_pos h7]
   simp only
   rw[hg]
   have IU:∀sk:List Bool,((st.set ic (cO g)).set j (sO v sk))[j]?=some (.rows v 1 (iW sk)):=λsk=>ke Ip
   have wW:∀(a b:fh),((st.set ic (cO g)).set j a).set j b=(st.set ic (cO g)).set j b:=λa b=>by rw[List.set_set]
   generalize st.set ic (cO g)=s1 at *
   simp[oZ,CS,GJ,h1,h2,h3,h7',Ip]
   refine bC Pc.eq_1 (λk:Nat=>⟨[(2,.val (.mu j v)),(46,.val (.int .i64 su.length)),(47,.val (.int .i64 k))],[[.int .i64 s.k,.str s.nm,.str s.on,.int .i64 s.od,ev,bv,lv,.int .i64 s.a,.int .i64 s.ref],b],s1.set j (sO v (List.replicate k true++su.drop k))⟩)
    (λk=>k<=su.length) (λk=>su.length-k) 0 (by simp[hj0]) (by simp) ?_
   intro k hk ih
   by_cases aZ:k<su.length
   ·have hw:IntKind.i64.wrap ((k:Int)+1)=((k+1:Nat):Int):=by rw[wrap64]<;>omega
    have hl:(List.replicate k true++su.drop k).length=su.length:=by simp;omega
    have iK:k<(List.replicate k true++su.drop k).length:=by omega
    have hb:=nk iK
    have hh:=IU (List.replicate k true++su.drop k)
    have hn:=HJ aZ
    have ey:=ih (k+1) (by omega) (by omega)
    have hup:(s1.set j (sO v (List.replicate k true++su.drop k))).set j (.rows v 1 (iW (List.replicate (k+1) true++su.drop (k+1))))=s1.set j (sO v (List.replicate (k+1) true++su.drop (k+1))):=wW _ _
    generalize List.replicate (k+1) true++su.drop (k+1)=sk' at *
    generalize List.replicate k true++su.drop k=sk at *
    generalize s1.set j (sO v sk)=s2 at *
    simp[aZ,hw,hh,hl,hn,hup,bf,AV.ah,AV.an,af]
    exact ey
   ·have iK:k=su.length:=by omega
    have wY:List.replicate k true++su.drop k=su.map λ_=>true:=by
     rw[iK,List.drop_length,List.append_nil,List.map_const']
    rw[wY]
    simp[aZ,lU]
  rw[if_neg h7]
  by_cases h6:s.k=6
  ·have h6':(s.k=6)=True:=eq_true h6
   rw[if_pos h6]
   simp only
   rw[<-mG,hg]
   obtain⟨ext,dh⟩:=hB su g aa (st.set ic (cO g)) ic j v MG Ip jH r4 (by omega) hn
   rw[hbv,List.set_set,List.length_set]at dh
   have wY:(st.set ic (cO (l7 g (gr su s.bd).2))).set j (sO v su)=st.set ic (cO (l7 g (gr su s.bd).2)):=fU (by rw[mH jH];exact hj)
   rw[wY]
   generalize st.set ic (cO (l7 g (gr su s.bd).2))=s2 at *
   generalize st.set ic (cO g)=s1 at *
   simp[oZ,CS,GJ,h1,h2,h3,h7,h6',dh,b2,lU]
  rw[if_neg h6]
  by_cases h5:s.k=5
  ·have h5':(s.k=5)=True:=eq_true h5
   rw[if_pos h5]
   simp only
   rw[<-mG,<-mG,hg]
   obtain⟨ext,dh⟩:=hB su g aa (st.set ic (cO g)) ic j v MG Ip jH r4 (by omega) hn
   rw[hbv,List.set_set,List.length_set]at dh
   generalize hA:(gr su s.bd).1=A at *
   generalize XO:l7 g (gr su s.bd).2=g2 at *
   have hAl:A.length=su.length:=by rw[<-hA,tc]
   have hBl:(gr su s.el).1.length=su.length:=tc _ _
   have QA:(st.set ic (cO g2)++sO 0 A::ext)[ic]?=some (cO g2):=by
    rw[List.getElem?_append_left (by simpa using Ok)];exact ke hc
   have Zg:(st.set ic (cO g2)++sO 0 A::ext)[j]?=some (sO v su):=by
    rw[List.getElem?_append_left (by simpa using M6),mH jH];exact hj
   obtain⟨vG,B7⟩:=hL su g2 aa _ ic j v QA Zg jH r5 (by omega) hn
   rw[xz]at B7
   generalize hBB:(gr su s.el).1=B at *
   generalize hg3:l7 g2 (gr su s.el).2=g3 at *
   have ac3:(st.set ic (cO g2)++sO 0 A::ext).set ic (cO g3)=st.set ic (cO g3)++sO 0 A::ext:=by
    rw[List.set_append_left _ _ (by simpa using Ok),List.set_set]
   rw[ac3]at B7
   have hT:st.set ic (cO g3)++sO 0 A::ext++sO 0 B::vG=st.set ic (cO g3)++(sO 0 A::ext++sO 0 B::vG):=by simp
   rw[hT]at B7
   have hka:st.length≠j:=by omega
   have hkb:(st.set ic (cO g2)++sO 0 A::ext).length≠j:=by simp;omega
   have gA:∀sk,((st.set ic (cO g3)).set j (sO v sk)++(sO 0 A::ext++sO 0 B::vG))[st.length]?=some (.rows 0 1 (iW A)):=λsk=>by
    rw[List.getElem?_append_right (by simp)];simp
   have gB:∀sk,((st.set ic (cO g3)).set j (sO v sk)++(sO 0 A::ext++sO 0 B::vG))[(st.set ic (cO g2)++sO 0 A::ext).length]?=some (.rows 0 1 (iW B)):=λsk=>by
    rw[List.getElem?_append_right (by simp),List.getElem?_append_right (by simp)];simp
   have gJ:∀sk,((st.set ic (cO g3)).set j (sO v sk)++(sO 0 A::ext++sO 0 B::vG))[j]?=some (.rows v 1 (iW sk)):=λsk=>by
    rw[List.getElem?_append_left (by simpa using M6),List.getElem?_set_self (by simpa using M6)]
   have gS:∀sk sk',((st.set ic (cO g3)).set j (sO v sk)++(sO 0 A::ext++sO 0 B::vG)).set j (.rows v 1 (iW sk'))=(st.set ic (cO g3)).set j (sO v sk')++(sO 0 A::ext++sO 0 B::vG):=λsk sk'=>by
    rw[List.set_append_left _ _ (by simpa using M6),List.set_set]
   have g0:st.set ic (cO g3)++(sO 0 A::ext++sO 0 B::vG)=(st.set ic (cO g3)).set j (sO v su)++(sO 0 A::ext++sO 0 B::vG):=by
    rw[fU (show (st.set ic (cO g3))[j]?=some (sO v su) by rw[mH jH];exact hj)]
   rw[g0]at B7
   have hJ0:=gJ su
   generalize (st.set ic (cO g2)++sO 0 A::ext).length=kb at *
   generalize hEX:sO 0 A::ext++sO 0 B::vG=EX at *
   generalize st.set ic (cO g2)++sO 0 A::ext=s2 at *
   generalize st.set ic (cO g)=s1 at *
   generalize st.set ic (cO g3)=s3 at *
   generalize st.length=ka at *
   have QC:∀k (h:k<su.length) (h1:k<A.length) (h2:k<B.length),((List.zipWith (λa b=>a&&b) A B).take k++su.drop k).set k (A[k]&&B[k])=(List.zipWith (λa b=>a&&b) A B).take (k+1)++su.drop (k+1):=λk h h1 h2=>by
    rw[List.drop_eq_getElem_cons h,List.set_append_right _ _ (by simp;omega),List.take_succ_eq_append_getElem (by simp;omega)]
    have:k-((List.zipWith (λa b=>a&&b) A B).take k).length=0:=by simp;omega
    rw[this]
    simp only[List.set_cons_zero,List.getElem_zipWith,List.append_assoc,List.singleton_append]
   have ahJ:(List.zipWith (λa b=>a&&b) A B).length=su.length:=by simp[hAl,hBl]
   generalize hZ:List.zipWith (λa b=>a&&b) A B=Z at *
   simp[oZ,CS,GJ,h1,h2,h3,h7,h6,h5',dh,B7,b2,l2,hJ0,aB,az]
   refine bC Pd.eq_1 (λk:Nat=>⟨[(2,.val (.mu j v)),(10,.val (.mu ka 0)),(11,.val (.mu kb 0)),(74,.val (.int .i64 su.length)),(75,.val (.int .i64 k))],[[.int .i64 s.k,.str s.nm,.str s.on,.int .i64 s.od,ev,bv,lv,.int .i64 s.a,.int .i64 s.ref],b],s3.set j (sO v (Z.take k++su.drop k))++EX⟩)
    (λk=>k<=su.length) (λk=>su.length-k) 0 (by simp) (by simp) ?_
   intro k hk ih
   by_cases aZ:k<su.length
   ·have hw:IntKind.i64.wrap ((k:Int)+1)=((k+1:Nat):Int):=by rw[wrap64]<;>omega
    have hl:(Z.take k++su.drop k).length=su.length:=by simp;omega
    have iK:k<(Z.take k++su.drop k).length:=by omega
    have hlA:k<A.length:=by omega
    have hlB:k<B.length:=by omega
    have hb:=nk iK
    have bA:=nk hlA
    have bB:=nk hlB
    have a1:=gA (Z.take k++su.drop k)
    have a2:=gB (Z.take k++su.drop k)
    have a3:=gJ (Z.take k++su.drop k)
    have a4:=gS (Z.take k++su.drop k) (Z.take (k+1)++su.drop (k+1))
    have hn:=QC k aZ hlA hlB
    have ey:=ih (k+1) (by omega) (by omega)
    generalize Z.take (k+1)++su.drop (k+1)=sk' at *
    generalize Z.take k++su.drop k=sk at *
    generalize s3.set j (sO v sk)++EX=s4 at *
    cases hAk:A[k] with
    |true=>
     rw[hAk]at hn bA
     rw[Bool.true_and]at hn
     simp[aZ,hw,a1,a2,a3,hl,hlA,hlB,hAk,hn,a4,bf,AV.ah,AV.an,af]
     exact ey
    |false=>
     rw[hAk]at hn bA
     rw[Bool.false_and]at hn
     simp[aZ,hw,a1,a3,hl,hlA,hAk,hn,a4,bf,AV.ah,AV.an,af]
     exact ey
   ·have iK:k=su.length:=by omega
    have wY:Z.take k++su.drop k=Z:=by
     rw[iK,List.drop_length,List.append_nil,<-ahJ,List.take_length]
    rw[wY]
    simp[aZ,lU]
  rw[if_neg h5]
  simp only
  rw[hg,hj0]
  generalize st.set ic (cO g)=s1 at *
  simp[oZ,CS,GJ,h1,h2,h3,h5,h6,h7,lU]
end S9
namespace S9
open Ax Go cp V7 j4 k8 K9
open N7 U7 in
def zf (p:Pg):Option Int:=match lS (j8 p) with
 |some a=>some a
 |none=>match qj (aQ p) (aQ p).sigs p.funcs with
  |.error a=>some a
  |.ok bs=>CM (aQ p).sigs bs
def E7 (o:Option Int):AV:=.agg [.int .i64 (cE o),.int .i64 (cX o)]
theorem ac4 (l:List Sm):acY l:=eP l λs _=>rF s
theorem MH {n:Nat}:List.replicate n [AV.bool false]=iW (List.replicate n false):=by simp[iW]
theorem Uk {np n:Nat}:List.replicate np true++(List.replicate n false).drop np=List.replicate np true++List.replicate (n-np) false:=by rw[List.drop_replicate]
theorem wN {H:Hd}:∀{ss:List Sg}{fs:List Fc}{bs:List Bd},ss.length=fs.length->qj H ss fs=.ok bs->bs.length=fs.length
 |[],[],bs,_,h=>by unfold qj at h;cases h;rfl
 |[],_::_,_,h,_=>by simp at h
 |_::_,[],_,h,_=>by simp at h
 |s::ss,f::fs,bs,hl,h=>by
  unfold qj at h
  split at h
  ·cases h
  ·split at h
   ·cases h
   ·rename_i l Fz
    cases h
    have:=wN (by simpa using hl) Fz
    simp[this]
theorem MI {ss:List Sg}{bs:List Bd}{k:Nat}(h:k<ss.length)(h2:k<bs.length):CM (ss.drop k) (bs.drop k)=l7 (gr (Z6 ss[k] bs[k]) bs[k].code).2 (CM (ss.drop (k+1)) (bs.drop (k+1))):=by
 rw[List.drop_eq_getElem_cons h,List.drop_eq_getElem_cons h2];rfl
theorem QD {ss:List Sg}:CM ss []=none:=by cases ss<;>rfl
open N7 U7 in
theorem Ul (wl aa:Nat)(p:Pg)(st:aj)(hg:(j8 p).ok)(rX:GD.sm (j8 p))(dL:∀f∈p.funcs,f.params.length+Sm.dG f.body<1000000000)
  (Bc:∀bs,qj (aQ p) (aQ p).sigs p.funcs=.ok bs->∀b∈bs,Sm.dG b.code<1000000000/\b.vars.length<1000000000) :
  (aW S).call wl aa 11 [.agg p.row] st=some (E7 (zf p),st):=by
 have ec:=λwl aa st=>K9.HH wl aa p st hg rX dL
 have FC:p.funcs.length<1000000000:=by have:=rX.funcs;rw[pW,List.length_map]at this;exact this
 refine bT (sf:=s11) rfl rfl (by simp[Pg.row,AV.ah,AV.an]) rfl (by simp[E7,AV.an,AV.ah]) ?_
 unfold tn at ec
 unfold zf
 have r1:aG (aA 3 (p.bw.map Rc.row))=true:=aX
 have r2:(aA 3 (p.bw.map Rc.row)).view=aA 3 (p.bw.map Rc.row):=aY
 have f1:aG (aA 7 (p.funcs.map Fc.row))=true:=aX
 have f2:(aA 7 (p.funcs.map Fc.row)).view=aA 7 (p.funcs.map Fc.row):=aY
 have g1:aG (aA 4 (p.globals.map PD.cells))=true:=aX
 have g2:(aA 4 (p.globals.map PD.cells)).view=aA 4 (p.globals.map PD.cells):=aY
 simp only[Pg.row]at ec ⊢
 generalize aA 3 (p.bw.map Rc.row)=PR at *
 generalize aA 7 (p.funcs.map Fc.row)=PF at *
 generalize aA 4 (p.globals.map PD.cells)=PG at *
 cases hF:lS (j8 p) with
 |some a=>
  rw[hF]at ec
  simp only[E7,cE,cX]at ec ⊢
  simp[s11,ec,r1,r2,f1,f2,g1,g2,af,AV.view]
 |none=>
  rw[hF]at ec
  simp only at ec ⊢
  cases hR:qj (aQ p) (aQ p).sigs p.funcs with
  |error a=>
   rw[hR]at ec
   simp only[B5,E7,cE,cX]at ec ⊢
   simp[s11,ec,r1,r2,f1,f2,g1,g2,af,AV.view]
  |ok bs=>
   rw[hR]at ec
   simp only[B5,mS,List.cons_append,List.nil_append]at ec ⊢
   have ahL:=Bc bs hR
   clear Bc
   have dA:(aQ p).sigs.length=p.funcs.length:=by simp[aQ]
   have RX:=wN dA hR
   have hrefs:=Hf hR
   have z1:aG (aA 3 (bs.map Bd.row))=true:=aX
   have z2:(aA 3 (bs.map Bd.row)).view=aA 3 (bs.map Bd.row):=aY
   have z3:aP (aA 3 (bs.map Bd.row))=bs.map Bd.row:=aR
   have z4:cI 3 (aA 3 (bs.map Bd.row))=true:=iC (by simp[fits,Bd.row])
   have a1:aG (aA 2 ((aQ p).ct.map gV))=true:=aX
   have a2:(aA 2 ((aQ p).ct.map gV)).view=aA 2 ((aQ p).ct.map gV):=aY
   have b1:aG (aA 6 ((aQ p).sigs.map Sg.row))=true:=aX
   have b2:(aA 6 ((aQ p).sigs.map Sg.row)).view=aA 6 ((aQ p).sigs.map Sg.row):=aY
   have b3:aP (aA 6 ((aQ p).sigs.map Sg.row))=(aQ p).sigs.map Sg.row:=aR
   have b4:cI 6 (aA 6 ((aQ p).sigs.map Sg.row))=true:=iC (by simp[fits,Sg.row])
   have c1:aG (cj (aQ p).globals)=true:=jc
   have c2:(cj (aQ p).globals).view=cj (aQ p).globals:=jy
   generalize aA 2 ((aQ p).ct.map gV)=HS at *
   generalize aA 6 ((aQ p).sigs.map Sg.row)=HG at *
   generalize cj (aQ p).globals=GL at *
   generalize aA 3 (bs.map Bd.row)=BV at *
   have Nb:∀k:Nat,k<bs.length->k<(aQ p).sigs.length:=λk h=>by omega
   have RD:bs.length<1000000000:=by omega
   generalize (aQ p).sigs=SS at *
   clear hR
   simp[s11,ec,r1,r2,f1,f2,g1,g2,z1,z2,z3,a1,a2,b1,b2,c1,c2,af,AV.view]
   refine bC OT.eq_1 (λx:Nat×aj×List AV=>⟨[(2,.fp 1 0),(3,.fp 2 0),(20,.val BV),(21,.val (.int .i64 bs.length)),(22,.val (.int .i64 x.1))],[[PR,PG,PF],[.int .i64 0,.int .i64 0],[HS,GL,HG,.int .i64 (gW p),BV],[.int .i64 0,.int .i64 0],x.2.2],x.2.1⟩)
    (λx=>x.1<=bs.length/\CM (SS.drop x.1) (bs.drop x.1)=CM SS bs) (λx=>bs.length-x.1) (0,[],[]) (by simp) ⟨by simp,by simp⟩ ?_
   rintro⟨k,VH,b5⟩ ⟨hk,hp⟩ ih
   simp only at hk hp ih
   by_cases aZ:k<bs.length
   ·have hw:IntKind.i64.wrap ((k:Int)+1)=((k+1:Nat):Int):=by rw[wrap64]<;>omega
    have mq:=Nb k aZ
    rw[MI mq aZ]at hp
    obtain⟨q1,q2⟩:=hrefs k mq aZ
    obtain⟨q3,q4⟩:=ahL _ (List.getElem_mem aZ)
    have VI:∀h:k<(bs.map Bd.row).length,(bs.map Bd.row)[k]=[cj bs[k].vars,br bs[k].code,.int .i64 bs[k].a]:=λh=>by simp[Bd.row]
    have JD:∀h:k<(SS.map Sg.row).length,(SS.map Sg.row)[k]=[.str SS[k].nm,cj SS[k].ps,.bool SS[k].has,.int .i64 SS[k].res.b,.int .i64 SS[k].res.r,.int .i64 SS[k].res.d]:=λh=>by simp[Sg.row]
    have ahM:k<(bs.map Bd.row).length:=by simpa using aZ
    have Qw:k<(SS.map Sg.row).length:=by simpa using mq
    have ahN:=VI ahM
    have Ui:=JD Qw
    clear VI JD
    have v1:aG (cj bs[k].vars)=true:=jc
    have v2:(cj bs[k].vars).view=cj bs[k].vars:=jy
    have v3:(aP (cj bs[k].vars)).length=bs[k].vars.length:=by simp
    have w1:aG (br bs[k].code)=true:=bE
    have w2:(br bs[k].code).view=br bs[k].code:=bJ
    have p1:aG (cj SS[k].ps)=true:=jc
    have p2:(cj SS[k].ps).view=cj SS[k].ps:=jy
    have p3:(aP (cj SS[k].ps)).length=SS[k].ps.length:=by simp
    have ki:(bs[k].vars.length:Int)<=room:=by unfold room;omega
    have hbc:=ac4 bs[k].code
    unfold Z6 at hp
    have Gf:(List.replicate SS[k].ps.length true++List.replicate (bs[k].vars.length-SS[k].ps.length) false).length=bs[k].vars.length:=by simp;omega
    have dh:=λaa=>hbc (List.replicate SS[k].ps.length true++List.replicate (bs[k].vars.length-SS[k].ps.length) false) none aa (VH++[sO 0 (List.replicate SS[k].ps.length true++List.replicate (bs[k].vars.length-SS[k].ps.length) false),cO none]) (VH.length+1) VH.length 0
     (by rw[List.getElem?_append_right (by omega)];simp) (by simp) (by omega) (by rw[Gf];exact q2) q3 (by rw[Gf];exact q4)
    obtain⟨ext,dh⟩:=dh 0
    have IU:∀g,(VH++[sO 0 (List.replicate SS[k].ps.length true++List.replicate (bs[k].vars.length-SS[k].ps.length) false),cO none]).set (VH.length+1) (cO g)=VH++[sO 0 (List.replicate SS[k].ps.length true++List.replicate (bs[k].vars.length-SS[k].ps.length) false),cO g]:=λg=>by
     rw[List.set_append_right _ _ (by omega)];simp
    rw[IU]at dh
    have ho:∀g:Option Int,l7 none g=g:=λg=>rfl
    rw[ho]at dh
    generalize nt:bs[k].code=cs at *
    generalize hbv:bs[k].vars.length=n at *
    generalize hbp:SS[k].ps.length=np at *
    generalize hfb:cj bs[k].vars=FV at *
    generalize Lu:cj SS[k].ps=FP at *
    generalize hsc:br cs=SC at *
    generalize bs[k]=bk at *
    generalize SS[k]=sk at *
    simp[-Dh,Dh,aZ,mq,ahN,Ui,z2,z3,z4,b2,b3,b4,v1,v2,v3,w1,w2,p1,p2,p3,ki,MH,af,AV.view]
    refine bC OR.eq_1 (λi:Nat=>⟨[(2,.fp 1 0),(3,.fp 2 0),(6,.fp 4 0),(7,.val (.mu VH.length 0)),(20,.val BV),(21,.val (.int .i64 bs.length)),(22,.val (.int .i64 k)),(38,.val (.int .i64 np)),(39,.val (.int .i64 i))],[[PR,PG,PF],[.int .i64 0,.int .i64 0],[HS,GL,HG,.int .i64 (gW p),BV],[.int .i64 0,.int .i64 0],[FV,SC,.int .i64 bk.a]],VH++[sO 0 (List.replicate i true++(List.replicate n false).drop i)]⟩)
     (λi=>i<=np) (λi=>np-i) 0 (by simp) (by simp) ?_
    intro i hi rA
    by_cases Ok:i<np
    ·have hwi:IntKind.i64.wrap ((i:Int)+1)=((i+1:Nat):Int):=by rw[wrap64]<;>omega
     have IL:i<(List.replicate n false).length:=by simp;omega
     have hn:=HJ IL
     have hll:(List.replicate i true++(List.replicate n false).drop i).length=n:=by simp;omega
     have hib:i<(List.replicate i true++(List.replicate n false).drop i).length:=by omega
     have hb:=nk hib
     have ahO:=rA (i+1) (by omega) (by omega)
     generalize List.replicate (i+1) true++(List.replicate n false).drop (i+1)=s2 at *
     generalize List.replicate i true++(List.replicate n false).drop i=s1 at *
     have ahP:i<n:=by omega
     simp[Ok,hwi,hll,ahP,hn,bf,AV.ah,AV.an,af]
     exact ahO
    ·have SM:i=np:=by omega
     rw[SM,Uk]
     generalize List.replicate np true++List.replicate (n-np) false=s0 at *
     cases hgv:(gr s0 cs).2 with
     |none=>
      rw[hgv]at dh hp
      have hp:CM (SS.drop (k+1)) (bs.drop (k+1))=CM SS bs:=hp
      have ey:=λo b5=>ih (k+1,o,b5) ⟨by simp only;omega,hp⟩ (by simp only;omega)
      simp only at ey
      simp only[cO,cE,cX]at dh
      simp[dh,hw,w2]
      exact ey _ _
     |some a=>
      rw[hgv]at dh hp
      have hp:some a=CM SS bs:=hp
      rw[<-hp]
      simp only[cO,cE,cX,E7]at dh ⊢
      simp[dh,w2,af]
   ·have iK:k=bs.length:=by omega
    rw[iK,List.drop_length,QD]at hp
    rw[<-hp]
    simp[aZ,E7,cE,cX,af]
end S9
