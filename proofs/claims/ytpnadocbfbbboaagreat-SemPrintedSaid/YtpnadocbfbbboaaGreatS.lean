/- Part of a proof. -/
import Derived.Test.YtpnadocbfbbboaaGreatC
import Derived.Test.YtpnadocbfbbboaaGreatP
import Derived.Test.YtpnadocbfbbboaaGreatD

set_option maxRecDepth 100000
set_option maxHeartbeats 8000000
namespace S9
open Ax Go bX V7 lf mG K9
theorem Y5{wl J id b6:Nat}{neg:Bool}{st:ai}{bx:aX}:aP wl J (.NX neg) [.val (.mu id b6),.val .U] st bx=match st[id]? with
 |some (.rows v _ _)=>if v=b6 then some (.val (.bool neg),st,bx) else none
 |_=>none:=rfl
def cE(f:Option Int):Int:=match f with|some _=>3|none=>0
def cX(f:Option Int):Int:=match f with|some x=>x|none=>0
def cO(f:Option Int):fq:=.rows 0 2 [[.int .i64 (cE f),.int .i64 (cX f)]]
abbrev sO(v:Nat)(su:List Bool):fq:=.rows v 1 (jQ su)
theorem gT{st:ai}{i:Nat}{o:fq}(h:st[i]?=some o):st.set i o=st:=by
 obtain⟨h1,h2⟩:=List.getElem?_eq_some_iff.1 h;rw[<-h2,List.set_getElem_self]
theorem me{st:ai}{i:Nat}{o p:fq}(h:st[i]?=some o):(st.set i p)[i]?=some p:=by
 obtain⟨h1,_⟩:=List.getElem?_eq_some_iff.1 h;rw[List.getElem?_set_self h1]
theorem oW{st:ai}{i j:Nat}{p:fq}(h:i≠j):(st.set i p)[j]?=st[j]?:=List.getElem?_set_ne h
theorem pO{su:List Bool}{k:Nat}(h:k<su.length):(jQ su)[k]?=some [.bool su[k]]:=by simp[jQ,h]
theorem Vy(e:E):∀(su:List Bool)(f:Option Int)(J:Nat)(st:ai)(ic j v:Nat),st[ic]?=some (cO f)->st[j]?=some (sO v su)->ic≠j->FX su.length e->E.sz e<1000000000->
  (aT S).call 0 J 96 [.ptr ic 0 0 0,.agg e.aG,.mu j v] st=some (.fF [],st.set ic (cO (oU f (yW su e)))):=by
 induction e using E.xN with
 |_ e ih=>
  intro su f J st ic j v hc hj iR hr eI;have tT:=E.vp e;have j8:=E.fo e.ay;have hz:dg 11 (bf e.ay)=true:=mY;have dw:aR (bf e.ay)=true:=bP;have gn:(bf e.ay).aa=bf e.ay:=bS;have eM:bg (bf e.ay)=E.rows e.ay:=aZ;have pE:(E.rows e.ay).length=e.ay.length:=by simp
  rw[xO]at hr;obtain⟨FL,hr2⟩:=hr;rw[kJ]at hr2;rw[IN,E.aB];have Cz:ic<st.length:=(List.getElem?_eq_some_iff.1 hc).1;generalize hkv:bf e.ay=kv at *;refine an (sf:=s96) rfl rfl rfl ?_;simp[s96,dw,gn,eM];refine bu Ur.eq_1 (λx:Nat×Option Int×List AV=>⟨[(0,.val (.ptr ic 0 0 0)),(2,.val (.mu j v)),(4,.fp 0 0),(9,.val kv),(10,.val (.int .i64 e.ay.length)),(11,.val (.int .i64 x.1))],[[.int .i64 e.k,.int .i64 e.n,.str e.nm,.str e.on,.int .i64 e.od,kv,.int .i64 e.a,.int .i64 e.ty.b,.int .i64 e.ty.r,.int .i64 e.ty.d,.int .i64 e.ref],x.2.2],st.set ic (cO x.2.1)⟩)
   (λx=>x.1<=e.ay.length/\oU x.2.1 (mC su (e.ay.drop x.1))=oU f (mC su e.ay)) (λx=>e.ay.length-x.1) (0,f,[]) (by simp[gT hc]) ⟨by simp,by simp⟩ ?_
  rintro⟨k,g,b⟩ ⟨hk,hp⟩ Ve;simp only at hk hp Ve;have Y6:(st.set ic (cO g))[ic]?=some (cO g):=me hc;have Mm:(st.set ic (cO g))[j]?=some (sO v su):=by rw[oW iR];exact hj
  have zi:∀o,(st.set ic (cO g)).set ic o=st.set ic o:=λo=>by rw[List.set_set]
  by_cases bw:k<e.ay.length;have hw:=wk k (by omega);have hm:=List.getElem_mem bw;have eF:=λJ=>ih _ hm su g J (st.set ic (cO g)) ic j v Y6 Mm iR (hr2 _ hm) (by have:=E.cR hm;omega);rw[List.drop_eq_getElem_cons bw,qQ,<-oV]at hp;have Vz:=λb=>Ve (k+1,oU g (yW su e.ay[k]),b) ⟨by simp only;omega,hp⟩ (by simp only;omega);simp only at Vz;simp only[zi]at eF;have gE:=Hi bw;have uE:=λh2=>Bl bw h2;have wJ:k<(E.rows e.ay).length:=by simpa using bw
  have VA:=uE wJ;clear uE;rw[E.aB e.ay[k]]at eF gE VA;have xv:aR (bf e.ay[k].ay)=true:=bP;have xw:(bf e.ay[k].ay).aa=bf e.ay[k].ay:=bS;generalize e.ay[k]=x at *;generalize st.set ic (cO g)=s1 at *;generalize st.set ic (cO (oU g (yW su x)))=s2 at *;simp[bw,hw,hz,gn,eM,VA,eF,xv,xw,ah,AV.aa];exact Vz _;have j8:k=e.ay.length:=by omega
  rw[j8,List.drop_length]at hp;simp only[mC,uq]at hp;subst hp;rw[<-oV];clear Ve hc;generalize oU f (mC su e.ay)=g at *;have Of:(st.set ic (cO g)).length=st.length:=by simp
  have Oi:(st.set ic (cO g)).take st.length=st.set ic (cO g):=List.take_of_length_le (by simp);have hc2:(st.set ic (cO g))[ic]?=some (.rows 0 2 [[.int .i64 (cE g),.int .i64 (cX g)]]):=Y6;have hj2:(st.set ic (cO g))[j]?=some (.rows v 1 (jQ su)):=Mm;have ht2:∀o,(st.set ic o).take st.length=st.set ic o:=λo=>List.take_of_length_le (by simp);by_cases h4:e.k=4;by_cases h0:0<=e.ref;have hlr:=FL h4;obtain⟨r,BR⟩:∃r:Nat,e.ref=r:=⟨e.ref.toNat,by omega⟩;have EY:r<su.length:=by omega
  have hb:=pO EY;have hsu:su[r]?=some su[r]:=List.getElem?_eq_getElem EY;have Wt:(jQ su).length=su.length:=by simp
  have YR:(e.k=4)=True:=eq_true h4;have hco:(if e.k=4/\0<=e.ref/\su[e.ref.toNat]?=some false then some e.a else none)=(if su[r]=false then some e.a else none):=by rw[BR,Int.toNat_natCast,hsu];simp[h4]
  rw[hco];rw[BR];cases hx:su[r] with
  |true=>
   rw[hx]at hb;simp only[Bool.true_eq_false,if_false,uq];generalize st.set ic (cO g)=s1 at *;simp[bw,YR,EY,hj2,hx,Oi]
  |false=>
   rw[hx]at hb;simp only[if_true];cases g with
   |none=>
    simp only[oU,cE,cX]at hc2 ⊢;have Bn:(st.set ic (cO none)).set ic (.rows 0 2 [[.int .i64 3,.int .i64 e.a]])=st.set ic (cO (some e.a)):=zi _;have ht3:=ht2 (cO (some e.a));generalize st.set ic (cO (some e.a))=s2 at *;generalize st.set ic (cO none)=s1 at *;simp[bw,YR,EY,hj2,hx,hc2,bq,AV.af,AV.au,ah,Bn,ht3]
   |some y=>
    simp only[oU,cE,cX]at hc2 ⊢;generalize st.set ic (cO (some y))=s1 at *;simp[bw,YR,EY,hj2,hx,hc2,Oi]
  rw[if_neg (λh=>h0 h.2.1),uq];have YR:(e.k=4)=True:=eq_true h4;generalize st.set ic (cO g)=s1 at *;simp[bw,YR,h0,Oi];rw[if_neg (λh=>h4 h.1),uq];generalize st.set ic (cO g)=s1 at *;simp[bw,h4,Oi]
end S9
namespace S9
open Ax Go bX V7 lf mG K9
theorem lR{rs:List kD}{st:ai}{P:AV->ai->Prop}{s:St}:YX rs Ax.Mode.CN st P .normal s↔∃v,x3 s rs=some v/\P v s.st:=by
 simp only[YX,KM,Ax.Mode.mM];constructor;rintro⟨r,⟨v,h0,h1⟩,h2⟩;cases h1;exact⟨v,h0,h2⟩;rintro⟨v,h0,h2⟩;exact⟨(v,s.st),⟨v,h0,rfl⟩,h2⟩
theorem cP{rs:List kD}{st:ai}{P:AV->ai->Prop}{v:AV}{s:St}:YX rs Ax.Mode.CN st P (.ret v) s↔P v s.st:=by
 simp only[YX,KL,Ax.Mode.mM];constructor;rintro⟨r,h1,h2⟩;cases h1;exact h2;exact λh=>⟨(v,s.st),rfl,h⟩
theorem LG(su:List Bool):(jQ su).map AV.cJ=jQ su:=by
 simp only[jQ,List.map_map];exact List.map_congr_left λ_ _=>rfl
theorem EW(J:Nat)(su:List Bool)(st:ai)(j v:Nat)(hj:st[j]?=some (sO v su))(hn:su.length<1000000000) :
  (aT S).call 0 J 76 [.mu j v] st=some (.mu st.length 0,st++[sO 0 su]):=by
 have qi:∀J bx,aP 0 J (.kh 1 1) [.val .lU,.val (.mu j v)] st bx=some (.val (.mu st.length 0),st++[sO 0 su],bx):=λJ bx=>by
  have hf:bV 1 (jQ su)=true:=by simp[bV,jQ]
  have hr:su.length<=dx:=by unfold dx;omega
  simp[aP,xY,cV,dD,hj,LG,hf,hr]
 refine an (sf:=s76) rfl rfl rfl ?_;simp[s76,Y5,hj,qi]
def aic(s:Sm):Prop:=∀(su:List Bool)(f:Option Int)(J:Nat)(st:ai)(ic j v:Nat),st[ic]?=some (cO f)->st[j]?=some (sO v su)->ic≠j->FY su.length s->Sm.sz s<1000000000->su.length<1000000000->
 ∃ext,(aT S).call 0 J 77 [.ptr ic 0 0 0,.agg s.aG,.mu j v] st=some (.mu j v,(st.set ic (cO (oU f (oz su s).2))).set j (sO v (oz su s).1)++ext)
def aid(l:List Sm):Prop:=∀(su:List Bool)(f:Option Int)(J:Nat)(st:ai)(ic j v:Nat),st[ic]?=some (cO f)->st[j]?=some (sO v su)->ic≠j->rN su.length l->Sm.ey l<1000000000->su.length<1000000000->
 ∃ext,(aT S).call 0 J 47 [.ptr ic 0 0 0,bF l,.mu j v] st=some (.mu st.length 0,st.set ic (cO (oU f (iP su l).2))++sO 0 (iP su l).1::ext)
theorem fM(l:List Sm)(hl:∀s∈l,aic s):aid l:=by
 intro su f J st ic j v hc hj iR hr eI hn;have hz:dg 9 (bF l)=true:=Db;have dw:aR (bF l)=true:=bN;have gn:(bF l).aa=bF l:=bQ;have eM:bg (bF l)=Sm.rows l:=aZ;have hlen:=Sm.fo l;have Cz:ic<st.length:=(List.getElem?_eq_some_iff.1 hc).1;have ecl:=λJ=>EW J su st j v hj hn;rw[rO]at hr;have adQ:ic≠st.length:=by omega
 obtain⟨v',st',h1,rfl,ext,rfl⟩:∃v' st',(aT S).call 0 J 47 [.ptr ic 0 0 0,bF l,.mu j v] st=some (v',st')/\v'=.mu st.length 0/\∃ext,st'=st.set ic (cO (oU f (iP su l).2))++sO 0 (iP su l).1::ext:=by
  refine qE (sf:=s47) rfl rfl rfl ?_;generalize bF l=lv at *;simp[s47,dw,gn,eM,ecl];refine bu T9.eq_1 (λx:Nat×List Bool×Option Int×ai×List AV=>⟨[(0,.val (.ptr ic 0 0 0)),(2,.val (.mu st.length 0)),(11,.val lv),(12,.val (.int .i64 l.length)),(13,.val (.int .i64 x.1))],[x.2.2.2.2],st.set ic (cO x.2.2.1)++sO 0 x.2.1::x.2.2.2.1⟩)
   (λx=>x.1<=l.length/\x.2.1.length=su.length/\oU x.2.2.1 (iP x.2.1 (l.drop x.1)).2=oU f (iP su l).2/\(iP x.2.1 (l.drop x.1)).1=(iP su l).1) (λx=>l.length-x.1) (0,su,f,[],[]) (by simp[gT hc]) ⟨by simp,rfl,by simp,by simp⟩ ?_
  rintro⟨k,sk,g,ext,b⟩ ⟨hk,hsk,hp,hq⟩ ih;simp only at hk hsk hp hq ih;by_cases bw:k<l.length;have hw:=wk k (by omega);have hm:=List.getElem_mem bw;have Y6:(st.set ic (cO g)++sO 0 sk::ext)[ic]?=some (cO g):=by
   rw[List.getElem?_append_left (by simpa using Cz)];exact me hc
  have Mm:(st.set ic (cO g)++sO 0 sk::ext)[st.length]?=some (sO 0 sk):=by
   rw[List.getElem?_append_right (by simp)];simp
  have hup:∀g' s',((st.set ic (cO g)++sO 0 sk::ext).set ic (cO g')).set st.length (sO 0 s')=st.set ic (cO g')++sO 0 s'::ext:=λg' s'=>by
   rw[List.set_append_left _ _ (by simpa using Cz),List.set_set,List.set_append_right _ _ (by simp)];simp
  obtain⟨y7,eF⟩:=hl _ hm sk g J _ ic st.length 0 Y6 Mm adQ (by rw[hsk];exact hr _ hm) (by have:=Sm.cR hm;omega) (by omega);rw[hup]at eF;rw[List.drop_eq_getElem_cons bw,Bh]at hp hq;simp only at hp hq;rw[<-oV]at hp;have iF:=λb=>ih (k+1,(oz sk l[k]).1,oU g (oz sk l[k]).2,ext++y7,b) ⟨by simp only;omega,by simp only[Li];exact hsk,hp,hq⟩ (by simp only;omega);simp only at iF;have qi:st.set ic (cO (oU g (oz sk l[k]).2))++sO 0 (oz sk l[k]).1::ext++y7=st.set ic (cO (oU g (oz sk l[k]).2))++sO 0 (oz sk l[k]).1::(ext++y7):=by simp
  rw[qi]at eF;have gE:=Jc bw;have wJ:k<(Sm.rows l).length:=by simpa using bw
  have uE:=Dd bw wJ;obtain⟨e1,b1,l1⟩:aR (bf l[k].es)=true/\aR (bF l[k].bd)=true/\aR (bF l[k].el)=true:=⟨bP,bN,bN⟩;have e2:(bf l[k].es).aa=bf l[k].es:=bS;have b2:(bF l[k].bd).aa=bF l[k].bd:=bQ;have l2:(bF l[k].el).aa=bF l[k].el:=bQ;rw[Sm.aB]at eF gE uE;generalize st.set ic (cO (oU g (oz sk l[k]).2))++sO 0 (oz sk l[k]).1::(ext++y7)=s2 at *;generalize st.set ic (cO g)++sO 0 sk::ext=s1 at *;generalize l[k]=x at *;generalize bf x.es=xe at *;generalize bF x.bd=xb at *;generalize bF x.el=xl at *;simp[bw,hw,hz,gn,eM,uE,eF,e1,b1,l1,e2,b2,l2,ah,AV.aa];exact iF _;have j8:k=l.length:=by omega
  rw[j8,List.drop_length,U3]at hp hq;simp only[uq]at hp hq;subst hp hq;simp[bw,cP]
 exact⟨ext,h1⟩
end S9
namespace S9
open Ax Go bX V7 lf mG K9
theorem EZ{s:Sm}:aR (bf s.es)=true/\aR (bF s.bd)=true/\aR (bF s.el)=true:=⟨bP,bN,bN⟩
def F6:bE->bE
 |.seq _ b=>b|x=>x
def rT:bE:=F6 (F6 KU.body)
theorem aie(s:Sm)(su:List Bool)(f:Option Int)(J:Nat)(st:ai)(ic j v:Nat)(hc:st[ic]?=some (cO f))(hj:st[j]?=some (sO v su))(iR:ic≠j)(hr:x9 su.length s.es)(eI:E.ey s.es<1000000000){Q:Ex->St->Prop}
  (go:∀b,W S 0 J KU.results Q [.code rT] .normal ⟨[(0,.val (.ptr ic 0 0 0)),(2,.val (.mu j v)),(4,.fp 0 0)],[s.aG,b],st.set ic (cO (oU f (mC su s.es)))⟩) :
  W S 0 J KU.results Q [.code KU.body] .normal (qZ KU [.ptr ic 0 0 0,.agg s.aG,.mu j v] st):=by
 have hz:dg 11 (bf s.es)=true:=mY;have dw:aR (bf s.es)=true:=bP;have gn:(bf s.es).aa=bf s.es:=bS;have eM:bg (bf s.es)=E.rows s.es:=aZ;have j8:=E.fo s.es;rw[kJ]at hr;have Cz:ic<st.length:=(List.getElem?_eq_some_iff.1 hc).1;obtain⟨_,b1,l1⟩:=EZ (s:=s);rw[Sm.aB]at *;generalize bF s.bd=bv at *;generalize bF s.el=lv at *;generalize hkv:bf s.es=kv at *;simp[KU,dw,gn,eM,b1,l1];show W S 0 J KU.results Q [.code (.loop Nd),.jK 0,.code rT] .normal _;generalize rT=T at *;refine bu Nd.eq_1 (λx:Nat×Option Int×List AV=>⟨[(0,.val (.ptr ic 0 0 0)),(2,.val (.mu j v)),(4,.fp 0 0),(14,.val kv),(15,.val (.int .i64 s.es.length)),(16,.val (.int .i64 x.1))],[[.int .i64 s.k,.str s.nm,.str s.on,.int .i64 s.od,kv,bv,lv,.int .i64 s.a,.int .i64 s.ref],x.2.2],st.set ic (cO x.2.1)⟩)
  (λx=>x.1<=s.es.length/\oU x.2.1 (mC su (s.es.drop x.1))=oU f (mC su s.es)) (λx=>s.es.length-x.1) (0,f,[]) (by simp[gT hc]) ⟨by simp,by simp⟩ ?_
 rintro⟨k,g,b⟩ ⟨hk,hp⟩ Ve;simp only at hk hp Ve;have Y6:(st.set ic (cO g))[ic]?=some (cO g):=me hc;have Mm:(st.set ic (cO g))[j]?=some (sO v su):=by rw[oW iR];exact hj
 have zi:∀o,(st.set ic (cO g)).set ic o=st.set ic o:=λo=>by rw[List.set_set]
 by_cases bw:k<s.es.length;have hw:=wk k (by omega);have hm:=List.getElem_mem bw;have eF:=λJ=>Vy s.es[k] su g J (st.set ic (cO g)) ic j v Y6 Mm iR (hr _ hm) (by have:=E.cR hm;omega);rw[List.drop_eq_getElem_cons bw,qQ,<-oV]at hp;have Vz:=λb=>Ve (k+1,oU g (yW su s.es[k]),b) ⟨by simp only;omega,hp⟩ (by simp only;omega);simp only at Vz;simp only[zi]at eF;have gE:=Hi bw;have wJ:k<(E.rows s.es).length:=by simpa using bw
 have VA:=Bl bw wJ;rw[E.aB s.es[k]]at eF gE VA;have xv:aR (bf s.es[k].ay)=true:=bP;have xw:(bf s.es[k].ay).aa=bf s.es[k].ay:=bS;generalize s.es[k]=x at *;generalize st.set ic (cO g)=s1 at *;generalize st.set ic (cO (oU g (yW su x)))=s2 at *;simp[bw,hw,hz,gn,eM,VA,eF,xv,xw,ah,AV.aa];exact Vz _;have j8:k=s.es.length:=by omega
 rw[j8,List.drop_length]at hp;simp only[mC,uq]at hp;subst hp;have go:=go b;simp[bw];exact go
theorem LH{su:List Bool}{k:Nat}(h:k<su.length):(List.replicate k true++su.drop k).set k true=List.replicate (k+1) true++su.drop (k+1):=by
 rw[List.drop_eq_getElem_cons h,List.set_append_right _ _ (by simp)];simp only[List.length_replicate,Nat.sub_self,List.set_cons_zero,List.replicate_succ',List.append_assoc,List.singleton_append]
theorem ta(s:Sm):aic s:=by
 induction s using Sm.xN with
 |_ s C8 nB=>
  intro su f J st ic j v hc hj iR hr eI hn;have hz:=Sm.sY s;obtain⟨r1,r2,r3,r4,r5⟩:=(vr _ _).1 hr;have Cz:ic<st.length:=(List.getElem?_eq_some_iff.1 hc).1;have wF:j<st.length:=(List.getElem?_eq_some_iff.1 hj).1;obtain⟨e1,b1,l1⟩:=EZ (s:=s);have b2:(bF s.bd).aa=bF s.bd:=bQ;have l2:(bF s.el).aa=bF s.el:=bQ;have hB:=fM s.bd C8;have hL:=fM s.el nB
  suffices hx:∃v' st',(aT S).call 0 J 77 [.ptr ic 0 0 0,.agg s.aG,.mu j v] st=some (v',st')/\v'=.mu j v/\∃ext,st'=(st.set ic (cO (oU f (oz su s).2))).set j (sO v (oz su s).1)++ext by
   obtain⟨v',st',h1,rfl,ext,rfl⟩:=hx;exact⟨ext,h1⟩
  refine qE (sf:=KU) rfl rfl rfl (aie s su f _ st ic j v hc hj iR r1 (by omega) λb=>?_);rw[IP,Sm.aB];generalize hg:oU f (mC su s.es)=g at *;have Y6:(st.set ic (cO g))[ic]?=some (cO g):=me hc;have Mm:(st.set ic (cO g))[j]?=some (.rows v 1 (jQ su)):=by rw[oW iR];exact hj
  have hj0:(st.set ic (cO g)).set j (sO v su)=st.set ic (cO g):=gT Mm;generalize bf s.es=ev at *;generalize hbv:bF s.bd=bv at *;generalize zu:bF s.el=lv at *;by_cases h1:s.k=1;obtain⟨h0,bw⟩:=r2 (.inl h1);obtain⟨r,BR⟩:∃r:Nat,s.ref=r:=⟨s.ref.toNat,by omega⟩;have pE:r<su.length:=by omega
  have h1':(s.k=1)=True:=eq_true h1;have hb:=pO pE;rw[if_pos h1,BR,Int.toNat_natCast];simp only;rw[hg];generalize st.set ic (cO g)=s1 at *;simp[rT,F6,KU,h1',Mm,pE,bq,AV.af,AV.au,ah,cP];rw[if_neg h1];by_cases WQ:s.k=2\/s.k=3;rw[if_pos WQ];by_cases h0:0<=s.ref;have bw:s.ref<su.length:=by
   rcases WQ with h|h;exact(r2 (.inr h)).2;exact r3 h
  obtain⟨r,BR⟩:∃r:Nat,s.ref=r:=⟨s.ref.toNat,by omega⟩;have pE:r<su.length:=by omega
  have hb:=pO pE;rw[if_pos h0,BR,Int.toNat_natCast];simp only;rw[hg];generalize st.set ic (cO g)=s1 at *;rcases WQ with h|h;have RV:(s.k=2)=True:=eq_true h;simp[rT,F6,KU,h1,RV,Mm,pE,bq,AV.af,AV.au,ah,cP];have h2:¬s.k=2:=by omega
  have RW:(s.k=3)=True:=eq_true h;simp[rT,F6,KU,h1,h2,RW,Mm,pE,bq,AV.af,AV.au,ah,cP];have h3:s.k=3:=by
   rcases WQ with h|h;exact absurd (r2 (.inr h)).1 h0;exact h
  have h2:¬s.k=2:=by omega
  have RW:(s.k=3)=True:=eq_true h3;rw[if_neg h0];simp only;rw[hg,hj0];generalize st.set ic (cO g)=s1 at *;simp[rT,F6,KU,h1,h2,RW,h0,cP];rw[if_neg WQ];have h2:¬s.k=2:=λh=>WQ (.inl h);have h3:¬s.k=3:=λh=>WQ (.inr h);by_cases h7:s.k=7;have h7':(s.k=7)=True:=eq_true h7;rw[if_pos h7];simp only;rw[hg];have MM:∀sk:List Bool,((st.set ic (cO g)).set j (sO v sk))[j]?=some (.rows v 1 (jQ sk)):=λsk=>me Mm;have zi:∀(a b:fq),((st.set ic (cO g)).set j a).set j b=(st.set ic (cO g)).set j b:=λa b=>by rw[List.set_set]
  generalize st.set ic (cO g)=s1 at *;simp[rT,F6,KU,h1,h2,h3,h7',Mm];refine bu Un.eq_1 (λk:Nat=>⟨[(2,.val (.mu j v)),(46,.val (.int .i64 su.length)),(47,.val (.int .i64 k))],[[.int .i64 s.k,.str s.nm,.str s.on,.int .i64 s.od,ev,bv,lv,.int .i64 s.a,.int .i64 s.ref],b],s1.set j (sO v (List.replicate k true++su.drop k))⟩)
   (λk=>k<=su.length) (λk=>su.length-k) 0 (by simp[hj0]) (by simp) ?_
  intro k hk ih;by_cases bw:k<su.length;have hw:=wk k (by omega);have hl:(List.replicate k true++su.drop k).length=su.length:=by simp;omega
  have j8:k<(List.replicate k true++su.drop k).length:=by omega
  have hb:=pO j8;have hh:=MM (List.replicate k true++su.drop k);have hn:=LH bw;have iF:=ih (k+1) (by omega) (by omega);have hup:(s1.set j (sO v (List.replicate k true++su.drop k))).set j (.rows v 1 (jQ (List.replicate (k+1) true++su.drop (k+1))))=s1.set j (sO v (List.replicate (k+1) true++su.drop (k+1))):=zi _ _;generalize List.replicate (k+1) true++su.drop (k+1)=sk' at *;generalize List.replicate k true++su.drop k=sk at *;generalize s1.set j (sO v sk)=s2 at *;simp[bw,hw,hh,hl,hn,hup,bq,AV.af,AV.au,ah];exact iF;have j8:k=su.length:=by omega
  have Bn:List.replicate k true++su.drop k=su.map λ_=>true:=by
   rw[j8,List.drop_length,List.append_nil,List.map_const']
  rw[Bn];simp[bw,cP];rw[if_neg h7];by_cases h6:s.k=6;have h6':(s.k=6)=True:=eq_true h6;rw[if_pos h6];simp only;rw[<-oV,hg];obtain⟨ext,eF⟩:=hB su g J (st.set ic (cO g)) ic j v Y6 Mm iR r4 (by omega) hn;rw[hbv,List.set_set,List.length_set]at eF;have Bn:(st.set ic (cO (oU g (iP su s.bd).2))).set j (sO v su)=st.set ic (cO (oU g (iP su s.bd).2)):=gT (by rw[oW iR];exact hj);rw[Bn];generalize st.set ic (cO (oU g (iP su s.bd).2))=s2 at *;generalize st.set ic (cO g)=s1 at *;simp[rT,F6,KU,h1,h2,h3,h7,h6',eF,b2,cP];rw[if_neg h6];by_cases h5:s.k=5;have h5':(s.k=5)=True:=eq_true h5;rw[if_pos h5];simp only;rw[<-oV,<-oV,hg];obtain⟨ext,eF⟩:=hB su g J (st.set ic (cO g)) ic j v Y6 Mm iR r4 (by omega) hn;rw[hbv,List.set_set,List.length_set]at eF;generalize hA:(iP su s.bd).1=A at *;generalize Pa:oU g (iP su s.bd).2=g2 at *;have hAl:A.length=su.length:=by rw[<-hA,wM]
  have hBl:(iP su s.el).1.length=su.length:=wM _ _;have hc2:(st.set ic (cO g2)++sO 0 A::ext)[ic]?=some (cO g2):=by
   rw[List.getElem?_append_left (by simpa using Cz)];exact me hc
  have hj2:(st.set ic (cO g2)++sO 0 A::ext)[j]?=some (sO v su):=by
   rw[List.getElem?_append_left (by simpa using wF),oW iR];exact hj
  obtain⟨y7,E1⟩:=hL su g2 J _ ic j v hc2 hj2 iR r5 (by omega) hn;rw[zu]at E1;generalize hBB:(iP su s.el).1=B at *;generalize hg3:oU g2 (iP su s.el).2=g3 at *;have aih:(st.set ic (cO g2)++sO 0 A::ext).set ic (cO g3)=st.set ic (cO g3)++sO 0 A::ext:=by
   rw[List.set_append_left _ _ (by simpa using Cz),List.set_set]
  rw[aih]at E1;have hT:st.set ic (cO g3)++sO 0 A::ext++sO 0 B::y7=st.set ic (cO g3)++(sO 0 A::ext++sO 0 B::y7):=by simp
  rw[hT]at E1;have hka:st.length≠j:=by omega
  have hkb:(st.set ic (cO g2)++sO 0 A::ext).length≠j:=by simp;omega
  have gA:∀sk,((st.set ic (cO g3)).set j (sO v sk)++(sO 0 A::ext++sO 0 B::y7))[st.length]?=some (.rows 0 1 (jQ A)):=λsk=>by
   rw[List.getElem?_append_right (by simp)];simp
  have gB:∀sk,((st.set ic (cO g3)).set j (sO v sk)++(sO 0 A::ext++sO 0 B::y7))[(st.set ic (cO g2)++sO 0 A::ext).length]?=some (.rows 0 1 (jQ B)):=λsk=>by
   rw[List.getElem?_append_right (by simp),List.getElem?_append_right (by simp)];simp
  have gJ:∀sk,((st.set ic (cO g3)).set j (sO v sk)++(sO 0 A::ext++sO 0 B::y7))[j]?=some (.rows v 1 (jQ sk)):=λsk=>by
   rw[List.getElem?_append_left (by simpa using wF),List.getElem?_set_self (by simpa using wF)]
  have gS:∀sk sk',((st.set ic (cO g3)).set j (sO v sk)++(sO 0 A::ext++sO 0 B::y7)).set j (.rows v 1 (jQ sk'))=(st.set ic (cO g3)).set j (sO v sk')++(sO 0 A::ext++sO 0 B::y7):=λsk sk'=>by
   rw[List.set_append_left _ _ (by simpa using wF),List.set_set]
  have g0:st.set ic (cO g3)++(sO 0 A::ext++sO 0 B::y7)=(st.set ic (cO g3)).set j (sO v su)++(sO 0 A::ext++sO 0 B::y7):=by
   rw[gT (show (st.set ic (cO g3))[j]?=some (sO v su) by rw[oW iR];exact hj)]
  rw[g0]at E1;have hJ0:=gJ su;generalize (st.set ic (cO g2)++sO 0 A::ext).length=kb at *;generalize hEX:sO 0 A::ext++sO 0 B::y7=EX at *;generalize st.set ic (cO g2)++sO 0 A::ext=s2 at *;generalize st.set ic (cO g)=s1 at *;generalize st.set ic (cO g3)=s3 at *;generalize st.length=ka at *;have VB:∀k (h:k<su.length) (h1:k<A.length) (h2:k<B.length),((List.zipWith (λa b=>a&&b) A B).take k++su.drop k).set k (A[k]&&B[k])=(List.zipWith (λa b=>a&&b) A B).take (k+1)++su.drop (k+1):=λk h h1 h2=>by
   rw[List.drop_eq_getElem_cons h,List.set_append_right _ _ (by simp;omega),List.take_succ_eq_append_getElem (by simp;omega)];have:k-((List.zipWith (λa b=>a&&b) A B).take k).length=0:=by simp;omega
   rw[this];simp only[List.set_cons_zero,List.getElem_zipWith,List.append_assoc,List.singleton_append]
  have am7:(List.zipWith (λa b=>a&&b) A B).length=su.length:=by simp[hAl,hBl]
  generalize hZ:List.zipWith (λa b=>a&&b) A B=Z at *;simp[rT,F6,KU,h1,h2,h3,h7,h6,h5',eF,E1,b2,l2,hJ0,aF,aC];refine bu Uo.eq_1 (λk:Nat=>⟨[(2,.val (.mu j v)),(10,.val (.mu ka 0)),(11,.val (.mu kb 0)),(74,.val (.int .i64 su.length)),(75,.val (.int .i64 k))],[[.int .i64 s.k,.str s.nm,.str s.on,.int .i64 s.od,ev,bv,lv,.int .i64 s.a,.int .i64 s.ref],b],s3.set j (sO v (Z.take k++su.drop k))++EX⟩)
   (λk=>k<=su.length) (λk=>su.length-k) 0 (by simp) (by simp) ?_
  intro k hk ih;by_cases bw:k<su.length;have hw:=wk k (by omega);have hl:(Z.take k++su.drop k).length=su.length:=by simp;omega
  have j8:k<(Z.take k++su.drop k).length:=by omega
  have hlA:k<A.length:=by omega
  have hlB:k<B.length:=by omega
  have hb:=pO j8;have bA:=pO hlA;have bB:=pO hlB;have a1:=gA (Z.take k++su.drop k);have a2:=gB (Z.take k++su.drop k);have a3:=gJ (Z.take k++su.drop k);have a4:=gS (Z.take k++su.drop k) (Z.take (k+1)++su.drop (k+1));have hn:=VB k bw hlA hlB;have iF:=ih (k+1) (by omega) (by omega);generalize Z.take (k+1)++su.drop (k+1)=sk' at *;generalize Z.take k++su.drop k=sk at *;generalize s3.set j (sO v sk)++EX=s4 at *;cases hAk:A[k] with
  |true=>
   rw[hAk]at hn bA;rw[Bool.true_and]at hn;simp[bw,hw,a1,a2,a3,hl,hlA,hlB,hAk,hn,a4,bq,AV.af,AV.au,ah];exact iF
  |false=>
   rw[hAk]at hn bA;rw[Bool.false_and]at hn;simp[bw,hw,a1,a3,hl,hlA,hAk,hn,a4,bq,AV.af,AV.au,ah];exact iF
  have j8:k=su.length:=by omega
  have Bn:Z.take k++su.drop k=Z:=by
   rw[j8,List.drop_length,List.append_nil,<-am7,List.take_length]
  rw[Bn];simp[bw,cP];rw[if_neg h5];simp only;rw[hg,hj0];generalize st.set ic (cO g)=s1 at *;simp[rT,F6,KU,h1,h2,h3,h5,h6,h7,cP]
end S9
namespace S9
open Ax Go bX V7 lf mG K9
open N7 U7 in
def tf(p:Pg):Option Int:=match lO (jX p) with
 |some a=>some a|none=>match pM (aU p) (aU p).cu p.funcs with
  |.error a=>some a|.ok bs=>yX (aU p).cu bs
def LI(o:Option Int):AV:=.agg [.int .i64 (cE o),.int .i64 (cX o)]
theorem aii(l:List Sm):aid l:=fM l λs _=>ta s
theorem Rt{n:Nat}:List.replicate n [AV.bool false]=jQ (List.replicate n false):=by simp[jQ]
theorem Y7{np n:Nat}:List.replicate np true++(List.replicate n false).drop np=List.replicate np true++List.replicate (n-np) false:=by rw[List.drop_replicate]
theorem Jf{H:Hd}:∀{ss:List Sg}{fs:List Fc}{bs:List Bd},ss.length=fs.length->pM H ss fs=.ok bs->bs.length=fs.length
 |[],[],bs,_,h=>by unfold pM at h;cases h;rfl|[],_::_,_,h,_=>by simp at h|_::_,[],_,h,_=>by simp at h|s::ss,f::fs,bs,hl,h=>by
  unfold pM at h;split at h;cases h;split at h;cases h;rename_i l H9;cases h;have:=Jf (by simpa using hl) H9;simp[this]
theorem Ru{ss:List Sg}{bs:List Bd}{k:Nat}(h:k<ss.length)(h2:k<bs.length):yX (ss.drop k) (bs.drop k)=oU (iP (su0 ss[k] bs[k]) bs[k].code).2 (yX (ss.drop (k+1)) (bs.drop (k+1))):=by
 rw[List.drop_eq_getElem_cons h,List.drop_eq_getElem_cons h2];rfl
theorem VC{ss:List Sg}:yX ss []=none:=by cases ss<;>rfl
open N7 U7 in
theorem Y8(wl J:Nat)(p:Pg)(st:ai)(hg:(jX p).ok)(HZ:GD.sm (jX p))(eI:∀f∈p.funcs,f.params.length+Sm.ey f.body<1000000000)
  (B4:∀bs,pM (aU p) (aU p).cu p.funcs=.ok bs->∀b∈bs,Sm.ey b.code<1000000000/\b.vars.length<1000000000) :
  (aT S).call wl J 28 [.agg p.aG] st=some (LI (tf p),st):=by
 have ec:=λwl J st=>K9.LF wl J p st hg HZ eI;have Mo:p.funcs.length<1000000000:=by have:=HZ.funcs;rw[nV,List.length_map]at this;exact this
 refine bn (sf:=s28) rfl rfl (by simp[Pg.aG,AV.af,AV.au]) rfl (by simp[LI,AV.au,AV.af]) ?_;unfold Bm at ec;unfold tf;have r1:aR (aK 3 (p.bz.map Rc.aG))=true:=bL;have r2:(aK 3 (p.bz.map Rc.aG)).aa=aK 3 (p.bz.map Rc.aG):=bO;have f1:aR (aK 7 (p.funcs.map Fc.aG))=true:=bL;have f2:(aK 7 (p.funcs.map Fc.aG)).aa=aK 7 (p.funcs.map Fc.aG):=bO;have g1:aR (aK 4 (p.aH.map PD.cells))=true:=bL;have g2:(aK 4 (p.aH.map PD.cells)).aa=aK 4 (p.aH.map PD.cells):=bO;simp only[Pg.aG]at ec ⊢;generalize aK 3 (p.bz.map Rc.aG)=PR at *;generalize aK 7 (p.funcs.map Fc.aG)=PF at *;generalize aK 4 (p.aH.map PD.cells)=PG at *;cases hF:lO (jX p) with
 |some a=>
  rw[hF]at ec;simp only[LI,cE,cX]at ec ⊢;simp[s28,ec,r1,r2,f1,f2,g1,g2,ah,AV.aa]
 |none=>
  rw[hF]at ec;simp only at ec ⊢;cases hR:pM (aU p) (aU p).cu p.funcs with
  |error a=>
   rw[hR]at ec;simp only[Je,LI,cE,cX]at ec ⊢;simp[s28,ec,r1,r2,f1,f2,g1,g2,ah,AV.aa]
  |ok bs=>
   rw[hR]at ec;simp only[Je,td,List.cons_append,List.nil_append]at ec ⊢;have am9:=B4 bs hR;clear B4;have dw:(aU p).cu.length=p.funcs.length:=(by simp[aU]);have Wt:=Jf dw hR;have hrefs:=EK hR;have z1:aR (aK 3 (bs.map Bd.aG))=true:=bL;have z2:(aK 3 (bs.map Bd.aG)).aa=aK 3 (bs.map Bd.aG):=bO;have z3:bg (aK 3 (bs.map Bd.aG))=bs.map Bd.aG:=aZ;have z4:dg 3 (aK 3 (bs.map Bd.aG))=true:=fZ (by simp[bV,Bd.aG]);have a1:aR (aK 2 ((aU p).bZ.map gV))=true:=bL;have a2:(aK 2 ((aU p).bZ.map gV)).aa=aK 2 ((aU p).bZ.map gV):=bO;have b1:aR (aK 6 ((aU p).cu.map Sg.aG))=true:=bL;have b2:(aK 6 ((aU p).cu.map Sg.aG)).aa=aK 6 ((aU p).cu.map Sg.aG):=bO;have b3:bg (aK 6 ((aU p).cu.map Sg.aG))=(aU p).cu.map Sg.aG:=aZ;have b4:dg 6 (aK 6 ((aU p).cu.map Sg.aG))=true:=fZ (by simp[bV,Sg.aG]);have c1:aR (cM (aU p).aH)=true:=ig;have c2:(cM (aU p).aH).aa=cM (aU p).aH:=iQ;generalize aK 2 ((aU p).bZ.map gV)=HS at *;generalize aK 6 ((aU p).cu.map Sg.aG)=HG at *;generalize cM (aU p).aH=GL at *;generalize aK 3 (bs.map Bd.aG)=BV at *;have WM:∀k:Nat,k<bs.length->k<(aU p).cu.length:=λk h=>by omega
   have Wz:bs.length<1000000000:=(by omega);generalize (aU p).cu=SS at *;clear hR;simp[s28,ec,r1,r2,f1,f2,g1,g2,z1,z2,z3,a1,a2,b1,b2,c1,c2,ah,AV.aa];refine bu TZ.eq_1 (λx:Nat×ai×List AV=>⟨[(2,.fp 1 0),(3,.fp 2 0),(20,.val BV),(21,.val (.int .i64 bs.length)),(22,.val (.int .i64 x.1))],[[PR,PG,PF],[.int .i64 0,.int .i64 0],[HS,GL,HG,.int .i64 (eP p),BV],[.int .i64 0,.int .i64 0],x.2.2],x.2.1⟩)
    (λx=>x.1<=bs.length/\yX (SS.drop x.1) (bs.drop x.1)=yX SS bs) (λx=>bs.length-x.1) (0,[],[]) (by simp) ⟨by simp,by simp⟩ ?_
   rintro⟨k,obs,b5⟩ ⟨hk,hp⟩ ih;simp only at hk hp ih;by_cases bw:k<bs.length;have hw:=wk k (by omega);have tT:=WM k bw;rw[Ru tT bw]at hp;obtain⟨q1,q2⟩:=hrefs k tT bw;obtain⟨q3,q4⟩:=am9 _ (List.getElem_mem bw);have gB':∀h:k<(bs.map Bd.aG).length,(bs.map Bd.aG)[k]=[cM bs[k].vars,bF bs[k].code,.int .i64 bs[k].a]:=λh=>by simp[Bd.aG]
   have YV:∀h:k<(SS.map Sg.aG).length,(SS.map Sg.aG)[k]=[.str SS[k].nm,cM SS[k].ps,.bool SS[k].ct,.int .i64 SS[k].res.b,.int .i64 SS[k].res.r,.int .i64 SS[k].res.d]:=λh=>by simp[Sg.aG]
   have ana:k<(bs.map Bd.aG).length:=(by simpa using bw);have Vx:k<(SS.map Sg.aG).length:=(by simpa using tT);have anb:=gB' ana;have Y4:=YV Vx;clear gB' YV;have v1:aR (cM bs[k].vars)=true:=ig;have v2:(cM bs[k].vars).aa=cM bs[k].vars:=iQ;have v3:(bg (cM bs[k].vars)).length=bs[k].vars.length:=(by simp);have w1:aR (bF bs[k].code)=true:=bN;have w2:(bF bs[k].code).aa=bF bs[k].code:=bQ;have p1:aR (cM SS[k].ps)=true:=ig;have p2:(cM SS[k].ps).aa=cM SS[k].ps:=iQ;have p3:(bg (cM SS[k].ps)).length=SS[k].ps.length:=(by simp);have sR:(bs[k].vars.length:Int)<=dx:=(by unfold dx;omega);have hbc:=aii bs[k].code;unfold su0 at hp;have Ku:(List.replicate SS[k].ps.length true++List.replicate (bs[k].vars.length-SS[k].ps.length) false).length=bs[k].vars.length:=(by simp;omega);have eF:=λJ=>hbc (List.replicate SS[k].ps.length true++List.replicate (bs[k].vars.length-SS[k].ps.length) false) none J (obs++[sO 0 (List.replicate SS[k].ps.length true++List.replicate (bs[k].vars.length-SS[k].ps.length) false),cO none]) (obs.length+1) obs.length 0
    (by rw[List.getElem?_append_right (by omega)];simp) (by simp) (by omega) (by rw[Ku];exact q2) q3 (by rw[Ku];exact q4)
   obtain⟨ext,eF⟩:=eF 0;have MM:∀g,(obs++[sO 0 (List.replicate SS[k].ps.length true++List.replicate (bs[k].vars.length-SS[k].ps.length) false),cO none]).set (obs.length+1) (cO g)=obs++[sO 0 (List.replicate SS[k].ps.length true++List.replicate (bs[k].vars.length-SS[k].ps.length) false),cO g]:=λg=>by
    rw[List.set_append_right _ _ (by omega)];simp
   rw[MM]at eF;have ho:∀g:Option Int,oU none g=g:=λg=>rfl;rw[ho]at eF;generalize qv:bs[k].code=cs at *;generalize hbv:bs[k].vars.length=n at *;generalize hbp:SS[k].ps.length=np at *;generalize hfb:cM bs[k].vars=FV at *;generalize Qj:cM SS[k].ps=FP at *;generalize hsc:bF cs=SC at *;generalize bs[k]=bk at *;generalize SS[k]=sk at *;simp[-GJ,GJ,bw,tT,anb,Y4,z2,z3,z4,b2,b3,b4,v1,v2,v3,w1,w2,p1,p2,p3,sR,Rt,ah,AV.aa];refine bu TY.eq_1 (λi:Nat=>⟨[(2,.fp 1 0),(3,.fp 2 0),(6,.fp 4 0),(7,.val (.mu obs.length 0)),(20,.val BV),(21,.val (.int .i64 bs.length)),(22,.val (.int .i64 k)),(38,.val (.int .i64 np)),(39,.val (.int .i64 i))],[[PR,PG,PF],[.int .i64 0,.int .i64 0],[HS,GL,HG,.int .i64 (eP p),BV],[.int .i64 0,.int .i64 0],[FV,SC,.int .i64 bk.a]],obs++[sO 0 (List.replicate i true++(List.replicate n false).drop i)]⟩)
    (λi=>i<=np) (λi=>np-i) 0 (by simp) (by simp) ?_
   intro i hi nB;by_cases Cz:i<np;have hwi:=wk i (by omega);have MH:i<(List.replicate n false).length:=(by simp;omega);have hn:=LH MH;have hll:(List.replicate i true++(List.replicate n false).drop i).length=n:=(by simp;omega);have hib:i<(List.replicate i true++(List.replicate n false).drop i).length:=(by omega);have hb:=pO hib;have anc:=nB (i+1) (by omega) (by omega);generalize List.replicate (i+1) true++(List.replicate n false).drop (i+1)=s2 at *;generalize List.replicate i true++(List.replicate n false).drop i=s1 at *;have ane:i<n:=(by omega);simp[Cz,hwi,hll,ane,hn,bq,AV.af,AV.au,ah];exact anc;have MZ:i=np:=(by omega);rw[MZ,Y7];generalize List.replicate np true++List.replicate (n-np) false=s0 at *;cases hgv:(iP s0 cs).2 with
   |none=>
    rw[hgv]at eF hp;have hp:yX (SS.drop (k+1)) (bs.drop (k+1))=yX SS bs:=hp;have iF:=λo b5=>ih (k+1,o,b5) ⟨by simp only;omega,hp⟩ (by simp only;omega);simp only at iF;simp only[cO,cE,cX]at eF;simp[eF,hw,w2];exact iF _ _
   |some a=>
    rw[hgv]at eF hp;have hp:some a=yX SS bs:=hp;rw[<-hp];simp only[cO,cE,cX,LI]at eF ⊢;simp[eF,w2,ah]
   have j8:k=bs.length:=(by omega);rw[j8,List.drop_length,VC]at hp;rw[<-hp];simp[bw,LI,cE,cX,ah]
end S9
