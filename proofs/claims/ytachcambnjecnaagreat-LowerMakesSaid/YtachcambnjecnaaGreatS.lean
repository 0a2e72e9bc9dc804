/- Part of a proof. -/
import Derived.Test.YtachcambnjecnaaGreatC
import Derived.Test.YtachcambnjecnaaGreatP
import Derived.Test.YtachcambnjecnaaGreatD

set_option maxRecDepth 100000
set_option maxHeartbeats 8000000
namespace S9
open Ax Go bu V7 jG ke K9
theorem Wi{wl af id cz:Nat}{neg:Bool}{st:aj}{bx:bF}:aW wl af (.Mm neg) [.val (.mu id cz),.val .U] st bx=match st[id]? with
 |some (.rows v _ _)=>if v=cz then some (.val (.bool neg),st,bx) else none
 |_=>none:=rfl
def cE(f:Option Int):Int:=match f with|some _=>3|none=>0
def cX(f:Option Int):Int:=match f with|some x=>x|none=>0
def cO(f:Option Int):dz:=.rows 0 2 [[.int .i64 (cE f),.int .i64 (cX f)]]
abbrev sO(v:Nat)(su:List Bool):dz:=.rows v 1 (fT su)
theorem gb{st:aj}{i:Nat}{o:dz}(h:st[i]?=some o):st.set i o=st:=by
 obtain⟨h1,h2⟩:=List.getElem?_eq_some_iff.1 h;rw[<-h2,List.set_getElem_self]
theorem eY{st:aj}{i:Nat}{o p:dz}(h:st[i]?=some o):(st.set i p)[i]?=some p:=by
 obtain⟨h1,_⟩:=List.getElem?_eq_some_iff.1 h;rw[List.getElem?_set_self h1]
theorem fN{st:aj}{i j:Nat}{p:dz}(h:i≠j):(st.set i p)[j]?=st[j]?:=List.getElem?_set_ne h
theorem jj{su:List Bool}{k:Nat}(h:k<su.length):(fT su)[k]?=some [.bool su[k]]:=by simp[fT,h]
theorem Td(e:E):∀(su:List Bool)(f:Option Int)(af:Nat)(st:aj)(ic j v:Nat),st[ic]?=some (cO f)->st[j]?=some (sO v su)->ic≠j->HX su.length e->E.sz e<1000000000->
  (bh S).call 0 af 101 [.ptr ic 0 0 0,.agg e.row,.mu j v] st=some (.fm [],st.set ic (cO (lA f (Aa su e)))):=by
 induction e using E.yx with
 |_ e ih=>
  intro su f af st ic j v hc hj jn hr dH;have nk:=E.mz e;have eL:=E.dG e.aC;have hz:bX 11 (aI e.aC)=true:=iM;have cC:aD (aI e.aC)=true:=aR;have dW:(aI e.aC).view=aI e.aC:=aN;have cP:aM (aI e.aC)=E.rows e.aC:=aE;have nj:(E.rows e.aC).length=e.aC.length:=by simp
  rw[Ac]at hr;obtain⟨DE,YD⟩:=hr;rw[lW]at YD;rw[Nn,E.az];have E9:ic<st.length:=(List.getElem?_eq_some_iff.1 hc).1;generalize ow:aI e.aC=kv at *;refine ay (sf:=Zw) rfl rfl rfl ?_;simp[Zw,cC,dW,cP];refine bf MY.eq_1 (λx:Nat×Option Int×List AV=>⟨[(0,.val (.ptr ic 0 0 0)),(2,.val (.mu j v)),(4,.fp 0 0),(9,.val kv),(10,.val (.int .i64 e.aC.length)),(11,.val (.int .i64 x.1))],[[.int .i64 e.k,.int .i64 e.n,.str e.nm,.str e.on,.int .i64 e.od,kv,.int .i64 e.a,.int .i64 e.ty.b,.int .i64 e.ty.r,.int .i64 e.ty.d,.int .i64 e.cH],x.2.2],st.set ic (cO x.2.1)⟩)
   (λx=>x.1<=e.aC.length/\lA x.2.1 (lI su (e.aC.drop x.1))=lA f (lI su e.aC)) (λx=>e.aC.length-x.1) (0,f,[]) (by simp[gb hc]) ⟨by simp,by simp⟩ ?_
  rintro⟨k,g,b⟩ ⟨hk,hp⟩ Gy;simp only at hk hp Gy;have xM:(st.set ic (cO g))[ic]?=some (cO g):=eY hc;have vo:(st.set ic (cO g))[j]?=some (sO v su):=by rw[fN jn];exact hj
  have oz:∀o,(st.set ic (cO g)).set ic o=st.set ic o:=λo=>by rw[List.set_set]
  by_cases aX:k<e.aC.length;have hw:=wk k (by omega);have hm:=List.getElem_mem aX;have ct:=λaf=>ih _ hm su g af (st.set ic (cO g)) ic j v xM vo jn (YD _ hm) (by have:=E.iA hm;omega);rw[List.drop_eq_getElem_cons aX,xF,<-iH]at hp;have EH:=λb=>Gy (k+1,lA g (Aa su e.aC[k]),b) ⟨by simp only;omega,hp⟩ (by simp only;omega);simp only at EH;simp only[oz]at ct;have gE:=u5 aX;have m9:=λh2=>oY aX h2;have gy:k<(E.rows e.aC).length:=by simpa using aX
  have tQ:=m9 gy;clear m9;rw[E.az e.aC[k]]at ct gE tQ;have xv:aD (aI e.aC[k].aC)=true:=aR;have xw:(aI e.aC[k].aC).view=aI e.aC[k].aC:=aN;generalize e.aC[k]=x at *;generalize st.set ic (cO g)=s1 at *;generalize st.set ic (cO (lA g (Aa su x)))=s2 at *;simp[aX,hw,hz,dW,cP,tQ,ct,xv,xw,ag,AV.view];exact EH _;have eL:k=e.aC.length:=by omega
  rw[eL,List.drop_length]at hp;simp only[lI,kU]at hp;subst hp;rw[<-iH];clear Gy hc;generalize lA f (lI su e.aC)=g at *;have Uv:(st.set ic (cO g)).length=st.length:=by simp
  have I4:(st.set ic (cO g)).take st.length=st.set ic (cO g):=List.take_of_length_le (by simp);have Bi:(st.set ic (cO g))[ic]?=some (.rows 0 2 [[.int .i64 (cE g),.int .i64 (cX g)]]):=xM;have DH:(st.set ic (cO g))[j]?=some (.rows v 1 (fT su)):=vo;have Yt:∀o,(st.set ic o).take st.length=st.set ic o:=λo=>List.take_of_length_le (by simp);by_cases h4:e.k=4;by_cases h0:0<=e.cH;have hlr:=DE h4;obtain⟨r,vu⟩:∃r:Nat,e.cH=r:=⟨e.cH.toNat,by omega⟩;have Bj:r<su.length:=by omega
  have hb:=jj Bj;have hsu:su[r]?=some su[r]:=List.getElem?_eq_getElem Bj;have NQ:(fT su).length=su.length:=by simp
  have LH:(e.k=4)=True:=eq_true h4;have Qt:(if e.k=4/\0<=e.cH/\su[e.cH.toNat]?=some false then some e.a else none)=(if su[r]=false then some e.a else none):=by rw[vu,Int.toNat_natCast,hsu];simp[h4]
  rw[Qt];rw[vu];cases hx:su[r] with
  |true=>
   rw[hx]at hb;simp only[Bool.true_eq_false,if_false,kU];generalize st.set ic (cO g)=s1 at *;simp[aX,LH,Bj,DH,hx,I4]
  |false=>
   rw[hx]at hb;simp only[if_true];cases g with
   |none=>
    simp only[lA,cE,cX]at Bi ⊢;have tR:(st.set ic (cO none)).set ic (.rows 0 2 [[.int .i64 3,.int .i64 e.a]])=st.set ic (cO (some e.a)):=oz _;have ht3:=Yt (cO (some e.a));generalize st.set ic (cO (some e.a))=s2 at *;generalize st.set ic (cO none)=s1 at *;simp[aX,LH,Bj,DH,hx,Bi,aQ,AV.ai,AV.ax,ag,tR,ht3]
   |some y=>
    simp only[lA,cE,cX]at Bi ⊢;generalize st.set ic (cO (some y))=s1 at *;simp[aX,LH,Bj,DH,hx,Bi,I4]
  rw[if_neg (λh=>h0 h.2.1),kU];have LH:(e.k=4)=True:=eq_true h4;generalize st.set ic (cO g)=s1 at *;simp[aX,LH,h0,I4];rw[if_neg (λh=>h4 h.1),kU];generalize st.set ic (cO g)=s1 at *;simp[aX,h4,I4]
end S9
namespace S9
open Ax Go bu V7 jG ke K9
theorem Te{rs:List iE}{st:aj}{P:AV->aj->Prop}{s:St}:Wc rs Ax.Mode.zi st P .normal s↔∃v,xS s rs=some v/\P v s.st:=by
 simp only[Wc,Jq,Ax.Mode.lG];constructor;rintro⟨r,⟨v,h0,h1⟩,h2⟩;cases h1;exact⟨v,h0,h2⟩;rintro⟨v,h0,h2⟩;exact⟨(v,s.st),⟨v,h0,rfl⟩,h2⟩
theorem om{rs:List iE}{st:aj}{P:AV->aj->Prop}{v:AV}{s:St}:Wc rs Ax.Mode.zi st P (.ret v) s↔P v s.st:=by
 simp only[Wc,Jp,Ax.Mode.lG];constructor;rintro⟨r,h1,h2⟩;cases h1;exact h2;exact λh=>⟨(v,s.st),rfl,h⟩
theorem B4(su:List Bool):(fT su).map AV.cq=fT su:=by
 simp only[fT,List.map_map];exact List.map_congr_left λ_ _=>rfl
theorem EE(af:Nat)(su:List Bool)(st:aj)(j v:Nat)(hj:st[j]?=some (sO v su))(hn:su.length<1000000000) :
  (bh S).call 0 af 84 [.mu j v] st=some (.mu st.length 0,st++[sO 0 su]):=by
 have lJ:∀af bx,aW 0 af (.jx 1 1) [.val .mL,.val (.mu j v)] st bx=some (.val (.mu st.length 0),st++[sO 0 su],bx):=λaf bx=>by
  have hf:bL 1 (fT su)=true:=by simp[bL,fT]
  have hr:su.length<=cT:=by unfold cT;omega
  simp[aW,vD,dZ,fJ,hj,B4,hf,hr]
 refine ay (sf:=s84) rfl rfl rfl ?_;simp[s84,Wi,hj,lJ]
def ae1(s:Sm):Prop:=∀(su:List Bool)(f:Option Int)(af:Nat)(st:aj)(ic j v:Nat),st[ic]?=some (cO f)->st[j]?=some (sO v su)->ic≠j->Fw su.length s->Sm.sz s<1000000000->su.length<1000000000->
 ∃ext,(bh S).call 0 af 85 [.ptr ic 0 0 0,.agg s.row,.mu j v] st=some (.mu j v,(st.set ic (cO (lA f (n8 su s).2))).set j (sO v (n8 su s).1)++ext)
def ae2(l:List Sm):Prop:=∀(su:List Bool)(f:Option Int)(af:Nat)(st:aj)(ic j v:Nat),st[ic]?=some (cO f)->st[j]?=some (sO v su)->ic≠j->tJ su.length l->Sm.cR l<1000000000->su.length<1000000000->
 ∃ext,(bh S).call 0 af 44 [.ptr ic 0 0 0,aT l,.mu j v] st=some (.mu st.length 0,st.set ic (cO (lA f (gX su l).2))++sO 0 (gX su l).1::ext)
theorem fj(l:List Sm)(hl:∀s∈l,ae1 s):ae2 l:=by
 intro su f af st ic j v hc hj jn hr dH hn;have hz:bX 9 (aT l)=true:=Al;have cC:aD (aT l)=true:=bn;have dW:(aT l).view=aT l:=aO;have cP:aM (aT l)=Sm.rows l:=aE;have hlen:=Sm.dG l;have E9:ic<st.length:=(List.getElem?_eq_some_iff.1 hc).1;have ecl:=λaf=>EE af su st j v hj hn;rw[rN]at hr;have ajp:ic≠st.length:=by omega
 obtain⟨v',bV,h1,rfl,ext,rfl⟩:∃v' bV,(bh S).call 0 af 44 [.ptr ic 0 0 0,aT l,.mu j v] st=some (v',bV)/\v'=.mu st.length 0/\∃ext,bV=st.set ic (cO (lA f (gX su l).2))++sO 0 (gX su l).1::ext:=by
  refine iT (sf:=s44) rfl rfl rfl ?_;generalize aT l=lv at *;simp[s44,cC,dW,cP,ecl];refine bf Rx.eq_1 (λx:Nat×List Bool×Option Int×aj×List AV=>⟨[(0,.val (.ptr ic 0 0 0)),(2,.val (.mu st.length 0)),(11,.val lv),(12,.val (.int .i64 l.length)),(13,.val (.int .i64 x.1))],[x.2.2.2.2],st.set ic (cO x.2.2.1)++sO 0 x.2.1::x.2.2.2.1⟩)
   (λx=>x.1<=l.length/\x.2.1.length=su.length/\lA x.2.2.1 (gX x.2.1 (l.drop x.1)).2=lA f (gX su l).2/\(gX x.2.1 (l.drop x.1)).1=(gX su l).1) (λx=>l.length-x.1) (0,su,f,[],[]) (by simp[gb hc]) ⟨by simp,rfl,by simp,by simp⟩ ?_
  rintro⟨k,sk,g,ext,b⟩ ⟨hk,Tf,hp,hq⟩ ih;simp only at hk Tf hp hq ih;by_cases aX:k<l.length;have hw:=wk k (by omega);have hm:=List.getElem_mem aX;have xM:(st.set ic (cO g)++sO 0 sk::ext)[ic]?=some (cO g):=by
   rw[List.getElem?_append_left (by simpa using E9)];exact eY hc
  have vo:(st.set ic (cO g)++sO 0 sk::ext)[st.length]?=some (sO 0 sk):=by
   rw[List.getElem?_append_right (by simp)];simp
  have hup:∀g' s',((st.set ic (cO g)++sO 0 sk::ext).set ic (cO g')).set st.length (sO 0 s')=st.set ic (cO g')++sO 0 s'::ext:=λg' s'=>by
   rw[List.set_append_left _ _ (by simpa using E9),List.set_set,List.set_append_right _ _ (by simp)];simp
  obtain⟨za,ct⟩:=hl _ hm sk g af _ ic st.length 0 xM vo ajp (by rw[Tf];exact hr _ hm) (by have:=Sm.iA hm;omega) (by omega);rw[hup]at ct;rw[List.drop_eq_getElem_cons aX,Gu]at hp hq;simp only at hp hq;rw[<-iH]at hp;have dy:=λb=>ih (k+1,(n8 sk l[k]).1,lA g (n8 sk l[k]).2,ext++za,b) ⟨by simp only;omega,by simp only[El];exact Tf,hp,hq⟩ (by simp only;omega);simp only at dy;have lJ:st.set ic (cO (lA g (n8 sk l[k]).2))++sO 0 (n8 sk l[k]).1::ext++za=st.set ic (cO (lA g (n8 sk l[k]).2))++sO 0 (n8 sk l[k]).1::(ext++za):=by simp
  rw[lJ]at ct;have gE:=wN aX;have gy:k<(Sm.rows l).length:=by simpa using aX
  have m9:=qJ aX gy;obtain⟨e1,b1,l1⟩:aD (aI l[k].es)=true/\aD (aT l[k].bd)=true/\aD (aT l[k].el)=true:=⟨aR,bn,bn⟩;have e2:(aI l[k].es).view=aI l[k].es:=aN;have b2:(aT l[k].bd).view=aT l[k].bd:=aO;have l2:(aT l[k].el).view=aT l[k].el:=aO;rw[Sm.az]at ct gE m9;generalize st.set ic (cO (lA g (n8 sk l[k]).2))++sO 0 (n8 sk l[k]).1::(ext++za)=s2 at *;generalize st.set ic (cO g)++sO 0 sk::ext=s1 at *;generalize l[k]=x at *;generalize aI x.es=xe at *;generalize aT x.bd=xb at *;generalize aT x.el=xl at *;simp[aX,hw,hz,dW,cP,m9,ct,e1,b1,l1,e2,b2,l2,ag,AV.view];exact dy _;have eL:k=l.length:=by omega
  rw[eL,List.drop_length,JO]at hp hq;simp only[kU]at hp hq;subst hp hq;simp[aX,om]
 exact⟨ext,h1⟩
end S9
namespace S9
open Ax Go bu V7 jG ke K9
theorem eG{s:Sm}:aD (aI s.es)=true/\aD (aT s.bd)=true/\aD (aT s.el)=true:=⟨aR,bn,bn⟩
def gi:bw->bw
 |.seq _ b=>b|x=>x
def rS:bw:=gi (gi Jt.body)
theorem ae3(s:Sm)(su:List Bool)(f:Option Int)(af:Nat)(st:aj)(ic j v:Nat)(hc:st[ic]?=some (cO f))(hj:st[j]?=some (sO v su))(jn:ic≠j)(hr:Ab su.length s.es)(dH:E.cR s.es<1000000000){Q:Ex->St->Prop}
  (go:∀b,W S 0 af Jt.results Q [.code rS] .normal ⟨[(0,.val (.ptr ic 0 0 0)),(2,.val (.mu j v)),(4,.fp 0 0)],[s.row,b],st.set ic (cO (lA f (lI su s.es)))⟩) :
  W S 0 af Jt.results Q [.code Jt.body] .normal (pI Jt [.ptr ic 0 0 0,.agg s.row,.mu j v] st):=by
 have hz:bX 11 (aI s.es)=true:=iM;have cC:aD (aI s.es)=true:=aR;have dW:(aI s.es).view=aI s.es:=aN;have cP:aM (aI s.es)=E.rows s.es:=aE;have eL:=E.dG s.es;rw[lW]at hr;have E9:ic<st.length:=(List.getElem?_eq_some_iff.1 hc).1;obtain⟨_,b1,l1⟩:=eG (s:=s);rw[Sm.az]at *;generalize aT s.bd=bv at *;generalize aT s.el=lv at *;generalize ow:aI s.es=kv at *;simp[Jt,cC,dW,cP,b1,l1];show W S 0 af Jt.results Q [.code (.loop Lj),.jF 0,.code rS] .normal _;generalize rS=T at *;refine bf Lj.eq_1 (λx:Nat×Option Int×List AV=>⟨[(0,.val (.ptr ic 0 0 0)),(2,.val (.mu j v)),(4,.fp 0 0),(14,.val kv),(15,.val (.int .i64 s.es.length)),(16,.val (.int .i64 x.1))],[[.int .i64 s.k,.str s.nm,.str s.on,.int .i64 s.od,kv,bv,lv,.int .i64 s.a,.int .i64 s.cH],x.2.2],st.set ic (cO x.2.1)⟩)
  (λx=>x.1<=s.es.length/\lA x.2.1 (lI su (s.es.drop x.1))=lA f (lI su s.es)) (λx=>s.es.length-x.1) (0,f,[]) (by simp[gb hc]) ⟨by simp,by simp⟩ ?_
 rintro⟨k,g,b⟩ ⟨hk,hp⟩ Gy;simp only at hk hp Gy;have xM:(st.set ic (cO g))[ic]?=some (cO g):=eY hc;have vo:(st.set ic (cO g))[j]?=some (sO v su):=by rw[fN jn];exact hj
 have oz:∀o,(st.set ic (cO g)).set ic o=st.set ic o:=λo=>by rw[List.set_set]
 by_cases aX:k<s.es.length;have hw:=wk k (by omega);have hm:=List.getElem_mem aX;have ct:=λaf=>Td s.es[k] su g af (st.set ic (cO g)) ic j v xM vo jn (hr _ hm) (by have:=E.iA hm;omega);rw[List.drop_eq_getElem_cons aX,xF,<-iH]at hp;have EH:=λb=>Gy (k+1,lA g (Aa su s.es[k]),b) ⟨by simp only;omega,hp⟩ (by simp only;omega);simp only at EH;simp only[oz]at ct;have gE:=u5 aX;have gy:k<(E.rows s.es).length:=by simpa using aX
 have tQ:=oY aX gy;rw[E.az s.es[k]]at ct gE tQ;have xv:aD (aI s.es[k].aC)=true:=aR;have xw:(aI s.es[k].aC).view=aI s.es[k].aC:=aN;generalize s.es[k]=x at *;generalize st.set ic (cO g)=s1 at *;generalize st.set ic (cO (lA g (Aa su x)))=s2 at *;simp[aX,hw,hz,dW,cP,tQ,ct,xv,xw,ag,AV.view];exact EH _;have eL:k=s.es.length:=by omega
 rw[eL,List.drop_length]at hp;simp only[lI,kU]at hp;subst hp;have go:=go b;simp[aX];exact go
theorem As{su:List Bool}{k:Nat}(h:k<su.length):(List.replicate k true++su.drop k).set k true=List.replicate (k+1) true++su.drop (k+1):=by
 rw[List.drop_eq_getElem_cons h,List.set_append_right _ _ (by simp)];simp only[List.length_replicate,Nat.sub_self,List.set_cons_zero,List.replicate_succ',List.append_assoc,List.singleton_append]
theorem oc(s:Sm):ae1 s:=by
 induction s using Sm.yx with
 |_ s sY k8=>
  intro su f af st ic j v hc hj jn hr dH hn;have hz:=Sm.jM s;obtain⟨r1,r2,r3,r4,r5⟩:=(uL _ _).1 hr;have E9:ic<st.length:=(List.getElem?_eq_some_iff.1 hc).1;have xm:j<st.length:=(List.getElem?_eq_some_iff.1 hj).1;obtain⟨e1,b1,l1⟩:=eG (s:=s);have b2:(aT s.bd).view=aT s.bd:=aO;have l2:(aT s.el).view=aT s.el:=aO;have hB:=fj s.bd sY;have hL:=fj s.el k8
  suffices hx:∃v' bV,(bh S).call 0 af 85 [.ptr ic 0 0 0,.agg s.row,.mu j v] st=some (v',bV)/\v'=.mu j v/\∃ext,bV=(st.set ic (cO (lA f (n8 su s).2))).set j (sO v (n8 su s).1)++ext by
   obtain⟨v',bV,h1,rfl,ext,rfl⟩:=hx;exact⟨ext,h1⟩
  refine iT (sf:=Jt) rfl rfl rfl (ae3 s su f _ st ic j v hc hj jn r1 (by omega) λb=>?_);rw[No,Sm.az];generalize hg:lA f (lI su s.es)=g at *;have xM:(st.set ic (cO g))[ic]?=some (cO g):=eY hc;have vo:(st.set ic (cO g))[j]?=some (.rows v 1 (fT su)):=by rw[fN jn];exact hj
  have hj0:(st.set ic (cO g)).set j (sO v su)=st.set ic (cO g):=gb vo;generalize aI s.es=ev at *;generalize hbv:aT s.bd=bv at *;generalize Ce:aT s.el=lv at *;by_cases h1:s.k=1;obtain⟨h0,aX⟩:=r2 (.inl h1);obtain⟨r,vu⟩:∃r:Nat,s.cH=r:=⟨s.cH.toNat,by omega⟩;have nj:r<su.length:=by omega
  have h1':(s.k=1)=True:=eq_true h1;have hb:=jj nj;rw[if_pos h1,vu,Int.toNat_natCast];simp only;rw[hg];generalize st.set ic (cO g)=s1 at *;simp[rS,gi,Jt,h1',vo,nj,aQ,AV.ai,AV.ax,ag,om];rw[if_neg h1];by_cases Ix:s.k=2\/s.k=3;rw[if_pos Ix];by_cases h0:0<=s.cH;have aX:s.cH<su.length:=by
   rcases Ix with h|h;exact(r2 (.inr h)).2;exact r3 h
  obtain⟨r,vu⟩:∃r:Nat,s.cH=r:=⟨s.cH.toNat,by omega⟩;have nj:r<su.length:=by omega
  have hb:=jj nj;rw[if_pos h0,vu,Int.toNat_natCast];simp only;rw[hg];generalize st.set ic (cO g)=s1 at *;rcases Ix with h|h;have Nc:(s.k=2)=True:=eq_true h;simp[rS,gi,Jt,h1,Nc,vo,nj,aQ,AV.ai,AV.ax,ag,om];have h2:¬s.k=2:=by omega
  have Ku:(s.k=3)=True:=eq_true h;simp[rS,gi,Jt,h1,h2,Ku,vo,nj,aQ,AV.ai,AV.ax,ag,om];have h3:s.k=3:=by
   rcases Ix with h|h;exact absurd (r2 (.inr h)).1 h0;exact h
  have h2:¬s.k=2:=by omega
  have Ku:(s.k=3)=True:=eq_true h3;rw[if_neg h0];simp only;rw[hg,hj0];generalize st.set ic (cO g)=s1 at *;simp[rS,gi,Jt,h1,h2,Ku,h0,om];rw[if_neg Ix];have h2:¬s.k=2:=λh=>Ix (.inl h);have h3:¬s.k=3:=λh=>Ix (.inr h);by_cases h7:s.k=7;have h7':(s.k=7)=True:=eq_true h7;rw[if_pos h7];simp only;rw[hg];have vV:∀sk:List Bool,((st.set ic (cO g)).set j (sO v sk))[j]?=some (.rows v 1 (fT sk)):=λsk=>eY vo;have oz:∀(a b:dz),((st.set ic (cO g)).set j a).set j b=(st.set ic (cO g)).set j b:=λa b=>by rw[List.set_set]
  generalize st.set ic (cO g)=s1 at *;simp[rS,gi,Jt,h1,h2,h3,h7',vo];refine bf R1.eq_1 (λk:Nat=>⟨[(2,.val (.mu j v)),(46,.val (.int .i64 su.length)),(47,.val (.int .i64 k))],[[.int .i64 s.k,.str s.nm,.str s.on,.int .i64 s.od,ev,bv,lv,.int .i64 s.a,.int .i64 s.cH],b],s1.set j (sO v (List.replicate k true++su.drop k))⟩)
   (λk=>k<=su.length) (λk=>su.length-k) 0 (by simp[hj0]) (by simp) ?_
  intro k hk ih;by_cases aX:k<su.length;have hw:=wk k (by omega);have hl:(List.replicate k true++su.drop k).length=su.length:=by simp;omega
  have eL:k<(List.replicate k true++su.drop k).length:=by omega
  have hb:=jj eL;have hh:=vV (List.replicate k true++su.drop k);have hn:=As aX;have dy:=ih (k+1) (by omega) (by omega);have hup:(s1.set j (sO v (List.replicate k true++su.drop k))).set j (.rows v 1 (fT (List.replicate (k+1) true++su.drop (k+1))))=s1.set j (sO v (List.replicate (k+1) true++su.drop (k+1))):=oz _ _;generalize List.replicate (k+1) true++su.drop (k+1)=sk' at *;generalize List.replicate k true++su.drop k=sk at *;generalize s1.set j (sO v sk)=s2 at *;simp[aX,hw,hh,hl,hn,hup,aQ,AV.ai,AV.ax,ag];exact dy;have eL:k=su.length:=by omega
  have tR:List.replicate k true++su.drop k=su.map λ_=>true:=by
   rw[eL,List.drop_length,List.append_nil,List.map_const']
  rw[tR];simp[aX,om];rw[if_neg h7];by_cases h6:s.k=6;have h6':(s.k=6)=True:=eq_true h6;rw[if_pos h6];simp only;rw[<-iH,hg];obtain⟨ext,ct⟩:=hB su g af (st.set ic (cO g)) ic j v xM vo jn r4 (by omega) hn;rw[hbv,List.set_set,List.length_set]at ct;have tR:(st.set ic (cO (lA g (gX su s.bd).2))).set j (sO v su)=st.set ic (cO (lA g (gX su s.bd).2)):=gb (by rw[fN jn];exact hj);rw[tR];generalize st.set ic (cO (lA g (gX su s.bd).2))=s2 at *;generalize st.set ic (cO g)=s1 at *;simp[rS,gi,Jt,h1,h2,h3,h7,h6',ct,b2,om];rw[if_neg h6];by_cases h5:s.k=5;have h5':(s.k=5)=True:=eq_true h5;rw[if_pos h5];simp only;rw[<-iH,<-iH,hg];obtain⟨ext,ct⟩:=hB su g af (st.set ic (cO g)) ic j v xM vo jn r4 (by omega) hn;rw[hbv,List.set_set,List.length_set]at ct;generalize hA:(gX su s.bd).1=A at *;generalize V2:lA g (gX su s.bd).2=g2 at *;have hAl:A.length=su.length:=by rw[<-hA,rM]
  have hBl:(gX su s.el).1.length=su.length:=rM _ _;have Bi:(st.set ic (cO g2)++sO 0 A::ext)[ic]?=some (cO g2):=by
   rw[List.getElem?_append_left (by simpa using E9)];exact eY hc
  have DH:(st.set ic (cO g2)++sO 0 A::ext)[j]?=some (sO v su):=by
   rw[List.getElem?_append_left (by simpa using xm),fN jn];exact hj
  obtain⟨za,EI⟩:=hL su g2 af _ ic j v Bi DH jn r5 (by omega) hn;rw[Ce]at EI;generalize hBB:(gX su s.el).1=B at *;generalize hg3:lA g2 (gX su s.el).2=g3 at *;have ae5:(st.set ic (cO g2)++sO 0 A::ext).set ic (cO g3)=st.set ic (cO g3)++sO 0 A::ext:=by
   rw[List.set_append_left _ _ (by simpa using E9),List.set_set]
  rw[ae5]at EI;have hT:st.set ic (cO g3)++sO 0 A::ext++sO 0 B::za=st.set ic (cO g3)++(sO 0 A::ext++sO 0 B::za):=by simp
  rw[hT]at EI;have hka:st.length≠j:=by omega
  have hkb:(st.set ic (cO g2)++sO 0 A::ext).length≠j:=by simp;omega
  have gA:∀sk,((st.set ic (cO g3)).set j (sO v sk)++(sO 0 A::ext++sO 0 B::za))[st.length]?=some (.rows 0 1 (fT A)):=λsk=>by
   rw[List.getElem?_append_right (by simp)];simp
  have gB:∀sk,((st.set ic (cO g3)).set j (sO v sk)++(sO 0 A::ext++sO 0 B::za))[(st.set ic (cO g2)++sO 0 A::ext).length]?=some (.rows 0 1 (fT B)):=λsk=>by
   rw[List.getElem?_append_right (by simp),List.getElem?_append_right (by simp)];simp
  have gJ:∀sk,((st.set ic (cO g3)).set j (sO v sk)++(sO 0 A::ext++sO 0 B::za))[j]?=some (.rows v 1 (fT sk)):=λsk=>by
   rw[List.getElem?_append_left (by simpa using xm),List.getElem?_set_self (by simpa using xm)]
  have gS:∀sk sk',((st.set ic (cO g3)).set j (sO v sk)++(sO 0 A::ext++sO 0 B::za)).set j (.rows v 1 (fT sk'))=(st.set ic (cO g3)).set j (sO v sk')++(sO 0 A::ext++sO 0 B::za):=λsk sk'=>by
   rw[List.set_append_left _ _ (by simpa using xm),List.set_set]
  have g0:st.set ic (cO g3)++(sO 0 A::ext++sO 0 B::za)=(st.set ic (cO g3)).set j (sO v su)++(sO 0 A::ext++sO 0 B::za):=by
   rw[gb (show (st.set ic (cO g3))[j]?=some (sO v su) by rw[fN jn];exact hj)]
  rw[g0]at EI;have hJ0:=gJ su;generalize (st.set ic (cO g2)++sO 0 A::ext).length=kb at *;generalize hEX:sO 0 A::ext++sO 0 B::za=EX at *;generalize st.set ic (cO g2)++sO 0 A::ext=s2 at *;generalize st.set ic (cO g)=s1 at *;generalize st.set ic (cO g3)=s3 at *;generalize st.length=ka at *;have Tg:∀k (h:k<su.length) (h1:k<A.length) (h2:k<B.length),((List.zipWith (λa b=>a&&b) A B).take k++su.drop k).set k (A[k]&&B[k])=(List.zipWith (λa b=>a&&b) A B).take (k+1)++su.drop (k+1):=λk h h1 h2=>by
   rw[List.drop_eq_getElem_cons h,List.set_append_right _ _ (by simp;omega),List.take_succ_eq_append_getElem (by simp;omega)];have:k-((List.zipWith (λa b=>a&&b) A B).take k).length=0:=by simp;omega
   rw[this];simp only[List.set_cons_zero,List.getElem_zipWith,List.append_assoc,List.singleton_append]
  have aaE:(List.zipWith (λa b=>a&&b) A B).length=su.length:=by simp[hAl,hBl]
  generalize hZ:List.zipWith (λa b=>a&&b) A B=Z at *;simp[rS,gi,Jt,h1,h2,h3,h7,h6,h5',ct,EI,b2,l2,hJ0,au,an];refine bf R3.eq_1 (λk:Nat=>⟨[(2,.val (.mu j v)),(10,.val (.mu ka 0)),(11,.val (.mu kb 0)),(74,.val (.int .i64 su.length)),(75,.val (.int .i64 k))],[[.int .i64 s.k,.str s.nm,.str s.on,.int .i64 s.od,ev,bv,lv,.int .i64 s.a,.int .i64 s.cH],b],s3.set j (sO v (Z.take k++su.drop k))++EX⟩)
   (λk=>k<=su.length) (λk=>su.length-k) 0 (by simp) (by simp) ?_
  intro k hk ih;by_cases aX:k<su.length;have hw:=wk k (by omega);have hl:(Z.take k++su.drop k).length=su.length:=by simp;omega
  have eL:k<(Z.take k++su.drop k).length:=by omega
  have Wj:k<A.length:=by omega
  have hlB:k<B.length:=by omega
  have hb:=jj eL;have bA:=jj Wj;have bB:=jj hlB;have a1:=gA (Z.take k++su.drop k);have a2:=gB (Z.take k++su.drop k);have a3:=gJ (Z.take k++su.drop k);have a4:=gS (Z.take k++su.drop k) (Z.take (k+1)++su.drop (k+1));have hn:=Tg k aX Wj hlB;have dy:=ih (k+1) (by omega) (by omega);generalize Z.take (k+1)++su.drop (k+1)=sk' at *;generalize Z.take k++su.drop k=sk at *;generalize s3.set j (sO v sk)++EX=s4 at *;cases hAk:A[k] with
  |true=>
   rw[hAk]at hn bA;rw[Bool.true_and]at hn;simp[aX,hw,a1,a2,a3,hl,Wj,hlB,hAk,hn,a4,aQ,AV.ai,AV.ax,ag];exact dy
  |false=>
   rw[hAk]at hn bA;rw[Bool.false_and]at hn;simp[aX,hw,a1,a3,hl,Wj,hAk,hn,a4,aQ,AV.ai,AV.ax,ag];exact dy
  have eL:k=su.length:=by omega
  have tR:Z.take k++su.drop k=Z:=by
   rw[eL,List.drop_length,List.append_nil,<-aaE,List.take_length]
  rw[tR];simp[aX,om];rw[if_neg h5];simp only;rw[hg,hj0];generalize st.set ic (cO g)=s1 at *;simp[rS,gi,Jt,h1,h2,h3,h5,h6,h7,om]
end S9
namespace S9
open Ax Go bu V7 jG ke K9
open N7 U7 in
def u6(p:Pg):Option Int:=match iS (iY p) with
 |some a=>some a|none=>match qk (aG p) (aG p).sigs p.funcs with
  |.error a=>some a|.ok bs=>yV (aG p).sigs bs
def tS(o:Option Int):AV:=.agg [.int .i64 (cE o),.int .i64 (cX o)]
theorem ae6(l:List Sm):ae2 l:=fj l λs _=>oc s
theorem GC{n:Nat}:List.replicate n [AV.bool false]=fT (List.replicate n false):=by simp[fT]
theorem Nx{np n:Nat}:List.replicate np true++(List.replicate n false).drop np=List.replicate np true++List.replicate (n-np) false:=by rw[List.drop_replicate]
theorem sE{H:Hd}:∀{ss:List Sg}{fs:List Fc}{bs:List Bd},ss.length=fs.length->qk H ss fs=.ok bs->bs.length=fs.length
 |[],[],bs,_,h=>by unfold qk at h;cases h;rfl|[],_::_,_,h,_=>by simp at h|_::_,[],_,h,_=>by simp at h|s::ss,f::fs,bs,hl,h=>by
  unfold qk at h;split at h;cases h;split at h;cases h;rename_i l IV;cases h;have:=sE (by simpa using hl) IV;simp[this]
theorem GF{ss:List Sg}{bs:List Bd}{k:Nat}(h:k<ss.length)(h2:k<bs.length):yV (ss.drop k) (bs.drop k)=lA (gX (su0 ss[k] bs[k]) bs[k].code).2 (yV (ss.drop (k+1)) (bs.drop (k+1))):=by
 rw[List.drop_eq_getElem_cons h,List.drop_eq_getElem_cons h2];rfl
theorem J7{ss:List Sg}:yV ss []=none:=by cases ss<;>rfl
open N7 U7 in
theorem Wk(wl af:Nat)(p:Pg)(st:aj)(hg:(iY p).ok)(pg:GD.sm (iY p))(dH:∀f∈p.funcs,f.params.length+Sm.cR f.body<1000000000)
  (pP:∀bs,qk (aG p) (aG p).sigs p.funcs=.ok bs->∀b∈bs,Sm.cR b.code<1000000000/\b.vars.length<1000000000) :
  (bh S).call wl af 21 [.agg p.row] st=some (tS (u6 p),st):=by
 have ec:=λwl af st=>K9.wP wl af p st hg pg dH;have Gf:p.funcs.length<1000000000:=by have:=pg.funcs;rw[mZ,List.length_map]at this;exact this
 refine bN (sf:=s21) rfl rfl (by simp[Pg.row,AV.ai,AV.ax]) rfl (by simp[tS,AV.ax,AV.ai]) ?_;unfold mJ at ec;unfold u6;have r1:aD (aA 3 (p.aS.map Rc.row))=true:=aL;have r2:(aA 3 (p.aS.map Rc.row)).view=aA 3 (p.aS.map Rc.row):=aJ;have f1:aD (aA 7 (p.funcs.map Fc.row))=true:=aL;have f2:(aA 7 (p.funcs.map Fc.row)).view=aA 7 (p.funcs.map Fc.row):=aJ;have g1:aD (aA 4 (p.globals.map PD.cells))=true:=aL;have g2:(aA 4 (p.globals.map PD.cells)).view=aA 4 (p.globals.map PD.cells):=aJ;simp only[Pg.row]at ec ⊢;generalize aA 3 (p.aS.map Rc.row)=PR at *;generalize aA 7 (p.funcs.map Fc.row)=PF at *;generalize aA 4 (p.globals.map PD.cells)=PG at *;cases hF:iS (iY p) with
 |some a=>
  rw[hF]at ec;simp only[tS,cE,cX]at ec ⊢;simp[s21,ec,r1,r2,f1,f2,g1,g2,ag,AV.view]
 |none=>
  rw[hF]at ec;simp only at ec ⊢;cases hR:qk (aG p) (aG p).sigs p.funcs with
  |error a=>
   rw[hR]at ec;simp only[uQ,tS,cE,cX]at ec ⊢;simp[s21,ec,r1,r2,f1,f2,g1,g2,ag,AV.view]
  |ok bs=>
   rw[hR]at ec;simp only[uQ,jS,List.cons_append,List.nil_append]at ec ⊢;have aaF:=pP bs hR;clear pP;have cC:(aG p).sigs.length=p.funcs.length:=(by simp[aG]);have NQ:=sE cC hR;have hrefs:=En hR;have z1:aD (aA 3 (bs.map Bd.row))=true:=aL;have z2:(aA 3 (bs.map Bd.row)).view=aA 3 (bs.map Bd.row):=aJ;have z3:aM (aA 3 (bs.map Bd.row))=bs.map Bd.row:=aE;have z4:bX 3 (aA 3 (bs.map Bd.row))=true:=gf (by simp[bL,Bd.row]);have a1:aD (aA 2 ((aG p).bK.map dx))=true:=aL;have a2:(aA 2 ((aG p).bK.map dx)).view=aA 2 ((aG p).bK.map dx):=aJ;have b1:aD (aA 6 ((aG p).sigs.map Sg.row))=true:=aL;have b2:(aA 6 ((aG p).sigs.map Sg.row)).view=aA 6 ((aG p).sigs.map Sg.row):=aJ;have b3:aM (aA 6 ((aG p).sigs.map Sg.row))=(aG p).sigs.map Sg.row:=aE;have b4:bX 6 (aA 6 ((aG p).sigs.map Sg.row))=true:=gf (by simp[bL,Sg.row]);have c1:aD (br (aG p).globals)=true:=dL;have c2:(br (aG p).globals).view=br (aG p).globals:=fC;generalize aA 2 ((aG p).bK.map dx)=HS at *;generalize aA 6 ((aG p).sigs.map Sg.row)=HG at *;generalize br (aG p).globals=GL at *;generalize aA 3 (bs.map Bd.row)=BV at *;have Kw:∀k:Nat,k<bs.length->k<(aG p).sigs.length:=λk h=>by omega
   have Qs:bs.length<1000000000:=(by omega);generalize (aG p).sigs=SS at *;clear hR;simp[s21,ec,r1,r2,f1,f2,g1,g2,z1,z2,z3,a1,a2,b1,b2,c1,c2,ag,AV.view];refine bf Rg.eq_1 (λx:Nat×aj×List AV=>⟨[(2,.fp 1 0),(3,.fp 2 0),(20,.val BV),(21,.val (.int .i64 bs.length)),(22,.val (.int .i64 x.1))],[[PR,PG,PF],[.int .i64 0,.int .i64 0],[HS,GL,HG,.int .i64 (fW p),BV],[.int .i64 0,.int .i64 0],x.2.2],x.2.1⟩)
    (λx=>x.1<=bs.length/\yV (SS.drop x.1) (bs.drop x.1)=yV SS bs) (λx=>bs.length-x.1) (0,[],[]) (by simp) ⟨by simp,by simp⟩ ?_
   rintro⟨k,B5,b5⟩ ⟨hk,hp⟩ ih;simp only at hk hp ih;by_cases aX:k<bs.length;have hw:=wk k (by omega);have nk:=Kw k aX;rw[GF nk aX]at hp;obtain⟨q1,q2⟩:=hrefs k nk aX;obtain⟨q3,q4⟩:=aaF _ (List.getElem_mem aX);have Ny:∀h:k<(bs.map Bd.row).length,(bs.map Bd.row)[k]=[br bs[k].vars,aT bs[k].code,.int .i64 bs[k].a]:=λh=>by simp[Bd.row]
   have yz:∀h:k<(SS.map Sg.row).length,(SS.map Sg.row)[k]=[.str SS[k].nm,br SS[k].ps,.bool SS[k].bP,.int .i64 SS[k].bz.b,.int .i64 SS[k].bz.r,.int .i64 SS[k].bz.d]:=λh=>by simp[Sg.row]
   have aaG:k<(bs.map Bd.row).length:=(by simpa using aX);have EF:k<(SS.map Sg.row).length:=(by simpa using nk);have Th:=Ny aaG;have EG:=yz EF;clear Ny yz;have v1:aD (br bs[k].vars)=true:=dL;have v2:(br bs[k].vars).view=br bs[k].vars:=fC;have v3:(aM (br bs[k].vars)).length=bs[k].vars.length:=(by simp);have w1:aD (aT bs[k].code)=true:=bn;have w2:(aT bs[k].code).view=aT bs[k].code:=aO;have p1:aD (br SS[k].ps)=true:=dL;have p2:(br SS[k].ps).view=br SS[k].ps:=fC;have p3:(aM (br SS[k].ps)).length=SS[k].ps.length:=(by simp);have mE:(bs[k].vars.length:Int)<=cT:=(by unfold cT;omega);have hbc:=ae6 bs[k].code;unfold su0 at hp;have DA:(List.replicate SS[k].ps.length true++List.replicate (bs[k].vars.length-SS[k].ps.length) false).length=bs[k].vars.length:=(by simp;omega);have ct:=λaf=>hbc (List.replicate SS[k].ps.length true++List.replicate (bs[k].vars.length-SS[k].ps.length) false) none af (B5++[sO 0 (List.replicate SS[k].ps.length true++List.replicate (bs[k].vars.length-SS[k].ps.length) false),cO none]) (B5.length+1) B5.length 0
    (by rw[List.getElem?_append_right (by omega)];simp) (by simp) (by omega) (by rw[DA];exact q2) q3 (by rw[DA];exact q4)
   obtain⟨ext,ct⟩:=ct 0;have vV:∀g,(B5++[sO 0 (List.replicate SS[k].ps.length true++List.replicate (bs[k].vars.length-SS[k].ps.length) false),cO none]).set (B5.length+1) (cO g)=B5++[sO 0 (List.replicate SS[k].ps.length true++List.replicate (bs[k].vars.length-SS[k].ps.length) false),cO g]:=λg=>by
    rw[List.set_append_right _ _ (by omega)];simp
   rw[vV]at ct;have ho:∀g:Option Int,lA none g=g:=λg=>rfl;rw[ho]at ct;generalize jO:bs[k].code=cs at *;generalize hbv:bs[k].vars.length=n at *;generalize hbp:SS[k].ps.length=np at *;generalize hfb:br bs[k].vars=FV at *;generalize Mu:br SS[k].ps=FP at *;generalize hsc:aT cs=SC at *;generalize bs[k]=bk at *;generalize SS[k]=sk at *;simp[-xx,xx,aX,nk,Th,EG,z2,z3,z4,b2,b3,b4,v1,v2,v3,w1,w2,p1,p2,p3,mE,GC,ag,AV.view];refine bf Rf.eq_1 (λi:Nat=>⟨[(2,.fp 1 0),(3,.fp 2 0),(6,.fp 4 0),(7,.val (.mu B5.length 0)),(20,.val BV),(21,.val (.int .i64 bs.length)),(22,.val (.int .i64 k)),(38,.val (.int .i64 np)),(39,.val (.int .i64 i))],[[PR,PG,PF],[.int .i64 0,.int .i64 0],[HS,GL,HG,.int .i64 (fW p),BV],[.int .i64 0,.int .i64 0],[FV,SC,.int .i64 bk.a]],B5++[sO 0 (List.replicate i true++(List.replicate n false).drop i)]⟩)
    (λi=>i<=np) (λi=>np-i) 0 (by simp) (by simp) ?_
   intro i hi k8;by_cases E9:i<np;have hwi:=wk i (by omega);have IS:i<(List.replicate n false).length:=(by simp;omega);have hn:=As IS;have hll:(List.replicate i true++(List.replicate n false).drop i).length=n:=(by simp;omega);have hib:i<(List.replicate i true++(List.replicate n false).drop i).length:=(by omega);have hb:=jj hib;have aaH:=k8 (i+1) (by omega) (by omega);generalize List.replicate (i+1) true++(List.replicate n false).drop (i+1)=s2 at *;generalize List.replicate i true++(List.replicate n false).drop i=s1 at *;have aaI:i<n:=(by omega);simp[E9,hwi,hll,aaI,hn,aQ,AV.ai,AV.ax,ag];exact aaH;have QF:i=np:=(by omega);rw[QF,Nx];generalize List.replicate np true++List.replicate (n-np) false=s0 at *;cases hgv:(gX s0 cs).2 with
   |none=>
    rw[hgv]at ct hp;have hp:yV (SS.drop (k+1)) (bs.drop (k+1))=yV SS bs:=hp;have dy:=λo b5=>ih (k+1,o,b5) ⟨by simp only;omega,hp⟩ (by simp only;omega);simp only at dy;simp only[cO,cE,cX]at ct;simp[ct,hw,w2];exact dy _ _
   |some a=>
    rw[hgv]at ct hp;have hp:some a=yV SS bs:=hp;rw[<-hp];simp only[cO,cE,cX,tS]at ct ⊢;simp[ct,w2,ag]
   have eL:k=bs.length:=(by omega);rw[eL,List.drop_length,J7]at hp;rw[<-hp];simp[aX,tS,cE,cX,ag]
end S9
