/- Part of a proof. -/
import Derived.Test.YtachcambnjecnaaGreatC
import Derived.Test.YtachcambnjecnaaGreatP
import Derived.Test.YtachcambnjecnaaGreatD

set_option maxRecDepth 100000
set_option maxHeartbeats 8000000
namespace S9
open Ax Go bu V7 jG j9 K9
theorem We{wl af id cy:Nat}{neg:Bool}{st:aj}{bx:bF}:aV wl af (.Mg neg) [.val (.mu id cy),.val .U] st bx=match st[id]? with
 |some (.rows v _ _)=>if v=cy then some (.val (.bool neg),st,bx) else none
 |_=>none:=rfl
def cE(f:Option Int):Int:=match f with|some _=>3|none=>0
def cX(f:Option Int):Int:=match f with|some x=>x|none=>0
def cO(f:Option Int):dy:=.rows 0 2 [[.int .i64 (cE f),.int .i64 (cX f)]]
abbrev sO(v:Nat)(su:List Bool):dy:=.rows v 1 (fT su)
theorem gb{st:aj}{i:Nat}{o:dy}(h:st[i]?=some o):st.set i o=st:=by
 obtain⟨h1,h2⟩:=List.getElem?_eq_some_iff.1 h;rw[<-h2,List.set_getElem_self]
theorem eX{st:aj}{i:Nat}{o p:dy}(h:st[i]?=some o):(st.set i p)[i]?=some p:=by
 obtain⟨h1,_⟩:=List.getElem?_eq_some_iff.1 h;rw[List.getElem?_set_self h1]
theorem fN{st:aj}{i j:Nat}{p:dy}(h:i≠j):(st.set i p)[j]?=st[j]?:=List.getElem?_set_ne h
theorem jj{su:List Bool}{k:Nat}(h:k<su.length):(fT su)[k]?=some [.bool su[k]]:=by simp[fT,h]
theorem S7(e:E):∀(su:List Bool)(f:Option Int)(af:Nat)(st:aj)(ic j v:Nat),st[ic]?=some (cO f)->st[j]?=some (sO v su)->ic≠j->HT su.length e->E.sz e<1000000000->
  (bh S).call 0 af 101 [.ptr ic 0 0 0,.agg e.row,.mu j v] st=some (.fm [],st.set ic (cO (lA f (zY su e)))):=by
 induction e using E.yu with
 |_ e ih=>
  intro su f af st ic j v hc hj jn hr dF;have nj:=E.mz e;have eK:=E.dD e.aC;have hz:bX 11 (aI e.aC)=true:=iM;have cA:aD (aI e.aC)=true:=aQ;have dW:(aI e.aC).view=aI e.aC:=aN;have cN:aM (aI e.aC)=E.rows e.aC:=aE;have ni:(E.rows e.aC).length=e.aC.length:=by simp
  rw[Aa]at hr;obtain⟨DA,Yx⟩:=hr;rw[lW]at Yx;rw[Nh,E.az];have E5:ic<st.length:=(List.getElem?_eq_some_iff.1 hc).1;generalize ow:aI e.aC=kv at *;refine ay (sf:=Zq) rfl rfl rfl ?_;simp[Zq,cA,dW,cN];refine bf MP.eq_1 (λx:Nat×Option Int×List AV=>⟨[(0,.val (.ptr ic 0 0 0)),(2,.val (.mu j v)),(4,.fp 0 0),(9,.val kv),(10,.val (.int .i64 e.aC.length)),(11,.val (.int .i64 x.1))],[[.int .i64 e.k,.int .i64 e.n,.str e.nm,.str e.on,.int .i64 e.od,kv,.int .i64 e.a,.int .i64 e.ty.b,.int .i64 e.ty.r,.int .i64 e.ty.d,.int .i64 e.cG],x.2.2],st.set ic (cO x.2.1)⟩)
   (λx=>x.1<=e.aC.length/\lA x.2.1 (lI su (e.aC.drop x.1))=lA f (lI su e.aC)) (λx=>e.aC.length-x.1) (0,f,[]) (by simp[gb hc]) ⟨by simp,by simp⟩ ?_
  rintro⟨k,g,b⟩ ⟨hk,hp⟩ Gs;simp only at hk hp Gs;have xK:(st.set ic (cO g))[ic]?=some (cO g):=eX hc;have vk:(st.set ic (cO g))[j]?=some (sO v su):=by rw[fN jn];exact hj
  have oz:∀o,(st.set ic (cO g)).set ic o=st.set ic o:=λo=>by rw[List.set_set]
  by_cases aW:k<e.aC.length;have hw:=wk k (by omega);have hm:=List.getElem_mem aW;have ct:=λaf=>ih _ hm su g af (st.set ic (cO g)) ic j v xK vk jn (Yx _ hm) (by have:=E.iA hm;omega);rw[List.drop_eq_getElem_cons aW,xD,<-iH]at hp;have ED:=λb=>Gs (k+1,lA g (zY su e.aC[k]),b) ⟨by simp only;omega,hp⟩ (by simp only;omega);simp only at ED;simp only[oz]at ct;have gE:=uZ aW;have mZ:=λh2=>oW aW h2;have gY:k<(E.rows e.aC).length:=by simpa using aW
  have tO:=mZ gY;clear mZ;rw[E.az e.aC[k]]at ct gE tO;have xv:aD (aI e.aC[k].aC)=true:=aQ;have xw:(aI e.aC[k].aC).view=aI e.aC[k].aC:=aN;generalize e.aC[k]=x at *;generalize st.set ic (cO g)=s1 at *;generalize st.set ic (cO (lA g (zY su x)))=s2 at *;simp[aW,hw,hz,dW,cN,tO,ct,xv,xw,ag,AV.view];exact ED _;have eK:k=e.aC.length:=by omega
  rw[eK,List.drop_length]at hp;simp only[lI,kT]at hp;subst hp;rw[<-iH];clear Gs hc;generalize lA f (lI su e.aC)=g at *;have Ur:(st.set ic (cO g)).length=st.length:=by simp
  have I0:(st.set ic (cO g)).take st.length=st.set ic (cO g):=List.take_of_length_le (by simp);have Bg:(st.set ic (cO g))[ic]?=some (.rows 0 2 [[.int .i64 (cE g),.int .i64 (cX g)]]):=xK;have DD:(st.set ic (cO g))[j]?=some (.rows v 1 (fT su)):=vk;have Yn:∀o,(st.set ic o).take st.length=st.set ic o:=λo=>List.take_of_length_le (by simp);by_cases h4:e.k=4;by_cases h0:0<=e.cG;have hlr:=DA h4;obtain⟨r,vq⟩:∃r:Nat,e.cG=r:=⟨e.cG.toNat,by omega⟩;have Bh:r<su.length:=by omega
  have hb:=jj Bh;have hsu:su[r]?=some su[r]:=List.getElem?_eq_getElem Bh;have NK:(fT su).length=su.length:=by simp
  have Ly:(e.k=4)=True:=eq_true h4;have Qo:(if e.k=4/\0<=e.cG/\su[e.cG.toNat]?=some false then some e.a else none)=(if su[r]=false then some e.a else none):=by rw[vq,Int.toNat_natCast,hsu];simp[h4]
  rw[Qo];rw[vq];cases hx:su[r] with
  |true=>
   rw[hx]at hb;simp only[Bool.true_eq_false,if_false,kT];generalize st.set ic (cO g)=s1 at *;simp[aW,Ly,Bh,DD,hx,I0]
  |false=>
   rw[hx]at hb;simp only[if_true];cases g with
   |none=>
    simp only[lA,cE,cX]at Bg ⊢;have tP:(st.set ic (cO none)).set ic (.rows 0 2 [[.int .i64 3,.int .i64 e.a]])=st.set ic (cO (some e.a)):=oz _;have ht3:=Yn (cO (some e.a));generalize st.set ic (cO (some e.a))=s2 at *;generalize st.set ic (cO none)=s1 at *;simp[aW,Ly,Bh,DD,hx,Bg,aY,AV.ai,AV.ax,ag,tP,ht3]
   |some y=>
    simp only[lA,cE,cX]at Bg ⊢;generalize st.set ic (cO (some y))=s1 at *;simp[aW,Ly,Bh,DD,hx,Bg,I0]
  rw[if_neg (λh=>h0 h.2.1),kT];have Ly:(e.k=4)=True:=eq_true h4;generalize st.set ic (cO g)=s1 at *;simp[aW,Ly,h0,I0];rw[if_neg (λh=>h4 h.1),kT];generalize st.set ic (cO g)=s1 at *;simp[aW,h4,I0]
end S9
namespace S9
open Ax Go bu V7 jG j9 K9
theorem S8{rs:List iE}{st:aj}{P:AV->aj->Prop}{s:St}:V8 rs Ax.Mode.zg st P .normal s↔∃v,xQ s rs=some v/\P v s.st:=by
 simp only[V8,Jm,Ax.Mode.lG];constructor;rintro⟨r,⟨v,h0,h1⟩,h2⟩;cases h1;exact⟨v,h0,h2⟩;rintro⟨v,h0,h2⟩;exact⟨(v,s.st),⟨v,h0,rfl⟩,h2⟩
theorem om{rs:List iE}{st:aj}{P:AV->aj->Prop}{v:AV}{s:St}:V8 rs Ax.Mode.zg st P (.ret v) s↔P v s.st:=by
 simp only[V8,Jl,Ax.Mode.lG];constructor;rintro⟨r,h1,h2⟩;cases h1;exact h2;exact λh=>⟨(v,s.st),rfl,h⟩
theorem B2(su:List Bool):(fT su).map AV.cq=fT su:=by
 simp only[fT,List.map_map];exact List.map_congr_left λ_ _=>rfl
theorem EA(af:Nat)(su:List Bool)(st:aj)(j v:Nat)(hj:st[j]?=some (sO v su))(hn:su.length<1000000000) :
  (bh S).call 0 af 84 [.mu j v] st=some (.mu st.length 0,st++[sO 0 su]):=by
 have lJ:∀af bx,aV 0 af (.jx 1 1) [.val .mK,.val (.mu j v)] st bx=some (.val (.mu st.length 0),st++[sO 0 su],bx):=λaf bx=>by
  have hf:bN 1 (fT su)=true:=by simp[bN,fT]
  have hr:su.length<=cR:=by unfold cR;omega
  simp[aV,vA,dY,fJ,hj,B2,hf,hr]
 refine ay (sf:=s84) rfl rfl rfl ?_;simp[s84,We,hj,lJ]
def aeW(s:Sm):Prop:=∀(su:List Bool)(f:Option Int)(af:Nat)(st:aj)(ic j v:Nat),st[ic]?=some (cO f)->st[j]?=some (sO v su)->ic≠j->Fq su.length s->Sm.sz s<1000000000->su.length<1000000000->
 ∃ext,(bh S).call 0 af 85 [.ptr ic 0 0 0,.agg s.row,.mu j v] st=some (.mu j v,(st.set ic (cO (lA f (n8 su s).2))).set j (sO v (n8 su s).1)++ext)
def aeX(l:List Sm):Prop:=∀(su:List Bool)(f:Option Int)(af:Nat)(st:aj)(ic j v:Nat),st[ic]?=some (cO f)->st[j]?=some (sO v su)->ic≠j->tG su.length l->Sm.cQ l<1000000000->su.length<1000000000->
 ∃ext,(bh S).call 0 af 44 [.ptr ic 0 0 0,aS l,.mu j v] st=some (.mu st.length 0,st.set ic (cO (lA f (gW su l).2))++sO 0 (gW su l).1::ext)
theorem fh(l:List Sm)(hl:∀s∈l,aeW s):aeX l:=by
 intro su f af st ic j v hc hj jn hr dF hn;have hz:bX 9 (aS l)=true:=Aj;have cA:aD (aS l)=true:=bn;have dW:(aS l).view=aS l:=aO;have cN:aM (aS l)=Sm.rows l:=aE;have hlen:=Sm.dD l;have E5:ic<st.length:=(List.getElem?_eq_some_iff.1 hc).1;have ecl:=λaf=>EA af su st j v hj hn;rw[rM]at hr;have ajl:ic≠st.length:=by omega
 obtain⟨v',bV,h1,rfl,ext,rfl⟩:∃v' bV,(bh S).call 0 af 44 [.ptr ic 0 0 0,aS l,.mu j v] st=some (v',bV)/\v'=.mu st.length 0/\∃ext,bV=st.set ic (cO (lA f (gW su l).2))++sO 0 (gW su l).1::ext:=by
  refine iT (sf:=s44) rfl rfl rfl ?_;generalize aS l=lv at *;simp[s44,cA,dW,cN,ecl];refine bf Rs.eq_1 (λx:Nat×List Bool×Option Int×aj×List AV=>⟨[(0,.val (.ptr ic 0 0 0)),(2,.val (.mu st.length 0)),(11,.val lv),(12,.val (.int .i64 l.length)),(13,.val (.int .i64 x.1))],[x.2.2.2.2],st.set ic (cO x.2.2.1)++sO 0 x.2.1::x.2.2.2.1⟩)
   (λx=>x.1<=l.length/\x.2.1.length=su.length/\lA x.2.2.1 (gW x.2.1 (l.drop x.1)).2=lA f (gW su l).2/\(gW x.2.1 (l.drop x.1)).1=(gW su l).1) (λx=>l.length-x.1) (0,su,f,[],[]) (by simp[gb hc]) ⟨by simp,rfl,by simp,by simp⟩ ?_
  rintro⟨k,sk,g,ext,b⟩ ⟨hk,Ta,hp,hq⟩ ih;simp only at hk Ta hp hq ih;by_cases aW:k<l.length;have hw:=wk k (by omega);have hm:=List.getElem_mem aW;have xK:(st.set ic (cO g)++sO 0 sk::ext)[ic]?=some (cO g):=by
   rw[List.getElem?_append_left (by simpa using E5)];exact eX hc
  have vk:(st.set ic (cO g)++sO 0 sk::ext)[st.length]?=some (sO 0 sk):=by
   rw[List.getElem?_append_right (by simp)];simp
  have hup:∀g' s',((st.set ic (cO g)++sO 0 sk::ext).set ic (cO g')).set st.length (sO 0 s')=st.set ic (cO g')++sO 0 s'::ext:=λg' s'=>by
   rw[List.set_append_left _ _ (by simpa using E5),List.set_set,List.set_append_right _ _ (by simp)];simp
  obtain⟨y8,ct⟩:=hl _ hm sk g af _ ic st.length 0 xK vk ajl (by rw[Ta];exact hr _ hm) (by have:=Sm.iA hm;omega) (by omega);rw[hup]at ct;rw[List.drop_eq_getElem_cons aW,Gp]at hp hq;simp only at hp hq;rw[<-iH]at hp;have dx:=λb=>ih (k+1,(n8 sk l[k]).1,lA g (n8 sk l[k]).2,ext++y8,b) ⟨by simp only;omega,by simp only[Eh];exact Ta,hp,hq⟩ (by simp only;omega);simp only at dx;have lJ:st.set ic (cO (lA g (n8 sk l[k]).2))++sO 0 (n8 sk l[k]).1::ext++y8=st.set ic (cO (lA g (n8 sk l[k]).2))++sO 0 (n8 sk l[k]).1::(ext++y8):=by simp
  rw[lJ]at ct;have gE:=wL aW;have gY:k<(Sm.rows l).length:=by simpa using aW
  have mZ:=qG aW gY;obtain⟨e1,b1,l1⟩:aD (aI l[k].es)=true/\aD (aS l[k].bd)=true/\aD (aS l[k].el)=true:=⟨aQ,bn,bn⟩;have e2:(aI l[k].es).view=aI l[k].es:=aN;have b2:(aS l[k].bd).view=aS l[k].bd:=aO;have l2:(aS l[k].el).view=aS l[k].el:=aO;rw[Sm.az]at ct gE mZ;generalize st.set ic (cO (lA g (n8 sk l[k]).2))++sO 0 (n8 sk l[k]).1::(ext++y8)=s2 at *;generalize st.set ic (cO g)++sO 0 sk::ext=s1 at *;generalize l[k]=x at *;generalize aI x.es=xe at *;generalize aS x.bd=xb at *;generalize aS x.el=xl at *;simp[aW,hw,hz,dW,cN,mZ,ct,e1,b1,l1,e2,b2,l2,ag,AV.view];exact dx _;have eK:k=l.length:=by omega
  rw[eK,List.drop_length,JK]at hp hq;simp only[kT]at hp hq;subst hp hq;simp[aW,om]
 exact⟨ext,h1⟩
end S9
namespace S9
open Ax Go bu V7 jG j9 K9
theorem eF{s:Sm}:aD (aI s.es)=true/\aD (aS s.bd)=true/\aD (aS s.el)=true:=⟨aQ,bn,bn⟩
def gi:bw->bw
 |.seq _ b=>b|x=>x
def rR:bw:=gi (gi Jp.body)
theorem aeY(s:Sm)(su:List Bool)(f:Option Int)(af:Nat)(st:aj)(ic j v:Nat)(hc:st[ic]?=some (cO f))(hj:st[j]?=some (sO v su))(jn:ic≠j)(hr:zZ su.length s.es)(dF:E.cQ s.es<1000000000){Q:Ex->St->Prop}
  (go:∀b,W S 0 af Jp.results Q [.code rR] .normal ⟨[(0,.val (.ptr ic 0 0 0)),(2,.val (.mu j v)),(4,.fp 0 0)],[s.row,b],st.set ic (cO (lA f (lI su s.es)))⟩) :
  W S 0 af Jp.results Q [.code Jp.body] .normal (pF Jp [.ptr ic 0 0 0,.agg s.row,.mu j v] st):=by
 have hz:bX 11 (aI s.es)=true:=iM;have cA:aD (aI s.es)=true:=aQ;have dW:(aI s.es).view=aI s.es:=aN;have cN:aM (aI s.es)=E.rows s.es:=aE;have eK:=E.dD s.es;rw[lW]at hr;have E5:ic<st.length:=(List.getElem?_eq_some_iff.1 hc).1;obtain⟨_,b1,l1⟩:=eF (s:=s);rw[Sm.az]at *;generalize aS s.bd=bv at *;generalize aS s.el=lv at *;generalize ow:aI s.es=kv at *;simp[Jp,cA,dW,cN,b1,l1];show W S 0 af Jp.results Q [.code (.loop Ld),.jF 0,.code rR] .normal _;generalize rR=T at *;refine bf Ld.eq_1 (λx:Nat×Option Int×List AV=>⟨[(0,.val (.ptr ic 0 0 0)),(2,.val (.mu j v)),(4,.fp 0 0),(14,.val kv),(15,.val (.int .i64 s.es.length)),(16,.val (.int .i64 x.1))],[[.int .i64 s.k,.str s.nm,.str s.on,.int .i64 s.od,kv,bv,lv,.int .i64 s.a,.int .i64 s.cG],x.2.2],st.set ic (cO x.2.1)⟩)
  (λx=>x.1<=s.es.length/\lA x.2.1 (lI su (s.es.drop x.1))=lA f (lI su s.es)) (λx=>s.es.length-x.1) (0,f,[]) (by simp[gb hc]) ⟨by simp,by simp⟩ ?_
 rintro⟨k,g,b⟩ ⟨hk,hp⟩ Gs;simp only at hk hp Gs;have xK:(st.set ic (cO g))[ic]?=some (cO g):=eX hc;have vk:(st.set ic (cO g))[j]?=some (sO v su):=by rw[fN jn];exact hj
 have oz:∀o,(st.set ic (cO g)).set ic o=st.set ic o:=λo=>by rw[List.set_set]
 by_cases aW:k<s.es.length;have hw:=wk k (by omega);have hm:=List.getElem_mem aW;have ct:=λaf=>S7 s.es[k] su g af (st.set ic (cO g)) ic j v xK vk jn (hr _ hm) (by have:=E.iA hm;omega);rw[List.drop_eq_getElem_cons aW,xD,<-iH]at hp;have ED:=λb=>Gs (k+1,lA g (zY su s.es[k]),b) ⟨by simp only;omega,hp⟩ (by simp only;omega);simp only at ED;simp only[oz]at ct;have gE:=uZ aW;have gY:k<(E.rows s.es).length:=by simpa using aW
 have tO:=oW aW gY;rw[E.az s.es[k]]at ct gE tO;have xv:aD (aI s.es[k].aC)=true:=aQ;have xw:(aI s.es[k].aC).view=aI s.es[k].aC:=aN;generalize s.es[k]=x at *;generalize st.set ic (cO g)=s1 at *;generalize st.set ic (cO (lA g (zY su x)))=s2 at *;simp[aW,hw,hz,dW,cN,tO,ct,xv,xw,ag,AV.view];exact ED _;have eK:k=s.es.length:=by omega
 rw[eK,List.drop_length]at hp;simp only[lI,kT]at hp;subst hp;have go:=go b;simp[aW];exact go
theorem Aq{su:List Bool}{k:Nat}(h:k<su.length):(List.replicate k true++su.drop k).set k true=List.replicate (k+1) true++su.drop (k+1):=by
 rw[List.drop_eq_getElem_cons h,List.set_append_right _ _ (by simp)];simp only[List.length_replicate,Nat.sub_self,List.set_cons_zero,List.replicate_succ',List.append_assoc,List.singleton_append]
theorem oc(s:Sm):aeW s:=by
 induction s using Sm.yu with
 |_ s sW k7=>
  intro su f af st ic j v hc hj jn hr dF hn;have hz:=Sm.jM s;obtain⟨r1,r2,r3,r4,r5⟩:=(uJ _ _).1 hr;have E5:ic<st.length:=(List.getElem?_eq_some_iff.1 hc).1;have xg:j<st.length:=(List.getElem?_eq_some_iff.1 hj).1;obtain⟨e1,b1,l1⟩:=eF (s:=s);have b2:(aS s.bd).view=aS s.bd:=aO;have l2:(aS s.el).view=aS s.el:=aO;have hB:=fh s.bd sW;have hL:=fh s.el k7
  suffices hx:∃v' bV,(bh S).call 0 af 85 [.ptr ic 0 0 0,.agg s.row,.mu j v] st=some (v',bV)/\v'=.mu j v/\∃ext,bV=(st.set ic (cO (lA f (n8 su s).2))).set j (sO v (n8 su s).1)++ext by
   obtain⟨v',bV,h1,rfl,ext,rfl⟩:=hx;exact⟨ext,h1⟩
  refine iT (sf:=Jp) rfl rfl rfl (aeY s su f _ st ic j v hc hj jn r1 (by omega) λb=>?_);rw[Ni,Sm.az];generalize hg:lA f (lI su s.es)=g at *;have xK:(st.set ic (cO g))[ic]?=some (cO g):=eX hc;have vk:(st.set ic (cO g))[j]?=some (.rows v 1 (fT su)):=by rw[fN jn];exact hj
  have hj0:(st.set ic (cO g)).set j (sO v su)=st.set ic (cO g):=gb vk;generalize aI s.es=ev at *;generalize hbv:aS s.bd=bv at *;generalize Ca:aS s.el=lv at *;by_cases h1:s.k=1;obtain⟨h0,aW⟩:=r2 (.inl h1);obtain⟨r,vq⟩:∃r:Nat,s.cG=r:=⟨s.cG.toNat,by omega⟩;have ni:r<su.length:=by omega
  have h1':(s.k=1)=True:=eq_true h1;have hb:=jj ni;rw[if_pos h1,vq,Int.toNat_natCast];simp only;rw[hg];generalize st.set ic (cO g)=s1 at *;simp[rR,gi,Jp,h1',vk,ni,aY,AV.ai,AV.ax,ag,om];rw[if_neg h1];by_cases It:s.k=2\/s.k=3;rw[if_pos It];by_cases h0:0<=s.cG;have aW:s.cG<su.length:=by
   rcases It with h|h;exact(r2 (.inr h)).2;exact r3 h
  obtain⟨r,vq⟩:∃r:Nat,s.cG=r:=⟨s.cG.toNat,by omega⟩;have ni:r<su.length:=by omega
  have hb:=jj ni;rw[if_pos h0,vq,Int.toNat_natCast];simp only;rw[hg];generalize st.set ic (cO g)=s1 at *;rcases It with h|h;have M6:(s.k=2)=True:=eq_true h;simp[rR,gi,Jp,h1,M6,vk,ni,aY,AV.ai,AV.ax,ag,om];have h2:¬s.k=2:=by omega
  have Kq:(s.k=3)=True:=eq_true h;simp[rR,gi,Jp,h1,h2,Kq,vk,ni,aY,AV.ai,AV.ax,ag,om];have h3:s.k=3:=by
   rcases It with h|h;exact absurd (r2 (.inr h)).1 h0;exact h
  have h2:¬s.k=2:=by omega
  have Kq:(s.k=3)=True:=eq_true h3;rw[if_neg h0];simp only;rw[hg,hj0];generalize st.set ic (cO g)=s1 at *;simp[rR,gi,Jp,h1,h2,Kq,h0,om];rw[if_neg It];have h2:¬s.k=2:=λh=>It (.inl h);have h3:¬s.k=3:=λh=>It (.inr h);by_cases h7:s.k=7;have h7':(s.k=7)=True:=eq_true h7;rw[if_pos h7];simp only;rw[hg];have vR:∀sk:List Bool,((st.set ic (cO g)).set j (sO v sk))[j]?=some (.rows v 1 (fT sk)):=λsk=>eX vk;have oz:∀(a b:dy),((st.set ic (cO g)).set j a).set j b=(st.set ic (cO g)).set j b:=λa b=>by rw[List.set_set]
  generalize st.set ic (cO g)=s1 at *;simp[rR,gi,Jp,h1,h2,h3,h7',vk];refine bf RO.eq_1 (λk:Nat=>⟨[(2,.val (.mu j v)),(46,.val (.int .i64 su.length)),(47,.val (.int .i64 k))],[[.int .i64 s.k,.str s.nm,.str s.on,.int .i64 s.od,ev,bv,lv,.int .i64 s.a,.int .i64 s.cG],b],s1.set j (sO v (List.replicate k true++su.drop k))⟩)
   (λk=>k<=su.length) (λk=>su.length-k) 0 (by simp[hj0]) (by simp) ?_
  intro k hk ih;by_cases aW:k<su.length;have hw:=wk k (by omega);have hl:(List.replicate k true++su.drop k).length=su.length:=by simp;omega
  have eK:k<(List.replicate k true++su.drop k).length:=by omega
  have hb:=jj eK;have hh:=vR (List.replicate k true++su.drop k);have hn:=Aq aW;have dx:=ih (k+1) (by omega) (by omega);have hup:(s1.set j (sO v (List.replicate k true++su.drop k))).set j (.rows v 1 (fT (List.replicate (k+1) true++su.drop (k+1))))=s1.set j (sO v (List.replicate (k+1) true++su.drop (k+1))):=oz _ _;generalize List.replicate (k+1) true++su.drop (k+1)=sk' at *;generalize List.replicate k true++su.drop k=sk at *;generalize s1.set j (sO v sk)=s2 at *;simp[aW,hw,hh,hl,hn,hup,aY,AV.ai,AV.ax,ag];exact dx;have eK:k=su.length:=by omega
  have tP:List.replicate k true++su.drop k=su.map λ_=>true:=by
   rw[eK,List.drop_length,List.append_nil,List.map_const']
  rw[tP];simp[aW,om];rw[if_neg h7];by_cases h6:s.k=6;have h6':(s.k=6)=True:=eq_true h6;rw[if_pos h6];simp only;rw[<-iH,hg];obtain⟨ext,ct⟩:=hB su g af (st.set ic (cO g)) ic j v xK vk jn r4 (by omega) hn;rw[hbv,List.set_set,List.length_set]at ct;have tP:(st.set ic (cO (lA g (gW su s.bd).2))).set j (sO v su)=st.set ic (cO (lA g (gW su s.bd).2)):=gb (by rw[fN jn];exact hj);rw[tP];generalize st.set ic (cO (lA g (gW su s.bd).2))=s2 at *;generalize st.set ic (cO g)=s1 at *;simp[rR,gi,Jp,h1,h2,h3,h7,h6',ct,b2,om];rw[if_neg h6];by_cases h5:s.k=5;have h5':(s.k=5)=True:=eq_true h5;rw[if_pos h5];simp only;rw[<-iH,<-iH,hg];obtain⟨ext,ct⟩:=hB su g af (st.set ic (cO g)) ic j v xK vk jn r4 (by omega) hn;rw[hbv,List.set_set,List.length_set]at ct;generalize hA:(gW su s.bd).1=A at *;generalize VX:lA g (gW su s.bd).2=g2 at *;have hAl:A.length=su.length:=by rw[<-hA,rL]
  have hBl:(gW su s.el).1.length=su.length:=rL _ _;have Bg:(st.set ic (cO g2)++sO 0 A::ext)[ic]?=some (cO g2):=by
   rw[List.getElem?_append_left (by simpa using E5)];exact eX hc
  have DD:(st.set ic (cO g2)++sO 0 A::ext)[j]?=some (sO v su):=by
   rw[List.getElem?_append_left (by simpa using xg),fN jn];exact hj
  obtain⟨y8,EE⟩:=hL su g2 af _ ic j v Bg DD jn r5 (by omega) hn;rw[Ca]at EE;generalize hBB:(gW su s.el).1=B at *;generalize hg3:lA g2 (gW su s.el).2=g3 at *;have ae0:(st.set ic (cO g2)++sO 0 A::ext).set ic (cO g3)=st.set ic (cO g3)++sO 0 A::ext:=by
   rw[List.set_append_left _ _ (by simpa using E5),List.set_set]
  rw[ae0]at EE;have hT:st.set ic (cO g3)++sO 0 A::ext++sO 0 B::y8=st.set ic (cO g3)++(sO 0 A::ext++sO 0 B::y8):=by simp
  rw[hT]at EE;have hka:st.length≠j:=by omega
  have hkb:(st.set ic (cO g2)++sO 0 A::ext).length≠j:=by simp;omega
  have gA:∀sk,((st.set ic (cO g3)).set j (sO v sk)++(sO 0 A::ext++sO 0 B::y8))[st.length]?=some (.rows 0 1 (fT A)):=λsk=>by
   rw[List.getElem?_append_right (by simp)];simp
  have gB:∀sk,((st.set ic (cO g3)).set j (sO v sk)++(sO 0 A::ext++sO 0 B::y8))[(st.set ic (cO g2)++sO 0 A::ext).length]?=some (.rows 0 1 (fT B)):=λsk=>by
   rw[List.getElem?_append_right (by simp),List.getElem?_append_right (by simp)];simp
  have gJ:∀sk,((st.set ic (cO g3)).set j (sO v sk)++(sO 0 A::ext++sO 0 B::y8))[j]?=some (.rows v 1 (fT sk)):=λsk=>by
   rw[List.getElem?_append_left (by simpa using xg),List.getElem?_set_self (by simpa using xg)]
  have gS:∀sk sk',((st.set ic (cO g3)).set j (sO v sk)++(sO 0 A::ext++sO 0 B::y8)).set j (.rows v 1 (fT sk'))=(st.set ic (cO g3)).set j (sO v sk')++(sO 0 A::ext++sO 0 B::y8):=λsk sk'=>by
   rw[List.set_append_left _ _ (by simpa using xg),List.set_set]
  have g0:st.set ic (cO g3)++(sO 0 A::ext++sO 0 B::y8)=(st.set ic (cO g3)).set j (sO v su)++(sO 0 A::ext++sO 0 B::y8):=by
   rw[gb (show (st.set ic (cO g3))[j]?=some (sO v su) by rw[fN jn];exact hj)]
  rw[g0]at EE;have hJ0:=gJ su;generalize (st.set ic (cO g2)++sO 0 A::ext).length=kb at *;generalize hEX:sO 0 A::ext++sO 0 B::y8=EX at *;generalize st.set ic (cO g2)++sO 0 A::ext=s2 at *;generalize st.set ic (cO g)=s1 at *;generalize st.set ic (cO g3)=s3 at *;generalize st.length=ka at *;have Tb:∀k (h:k<su.length) (h1:k<A.length) (h2:k<B.length),((List.zipWith (λa b=>a&&b) A B).take k++su.drop k).set k (A[k]&&B[k])=(List.zipWith (λa b=>a&&b) A B).take (k+1)++su.drop (k+1):=λk h h1 h2=>by
   rw[List.drop_eq_getElem_cons h,List.set_append_right _ _ (by simp;omega),List.take_succ_eq_append_getElem (by simp;omega)];have:k-((List.zipWith (λa b=>a&&b) A B).take k).length=0:=by simp;omega
   rw[this];simp only[List.set_cons_zero,List.getElem_zipWith,List.append_assoc,List.singleton_append]
  have aay:(List.zipWith (λa b=>a&&b) A B).length=su.length:=by simp[hAl,hBl]
  generalize hZ:List.zipWith (λa b=>a&&b) A B=Z at *;simp[rR,gi,Jp,h1,h2,h3,h7,h6,h5',ct,EE,b2,l2,hJ0,au,an];refine bf RU.eq_1 (λk:Nat=>⟨[(2,.val (.mu j v)),(10,.val (.mu ka 0)),(11,.val (.mu kb 0)),(74,.val (.int .i64 su.length)),(75,.val (.int .i64 k))],[[.int .i64 s.k,.str s.nm,.str s.on,.int .i64 s.od,ev,bv,lv,.int .i64 s.a,.int .i64 s.cG],b],s3.set j (sO v (Z.take k++su.drop k))++EX⟩)
   (λk=>k<=su.length) (λk=>su.length-k) 0 (by simp) (by simp) ?_
  intro k hk ih;by_cases aW:k<su.length;have hw:=wk k (by omega);have hl:(Z.take k++su.drop k).length=su.length:=by simp;omega
  have eK:k<(Z.take k++su.drop k).length:=by omega
  have Wf:k<A.length:=by omega
  have hlB:k<B.length:=by omega
  have hb:=jj eK;have bA:=jj Wf;have bB:=jj hlB;have a1:=gA (Z.take k++su.drop k);have a2:=gB (Z.take k++su.drop k);have a3:=gJ (Z.take k++su.drop k);have a4:=gS (Z.take k++su.drop k) (Z.take (k+1)++su.drop (k+1));have hn:=Tb k aW Wf hlB;have dx:=ih (k+1) (by omega) (by omega);generalize Z.take (k+1)++su.drop (k+1)=sk' at *;generalize Z.take k++su.drop k=sk at *;generalize s3.set j (sO v sk)++EX=s4 at *;cases hAk:A[k] with
  |true=>
   rw[hAk]at hn bA;rw[Bool.true_and]at hn;simp[aW,hw,a1,a2,a3,hl,Wf,hlB,hAk,hn,a4,aY,AV.ai,AV.ax,ag];exact dx
  |false=>
   rw[hAk]at hn bA;rw[Bool.false_and]at hn;simp[aW,hw,a1,a3,hl,Wf,hAk,hn,a4,aY,AV.ai,AV.ax,ag];exact dx
  have eK:k=su.length:=by omega
  have tP:Z.take k++su.drop k=Z:=by
   rw[eK,List.drop_length,List.append_nil,<-aay,List.take_length]
  rw[tP];simp[aW,om];rw[if_neg h5];simp only;rw[hg,hj0];generalize st.set ic (cO g)=s1 at *;simp[rR,gi,Jp,h1,h2,h3,h5,h6,h7,om]
end S9
namespace S9
open Ax Go bu V7 jG j9 K9
open N7 U7 in
def u0(p:Pg):Option Int:=match iS (iY p) with
 |some a=>some a|none=>match qh (aG p) (aG p).sigs p.funcs with
  |.error a=>some a|.ok bs=>yT (aG p).sigs bs
def tQ(o:Option Int):AV:=.agg [.int .i64 (cE o),.int .i64 (cX o)]
theorem ae1(l:List Sm):aeX l:=fh l λs _=>oc s
theorem Gx{n:Nat}:List.replicate n [AV.bool false]=fT (List.replicate n false):=by simp[fT]
theorem Nr{np n:Nat}:List.replicate np true++(List.replicate n false).drop np=List.replicate np true++List.replicate (n-np) false:=by rw[List.drop_replicate]
theorem sC{H:Hd}:∀{ss:List Sg}{fs:List Fc}{bs:List Bd},ss.length=fs.length->qh H ss fs=.ok bs->bs.length=fs.length
 |[],[],bs,_,h=>by unfold qh at h;cases h;rfl|[],_::_,_,h,_=>by simp at h|_::_,[],_,h,_=>by simp at h|s::ss,f::fs,bs,hl,h=>by
  unfold qh at h;split at h;cases h;split at h;cases h;rename_i l IQ;cases h;have:=sC (by simpa using hl) IQ;simp[this]
theorem Gy{ss:List Sg}{bs:List Bd}{k:Nat}(h:k<ss.length)(h2:k<bs.length):yT (ss.drop k) (bs.drop k)=lA (gW (su0 ss[k] bs[k]) bs[k].code).2 (yT (ss.drop (k+1)) (bs.drop (k+1))):=by
 rw[List.drop_eq_getElem_cons h,List.drop_eq_getElem_cons h2];rfl
theorem J3{ss:List Sg}:yT ss []=none:=by cases ss<;>rfl
open N7 U7 in
theorem Wg(wl af:Nat)(p:Pg)(st:aj)(hg:(iY p).ok)(o9:GD.sm (iY p))(dF:∀f∈p.funcs,f.params.length+Sm.cQ f.body<1000000000)
  (pM:∀bs,qh (aG p) (aG p).sigs p.funcs=.ok bs->∀b∈bs,Sm.cQ b.code<1000000000/\b.vars.length<1000000000) :
  (bh S).call wl af 21 [.agg p.row] st=some (tQ (u0 p),st):=by
 have ec:=λwl af st=>K9.wN wl af p st hg o9 dF;have Ga:p.funcs.length<1000000000:=by have:=o9.funcs;rw[mY,List.length_map]at this;exact this
 refine bL (sf:=s21) rfl rfl (by simp[Pg.row,AV.ai,AV.ax]) rfl (by simp[tQ,AV.ax,AV.ai]) ?_;unfold mI at ec;unfold u0;have r1:aD (aA 3 (p.aR.map Rc.row))=true:=aL;have r2:(aA 3 (p.aR.map Rc.row)).view=aA 3 (p.aR.map Rc.row):=aJ;have f1:aD (aA 7 (p.funcs.map Fc.row))=true:=aL;have f2:(aA 7 (p.funcs.map Fc.row)).view=aA 7 (p.funcs.map Fc.row):=aJ;have g1:aD (aA 4 (p.globals.map PD.cells))=true:=aL;have g2:(aA 4 (p.globals.map PD.cells)).view=aA 4 (p.globals.map PD.cells):=aJ;simp only[Pg.row]at ec ⊢;generalize aA 3 (p.aR.map Rc.row)=PR at *;generalize aA 7 (p.funcs.map Fc.row)=PF at *;generalize aA 4 (p.globals.map PD.cells)=PG at *;cases hF:iS (iY p) with
 |some a=>
  rw[hF]at ec;simp only[tQ,cE,cX]at ec ⊢;simp[s21,ec,r1,r2,f1,f2,g1,g2,ag,AV.view]
 |none=>
  rw[hF]at ec;simp only at ec ⊢;cases hR:qh (aG p) (aG p).sigs p.funcs with
  |error a=>
   rw[hR]at ec;simp only[uN,tQ,cE,cX]at ec ⊢;simp[s21,ec,r1,r2,f1,f2,g1,g2,ag,AV.view]
  |ok bs=>
   rw[hR]at ec;simp only[uN,jS,List.cons_append,List.nil_append]at ec ⊢;have aaz:=pM bs hR;clear pM;have cA:(aG p).sigs.length=p.funcs.length:=(by simp[aG]);have NK:=sC cA hR;have hrefs:=Ei hR;have z1:aD (aA 3 (bs.map Bd.row))=true:=aL;have z2:(aA 3 (bs.map Bd.row)).view=aA 3 (bs.map Bd.row):=aJ;have z3:aM (aA 3 (bs.map Bd.row))=bs.map Bd.row:=aE;have z4:bX 3 (aA 3 (bs.map Bd.row))=true:=gf (by simp[bN,Bd.row]);have a1:aD (aA 2 ((aG p).bK.map dw))=true:=aL;have a2:(aA 2 ((aG p).bK.map dw)).view=aA 2 ((aG p).bK.map dw):=aJ;have b1:aD (aA 6 ((aG p).sigs.map Sg.row))=true:=aL;have b2:(aA 6 ((aG p).sigs.map Sg.row)).view=aA 6 ((aG p).sigs.map Sg.row):=aJ;have b3:aM (aA 6 ((aG p).sigs.map Sg.row))=(aG p).sigs.map Sg.row:=aE;have b4:bX 6 (aA 6 ((aG p).sigs.map Sg.row))=true:=gf (by simp[bN,Sg.row]);have c1:aD (br (aG p).globals)=true:=dK;have c2:(br (aG p).globals).view=br (aG p).globals:=fC;generalize aA 2 ((aG p).bK.map dw)=HS at *;generalize aA 6 ((aG p).sigs.map Sg.row)=HG at *;generalize br (aG p).globals=GL at *;generalize aA 3 (bs.map Bd.row)=BV at *;have Ks:∀k:Nat,k<bs.length->k<(aG p).sigs.length:=λk h=>by omega
   have Qn:bs.length<1000000000:=(by omega);generalize (aG p).sigs=SS at *;clear hR;simp[s21,ec,r1,r2,f1,f2,g1,g2,z1,z2,z3,a1,a2,b1,b2,c1,c2,ag,AV.view];refine bf Ra.eq_1 (λx:Nat×aj×List AV=>⟨[(2,.fp 1 0),(3,.fp 2 0),(20,.val BV),(21,.val (.int .i64 bs.length)),(22,.val (.int .i64 x.1))],[[PR,PG,PF],[.int .i64 0,.int .i64 0],[HS,GL,HG,.int .i64 (fW p),BV],[.int .i64 0,.int .i64 0],x.2.2],x.2.1⟩)
    (λx=>x.1<=bs.length/\yT (SS.drop x.1) (bs.drop x.1)=yT SS bs) (λx=>bs.length-x.1) (0,[],[]) (by simp) ⟨by simp,by simp⟩ ?_
   rintro⟨k,B3,b5⟩ ⟨hk,hp⟩ ih;simp only at hk hp ih;by_cases aW:k<bs.length;have hw:=wk k (by omega);have nj:=Ks k aW;rw[Gy nj aW]at hp;obtain⟨q1,q2⟩:=hrefs k nj aW;obtain⟨q3,q4⟩:=aaz _ (List.getElem_mem aW);have Ns:∀h:k<(bs.map Bd.row).length,(bs.map Bd.row)[k]=[br bs[k].vars,aS bs[k].code,.int .i64 bs[k].a]:=λh=>by simp[Bd.row]
   have yx:∀h:k<(SS.map Sg.row).length,(SS.map Sg.row)[k]=[.str SS[k].nm,br SS[k].ps,.bool SS[k].bO,.int .i64 SS[k].bz.b,.int .i64 SS[k].bz.r,.int .i64 SS[k].bz.d]:=λh=>by simp[Sg.row]
   have aaA:k<(bs.map Bd.row).length:=(by simpa using aW);have EB:k<(SS.map Sg.row).length:=(by simpa using nj);have Tc:=Ns aaA;have EC:=yx EB;clear Ns yx;have v1:aD (br bs[k].vars)=true:=dK;have v2:(br bs[k].vars).view=br bs[k].vars:=fC;have v3:(aM (br bs[k].vars)).length=bs[k].vars.length:=(by simp);have w1:aD (aS bs[k].code)=true:=bn;have w2:(aS bs[k].code).view=aS bs[k].code:=aO;have p1:aD (br SS[k].ps)=true:=dK;have p2:(br SS[k].ps).view=br SS[k].ps:=fC;have p3:(aM (br SS[k].ps)).length=SS[k].ps.length:=(by simp);have mE:(bs[k].vars.length:Int)<=cR:=(by unfold cR;omega);have hbc:=ae1 bs[k].code;unfold su0 at hp;have Du:(List.replicate SS[k].ps.length true++List.replicate (bs[k].vars.length-SS[k].ps.length) false).length=bs[k].vars.length:=(by simp;omega);have ct:=λaf=>hbc (List.replicate SS[k].ps.length true++List.replicate (bs[k].vars.length-SS[k].ps.length) false) none af (B3++[sO 0 (List.replicate SS[k].ps.length true++List.replicate (bs[k].vars.length-SS[k].ps.length) false),cO none]) (B3.length+1) B3.length 0
    (by rw[List.getElem?_append_right (by omega)];simp) (by simp) (by omega) (by rw[Du];exact q2) q3 (by rw[Du];exact q4)
   obtain⟨ext,ct⟩:=ct 0;have vR:∀g,(B3++[sO 0 (List.replicate SS[k].ps.length true++List.replicate (bs[k].vars.length-SS[k].ps.length) false),cO none]).set (B3.length+1) (cO g)=B3++[sO 0 (List.replicate SS[k].ps.length true++List.replicate (bs[k].vars.length-SS[k].ps.length) false),cO g]:=λg=>by
    rw[List.set_append_right _ _ (by omega)];simp
   rw[vR]at ct;have ho:∀g:Option Int,lA none g=g:=λg=>rfl;rw[ho]at ct;generalize jO:bs[k].code=cs at *;generalize hbv:bs[k].vars.length=n at *;generalize hbp:SS[k].ps.length=np at *;generalize hfb:br bs[k].vars=FV at *;generalize Mo:br SS[k].ps=FP at *;generalize hsc:aS cs=SC at *;generalize bs[k]=bk at *;generalize SS[k]=sk at *;simp[-xq,xq,aW,nj,Tc,EC,z2,z3,z4,b2,b3,b4,v1,v2,v3,w1,w2,p1,p2,p3,mE,Gx,ag,AV.view];refine bf Q9.eq_1 (λi:Nat=>⟨[(2,.fp 1 0),(3,.fp 2 0),(6,.fp 4 0),(7,.val (.mu B3.length 0)),(20,.val BV),(21,.val (.int .i64 bs.length)),(22,.val (.int .i64 k)),(38,.val (.int .i64 np)),(39,.val (.int .i64 i))],[[PR,PG,PF],[.int .i64 0,.int .i64 0],[HS,GL,HG,.int .i64 (fW p),BV],[.int .i64 0,.int .i64 0],[FV,SC,.int .i64 bk.a]],B3++[sO 0 (List.replicate i true++(List.replicate n false).drop i)]⟩)
    (λi=>i<=np) (λi=>np-i) 0 (by simp) (by simp) ?_
   intro i hi k7;by_cases E5:i<np;have hwi:=wk i (by omega);have IM:i<(List.replicate n false).length:=(by simp;omega);have hn:=Aq IM;have hll:(List.replicate i true++(List.replicate n false).drop i).length=n:=(by simp;omega);have hib:i<(List.replicate i true++(List.replicate n false).drop i).length:=(by omega);have hb:=jj hib;have aaB:=k7 (i+1) (by omega) (by omega);generalize List.replicate (i+1) true++(List.replicate n false).drop (i+1)=s2 at *;generalize List.replicate i true++(List.replicate n false).drop i=s1 at *;have aaC:i<n:=(by omega);simp[E5,hwi,hll,aaC,hn,aY,AV.ai,AV.ax,ag];exact aaB;have QA:i=np:=(by omega);rw[QA,Nr];generalize List.replicate np true++List.replicate (n-np) false=s0 at *;cases hgv:(gW s0 cs).2 with
   |none=>
    rw[hgv]at ct hp;have hp:yT (SS.drop (k+1)) (bs.drop (k+1))=yT SS bs:=hp;have dx:=λo b5=>ih (k+1,o,b5) ⟨by simp only;omega,hp⟩ (by simp only;omega);simp only at dx;simp only[cO,cE,cX]at ct;simp[ct,hw,w2];exact dx _ _
   |some a=>
    rw[hgv]at ct hp;have hp:some a=yT SS bs:=hp;rw[<-hp];simp only[cO,cE,cX,tQ]at ct ⊢;simp[ct,w2,ag]
   have eK:k=bs.length:=(by omega);rw[eK,List.drop_length,J3]at hp;rw[<-hp];simp[aW,tQ,cE,cX,ag]
end S9
