/- Part of a proof. -/
import Derived.Test.YtpnadocbfbbboaaGreatP

namespace wU
open Ax Go V7 lf mG
abbrev TS:=Int×List UInt8×Int
def Av(c:Tk):TS:=(c.k,c.t,c.n)
def W(s:List UInt8):TS:=(jR s,s,0)
def Nm(s:List UInt8):TS:=(1,s,0)
def Nu(n:Int):TS:=(2,[],n)
def th(T:List Tk):Nat->List TS->Prop
 |_,[]=>True|i,x::r=>Av (T.getD i Tk0)=x/\th T (i+1) r
theorem cT{T:List Tk}:∀{a b:List TS}{i:Nat},th T i (a++b)↔th T i a/\th T (i+a.length) b
 |[],b,i=>by simp[th]|x::a,b,i=>by
  have:=cT (T:=T) (a:=a) (b:=b) (i:=i+1);simp only[List.cons_append,th,this,List.length_cons,and_assoc];rw[show i+1+a.length=i+(a.length+1) by omega]
theorem iY{T:List Tk}{x:TS}{a:List TS}{i:Nat}:th T i (x::a)↔Av (T.getD i Tk0)=x/\th T (i+1) a:=Iff.rfl
def ke(x:TS)(s:List UInt8):Bool:=decide (x.1=jR s)&&decide (x.2.1=s)
def ZC(n:Nat)(x:TS):Int:=if x.1=4 then fm (dH n) x.2.1 else 0
def bR(T:List Tk)(i:Nat):TS:=Av (T.getD i Tk0)
variable {T:List Tk}{q:RQ}
theorem aW(hf:q.fe=0)(s:List UInt8):fP T q s=ke (bR T q.at_) s:=by simp[fP,ke,bR,Av,dQ,hf]
theorem Jp(n:Nat):lK n (dQ T q)=ZC n (bR T q.at_):=rfl
theorem pP{s:List UInt8}(hf:q.fe=0)(h:bR T q.at_=Nm s):cW T q=(s,aA q):=by
 unfold bR Av Nm at h;simp only[Prod.mk.injEq]at h;unfold cW dQ;rw[if_pos ⟨hf,h.1⟩,h.2.1]
def mv(q:RQ)(n:Nat):RQ:=⟨q.at_+n,q.op,q.fe,q.fa⟩
theorem Jq:aA q=mv q 1:=rfl
theorem Aw(a b:Nat):mv (mv q a) b=mv q (a+b):=by simp[mv,Nat.add_assoc]
theorem aiA(n:Nat):(mv q n).at_=q.at_+n:=rfl
theorem gW(hf:q.fe=0){s:List UInt8}(h:ke (bR T q.at_) s=true):cH T q s=mv q 1:=by
 unfold cH;rw[aW hf,h];rfl
theorem y9{n:Int}(h : -100<=n)(h2:n<=100):IntKind.i64.wrap n=n:=by rw[dn]<;>omega
def om(q:RQ):RQ:=⟨q.at_+1,q.op+1,q.fe,q.fa⟩
theorem RA(hf:q.fe=0){s:List UInt8}(h:ke (bR T q.at_) s=true):(gC T q s=om q/\q.op<50\/(gC T q s).fe≠0/\50<=q.op)\/q.op<0:=by
 by_cases h0:q.op<0;exact .inr h0;left;unfold gC;rw[aW hf,h];by_cases h5:50<=q.op;rw[if_pos (by simp[h5])];exact .inr ⟨eL (by decide),h5⟩;rw[if_neg (by simp[h5]),gW hf h];refine .inl ⟨?_,by omega⟩;unfold rH mv om;simp only;rw[y9 (by omega) (by omega)]
theorem oX(hf:q.fe=0){s:List UInt8}(h:ke (bR T q.at_) s=true)(h0:0<=q.op)(h1:q.op<=51):ku T q s=⟨q.at_+1,q.op-1,q.fe,q.fa⟩:=by
 unfold ku;rw[gW hf h];unfold rH mv;simp only;rw[y9 (by omega) (by omega)]
 rfl
def aiB:List UInt8:=[105,110,116]
def aa8:List UInt8:=[98,111,111,108]
def WU(on:List UInt8):TS:=if on=aiB\/on=aa8 then W on else Nm on
def uT(on:List UInt8)(od:Int):List TS:=List.replicate od.toNat (W [91])++WU on::List.replicate od.toNat (W [93])
theorem VS(on:List UInt8):ke (WU on) [91]=false:=by
 unfold WU;split;rename_i h;rcases h with h|h<;>rw[h]<;>decide;simp[ke,Nm,jR]
theorem Pt:∀(k d:Nat)(q:RQ)(j:Nat)(x:TS),q.fe=0->j<=k->th T q.at_ (List.replicate j (W [91])++[x])->ke x [91]=false->GY T k d q=(d+j,mv q j)
 |0,d,q,j,x,hf,hj,h,hx=>by
  have:j=0:=by omega
  subst this
  rfl
 |k+1,d,q,0,x,hf,hj,h,hx=>by
  unfold GY;have h1:bR T q.at_=x:=h.1;rw[aW hf,h1,hx]
  rfl
 |k+1,d,q,j+1,x,hf,hj,h,hx=>by
  unfold GY;rw[List.replicate_succ,List.cons_append,iY]at h;have h1:bR T q.at_=W [91]:=h.1;have h2:ke (W [91]) [91]=true:=by decide
  rw[aW hf,h1,h2,if_pos rfl];have:=Pt k (d+1) (aA q) j x hf (by omega) h.2 hx;rw[this,Jq,Aw];rw[show d+1+j=d+(j+1) by omega,show 1+j=j+1 by omega]
theorem Ht:∀(k:Nat)(q:RQ)(s:List UInt8),q.fe=0->th T q.at_ (List.replicate k (W s))->rI T q s k=mv q k
 |0,q,s,hf,h=>rfl|k+1,q,s,hf,h=>by
  unfold rI;rw[List.replicate_succ',cT]at h;rw[Ht k q s hf h.1];have h2:bR T (mv q k).at_=W s:=by
   have:=h.2.1;simpa [mv,bR] using this
  rw[gW (q:=mv q k) hf (by rw[h2];simp[ke,W]),Aw]
theorem Jr{on:List UInt8}{od:Int}(hf:q.fe=0)(h0:0<=od)(h3:od<=3)(h:th T q.at_ (uT on od)):vl T q=((on,od),mv q (uT on od).length):=by
 obtain⟨k,rfl⟩:∃k:Nat,od=k:=⟨od.toNat,by omega⟩;have hk:k<=3:=by omega
 unfold uT at h ⊢;simp only[Int.toNat_natCast]at h ⊢;have hL:th T q.at_ (List.replicate k (W [91])++[WU on]):=by
  rw[cT]at h ⊢;exact⟨h.1,h.2.1,trivial⟩
 have e1:=Pt 3 0 q k (WU on) hf hk hL (VS on);rw[cT,iY,List.length_replicate]at h;obtain⟨_,h2,h4⟩:=h;have ht:bR T (mv q k).at_=WU on:=h2;have hn:WK T (mv q k)=(on,mv q (k+1)):=by
  unfold WK;rw[aW (q:=mv q k) hf,aW (q:=mv q k) hf,ht];unfold WU at ht ⊢;split;rename_i c;have c1:(ke (W on) [105,110,116]||ke (W on) [98,111,111,108])=true:=by rcases c with c|c<;>rw[c]<;>decide
  rw[if_pos c]at ht;rw[if_pos c1];have:(dQ T (mv q k)).t=on:=by
   have:=congrArg (·.2.1) ht;exact this
  rw[this,Jq,Aw];rename_i c;have c1:(ke (Nm on) [105,110,116]||ke (Nm on) [98,111,111,108])=false:=by simp[ke,Nm,jR]
  rw[if_neg c]at ht;rw[c1];simp only[Bool.false_eq_true,if_false];rw[pP (q:=mv q k) hf ht,Jq,Aw]
 unfold vl;rw[e1];simp only[Nat.zero_add];have hb:fP T (mv q k) [91]=false:=by rw[aW (q:=mv q k) hf,ht,VS]
 rw[hb,hn];simp only[Bool.false_eq_true,if_false];have:=Ht (T:=T) k (mv q (k+1)) [93] hf (by
  rw[aiA];have:q.at_+(k+1)=q.at_+k+1:=by omega
  rw[this];exact h4)
 rw[this,Aw];simp;congr 1;omega
def iG(k:Int):Nat:=if k=24 then 1 else if k=23 then 2 else if 19<=k/\k<=22 then 3 else if k=14\/k=15 then 4 else if 16<=k/\k<=18 then 5 else if k=12\/k=13 then 6 else 7
def iN(k:Int):List UInt8:=if k=14 then [43] else if k=15 then [45] else if k=16 then [42] else if k=17 then [47] else if k=18 then [37] else if k=19 then [60] else if k=20 then [60,61] else if k=21 then [61,61] else if k=22 then [33,61] else if k=23 then [38,38] else [124,124]
def Ci:List UInt8:=[116,114,117,101]
def wV:List UInt8:=[102,97,108,115,101]
def Cj:List UInt8:=[110,117,108,108]
def tR:List UInt8:=[110,101,119]
def Fa:List UInt8:=[108,101,110]
def Ck:List UInt8:=[114,101,97,100]
abbrev Kt:=Nat×List TS
def wr(l:Nat)(x:Kt):List TS:=if x.1<l then W [40]::(x.2++[W [41]]) else x.2
def g0(ks:List Kt):Kt:=match ks with|x::_=>x | []=>(7,[])
def g1(ks:List Kt):Kt:=match ks with|_::x::_=>x|_=>(7,[])
def Js:List Kt->List TS
 |[]=>[]
 |x::l=>W [44]::(x.2++Js l)
def args(ks:List Kt):List TS:=match ks with | []=>[]|x::l=>x.2++Js l
def uO(k n:Int)(nm on:List UInt8)(od:Int)(ks:List Kt):List TS:=
 if k=1 then [Nu n]
 else if k=2 then [W (if n=1 then Ci else wV)]
 else if k=3 then W Cj::uT on od
 else if k=4 then [Nm nm]
 else if k=5 then wr 7 (g0 ks)++[W [46],Nm nm]
 else if k=6 then wr 7 (g0 ks)++W [91]::((g1 ks).2++[W [93]])
 else if k=7 then Nm nm::W [40]::(args ks++[W [41]])
 else if k=8 then [W tR,Nm on]
 else if k=9 then W tR::W [91]::(uT on od++W [93]::W [40]::((g0 ks).2++[W [41]]))
 else if k=10 then W Fa::W [40]::((g0 ks).2++[W [41]])
 else if k=11 then [W Ck,W [40],W [41]]
 else if k=12 then W [45]::wr 6 (g0 ks)
 else if k=13 then W [33]::wr 6 (g0 ks)
 else wr (iG k) (g0 ks)++W (iN k)::wr (iG k+1) (g1 ks)
mutual
def uX:E->List TS
 |.mk k n nm on od ay _ _ _=>uO k n nm on od (Hu ay)
def Hu:List E->List Kt
 |[]=>[]
 |e::l=>(iG e.k,uX e)::Hu l
end
theorem Cl(e:E):uX e=uO e.k e.n e.nm e.on e.od (Hu e.ay):=by
 obtain⟨k,n,nm,on,od,ay,a,ty,ref⟩:=e
 (conv=>lhs;unfold uX)<;>rfl
def uW(l:Nat)(e:E):List TS:=wr l (iG e.k,uX e)
abbrev Kd:=Nat×Int
def wd(l:Nat)(x:Kd):Int:=if x.1<l then x.2+1 else x.2
def h0(ks:List Kd):Kd:=match ks with|x::_=>x | []=>(7,0)
def h1(ks:List Kd):Kd:=match ks with|_::x::_=>x|_=>(7,0)
def R8:List Kd->Int
 |[]=>0|x::l=>max x.2 (R8 l)
def dO(k:Int)(ks:List Kd):Int:=
 if k=1\/k=2\/k=3\/k=4\/k=8 then 0
 else if k=5 then wd 7 (h0 ks)
 else if k=6 then max (wd 7 (h0 ks)) ((h1 ks).2+1)
 else if k=7 then R8 ks+1
 else if k=9\/k=10 then (h0 ks).2+1
 else if k=11 then 1
 else if k=12\/k=13 then wd 6 (h0 ks)+1
 else max (wd (iG k) (h0 ks)) (wd (iG k+1) (h1 ks))
mutual
def dX:E->Int
 |.mk k _ _ _ _ ay _ _ _=>dO k (JU ay)
def JU:List E->List Kd
 |[]=>[]
 |e::l=>(iG e.k,dX e)::JU l
end
theorem Hv(e:E):dX e=dO e.k (JU e.ay):=by
 obtain⟨k,n,nm,on,od,ay,a,ty,ref⟩:=e
 (conv=>lhs;unfold dX)<;>rfl
def dW(l:Nat)(e:E):Int:=wd l (iG e.k,dX e)
mutual
def er:E->E
 |.mk k n nm on od ay _ _ _=>.mk k (oC k n) (jV k nm) (kU k on) (kV k od) (rV ay) 0 T0 0
def rV:List E->List E
 |[]=>[]
 |e::l=>er e::rV l
end
theorem tj(e:E):er e=.mk e.k (oC e.k e.n) (jV e.k e.nm) (kU e.k e.on) (kV e.k e.od) (rV e.ay) 0 T0 0:=by
 obtain⟨k,n,nm,on,od,ay,a,ty,ref⟩:=e
 (conv=>lhs;unfold er)<;>rfl
theorem Pu:∀l r:List E,rV (l++r)=rV l++rV r
 |[],r=>rfl|e::l,r=>by simp only[List.cons_append,rV,Pu l r]
mutual
def Wf:E->Prop
 |.mk k n _ _ od ay _ _ _=>dR k n ay.length=true/\(k=3\/k=9->0<=od/\od<=3)/\(k=8->od=0)/\Wfs ay
def Wfs:List E->Prop
 |[]=>True|e::l=>Wf e/\Wfs l
end
theorem Hw(e:E):Wf e↔dR e.k e.n e.ay.length=true/\(e.k=3\/e.k=9->0<=e.od/\e.od<=3)/\(e.k=8->e.od=0)/\Wfs e.ay:=by
 obtain⟨k,n,nm,on,od,ay,a,ty,ref⟩:=e;unfold Wf;exact Iff.rfl
theorem tn:∀l:List E,Wfs l↔∀e∈l,Wf e
 |[]=>by simp[Wfs]|e::l=>by simp[Wfs,tn l]
def CI(T:List Tk)(n i:Nat):Prop:=(∀m,n<=m->m<=4->ZC m (bR T i)=0)/\ke (bR T i) [46]=false/\ke (bR T i) [91]=false/\ke (bR T i) [40]=false
theorem CI.mono{n m i:Nat}(h:CI T n i)(hm:n<=m):CI T m i:=⟨λk a b=>h.1 k (by omega) b,h.2⟩
end wU
namespace wU
open Ax Go V7 lf mG
def VT(n:Nat)(x:TS):Bool:=(List.range 5).all (λm=>decide (m<n)||decide (ZC m x=0)) && !ke x [46] && !ke x [91] && !ke x [40]
theorem jt{T:List Tk}{n i:Nat}{x:TS}(hx:bR T i=x)(h:VT n x=true):CI T n i:=by
 unfold VT at h;simp only[Bool.and_eq_true,List.all_eq_true,Bool.not_eq_true',Bool.or_eq_true,decide_eq_true_eq,List.mem_range]at h;obtain⟨⟨⟨a,b⟩,c⟩,d⟩:=h;rw[<-hx]at a b c d;exact⟨λm h1 h2=>(a m (by omega)).resolve_left (by omega),b,c,d⟩
theorem NN{k:Int}(h:14<=k)(h2:k<=24):VT (iG k) (W (iN k))=true/\ZC (iG k-1) (W (iN k))=k/\1<=iG k/\iG k<=5:=by
 have:k=14\/k=15\/k=16\/k=17\/k=18\/k=19\/k=20\/k=21\/k=22\/k=23\/k=24:=by omega
 rcases this with rfl|rfl|rfl|rfl|rfl|rfl|rfl|rfl|rfl|rfl|rfl<;>decide
theorem tq(k:Int):1<=iG k/\iG k<=7:=by
 unfold iG;repeat' split
 all_goals omega
theorem Pv{k:Int}(h:iG k<=5):14<=k/\k<=24:=by
 unfold iG at h;repeat' split at h
 all_goals omega
theorem aee{k:Int}(h:iG k=6):k=12\/k=13:=by
 unfold iG at h;repeat' split at h
 all_goals omega
theorem Pw{k:Int}(h:iG k=7):¬(12<=k/\k<=24):=by
 unfold iG at h;repeat' split at h
 all_goals omega
theorem Jt{l m:Nat}{e:E}(h:(iG e.k<l)↔(iG e.k<m)):uW l e=uW m e/\dW l e=dW m e:=by
 unfold uW dW wr wd;simp only[h,and_self]
theorem wW{l:Nat}{e:E}(h:l<=iG e.k):uW l e=uX e/\dW l e=dX e:=by
 unfold uW dW wr wd;simp only;rw[if_neg (by omega),if_neg (by omega)];exact⟨rfl,rfl⟩
theorem aef{l:Nat}{e:E}(h:iG e.k<l):uW l e=W [40]::(uX e++[W [41]])/\dW l e=dX e+1:=by
 unfold uW dW wr wd;simp only;rw[if_pos h,if_pos h];exact⟨rfl,rfl⟩
theorem VU{l:Nat}{x:Kd}(h:0<=x.2):0<=wd l x:=by unfold wd;split<;>omega
theorem Ju:∀l:List E,JU l=l.map λe=>(iG e.k,dX e)
 |[]=>rfl|e::l=>by unfold JU;rw[Ju l];rfl
theorem aba:∀{l:List Kd},(∀x∈l,0<=x.2)->0<=R8 l
 |[],_=>Int.le_refl _|x::l,h=>by
  unfold R8;have:=h x List.mem_cons_self;omega
theorem Hx(e:E):0<=dX e:=by
 induction e using E.xN with
 |_ e ih=>
  have hk:∀x∈JU e.ay,0<=x.2:=by
   rw[Ju];intro x hx;obtain⟨y,hy,rfl⟩:=List.mem_map.1 hx;exact ih y hy
  have a0:0<=(h0 (JU e.ay)).2:=by
   unfold h0;split;rename_i x l heq;exact hk x (by rw[heq];exact List.mem_cons_self);exact Int.le_refl _
  have a1:0<=(h1 (JU e.ay)).2:=by
   unfold h1;split;rename_i y x l heq;exact hk x (by rw[heq];exact List.mem_cons_of_mem _ List.mem_cons_self);exact Int.le_refl _
  have a2:=aba hk;have b1:=λl=>VU (l:=l) a0;have b2:=λl=>VU (l:=l) a1;rw[Hv];unfold dO;repeat' split
  omega;exact b1 7;have:=b1 7;omega;omega;omega;omega;have:=b1 6;omega;have:=b1 (iG e.k);omega
theorem aeg{T:List Tk}{a r:RQ}(h:eK T a r)(hb:a.fe≠0):r.fe≠0:=by rw[(h.mV hb).1];exact hb
def PE(e:E)(n:Nat):Prop:=∀(T:List Tk)(f:Nat)(q:RQ)(e':E)(r:RQ),eY T f n q=some (e',r)->q.fe=0->0<=q.op->q.op<=50->(r.fe=0\/q.op+dW (n+1) e<=50)->
 th T q.at_ (uW (n+1) e)->CI T n (q.at_+(uW (n+1) e).length)->r=mv q (uW (n+1) e).length/\er e'=er e
def PC(e:E)(m:Nat):Prop:=∀(T:List Tk)(f:Nat)(q:RQ)(e':E)(r:RQ),eY T f m q=some (e',r)->q.fe=0->0<=q.op->q.op<=50->(r.fe=0\/q.op+dX e<=50)->
 th T q.at_ (uX e)->CI T (m+1) (q.at_+(uX e).length)->∃f2 e2,iM T f2 m e2 (mv q (uX e).length)=some (e',r)/\er e2=er e
def PB(e:E):Prop:=∀(T:List Tk)(f:Nat)(q:RQ)(e':E)(r:RQ),jA T f q=some (e',r)->q.fe=0->0<=q.op->q.op<=50->(r.fe=0\/q.op+dW 7 e<=50)->
 th T q.at_ (uW 7 e)->ke (bR T (q.at_+(uW 7 e).length)) [40]=false->∃f2 e2,eJ T f2 e2 (mv q (uW 7 e).length)=some (e',r)/\er e2=er e
theorem Fb{T:List Tk}{f n:Nat}{a e':E}{q r:RQ}(h:iM T f n a q=some (e',r))(hs:lK n (dQ T q)=0):e'=a/\r=q:=by
 cases f with
 |zero=>simp[iM]at h|succ f=>
  unfold iM at h;rw[if_neg (by rintro⟨_,c⟩;exact c hs)]at h;cases h;exact⟨rfl,rfl⟩
theorem LR{T:List Tk}{f:Nat}{a e':E}{q r:RQ}(h:eJ T f a q=some (e',r))(h1:fP T q [46]=false)(h2:fP T q [91]=false):e'=a/\r=q:=by
 cases f with
 |zero=>simp[eJ]at h|succ f=>
  unfold eJ at h;rw[h1,h2]at h;simp only[Bool.false_eq_true,if_false]at h;cases h;exact⟨rfl,rfl⟩
theorem xR{T:List Tk}{f n:Nat}{q r:RQ}{e':E}(h:eY T f n q=some (e',r))(hn:n<5):∃f2 x,eY T f2 (n+1) q=some x/\iM T f2 n x.1 x.2=some (e',r):=by
 cases f with
 |zero=>simp[eY]at h|succ f=>
  unfold eY at h;rw[if_neg (by omega)]at h;obtain⟨x,h1,h2⟩:=Option.bind_eq_some_iff.1 h;exact⟨f,x,h1,h2⟩
theorem ZD{e:E}{n:Nat}(hn:n<5)(hl:iG e.k≠n+1)(h:PE e (n+1)):PE e n:=by
 intro T f q e' r hp hf h0 h5 hd hh hs;obtain⟨e1,e2⟩:=Jt (l:=n+1) (m:=n+1+1) (e:=e) (by omega);rw[e1]at hh hs ⊢;rw[e2]at hd;obtain⟨f2,⟨x1,x2⟩,a1,a2⟩:=xR hp hn;have hd2:x2.fe=0\/q.op+dW (n+1+1) e<=50:=hd.imp (λh=>((kI T f2).2.1 _ _ _ _ _ a2).hJ h) id;obtain⟨rfl,b2⟩:=h T f2 q x1 x2 a1 hf h0 h5 hd2 hh (hs.mono (by omega));obtain⟨rfl,rfl⟩:=Fb a2 (by rw[Jp];exact hs.1 n (Nat.le_refl _) (by omega));exact⟨rfl,b2⟩
theorem ZE{e:E}{n:Nat}(hl:iG e.k=n+1)(hn:n<=4)(h:PC e n):PE e n:=by
 intro T f q e' r hp hf h0 h5 hd hh hs;obtain⟨e1,e2⟩:=wW (l:=n+1) (e:=e) (by omega);rw[e1]at hh hs ⊢;rw[e2]at hd;obtain⟨f2,x,a1,a2⟩:=h T f q e' r hp hf h0 h5 hd hh (hs.mono (by omega));obtain⟨rfl,rfl⟩:=Fb a1 (by rw[Jp];exact hs.1 n (Nat.le_refl _) hn);exact⟨rfl,a2⟩
theorem aiC{e:E}(hl:iG e.k≠6)(h:PB e):PE e 5:=by
 intro T f q e' r hp hf h0 h5 hd hh hs;obtain⟨e1,e2⟩:=Jt (l:=5+1) (m:=7) (e:=e) (by have:=(tq e.k).2;omega);rw[e1]at hh hs ⊢;rw[e2]at hd;cases f with
 |zero=>simp[eY]at hp|succ f=>
  unfold eY at hp;rw[if_pos rfl]at hp;obtain⟨f2,x,a1,a2⟩:=h T f q e' r hp hf h0 h5 hd hh hs.2.2.2;obtain⟨rfl,rfl⟩:=LR a1 (by rw[aW (q:=mv q _) hf];exact hs.2.1) (by rw[aW (q:=mv q _) hf];exact hs.2.2.1);exact⟨rfl,a2⟩
theorem wX{e:E}:∀(j n:Nat),n+j<=5->(∀i,i<j->iG e.k≠n+i+1)->PE e (n+j)->PE e n
 |0,_,_,_,h=>h|j+1,n,hn,hl,h=>by
  refine ZD (by omega) (hl 0 (by omega)) (wX j (n+1) (by omega) (λi hi=>?_) ?_);have:=hl (i+1) (by omega);omega;rw[show n+1+j=n+(j+1) by omega];exact h
theorem Br{T:List Tk}{q r:RQ}{s:List UInt8}{d:Int}(hf:q.fe=0)(h0:0<=q.op)(ht:ke (bR T q.at_) s=true)(hd:r.fe=0\/q.op+d<=50)(hd1:1<=d)(hg:eK T (gC T q s) r):gC T q s=om q/\q.op<50:=by
 rcases RA hf ht with (h|⟨h1,h2⟩)|h;exact h;rcases hd with hd|hd;exact absurd hd (aeg hg h1);omega;omega
theorem wO{T:List Tk}{f:Nat}{q r:RQ}{e x:E}(he:PE e 0)(h:jS T f q=some (x,r))(hf:q.fe=0)(h0:0<=q.op)(hd:r.fe=0\/q.op+(dX e+1)<=50)(hh:th T q.at_ (W [40]::(uX e++[W [41]]))) :
  r=mv q ((uX e).length+2)/\er x=er e:=by
 cases f with
 |zero=>simp[jS]at h|succ f=>
  unfold jS at h;obtain⟨⟨x1,x2⟩,a1,a2⟩:=Option.bind_eq_some_iff.1 h;cases a2;rw[iY,cT]at hh;obtain⟨t1,t2,t3,_⟩:=hh;have UG:=Hx e;have t1':ke (bR T q.at_) [40]=true:=by show ke (Av _) _=true;rw[t1];decide
  obtain⟨o1,o2⟩:=Br (d:=dX e+1) hf h0 t1' hd (by omega) ((dK a1).trans cD);rw[o1]at a1;obtain⟨e1,e2⟩:=wW (l:=1) (e:=e) (tq e.k).1;have hx2:x2.fe=0\/(om q).op+dW (0+1) e<=50:=hd.imp (λh=>(cD).hJ h) (λh=>by rw[e2];simp only[om];omega);have t3':bR T (q.at_+1+(uX e).length)=W [41]:=t3;obtain⟨rfl,b2⟩:=he T f (om q) x1 x2 a1 hf (by simp only[om];omega) (by simp only[om];omega) hx2 (by rw[e1];exact t2) (by rw[e1];exact jt t3' (by decide));rw[e1];have hc:=oX (T:=T) (q:=mv (om q) (uX e).length) (s:=[41]) hf (by show ke (bR T (q.at_+1+_)) _=true;rw[t3'];decide) (by simp only[mv,om];omega) (by simp only[mv,om];omega);rw[hc];refine⟨?_,b2⟩;simp only[mv,om,RQ.mk.injEq,and_true];omega
end wU
namespace wU
open Ax Go V7 lf mG
def VV(x:TS):Bool:=decide (x.1=1)||decide (x.1=2)||decide (x=W Ci)||decide (x=W wV)||decide (x=W Cj)||decide (x=W tR)||decide (x=W Fa)||decide (x=W Ck)||decide (x=W [45])||decide (x=W [33])||decide (x=W [40])
theorem VW{l:Nat}{x:Kt}(h:∃y r,x.2=y::r/\VV y=true):∃y r,wr l x=y::r/\VV y=true:=by
 unfold wr;split;exact⟨_,_,rfl,by decide⟩;exact h
theorem NO{a b:List TS}(h:∃y r,a=y::r/\VV y=true):∃y r,a++b=y::r/\VV y=true:=by
 obtain⟨y,r,rfl,h⟩:=h;exact⟨y,r++b,rfl,h⟩
theorem mD{k n:Int}{l:List E}(h:dR k n l.length=true)(hk:k=5\/k=9\/k=10\/k=12\/k=13):∃a,l=[a]:=by
 have:l.length=1:=by
  unfold dR at h;rw[if_neg (by omega),if_neg (by omega),if_neg (by omega),if_pos hk]at h;simpa using h
 match l,this with
 |[a],_=>exact⟨a,rfl⟩
theorem wY{k n:Int}{l:List E}(h:dR k n l.length=true)(hk:k=6\/14<=k):(∃a b,l=[a,b])/\k<=24:=by
 have:l.length=2/\k<=24:=by
  unfold dR at h;rw[if_neg (by omega),if_neg (by omega),if_neg (by omega),if_neg (by omega)]at h;simp at h;omega
 obtain⟨h1,h2⟩:=this;match l,h1 with
 |[a,b],_=>exact⟨⟨a,b,rfl⟩,h2⟩
theorem Bs{k n:Int}{l:List E}(h:dR k n l.length=true)(hk:k=1\/k=2\/k=3\/k=4\/k=8\/k=11):l=[]:=by
 have:l.length=0:=by
  unfold dR at h;split at h;simpa using h;split at h;simp only[Bool.and_eq_true,decide_eq_true_eq]at h;exact h.1;omega
 exact List.eq_nil_of_length_eq_zero this
theorem tr{k n:Int}{m:Nat}(h:dR k n m=true):1<=k/\k<=24:=by
 unfold dR at h;split at h;omega;split at h;omega;split at h;omega;split at h;omega;simp at h;omega
theorem VX(e:E):Wf e->∃y r,uX e=y::r/\VV y=true:=by
 induction e using E.xN with
 |_ e ih=>
  intro hw;obtain⟨hk,_,_,qI⟩:=(Hw e).1 hw;rw[tn]at qI;have hki:=tr hk;have hg:(e.k=5\/e.k=6\/14<=e.k)->∃y r,(g0 (Hu e.ay)).2=y::r/\VV y=true:=λhc=>by
   have:∃a l,e.ay=a::l:=by
    by_cases h5:e.k=5;obtain⟨a,h⟩:=mD hk (.inl h5);exact⟨a,[],h⟩;obtain⟨⟨a,b,h⟩,_⟩:=wY hk (by omega);exact⟨a,[b],h⟩
   obtain⟨a,l,h⟩:=this;rw[h];exact ih a (by rw[h];exact List.mem_cons_self) (qI a (by rw[h];exact List.mem_cons_self))
  rw[Cl];unfold uO;by_cases c1:e.k=1;rw[if_pos c1];exact⟨_,_,rfl,by simp[VV,Nu]⟩;rw[if_neg c1];by_cases c2:e.k=2;rw[if_pos c2];by_cases c:e.n=1;rw[if_pos c];exact⟨_,_,rfl,by decide⟩;rw[if_neg c];exact⟨_,_,rfl,by decide⟩;rw[if_neg c2];by_cases c3:e.k=3;rw[if_pos c3];exact⟨_,_,rfl,by decide⟩;rw[if_neg c3];by_cases c4:e.k=4;rw[if_pos c4];exact⟨_,_,rfl,by simp[VV,Nm]⟩;rw[if_neg c4];by_cases c5:e.k=5;rw[if_pos c5];exact NO (VW (hg (by omega)));rw[if_neg c5];by_cases c6:e.k=6;rw[if_pos c6];exact NO (VW (hg (by omega)));rw[if_neg c6];by_cases c7:e.k=7;rw[if_pos c7];exact⟨_,_,rfl,by simp[VV,Nm]⟩;rw[if_neg c7];by_cases c8:e.k=8;rw[if_pos c8];exact⟨_,_,rfl,by decide⟩;rw[if_neg c8];by_cases c9:e.k=9;rw[if_pos c9];exact⟨_,_,rfl,by decide⟩;rw[if_neg c9];by_cases vR:e.k=10;rw[if_pos vR];exact⟨_,_,rfl,by decide⟩;rw[if_neg vR];by_cases zl:e.k=11;rw[if_pos zl];exact⟨_,_,rfl,by decide⟩;rw[if_neg zl];by_cases AK:e.k=12;rw[if_pos AK];exact⟨_,_,rfl,by decide⟩;rw[if_neg AK];by_cases AM:e.k=13;rw[if_pos AM];exact⟨_,_,rfl,by decide⟩;rw[if_neg AM];exact NO (VW (hg (by omega)))
theorem Hz{x:TS}(h:VV x=true){s:List UInt8}(hs:(ke (W Ci) s||ke (W wV) s||ke (W Cj) s||ke (W tR) s||ke (W Fa) s||ke (W Ck) s||ke (W [45]) s||ke (W [33]) s||ke (W [40]) s)=false):ke x s=false:=by
 simp only[Bool.or_eq_false_iff]at hs;obtain⟨⟨⟨⟨⟨⟨⟨⟨s1,s2⟩,s3⟩,s4⟩,s5⟩,s6⟩,s7⟩,s8⟩,s9⟩:=hs;unfold VV at h;simp only[Bool.or_eq_true,decide_eq_true_eq]at h;have k1:jR s≠1/\jR s≠2:=by
  unfold jR;split;split<;>decide
  decide
 rcases h with (((((((((h|h)|h)|h)|h)|h)|h)|h)|h)|h)|h;unfold ke;rw[h];simp[Ne.symm k1.1];unfold ke;rw[h];simp[Ne.symm k1.2];all_goals rw[h];assumption
theorem nX(s t:List UInt8):ke (Nm s) t=false:=by
 unfold ke Nm jR;simp only;split;split<;>simp;simp
theorem VY(n:Int)(t:List UInt8):ke (Nu n) t=false:=by
 unfold ke Nu jR;simp only;split;split<;>simp;simp
theorem Py{T:List Tk}:∀(l:List E)(acc:List E)(f:Nat)(q:RQ)(es:List E)(r:RQ),nt T f acc q=some (es,r)->(∀e∈l,PE e 0)->q.fe=0->1<=q.op->q.op<=50->(r.fe=0\/q.op+R8 (JU l)<=50)->
  th T q.at_ (Js (Hu l)++[W [41]])->r=⟨q.at_+(Js (Hu l)).length+1,q.op-1,q.fe,q.fa⟩/\rV es=rV acc++rV l
 |l,acc,0,q,es,r,h,_,_,_,_,_,_=>by simp[nt]at h|[],acc,f+1,q,es,r,h,hp,hf,h1,h5,hd,hh=>by
  unfold nt at h;have t1:bR T q.at_=W [41]:=hh.1;have e1:fP T q [44]=false:=by rw[aW hf,t1];decide
  rw[e1]at h;simp only[Bool.false_eq_true,if_false]at h;cases h;rw[oX hf (by rw[t1];decide) (by omega) (by omega)];exact⟨by simp[Hu,Js],by simp[rV]⟩
 |e::l,acc,f+1,q,es,r,h,hp,hf,h1,h5,hd,hh=>by
  unfold nt at h;simp only[Hu,Js,List.cons_append,List.append_assoc]at hh;rw[iY,cT]at hh;obtain⟨t1,t2,t3⟩:=hh;have t1':bR T q.at_=W [44]:=t1;have e1:fP T q [44]=true:=by rw[aW hf,t1'];decide
  rw[e1,if_pos rfl]at h;obtain⟨⟨x1,x2⟩,a1,a2⟩:=Option.bind_eq_some_iff.1 h;dsimp only at a2;obtain⟨u1,u2⟩:=wW (l:=1) (e:=e) (tq e.k).1;have hm:R8 (JU (e::l))=max (dX e) (R8 (JU l)):=rfl;rw[hm]at hd;have hd1:x2.fe=0\/(aA q).op+dW (0+1) e<=50:=hd.imp (λh=>((kI T f).2.2.2.2.2.2.2.2 _ _ _ _ a2).hJ h) (λh=>by rw[u2];simp only[aA];omega);have gi:CI T 0 (q.at_+1+(uX e).length):=by
   cases l with
   |nil=>exact jt (x:=W [41]) (by have:=t3.1;exact this) (by decide)|cons y l=>exact jt (x:=W [44]) (by have:=t3.1;exact this) (by decide)
  obtain⟨rfl,b2⟩:=hp e List.mem_cons_self T f (aA q) x1 x2 a1 hf (by simp only[aA];omega) (by simp only[aA];omega) hd1 (by rw[u1];exact t2) (by rw[u1];exact gi);rw[u1]at a2;obtain⟨c1,c2⟩:=Py l (acc++[x1]) f _ es r a2 (λy hy=>hp y (List.mem_cons_of_mem _ hy)) hf (by simp only[mv,aA];omega) (by simp only[mv,aA];omega) (hd.imp id λh=>by simp only[mv,aA];omega) t3;refine⟨?_,?_⟩;rw[c1];simp only[mv,aA,Hu,Js,List.length_cons,List.length_append,RQ.mk.injEq,and_true];omega;rw[c2,Pu];simp only[rV,b2,List.append_assoc,List.cons_append,List.nil_append]
theorem IY{T:List Tk}(l:List E)(f:Nat)(q:RQ)(es:List E)(r:RQ)(h:nN T f q=some (es,r))(hp:∀e∈l,PE e 0)(hw:∀e∈l,Wf e)(hf:q.fe=0)(h0:0<=q.op)(hd:r.fe=0\/q.op+(R8 (JU l)+1)<=50)
  (hh:th T q.at_ (W [40]::(args (Hu l)++[W [41]]))):r=mv q ((args (Hu l)).length+2)/\rV es=rV l:=by
 cases f with
 |zero=>simp[nN]at h|succ f=>
  have hg:eK T (gC T q [40]) r:=by
   unfold nN at h;split at h;cases h;exact cD;obtain⟨⟨x1,x2⟩,a1,a2⟩:=Option.bind_eq_some_iff.1 h;exact(dK a1).trans ((kI T f).2.2.2.2.2.2.2.2 _ _ _ _ a2)
  obtain⟨t1,hh⟩:=hh;have t1':bR T q.at_=W [40]:=t1;have UG:0<=R8 (JU l):=aba λx hx=>by
   rw[Ju]at hx;obtain⟨y,_,rfl⟩:=List.mem_map.1 hx;exact Hx y
  obtain⟨o1,o2⟩:=Br (d:=R8 (JU l)+1) hf h0 (by rw[t1'];decide) hd (by omega) hg;unfold nN at h;rw[o1]at h;cases l with
  |nil=>
   have t2:bR T (q.at_+1)=W [41]:=hh.1;have e1:fP T (om q) [41]=true:=(by rw[aW (q:=om q) hf];show ke (bR T (q.at_+1)) _=true;rw[t2];decide);rw[e1,if_pos rfl]at h;cases h;rw[oX (q:=om q) hf (by show ke (bR T (q.at_+1)) _=true;rw[t2];decide) (by simp only[om];omega) (by simp only[om];omega)];refine⟨?_,rfl⟩;simp only[om,mv,Hu,args,List.length_nil,RQ.mk.injEq,and_true];exact⟨trivial,by omega⟩
  |cons e l=>
   obtain⟨y,r0,hx,hb⟩:=VX e (hw e List.mem_cons_self);simp only[Hu,args,List.append_assoc]at hh;rw[cT]at hh;obtain⟨t2,t3⟩:=hh;have Jv:bR T (q.at_+1)=y:=(by rw[hx]at t2;exact t2.1);have e1:fP T (om q) [41]=false:=(by rw[aW (q:=om q) hf];show ke (bR T (q.at_+1)) _=false;rw[Jv];exact Hz hb (by decide));rw[e1]at h;simp only[Bool.false_eq_true,if_false]at h;obtain⟨⟨x1,x2⟩,a1,a2⟩:=Option.bind_eq_some_iff.1 h;dsimp only at a2;obtain⟨u1,u2⟩:=wW (l:=1) (e:=e) (tq e.k).1;have hm:R8 (JU (e::l))=max (dX e) (R8 (JU l)):=rfl;rw[hm]at hd;have hd1:x2.fe=0\/(om q).op+dW (0+1) e<=50:=hd.imp (λh=>((kI T f).2.2.2.2.2.2.2.2 _ _ _ _ a2).hJ h) (λh=>by rw[u2];simp only[om];omega);have gi:CI T 0 (q.at_+1+(uX e).length):=by
    cases l with
    |nil=>exact jt (x:=W [41]) (by have:=t3.1;exact this) (by decide)|cons y l=>exact jt (x:=W [44]) (by have:=t3.1;exact this) (by decide)
   obtain⟨rfl,b2⟩:=hp e List.mem_cons_self T f (om q) x1 x2 a1 hf (by simp only[om];omega) (by simp only[om];omega) hd1 (by rw[u1];exact t2) (by rw[u1];exact gi);rw[u1]at a2;obtain⟨c1,c2⟩:=Py l [x1] f _ es r a2 (λy hy=>hp y (List.mem_cons_of_mem _ hy)) hf (by simp only[mv,om];omega) (by simp only[mv,om];omega) (hd.imp id λh=>by simp only[mv,om];omega) t3;refine⟨?_,?_⟩;rw[c1];simp only[mv,om,Hu,args,List.length_append,RQ.mk.injEq,and_true];omega;rw[c2];simp only[rV,b2,List.cons_append,List.nil_append]
end wU
namespace wU
open Ax Go V7 lf mG
theorem HA(T:List Tk)(q:RQ):(dQ T q).k=(bR T q.at_).1:=rfl
theorem VZ(T:List Tk)(q:RQ):(dQ T q).t=(bR T q.at_).2.1:=rfl
theorem aiE(T:List Tk)(q:RQ):(dQ T q).n=(bR T q.at_).2.2:=rfl
theorem tu(k n:Int)(nm on:List UInt8)(od:Int)(ks:List E)(a:Int):er (Em k n nm on od ks a)=.mk k (oC k n) (jV k nm) (kU k on) (kV k od) (rV ks) 0 T0 0:=by
 rw[tj];rfl
theorem EO{T:List Tk}{f:Nat}{q r:RQ}{e x:E}(hw:Wf e)(hp:∀y∈e.ay,PE y 0)(h7:iG e.k=7)(h5:e.k≠5)(h6:e.k≠6)(h:jB T f q=some (x,r))(hf:q.fe=0)(h0:0<=q.op)
  (hd:r.fe=0\/q.op+dX e<=50)(hh:th T q.at_ (uX e))(hn:ke (bR T (q.at_+(uX e).length)) [40]=false):r=mv q (uX e).length/\er x=er e:=by
 obtain⟨hk,hod,ho8,qI⟩:=(Hw e).1 hw;have hki:=tr hk;have bw:=Pw h7;have he:=tj e;rw[Cl]at hh hn ⊢;rw[Hv]at hd;unfold uO at hh hn ⊢;unfold dO at hd;cases f with
 |zero=>simp[jB]at h|succ f=>
 unfold jB at h;rw[aW hf,aW hf,aW hf,aW hf,aW hf,aW hf,aW hf,HA]at h;by_cases c1:e.k=1;rw[if_pos c1]at hh ⊢;have t:=hh.1;change bR T q.at_=_ at t;rw[t,if_pos ⟨hf,rfl⟩]at h;cases h;have y5:=Bs hk (.inl c1);refine⟨rfl,?_⟩;rw[tu,he,y5,c1,aiE,t]
 rfl
 rw[if_neg c1]at hh hn ⊢;by_cases c2:e.k=2;rw[if_pos c2]at hh ⊢;have t:=hh.1;change bR T q.at_=_ at t;have hn2:e.n=0\/e.n=1:=by
  rw[c2]at hk;unfold dR at hk;rw[if_neg (by omega),if_pos rfl]at hk;simp only[Bool.and_eq_true,Bool.or_eq_true,decide_eq_true_eq]at hk;exact hk.2
 have y5:=Bs hk (.inr (.inl c2));rcases hn2 with c|c;rw[c,if_neg (by decide)]at t;rw[t,if_neg (by rintro⟨_,b⟩;revert b;decide),if_pos (by decide)]at h;cases h;refine⟨rfl,?_⟩;rw[tu,he,y5,c2,VZ,t,c]
 rfl
 rw[c,if_pos rfl]at t;rw[t,if_neg (by rintro⟨_,b⟩;revert b;decide),if_pos (by decide)]at h;cases h;refine⟨rfl,?_⟩;rw[tu,he,y5,c2,VZ,t,c]
 rfl
 rw[if_neg c2]at hh hn ⊢;by_cases c3:e.k=3;rw[if_pos c3]at hh ⊢;obtain⟨t,t2⟩:=hh;change bR T q.at_=_ at t;have y5:=Bs hk (.inr (.inr (.inl c3)));rw[t,if_neg (by rintro⟨_,b⟩;revert b;decide),if_neg (by decide),if_pos (by decide)]at h;obtain⟨d1,d2⟩:=hod (.inl c3);have e1:=Jr (T:=T) (q:=aA q) hf d1 d2 t2;rw[e1]at h;cases h;refine⟨by simp only[aA,mv,List.length_cons,RQ.mk.injEq,and_true];omega,?_⟩;rw[tu,he,y5,c3]
 rfl
 rw[if_neg c3]at hh hn ⊢;by_cases c4:e.k=4;rw[if_pos c4]at hh hn ⊢;have t:=hh.1;change bR T q.at_=_ at t;have y5:=Bs hk (.inr (.inr (.inr (.inl c4))));rw[t,if_neg (by rintro⟨_,b⟩;exact absurd b (by simp[Nm]))]at h;simp only[nX,Bool.or_self,Bool.false_eq_true,if_false]at h;rw[pP hf t]at h;simp only at h;rw[aW (q:=aA q) hf,show ke (bR T (aA q).at_) [40]=false from hn]at h;simp only[Bool.false_eq_true,if_false]at h;cases h;refine⟨rfl,?_⟩;rw[tu,he,y5,c4]
 rfl
 rw[if_neg c4,if_neg h5,if_neg h6]at hh hn ⊢;by_cases c7:e.k=7;rw[if_pos c7]at hh hn ⊢;rw[if_neg (by omega),if_neg h5,if_neg h6,if_pos c7]at hd;obtain⟨t,t2⟩:=hh;change bR T q.at_=_ at t;rw[t,if_neg (by rintro⟨_,b⟩;exact absurd b (by simp[Nm]))]at h;simp only[nX,Bool.or_self,Bool.false_eq_true,if_false]at h;rw[pP hf t]at h;simp only at h;have t3:bR T (aA q).at_=W [40]:=t2.1;rw[aW (q:=aA q) hf,t3,if_pos (by decide)]at h;obtain⟨⟨x1,x2⟩,a1,a2⟩:=Option.bind_eq_some_iff.1 h;cases a2;rw[tn]at qI;obtain⟨rfl,b2⟩:=IY e.ay f (aA q) x1 _ a1 hp qI hf h0 (hd.imp id λh=>by simp only[aA];exact h) t2;refine⟨by simp only[aA,mv,List.length_cons,List.length_append,List.length_nil,RQ.mk.injEq,and_true];omega,?_⟩;rw[tu,he,c7,b2]
 rfl
 rw[if_neg c7]at hh hn ⊢;by_cases c8:e.k=8;rw[if_pos c8]at hh hn ⊢;obtain⟨t,t2,_⟩:=hh;change bR T q.at_=_ at t;change bR T (q.at_+1)=_ at t2;have y5:=Bs hk (.inr (.inr (.inr (.inr (.inl c8)))));rw[t,if_neg (by rintro⟨_,b⟩;revert b;decide),if_neg (by decide),if_neg (by decide),if_pos (by decide)]at h;cases f with
 |zero=>simp[kz]at h|succ f=>
  unfold kz at h;rw[aW (q:=aA q) hf,show bR T (aA q).at_=_ from t2,nX]at h;simp only[Bool.false_eq_true,if_false]at h;rw[pP (q:=aA q) hf t2]at h;cases h;refine⟨rfl,?_⟩;rw[tu,he,y5,c8,ho8 c8]
  rfl
 rw[if_neg c8]at hh hn ⊢;rw[if_neg (by omega),if_neg h5,if_neg h6,if_neg c7]at hd;by_cases c9:e.k=9;rw[if_pos c9]at hh hn ⊢;rw[if_pos (.inl c9)]at hd;obtain⟨k0,y5⟩:=mD hk (.inr (.inl c9));rw[y5]at hh hd hp ⊢;simp only[Hu,JU,g0]at hh hd ⊢;obtain⟨t,t2,hh⟩:=hh;change bR T q.at_=_ at t;change bR T (q.at_+1)=_ at t2;rw[cT]at hh;obtain⟨t3,t4,t5⟩:=hh;change bR T _=_ at t4;rw[t,if_neg (by rintro⟨_,b⟩;revert b;decide),if_neg (by decide),if_neg (by decide),if_pos (by decide)]at h;cases f with
 |zero=>simp[kz]at h|succ f=>
  unfold kz at h;rw[aW (q:=aA q) hf,show bR T (aA q).at_=_ from t2,if_pos (by decide)]at h;obtain⟨d1,d2⟩:=hod (.inr c9);have e1:=Jr (T:=T) (q:=aA (aA q)) hf d1 d2 t3;rw[e1]at h;simp only at h;have R9:bR T (mv (aA (aA q)) (uT e.on e.od).length).at_=W [93]:=t4;rw[gW (q:=mv (aA (aA q)) (uT e.on e.od).length) hf (by rw[R9];decide)]at h;obtain⟨⟨x1,x2⟩,a1,a2⟩:=Option.bind_eq_some_iff.1 h;cases a2;obtain⟨rfl,b2⟩:=wO (hp k0 List.mem_cons_self) a1 hf h0 (hd.imp id λh=>by simp only[aA,mv];exact h) t5;refine⟨by simp only[aA,mv,List.length_cons,List.length_append,List.length_nil,RQ.mk.injEq,and_true];omega,?_⟩;rw[tu,he,y5,c9];simp only[rV,b2]
  rfl
 rw[if_neg c9]at hh hn ⊢;by_cases vR:e.k=10;rw[if_pos vR]at hh hn ⊢;rw[if_pos (.inr vR)]at hd;obtain⟨k0,y5⟩:=mD hk (.inr (.inr (.inl vR)));rw[y5]at hh hd hp ⊢;simp only[Hu,JU,g0]at hh hd ⊢;obtain⟨t,t2⟩:=hh;change bR T q.at_=_ at t;rw[t,if_neg (by rintro⟨_,b⟩;revert b;decide),if_neg (by decide),if_neg (by decide),if_neg (by decide),if_pos (by decide)]at h;obtain⟨⟨x1,x2⟩,a1,a2⟩:=Option.bind_eq_some_iff.1 h;cases a2;obtain⟨rfl,b2⟩:=wO (q:=aA q) (hp k0 List.mem_cons_self) a1 hf h0 (hd.imp id λh=>by simp only[aA];exact h) t2;refine⟨by simp only[aA,mv,List.length_cons,List.length_append,List.length_nil,RQ.mk.injEq,and_true];omega,?_⟩;rw[tu,he,y5,vR];simp only[rV,b2]
 rfl
 rw[if_neg vR]at hh hn ⊢;have zl:e.k=11:=by omega
 rw[if_pos zl]at hh hn ⊢;rw[if_neg (by omega),if_pos zl]at hd;obtain⟨t,t2,t3,_⟩:=hh;change bR T q.at_=_ at t;change bR T (q.at_+1)=_ at t2;change bR T (q.at_+1+1)=_ at t3;have y5:=Bs hk (.inr (.inr (.inr (.inr (.inr zl)))));rw[t,if_neg (by rintro⟨_,b⟩;revert b;decide),if_neg (by decide),if_neg (by decide),if_neg (by decide),if_neg (by decide),if_pos (by decide)]at h;cases h;obtain⟨o1,o2⟩:=Br (q:=aA q) (s:=[40]) (d:=1) hf h0 (by rw[show bR T (aA q).at_=_ from t2];decide) hd (by omega) cD;rw[o1,oX (q:=om (aA q)) hf (by rw[show bR T (om (aA q)).at_=_ from t3];decide) (by simp only[om,aA];omega) (by simp only[om,aA]at o2 ⊢;omega)];refine⟨?_,?_⟩;simp only[om,aA,mv,List.length_cons,List.length_nil,RQ.mk.injEq,and_true];refine⟨trivial,by omega⟩;rw[tu,he,y5,zl]
 rfl
end wU
namespace wU
open Ax Go V7 lf mG
theorem LU{T:List Tk}{f:Nat}{q r:RQ}{e':E}(h:jA T f q=some (e',r))(h1:fP T q [45]=false)(h2:fP T q [33]=false):∃g x,jB T g q=some x/\eJ T g x.1 x.2=some (e',r):=by
 cases f with
 |zero=>simp[jA]at h|succ f=>
  unfold jA at h;rw[h1,h2]at h;simp only[Bool.or_self,Bool.false_eq_true,if_false]at h;obtain⟨x,a1,a2⟩:=Option.bind_eq_some_iff.1 h;exact⟨f,x,a1,a2⟩
theorem tA{T:List Tk}{f:Nat}{a e':E}{q r:RQ}(h:eJ T f a q=some (e',r)):eK T q r:=(kI T f).2.2.2.1 _ _ _ _ h
theorem V0{e:E}(hl:iG e.k<7)(he:PE e 0):PB e:=by
 intro T f q e' r h hf h0 h5 hd hh hn;obtain⟨u1,u2⟩:=aef (l:=7) hl;rw[u1]at hh ⊢;rw[u2]at hd;have t:bR T q.at_=W [40]:=hh.1;obtain⟨g,⟨x1,x2⟩,a1,a2⟩:=LU h (by rw[aW hf,t];decide) (by rw[aW hf,t];decide);cases g with
 |zero=>simp[jB]at a1|succ g=>
  unfold jB at a1;rw[aW hf,aW hf,aW hf,aW hf,aW hf,aW hf,aW hf,HA,t]at a1;rw[if_neg (by rintro⟨_,b⟩;revert b;decide),if_neg (by decide),if_neg (by decide),if_neg (by decide),if_neg (by decide),if_neg (by decide),if_pos (by decide)]at a1;obtain⟨rfl,b2⟩:=wO he a1 hf h0 (hd.imp (λh=>(tA a2).hJ h) id) hh;refine⟨g+1,x1,?_,b2⟩;have e1:(W [40]::(uX e++[W [41]])).length=(uX e).length+2:=by simp
  rw[e1];exact a2
theorem anC{e:E}(hk:dR e.k e.n e.ay.length=true)(h7:iG e.k=7)(h5:e.k≠5)(h6:e.k≠6):∃y r,uX e=y::r/\ke y [45]=false/\ke y [33]=false:=by
 have hki:=tr hk;have bw:=Pw h7;rw[Cl];unfold uO;by_cases c1:e.k=1;rw[if_pos c1];exact⟨_,_,rfl,VY _ _,VY _ _⟩;rw[if_neg c1];by_cases c2:e.k=2;rw[if_pos c2];by_cases c:e.n=1;rw[if_pos c];exact⟨_,_,rfl,by decide,by decide⟩;rw[if_neg c];exact⟨_,_,rfl,by decide,by decide⟩;rw[if_neg c2];by_cases c3:e.k=3;rw[if_pos c3];exact⟨_,_,rfl,by decide,by decide⟩;rw[if_neg c3];by_cases c4:e.k=4;rw[if_pos c4];exact⟨_,_,rfl,nX _ _,nX _ _⟩;rw[if_neg c4,if_neg h5,if_neg h6];by_cases c7:e.k=7;rw[if_pos c7];exact⟨_,_,rfl,nX _ _,nX _ _⟩;rw[if_neg c7];by_cases c8:e.k=8;rw[if_pos c8];exact⟨_,_,rfl,by decide,by decide⟩;rw[if_neg c8];by_cases c9:e.k=9;rw[if_pos c9];exact⟨_,_,rfl,by decide,by decide⟩;rw[if_neg c9];by_cases vR:e.k=10;rw[if_pos vR];exact⟨_,_,rfl,by decide,by decide⟩;rw[if_neg vR,if_pos (by omega)];exact⟨_,_,rfl,by decide,by decide⟩
theorem ZF{e:E}(hw:Wf e)(hp:∀y∈e.ay,PE y 0)(h7:iG e.k=7)(h5':e.k≠5)(h6:e.k≠6):PB e:=by
 intro T f q e' r h hf h0 h5 hd hh hn;obtain⟨u1,u2⟩:=wW (l:=7) (e:=e) (by omega);rw[u1]at hh hn ⊢;rw[u2]at hd;obtain⟨y,l,b1,b2,b3⟩:=anC ((Hw e).1 hw).1 h7 h5' h6;have t:bR T q.at_=y:=by rw[b1]at hh;exact hh.1
 obtain⟨g,⟨x1,x2⟩,a1,a2⟩:=LU h (by rw[aW hf,t,b2]) (by rw[aW hf,t,b3]);obtain⟨rfl,c2⟩:=EO hw hp h7 h5' h6 a1 hf h0 (hd.imp (λh=>(tA a2).hJ h) id) hh hn;exact⟨g,x1,a2,c2⟩
theorem V1{e k0:E}(hk:e.k=5)(tT:e.ay=[k0])(h0':PB k0):PB e:=by
 intro T f q e' r h hf h0 h5 hd hh hn;have hl:iG e.k=7:=by rw[hk];decide
 obtain⟨u1,u2⟩:=wW (l:=7) (e:=e) (by omega);have ex:uX e=uW 7 k0++[W [46],Nm e.nm]:=by
  rw[Cl,hk,tT];rfl
 have ed:dX e=dW 7 k0:=by rw[Hv,hk,tT];rfl
 rw[u1,ex]at hh ⊢;rw[u2,ed]at hd;rw[cT]at hh;obtain⟨t1,t2,t3,_⟩:=hh;change bR T _=_ at t2;change bR T _=_ at t3;obtain⟨f2,e2,b1,b2⟩:=h0' T f q e' r h hf h0 h5 hd t1 (by rw[t2];decide);cases f2 with
 |zero=>simp[eJ]at b1|succ f2=>
  unfold eJ at b1;rw[aW (q:=mv q _) hf,show bR T (mv q (uW 7 k0).length).at_=_ from t2,if_pos (by decide)]at b1;rw[pP (q:=aA (mv q (uW 7 k0).length)) hf t3]at b1;refine⟨f2,Em 5 0 e.nm [] 0 [e2] (dQ T (mv q (uW 7 k0).length)).a,?_,?_⟩;simp only at b1;have e1:mv q (uW 7 k0++[W [46],Nm e.nm]).length=aA (aA (mv q (uW 7 k0).length)):=by
   simp only[mv,aA,List.length_append,List.length_cons,List.length_nil,RQ.mk.injEq,and_true];omega
  rw[e1];exact b1;rw[tu,tj e,hk,tT];simp only[rV,b2]
  rfl
theorem ZG{e k0 k1:E}(hk:e.k=6)(tT:e.ay=[k0,k1])(h0':PB k0)(h1':PE k1 0):PB e:=by
 intro T f q e' r h hf h0 h5 hd hh hn;have hl:iG e.k=7:=by rw[hk];decide
 obtain⟨u1,u2⟩:=wW (l:=7) (e:=e) (by omega);have ex:uX e=uW 7 k0++W [91]::(uX k1++[W [93]]):=by
  rw[Cl,hk,tT];rfl
 have ed:dX e=max (dW 7 k0) (dX k1+1):=by rw[Hv,hk,tT];rfl
 rw[u1,ex]at hh ⊢;rw[u2,ed]at hd;rw[cT,iY,cT]at hh;obtain⟨t1,t2,t3,t4,_⟩:=hh;change bR T _=_ at t2;change bR T _=_ at t4;obtain⟨f2,e2,b1,b2⟩:=h0' T f q e' r h hf h0 h5 (hd.imp id λh=>by omega) t1 (by rw[t2];decide);cases f2 with
 |zero=>simp[eJ]at b1|succ f2=>
  unfold eJ at b1;rw[aW (q:=mv q _) hf,aW (q:=mv q _) hf,show bR T (mv q (uW 7 k0).length).at_=_ from t2,if_neg (by decide),if_pos (by decide)]at b1;obtain⟨⟨x1,x2⟩,a1,a2⟩:=Option.bind_eq_some_iff.1 b1;dsimp only at a2;have UG:=Hx k1;obtain⟨o1,o2⟩:=Br (q:=mv q (uW 7 k0).length) (s:=[91]) (d:=dX k1+1) (r:=r) hf h0 (by rw[show bR T (mv q (uW 7 k0).length).at_=_ from t2];decide) (hd.imp id λh=>by simp only[mv];omega) (by omega) ((dK a1).trans (cD.trans (tA a2)));rw[o1]at a1;simp only[mv]at o2;obtain⟨v1,v2⟩:=wW (l:=1) (e:=k1) (tq k1.k).1;have hd1:x2.fe=0\/(om (mv q (uW 7 k0).length)).op+dW (0+1) k1<=50:=hd.imp (λh=>(cD.trans (tA a2)).hJ h) (λh=>by rw[v2];simp only[om,mv];omega);obtain⟨rfl,c2⟩:=h1' T f2 (om (mv q (uW 7 k0).length)) x1 x2 a1 hf (by simp only[om,mv];omega) (by simp only[om,mv];omega) hd1 (by rw[v1];exact t3) (by rw[v1];exact jt t4 (by decide));rw[v1]at a2;rw[oX (q:=mv (om (mv q (uW 7 k0).length)) (uX k1).length) hf (by rw[show bR T (mv (om (mv q (uW 7 k0).length)) (uX k1).length).at_=_ from t4];decide) (by simp only[mv,om];omega) (by simp only[mv,om];omega)]at a2;refine⟨f2,Em 6 0 [] [] 0 [e2,x1] (dQ T (mv q (uW 7 k0).length)).a,?_,?_⟩;have e1:mv q (uW 7 k0++W [91]::(uX k1++[W [93]])).length=⟨(mv (om (mv q (uW 7 k0).length)) (uX k1).length).at_+1,(mv (om (mv q (uW 7 k0).length)) (uX k1).length).op-1,(mv (om (mv q (uW 7 k0).length)) (uX k1).length).fe,(mv (om (mv q (uW 7 k0).length)) (uX k1).length).fa⟩:=by
   simp only[mv,om,List.length_append,List.length_cons,List.length_nil,RQ.mk.injEq,and_true];exact⟨by omega,by omega⟩
  rw[e1];exact a2;rw[tu,tj e,hk,tT];simp only[rV,b2,c2]
  rfl
theorem aiF{e k0:E}(hk:e.k=12\/e.k=13)(tT:e.ay=[k0])(h0':PE k0 5):PE e 5:=by
 intro T f q e' r h hf h0 h5 hd hh hs;have hl:iG e.k=6:=by rcases hk with h|h<;>rw[h]<;>decide
 obtain⟨u1,u2⟩:=wW (l:=5+1) (e:=e) (by omega);have ex:uX e=W (if e.k=12 then [45] else [33])::uW 6 k0:=by
  rw[Cl,tT];rcases hk with h|h<;>rw[h]<;>rfl
 have ed:dX e=dW 6 k0+1:=by
  rw[Hv,tT];rcases hk with h|h<;>rw[h]<;>rfl
 rw[u1,ex]at hh hs ⊢;rw[u2,ed]at hd;obtain⟨t1,t2⟩:=hh;change bR T _=_ at t1;have UG:0<=dW 6 k0:=VU (Hx k0);cases f with
 |zero=>simp[eY]at h|succ f=>
  unfold eY at h;rw[if_pos rfl]at h;cases f with
  |zero=>simp[jA]at h|succ f=>
   unfold jA at h;rw[aW hf,aW hf,VZ,t1]at h;have xy:(ke (W (if e.k=12 then [45] else [33])) [45]||ke (W (if e.k=12 then [45] else [33])) [33])=true:=(by rcases hk with h|h<;>rw[h]<;>decide);rw[xy,if_pos rfl]at h;obtain⟨⟨x1,x2⟩,a1,a2⟩:=Option.bind_eq_some_iff.1 h;simp only[Option.some.injEq,Prod.mk.injEq]at a2;obtain⟨rfl,rfl⟩:=a2;obtain⟨o1,o2⟩:=Br (q:=q) (s:=(W (if e.k=12 then [45] else [33])).2.1) (d:=dW 6 k0+1) (r:=rH x2 (-1)) hf h0 (by rw[t1];simp[ke,W]) hd (by omega) ((dK a1).trans xI);rw[o1]at a1;have gi:CI T 5 (q.at_+1+(uW (5+1) k0).length):=by
    have:q.at_+1+(uW (5+1) k0).length=q.at_+(W (if e.k=12 then [45] else [33])::uW 6 k0).length:=by simp only[List.length_cons,Nat.reduceAdd];omega
    rw[this];exact hs
   obtain⟨rfl,c2⟩:=h0' T f (om q) x1 x2 a1 hf (by simp only[om];omega) (by simp only[om];omega) (hd.imp id λh=>by simp only[om,Nat.reduceAdd];omega) t2 gi;refine⟨?_,?_⟩;unfold rH mv om;simp only;rw[y9 (by omega) (by omega)];simp only[List.length_cons,RQ.mk.injEq,and_true];exact⟨by simp only[Nat.reduceAdd];omega,by omega⟩;have WM:(if ke (W (if e.k=12 then [45] else [33])) [45]=true then (12:Int) else 13)=e.k:=(by rcases hk with h|h<;>rw[h]<;>decide);rw[tu,WM,tj e,tT];simp only[rV,c2];rcases hk with h|h<;>rw[h]<;>rfl
theorem aei{e k0 k1:E}{m:Nat}(hm:m<=4)(hl:iG e.k=m+1)(tT:e.ay=[k0,k1])(hc:iG k0.k=m+1->PC k0 m)(h0':PE k0 (m+1))(h1':PE k1 (m+1)):PC e m:=by
 intro T f q e' r h hf h0 h5 hd hh hs;obtain⟨b1,b2⟩:=Pv (k:=e.k) (by omega);obtain⟨s1,s2,s3,s4⟩:=NN b1 b2;have ex:uX e=uW (m+1) k0++W (iN e.k)::uW (m+2) k1:=by
  rw[Cl,tT];unfold uO;rw[if_neg (by omega),if_neg (by omega),if_neg (by omega),if_neg (by omega),if_neg (by omega),if_neg (by omega),if_neg (by omega),if_neg (by omega),if_neg (by omega),if_neg (by omega),if_neg (by omega),if_neg (by omega),if_neg (by omega),hl]
  rfl
 have ed:dX e=max (dW (m+1) k0) (dW (m+2) k1):=by
  rw[Hv,tT];unfold dO;rw[if_neg (by omega),if_neg (by omega),if_neg (by omega),if_neg (by omega),if_neg (by omega),if_neg (by omega),if_neg (by omega),hl]
  rfl
 rw[ex]at hh hs ⊢;rw[ed]at hd;rw[cT,iY]at hh;obtain⟨t1,t2,t3⟩:=hh;change bR T _=_ at t2;rw[hl]at s1 s2;have gi:CI T (m+1) (q.at_+(uW (m+1) k0).length):=jt t2 s1;obtain⟨f2,e2,a1,a2⟩:∃f2 e2,iM T f2 m e2 (mv q (uW (m+1) k0).length)=some (e',r)/\er e2=er k0:=by
  by_cases y5:iG k0.k=m+1;obtain⟨u1,u2⟩:=wW (l:=m+1) (e:=k0) (by omega);rw[u1]at t1 gi ⊢;rw[u2]at hd;exact hc y5 T f q e' r h hf h0 h5 (hd.imp id λh=>by omega) t1 gi;obtain⟨u1,u2⟩:=Jt (l:=m+1) (m:=m+1+1) (e:=k0) (by omega);obtain⟨f2,⟨x1,x2⟩,a1,a2⟩:=xR h (by omega);rw[u1]at t1 gi ⊢;rw[u2]at hd;obtain⟨rfl,c2⟩:=h0' T f2 q x1 x2 a1 hf h0 h5 (hd.imp (λh=>((kI T f2).2.1 _ _ _ _ _ a2).hJ h) λh=>by omega) t1 gi;exact⟨f2,x1,a2,c2⟩
 cases f2 with
 |zero=>simp[iM]at a1|succ f2=>
  unfold iM at a1;have zu:lK m (dQ T (mv q (uW (m+1) k0).length))=e.k:=by
   rw[Jp,show bR T (mv q (uW (m+1) k0).length).at_=_ from t2];exact s2
  rw[zu,if_pos ⟨hf,by omega⟩]at a1;obtain⟨⟨x1,x2⟩,c1,c2⟩:=Option.bind_eq_some_iff.1 a1;dsimp only at c2;have AY:CI T (m+1) ((aA (mv q (uW (m+1) k0).length)).at_+(uW (m+1+1) k1).length):=by
   have:(aA (mv q (uW (m+1) k0).length)).at_+(uW (m+1+1) k1).length=q.at_+(uW (m+1) k0++W (iN e.k)::uW (m+2) k1).length:=by
    rw[show uW (m+1+1) k1=uW (m+2) k1 from rfl];simp only[aA,mv,List.length_append,List.length_cons];omega
   rw[this];exact hs
  obtain⟨rfl,d2⟩:=h1' T f2 (aA (mv q (uW (m+1) k0).length)) x1 x2 c1 hf h0 h5 (hd.imp (λh=>((kI T f2).2.1 _ _ _ _ _ c2).hJ h) λh=>by rw[show dW (m+1+1) k1=dW (m+2) k1 from rfl];simp only[aA,mv];omega) t3 AY;refine⟨f2,Em e.k 0 [] [] 0 [e2,x1] (dQ T (mv q (uW (m+1) k0).length)).a,?_,?_⟩;have e1:mv q (uW (m+1) k0++W (iN e.k)::uW (m+2) k1).length=mv (aA (mv q (uW (m+1) k0).length)) (uW (m+1+1) k1).length:=by
   rw[show uW (m+1+1) k1=uW (m+2) k1 from rfl];simp only[aA,mv,List.length_append,List.length_cons,RQ.mk.injEq,and_true];omega
  rw[e1];exact c2;rw[tu,tj e,tT];simp only[rV,a2,d2];have k1':∀n:Int,oC e.k n=0:=λn=>by unfold oC;rw[if_neg (by omega)]
  have k2':∀n:List UInt8,jV e.k n=[]:=λn=>by unfold jV;rw[if_neg (by omega)]
  have k3':∀n:List UInt8,kU e.k n=[]:=λn=>by unfold kU;rw[if_neg (by omega)]
  have k4':∀n:Int,kV e.k n=0:=λn=>by unfold kV;rw[if_neg (by omega)]
  rw[k1',k1',k2',k2',k3',k3',k4',k4']
theorem aej(e:E):Wf e->(∀n,n<=5->PE e n)/\PB e/\(∀m,iG e.k=m+1->m<=4->PC e m):=by
 induction e using E.xN with
 |_ e ih=>
  intro hw;obtain⟨hk,hod,ho8,qI⟩:=(Hw e).1 hw;rw[tn]at qI;have hki:=tr hk;have hp:∀y∈e.ay,(∀n,n<=5->PE y n)/\PB y/\(∀m,iG y.k=m+1->m<=4->PC y m):=λy hy=>ih y hy (qI y hy);obtain⟨l1,l2⟩:=tq e.k;by_cases h7:iG e.k=7;have hB:PB e:=by
   by_cases h5:e.k=5;obtain⟨a,ha⟩:=mD hk (.inl h5);exact V1 h5 ha (hp a (by rw[ha];exact List.mem_cons_self)).2.1;by_cases h6:e.k=6;obtain⟨⟨a,b,ha⟩,_⟩:=wY hk (.inl h6);exact ZG h6 ha (hp a (by rw[ha];exact List.mem_cons_self)).2.1 ((hp b (by rw[ha];exact List.mem_cons_of_mem _ List.mem_cons_self)).1 0 (by omega));exact ZF hw (λy hy=>(hp y hy).1 0 (by omega)) h7 h5 h6
  have h5:=aiC (by omega) hB;refine⟨λn hn=>wX (5-n) n (by omega) (λi hi=>by omega) ?_,hB,λm hm hm4=>by omega⟩;rw[show n+(5-n)=5 by omega];exact h5;by_cases h6:iG e.k=6;have se:=aee h6;obtain⟨a,ha⟩:=mD hk (by omega);have h5:PE e 5:=aiF se ha ((hp a (by rw[ha];exact List.mem_cons_self)).1 5 (by omega));have hE:∀n,n<=5->PE e n:=λn hn=>wX (5-n) n (by omega) (λi hi=>by omega) (by rw[show n+(5-n)=5 by omega];exact h5);exact⟨hE,V0 (by omega) (hE 0 (by omega)),λm hm hm4=>by omega⟩;obtain⟨b1,b2⟩:=Pv (k:=e.k) (by omega);obtain⟨⟨a,b,ha⟩,_⟩:=wY hk (.inr b1);have pa:=hp a (by rw[ha];exact List.mem_cons_self);have pb:=hp b (by rw[ha];exact List.mem_cons_of_mem _ List.mem_cons_self);have hC:∀m,iG e.k=m+1->m<=4->PC e m:=λm hm hm4=>aei hm4 hm ha (λy5=>pa.2.2 m y5 hm4) (pa.1 (m+1) (by omega)) (pb.1 (m+1) (by omega));obtain⟨L,hL⟩:∃L,iG e.k=L+1:=⟨iG e.k-1,by omega⟩;have hS:PE e L:=ZE hL (by omega) (hC L hL (by omega));have aiG:∀n,n<=L->PE e n:=λn hn=>wX (L-n) n (by omega) (λi hi=>by omega) (by rw[show n+(L-n)=L by omega];exact hS);have hB:PB e:=V0 (by omega) (aiG 0 (by omega));have h5:=aiC (by omega) hB;refine⟨λn hn=>?_,hB,hC⟩;by_cases hnL:n<=L;exact aiG n hnL;exact wX (5-n) n (by omega) (λi hi=>by omega) (by rw[show n+(5-n)=5 by omega];exact h5)
end wU
