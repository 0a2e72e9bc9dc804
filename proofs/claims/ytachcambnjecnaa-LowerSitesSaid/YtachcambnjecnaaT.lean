/-
  A program's tokens as it is printed, and what the parser makes of them: expressions.
-/
import Derived.Test.YtachcambnjecnaaP
import Derived.Test.YtachcambnjecnaaN

set_option maxRecDepth 100000
namespace A7
open Ax Go V7 kL lV
abbrev TS:=Int×List UInt8×Int
def yh(c:Tk):TS:=(c.k,c.t,c.n)
def W(s:List UInt8):TS:=(kZ s,s,0)
def Nm(s:List UInt8):TS:=(1,s,0)
def Nu(n:Int):TS:=(2,[],n)
def rK(T:List Tk):Nat->List TS->Prop
 |_,[]=>True
 |i,x::r=>yh (T.getD i Rg)=x/\rK T (i+1) r
theorem cW{T:List Tk}:∀{a b:List TS}{i:Nat},rK T i (a++b)↔rK T i a/\rK T (i+a.length) b
 |[],b,i=>by simp[rK]
 |x::a,b,i=>by
  have:=cW (T:=T) (a:=a) (b:=b) (i:=i+1)
  simp only[List.cons_append,rK,this,List.length_cons,and_assoc]
  rw[show i+1+a.length=i+(a.length+1) by omega]
theorem iZ{T:List Tk}{x:TS}{a:List TS}{i:Nat}:rK T i (x::a)↔yh (T.getD i Rg)=x/\rK T (i+1) a:=Iff.rfl
def jJ(x:TS)(s:List UInt8):Bool:=decide (x.1=kZ s)&&decide (x.2.1=s)
def VV(n:Nat)(x:TS):Int:=if x.1=4 then fI (dD n) x.2.1 else 0
def bT(T:List Tk)(i:Nat):TS:=yh (T.getD i Rg)
variable {T:List Tk}{q:RQ}
theorem aV(hf:q.fe=0)(s:List UInt8):fP T q s=jJ (bT T q.at_) s:=by simp[fP,jJ,bT,yh,ey,hf]
theorem Gk(n:Nat):ot n (ey T q)=VV n (bT T q.at_):=rfl
theorem nY{s:List UInt8}(hf:q.fe=0)(h:bT T q.at_=Nm s):di T q=(s,ay q):=by
 unfold bT yh Nm at h
 simp only[Prod.mk.injEq]at h
 unfold di ey
 rw[if_pos ⟨hf,h.1⟩,h.2.1]
def mv(q:RQ)(n:Nat):RQ:=⟨q.at_+n,q.op,q.fe,q.fa⟩
theorem Gl:ay q=mv q 1:=rfl
theorem yl(a b:Nat):mv (mv q a) b=mv q (a+b):=by simp[mv,Nat.add_assoc]
theorem aeO(n:Nat):(mv q n).at_=q.at_+n:=rfl
theorem gW(hf:q.fe=0){s:List UInt8}(h:jJ (bT T q.at_) s=true):cR T q s=mv q 1:=by
 unfold cR;rw[aV hf,h];rfl
theorem wW{n:Int}(h : -100<=n)(h2:n<=100):IntKind.i64.wrap n=n:=by rw[aY]<;>omega
def mN(q:RQ):RQ:=⟨q.at_+1,q.op+1,q.fe,q.fa⟩
theorem Oe(hf:q.fe=0){s:List UInt8}(h:jJ (bT T q.at_) s=true):(gj T q s=mN q/\q.op<50\/(gj T q s).fe≠0/\50<=q.op)\/q.op<0:=by
 by_cases h0:q.op<0
 ·exact .inr h0
 left
 unfold gj
 rw[aV hf,h]
 by_cases h5:50<=q.op
 ·rw[if_pos (by simp[h5])]
  exact .inr ⟨jw (by decide),h5⟩
 ·rw[if_neg (by simp[h5]),gW hf h]
  refine .inl ⟨?_,by omega⟩
  unfold pS mv mN
  simp only
  rw[wW (by omega) (by omega)]
theorem ny(hf:q.fe=0){s:List UInt8}(h:jJ (bT T q.at_) s=true)(h0:0<=q.op)(h1:q.op<=51):jO T q s=⟨q.at_+1,q.op-1,q.fe,q.fa⟩:=by
 unfold jO
 rw[gW hf h]
 unfold pS mv
 simp only
 rw[wW (by omega) (by omega)]
 rfl
def ajX:List UInt8:=[105,110,116]
def aeP:List UInt8:=[98,111,111,108]
def tyN(on:List UInt8):TS:=if on=ajX\/on=aeP then W on else Nm on
def uT(on:List UInt8)(od:Int):List TS:=List.replicate od.toNat (W [91])++tyN on::List.replicate od.toNat (W [93])
theorem Sq(on:List UInt8):jJ (tyN on) [91]=false:=by
 unfold tyN
 split
 ·rename_i h
  rcases h with h|h<;>rw[h]<;>decide
 ·simp[jJ,Nm,kZ]
theorem Mr:∀(k d:Nat)(q:RQ)(j:Nat)(x:TS),q.fe=0->j<=k->rK T q.at_ (List.replicate j (W [91])++[x])->jJ x [91]=false->Eu T k d q=(d+j,mv q j)
 |0,d,q,j,x,hf,hj,h,hx=>by
  have:j=0:=by omega
  subst this
  rfl
 |k+1,d,q,0,x,hf,hj,h,hx=>by
  unfold Eu
  have h1:bT T q.at_=x:=h.1
  rw[aV hf,h1,hx]
  rfl
 |k+1,d,q,j+1,x,hf,hj,h,hx=>by
  unfold Eu
  rw[List.replicate_succ,List.cons_append,iZ]at h
  have h1:bT T q.at_=W [91]:=h.1
  have h2:jJ (W [91]) [91]=true:=by decide
  rw[aV hf,h1,h2,if_pos rfl]
  have:=Mr k (d+1) (ay q) j x hf (by omega) h.2 hx
  rw[this,Gl,yl]
  rw[show d+1+j=d+(j+1) by omega,show 1+j=j+1 by omega]
theorem EM:∀(k:Nat)(q:RQ)(s:List UInt8),q.fe=0->rK T q.at_ (List.replicate k (W s))->pU T q s k=mv q k
 |0,q,s,hf,h=>rfl
 |k+1,q,s,hf,h=>by
  unfold pU
  rw[List.replicate_succ',cW]at h
  rw[EM k q s hf h.1]
  have h2:bT T (mv q k).at_=W s:=by
   have:=h.2.1
   simpa [mv,bT] using this
  rw[gW (q:=mv q k) hf (by rw[h2];simp[jJ,W]),yl]
theorem Gm{on:List UInt8}{od:Int}(hf:q.fe=0)(h0:0<=od)(h3:od<=3)(h:rK T q.at_ (uT on od)):vg T q=((on,od),mv q (uT on od).length):=by
 obtain⟨k,rfl⟩:∃k:Nat,od=k:=⟨od.toNat,by omega⟩
 have hk:k<=3:=by omega
 unfold uT at h ⊢
 simp only[Int.toNat_natCast]at h ⊢
 have hL:rK T q.at_ (List.replicate k (W [91])++[tyN on]):=by
  rw[cW]at h ⊢
  exact⟨h.1,h.2.1,trivial⟩
 have e1:=Mr 3 0 q k (tyN on) hf hk hL (Sq on)
 rw[cW,iZ,List.length_replicate]at h
 obtain⟨_,h2,h4⟩:=h
 have ht:bT T (mv q k).at_=tyN on:=h2
 have hn:Y6 T (mv q k)=(on,mv q (k+1)):=by
  unfold Y6
  rw[aV (q:=mv q k) hf,aV (q:=mv q k) hf,ht]
  unfold tyN at ht ⊢
  split
  ·rename_i c
   have c1:(jJ (W on) [105,110,116]||jJ (W on) [98,111,111,108])=true:=by rcases c with c|c<;>rw[c]<;>decide
   rw[if_pos c]at ht
   rw[if_pos c1]
   have:(ey T (mv q k)).t=on:=by
    have:=congrArg (·.2.1) ht
    exact this
   rw[this,Gl,yl]
  ·rename_i c
   have c1:(jJ (Nm on) [105,110,116]||jJ (Nm on) [98,111,111,108])=false:=by simp[jJ,Nm,kZ]
   rw[if_neg c]at ht
   rw[c1]
   simp only[Bool.false_eq_true,if_false]
   rw[nY (q:=mv q k) hf ht,Gl,yl]
 unfold vg
 rw[e1]
 simp only[Nat.zero_add]
 have hb:fP T (mv q k) [91]=false:=by rw[aV (q:=mv q k) hf,ht,Sq]
 rw[hb,hn]
 simp only[Bool.false_eq_true,if_false]
 have:=EM (T:=T) k (mv q (k+1)) [93] hf (by
  rw[aeO]
  have:q.at_+(k+1)=q.at_+k+1:=by omega
  rw[this];exact h4)
 rw[this,yl]
 simp
 congr 1
 omega
def pg(k:Int):Nat:=if k=24 then 1 else if k=23 then 2 else if 19<=k/\k<=22 then 3 else if k=14\/k=15 then 4 else if 16<=k/\k<=18 then 5 else if k=12\/k=13 then 6 else 7
def zi(k:Int):List UInt8:=if k=14 then [43] else if k=15 then [45] else if k=16 then [42] else if k=17 then [47] else if k=18 then [37] else if k=19 then [60] else if k=20 then [60,61] else if k=21 then [61,61] else if k=22 then [33,61] else if k=23 then [38,38] else [124,124]
def I6:List UInt8:=[116,114,117,101]
def Db:List UInt8:=[102,97,108,115,101]
def I7:List UInt8:=[110,117,108,108]
def Of:List UInt8:=[110,101,119]
def Sr:List UInt8:=[108,101,110]
def I8:List UInt8:=[114,101,97,100]
abbrev Kt:=Nat×List TS
def wr(l:Nat)(x:Kt):List TS:=if x.1<l then W [40]::(x.2++[W [41]]) else x.2
def g0(ks:List Kt):Kt:=match ks with|x::_=>x | []=>(7,[])
def g1(ks:List Kt):Kt:=match ks with|_::x::_=>x|_=>(7,[])
def KL:List Kt->List TS
 |[]=>[]
 |x::l=>W [44]::(x.2++KL l)
def args(ks:List Kt):List TS:=match ks with | []=>[]|x::l=>x.2++KL l
def uO(k n:Int)(nm on:List UInt8)(od:Int)(ks:List Kt):List TS:=
 if k=1 then [Nu n]
 else if k=2 then [W (if n=1 then I6 else Db)]
 else if k=3 then W I7::uT on od
 else if k=4 then [Nm nm]
 else if k=5 then wr 7 (g0 ks)++[W [46],Nm nm]
 else if k=6 then wr 7 (g0 ks)++W [91]::((g1 ks).2++[W [93]])
 else if k=7 then Nm nm::W [40]::(args ks++[W [41]])
 else if k=8 then [W Of,Nm on]
 else if k=9 then W Of::W [91]::(uT on od++W [93]::W [40]::((g0 ks).2++[W [41]]))
 else if k=10 then W Sr::W [40]::((g0 ks).2++[W [41]])
 else if k=11 then [W I8,W [40],W [41]]
 else if k=12 then W [45]::wr 6 (g0 ks)
 else if k=13 then W [33]::wr 6 (g0 ks)
 else wr (pg k) (g0 ks)++W (zi k)::wr (pg k+1) (g1 ks)
mutual
def uX:E->List TS
 |.mk k n nm on od az _ _ _=>uO k n nm on od (Ju az)
def Ju:List E->List Kt
 |[]=>[]
 |e::l=>(pg e.k,uX e)::Ju l
end
theorem Dc(e:E):uX e=uO e.k e.n e.nm e.on e.od (Ju e.az):=by
 obtain⟨k,n,nm,on,od,az,a,ty,cN⟩:=e
 (conv=>lhs;unfold uX)<;>rfl
def uW(l:Nat)(e:E):List TS:=wr l (pg e.k,uX e)
abbrev Kd:=Nat×Int
def wd(l:Nat)(x:Kd):Int:=if x.1<l then x.2+1 else x.2
def h0(ks:List Kd):Kd:=match ks with|x::_=>x | []=>(7,0)
def h1(ks:List Kd):Kd:=match ks with|_::x::_=>x|_=>(7,0)
def OD:List Kd->Int
 |[]=>0
 |x::l=>max x.2 (OD l)
def dO(k:Int)(ks:List Kd):Int:=
 if k=1\/k=2\/k=3\/k=4\/k=8 then 0
 else if k=5 then wd 7 (h0 ks)
 else if k=6 then max (wd 7 (h0 ks)) ((h1 ks).2+1)
 else if k=7 then OD ks+1
 else if k=9\/k=10 then (h0 ks).2+1
 else if k=11 then 1
 else if k=12\/k=13 then wd 6 (h0 ks)+1
 else max (wd (pg k) (h0 ks)) (wd (pg k+1) (h1 ks))
mutual
def dX:E->Int
 |.mk k _ _ _ _ az _ _ _=>dO k (GN az)
def GN:List E->List Kd
 |[]=>[]
 |e::l=>(pg e.k,dX e)::GN l
end
theorem EN(e:E):dX e=dO e.k (GN e.az):=by
 obtain⟨k,n,nm,on,od,az,a,ty,cN⟩:=e
 (conv=>lhs;unfold dX)<;>rfl
def dW(l:Nat)(e:E):Int:=wd l (pg e.k,dX e)
mutual
def er:E->E
 |.mk k n nm on od az _ _ _=>.mk k (lR k n) (gx k nm) (g8 k on) (hJ k od) (l8 az) 0 T0 0
def l8:List E->List E
 |[]=>[]
 |e::l=>er e::l8 l
end
theorem rL(e:E):er e=.mk e.k (lR e.k e.n) (gx e.k e.nm) (g8 e.k e.on) (hJ e.k e.od) (l8 e.az) 0 T0 0:=by
 obtain⟨k,n,nm,on,od,az,a,ty,cN⟩:=e
 (conv=>lhs;unfold er)<;>rfl
theorem Ms:∀l r:List E,l8 (l++r)=l8 l++l8 r
 |[],r=>rfl
 |e::l,r=>by simp only[List.cons_append,l8,Ms l r]
mutual
def Wf:E->Prop
 |.mk k n _ _ od az _ _ _=>dY k n az.length=true/\(k=3\/k=9->0<=od/\od<=3)/\(k=8->od=0)/\VW az
def VW:List E->Prop
 |[]=>True
 |e::l=>Wf e/\VW l
end
theorem I9(e:E):Wf e↔dY e.k e.n e.az.length=true/\(e.k=3\/e.k=9->0<=e.od/\e.od<=3)/\(e.k=8->e.od=0)/\VW e.az:=by
 obtain⟨k,n,nm,on,od,az,a,ty,cN⟩:=e
 unfold Wf;exact Iff.rfl
theorem vG:∀l:List E,VW l↔∀e∈l,Wf e
 |[]=>by simp[VW]
 |e::l=>by simp[VW,vG l]
def Az(T:List Tk)(n i:Nat):Prop:=(∀m,n<=m->m<=4->VV m (bT T i)=0)/\jJ (bT T i) [46]=false/\jJ (bT T i) [91]=false/\jJ (bT T i) [40]=false
theorem Az.mono{n m i:Nat}(h:Az T n i)(hm:n<=m):Az T m i:=⟨λk a b=>h.1 k (by omega) b,h.2⟩
end A7
namespace A7
open Ax Go V7 kL lV
def Ss(n:Nat)(x:TS):Bool:=(List.range 5).all (λm=>decide (m<n)||decide (VV m x=0)) && !jJ x [46] && !jJ x [91] && !jJ x [40]
theorem jc{T:List Tk}{n i:Nat}{x:TS}(hx:bT T i=x)(h:Ss n x=true):Az T n i:=by
 unfold Ss at h
 simp only[Bool.and_eq_true,List.all_eq_true,Bool.not_eq_true',Bool.or_eq_true,decide_eq_true_eq,List.mem_range]at h
 obtain⟨⟨⟨a,b⟩,c⟩,d⟩:=h
 rw[<-hx]at a b c d
 exact⟨λm h1 h2=>(a m (by omega)).resolve_left (by omega),b,c,d⟩
theorem KM{k:Int}(h:14<=k)(h2:k<=24):Ss (pg k) (W (zi k))=true/\VV (pg k-1) (W (zi k))=k/\1<=pg k/\pg k<=5:=by
 have:k=14\/k=15\/k=16\/k=17\/k=18\/k=19\/k=20\/k=21\/k=22\/k=23\/k=24:=by omega
 rcases this with rfl|rfl|rfl|rfl|rfl|rfl|rfl|rfl|rfl|rfl|rfl<;>decide
theorem sS(k:Int):1<=pg k/\pg k<=7:=by
 unfold pg
 repeat' split
 all_goals omega
theorem Mt{k:Int}(h:pg k<=5):14<=k/\k<=24:=by
 unfold pg at h
 repeat' split at h
 all_goals omega
theorem aah{k:Int}(h:pg k=6):k=12\/k=13:=by
 unfold pg at h
 repeat' split at h
 all_goals omega
theorem Mu{k:Int}(h:pg k=7):¬(12<=k/\k<=24):=by
 unfold pg at h
 repeat' split at h
 all_goals omega
theorem Gn{l m:Nat}{e:E}(h:(pg e.k<l)↔(pg e.k<m)):uW l e=uW m e/\dW l e=dW m e:=by
 unfold uW dW wr wd
 simp only[h,and_self]
theorem uG{l:Nat}{e:E}(h:l<=pg e.k):uW l e=uX e/\dW l e=dX e:=by
 unfold uW dW wr wd
 simp only
 rw[if_neg (by omega),if_neg (by omega)]
 exact⟨rfl,rfl⟩
theorem aai{l:Nat}{e:E}(h:pg e.k<l):uW l e=W [40]::(uX e++[W [41]])/\dW l e=dX e+1:=by
 unfold uW dW wr wd
 simp only
 rw[if_pos h,if_pos h]
 exact⟨rfl,rfl⟩
theorem Su{l:Nat}{x:Kd}(h:0<=x.2):0<=wd l x:=by unfold wd;split<;>omega
theorem Gp:∀l:List E,GN l=l.map λe=>(pg e.k,dX e)
 |[]=>rfl
 |e::l=>by unfold GN;rw[Gp l];rfl
theorem Xn:∀{l:List Kd},(∀x∈l,0<=x.2)->0<=OD l
 |[],_=>Int.le_refl _
 |x::l,h=>by
  unfold OD
  have:=h x List.mem_cons_self
  omega
theorem EO(e:E):0<=dX e:=by
 induction e using E.vp with
 |_ e ih=>
  have hk:∀x∈GN e.az,0<=x.2:=by
   rw[Gp]
   intro x hx
   obtain⟨y,hy,rfl⟩:=List.mem_map.1 hx
   exact ih y hy
  have a0:0<=(h0 (GN e.az)).2:=by
   unfold h0
   split
   ·rename_i x l heq;exact hk x (by rw[heq];exact List.mem_cons_self)
   ·exact Int.le_refl _
  have a1:0<=(h1 (GN e.az)).2:=by
   unfold h1
   split
   ·rename_i y x l heq;exact hk x (by rw[heq];exact List.mem_cons_of_mem _ List.mem_cons_self)
   ·exact Int.le_refl _
  have a2:=Xn hk
  have b1:=λl=>Su (l:=l) a0
  have b2:=λl=>Su (l:=l) a1
  rw[EN]
  unfold dO
  repeat' split
  ·omega
  ·exact b1 7
  ·have:=b1 7;omega
  ·omega
  ·omega
  ·omega
  ·have:=b1 6;omega
  ·have:=b1 (pg e.k);omega
theorem aaj{T:List Tk}{a r:RQ}(h:eL T a r)(hb:a.fe≠0):r.fe≠0:=by rw[(h.zY hb).1];exact hb
def PE(e:E)(n:Nat):Prop:=∀(T:List Tk)(f:Nat)(q:RQ)(e':E)(r:RQ),fA T f n q=some (e',r)->q.fe=0->0<=q.op->q.op<=50->(r.fe=0\/q.op+dW (n+1) e<=50)->
 rK T q.at_ (uW (n+1) e)->Az T n (q.at_+(uW (n+1) e).length)->r=mv q (uW (n+1) e).length/\er e'=er e
def PC(e:E)(m:Nat):Prop:=∀(T:List Tk)(f:Nat)(q:RQ)(e':E)(r:RQ),fA T f m q=some (e',r)->q.fe=0->0<=q.op->q.op<=50->(r.fe=0\/q.op+dX e<=50)->
 rK T q.at_ (uX e)->Az T (m+1) (q.at_+(uX e).length)->∃f2 e2,jg T f2 m e2 (mv q (uX e).length)=some (e',r)/\er e2=er e
def PB(e:E):Prop:=∀(T:List Tk)(f:Nat)(q:RQ)(e':E)(r:RQ),jW T f q=some (e',r)->q.fe=0->0<=q.op->q.op<=50->(r.fe=0\/q.op+dW 7 e<=50)->
 rK T q.at_ (uW 7 e)->jJ (bT T (q.at_+(uW 7 e).length)) [40]=false->∃f2 e2,eZ T f2 e2 (mv q (uW 7 e).length)=some (e',r)/\er e2=er e
theorem Dd{T:List Tk}{f n:Nat}{a e':E}{q r:RQ}(h:jg T f n a q=some (e',r))(hs:ot n (ey T q)=0):e'=a/\r=q:=by
 cases f with
 |zero=>simp[jg]at h
 |succ f=>
  unfold jg at h
  rw[if_neg (by rintro⟨_,c⟩;exact c hs)]at h
  cases h;exact⟨rfl,rfl⟩
theorem Ja{T:List Tk}{f:Nat}{a e':E}{q r:RQ}(h:eZ T f a q=some (e',r))(h1:fP T q [46]=false)(h2:fP T q [91]=false):e'=a/\r=q:=by
 cases f with
 |zero=>simp[eZ]at h
 |succ f=>
  unfold eZ at h
  rw[h1,h2]at h
  simp only[Bool.false_eq_true,if_false]at h
  cases h;exact⟨rfl,rfl⟩
theorem vC{T:List Tk}{f n:Nat}{q r:RQ}{e':E}(h:fA T f n q=some (e',r))(hn:n<5):∃f2 x,fA T f2 (n+1) q=some x/\jg T f2 n x.1 x.2=some (e',r):=by
 cases f with
 |zero=>simp[fA]at h
 |succ f=>
  unfold fA at h
  rw[if_neg (by omega)]at h
  obtain⟨x,h1,h2⟩:=Option.bind_eq_some_iff.1 h
  exact⟨f,x,h1,h2⟩
theorem VX{e:E}{n:Nat}(hn:n<5)(hl:pg e.k≠n+1)(h:PE e (n+1)):PE e n:=by
 intro T f q e' r hp hf h0 h5 hd hh hs
 obtain⟨e1,e2⟩:=Gn (l:=n+1) (m:=n+1+1) (e:=e) (by omega)
 rw[e1]at hh hs ⊢
 rw[e2]at hd
 obtain⟨f2,⟨x1,x2⟩,a1,a2⟩:=vC hp hn
 have hd2:x2.fe=0\/q.op+dW (n+1+1) e<=50:=hd.imp (λh=>((kE T f2).2.1 _ _ _ _ _ a2).mS h) id
 obtain⟨rfl,b2⟩:=h T f2 q x1 x2 a1 hf h0 h5 hd2 hh (hs.mono (by omega))
 obtain⟨rfl,rfl⟩:=Dd a2 (by rw[Gk];exact hs.1 n (Nat.le_refl _) (by omega))
 exact⟨rfl,b2⟩
theorem VY{e:E}{n:Nat}(hl:pg e.k=n+1)(hn:n<=4)(h:PC e n):PE e n:=by
 intro T f q e' r hp hf h0 h5 hd hh hs
 obtain⟨e1,e2⟩:=uG (l:=n+1) (e:=e) (by omega)
 rw[e1]at hh hs ⊢
 rw[e2]at hd
 obtain⟨f2,x,a1,a2⟩:=h T f q e' r hp hf h0 h5 hd hh (hs.mono (by omega))
 obtain⟨rfl,rfl⟩:=Dd a1 (by rw[Gk];exact hs.1 n (Nat.le_refl _) hn)
 exact⟨rfl,a2⟩
theorem aeQ{e:E}(hl:pg e.k≠6)(h:PB e):PE e 5:=by
 intro T f q e' r hp hf h0 h5 hd hh hs
 obtain⟨e1,e2⟩:=Gn (l:=5+1) (m:=7) (e:=e) (by have:=(sS e.k).2;omega)
 rw[e1]at hh hs ⊢
 rw[e2]at hd
 cases f with
 |zero=>simp[fA]at hp
 |succ f=>
  unfold fA at hp
  rw[if_pos rfl]at hp
  obtain⟨f2,x,a1,a2⟩:=h T f q e' r hp hf h0 h5 hd hh hs.2.2.2
  obtain⟨rfl,rfl⟩:=Ja a1 (by rw[aV (q:=mv q _) hf];exact hs.2.1) (by rw[aV (q:=mv q _) hf];exact hs.2.2.1)
  exact⟨rfl,a2⟩
theorem uH{e:E}:∀(j n:Nat),n+j<=5->(∀i,i<j->pg e.k≠n+i+1)->PE e (n+j)->PE e n
 |0,_,_,_,h=>h
 |j+1,n,hn,hl,h=>by
  refine VX (by omega) (hl 0 (by omega)) (uH j (n+1) (by omega) (λi hi=>?_) ?_)
  ·have:=hl (i+1) (by omega);omega
  ·rw[show n+1+j=n+(j+1) by omega];exact h
theorem zj{T:List Tk}{q r:RQ}{s:List UInt8}{d:Int}(hf:q.fe=0)(h0:0<=q.op)(ht:jJ (bT T q.at_) s=true)(hd:r.fe=0\/q.op+d<=50)(hd1:1<=d)(hg:eL T (gj T q s) r):gj T q s=mN q/\q.op<50:=by
 rcases Oe hf ht with (h|⟨h1,h2⟩)|h
 ·exact h
 ·rcases hd with hd|hd
  ·exact absurd hd (aaj hg h1)
  ·omega
 ·omega
theorem uw{T:List Tk}{f:Nat}{q r:RQ}{e x:E}(he:PE e 0)(h:kB T f q=some (x,r))(hf:q.fe=0)(h0:0<=q.op)(hd:r.fe=0\/q.op+(dX e+1)<=50)(hh:rK T q.at_ (W [40]::(uX e++[W [41]]))) :
  r=mv q ((uX e).length+2)/\er x=er e:=by
 cases f with
 |zero=>simp[kB]at h
 |succ f=>
  unfold kB at h
  obtain⟨⟨x1,x2⟩,a1,a2⟩:=Option.bind_eq_some_iff.1 h
  cases a2
  rw[iZ,cW]at hh
  obtain⟨t1,t2,t3,_⟩:=hh
  have Np:=EO e
  have t1':jJ (bT T q.at_) [40]=true:=by show jJ (yh _) _=true;rw[t1];decide
  obtain⟨o1,o2⟩:=zj (d:=dX e+1) hf h0 t1' hd (by omega) ((eF a1).trans cP)
  rw[o1]at a1
  obtain⟨e1,e2⟩:=uG (l:=1) (e:=e) (sS e.k).1
  have hx2:x2.fe=0\/(mN q).op+dW (0+1) e<=50:=hd.imp (λh=>(cP).mS h) (λh=>by rw[e2];simp only[mN];omega)
  have t3':bT T (q.at_+1+(uX e).length)=W [41]:=t3
  obtain⟨rfl,b2⟩:=he T f (mN q) x1 x2 a1 hf (by simp only[mN];omega) (by simp only[mN];omega) hx2 (by rw[e1];exact t2) (by rw[e1];exact jc t3' (by decide))
  rw[e1]
  have hc:=ny (T:=T) (q:=mv (mN q) (uX e).length) (s:=[41]) hf (by show jJ (bT T (q.at_+1+_)) _=true;rw[t3'];decide) (by simp only[mv,mN];omega) (by simp only[mv,mN];omega)
  rw[hc]
  refine⟨?_,b2⟩
  simp only[mv,mN,RQ.mk.injEq,and_true]
  omega
end A7
namespace A7
open Ax Go V7 kL lV
def De(x:TS):Bool:=decide (x.1=1)||decide (x.1=2)||decide (x=W I6)||decide (x=W Db)||decide (x=W I7)||decide (x=W Of)||decide (x=W Sr)||decide (x=W I8)||decide (x=W [45])||decide (x=W [33])||decide (x=W [40])
theorem Sv{l:Nat}{x:Kt}(h:∃y r,x.2=y::r/\De y=true):∃y r,wr l x=y::r/\De y=true:=by
 unfold wr
 split
 ·exact⟨_,_,rfl,by decide⟩
 ·exact h
theorem KN{a b:List TS}(h:∃y r,a=y::r/\De y=true):∃y r,a++b=y::r/\De y=true:=by
 obtain⟨y,r,rfl,h⟩:=h
 exact⟨y,r++b,rfl,h⟩
theorem Df{k n:Int}{l:List E}(h:dY k n l.length=true)(hk:k=5\/k=9\/k=10\/k=12\/k=13):∃a,l=[a]:=by
 have:l.length=1:=by
  unfold dY at h
  rw[if_neg (by omega),if_neg (by omega),if_neg (by omega),if_pos hk]at h
  simpa using h
 match l,this with
 |[a],_=>exact⟨a,rfl⟩
theorem KO{k n:Int}{l:List E}(h:dY k n l.length=true)(hk:k=6\/14<=k):(∃a b,l=[a,b])/\k<=24:=by
 have:l.length=2/\k<=24:=by
  unfold dY at h
  rw[if_neg (by omega),if_neg (by omega),if_neg (by omega),if_neg (by omega)]at h
  simp at h
  omega
 obtain⟨h1,h2⟩:=this
 match l,h1 with
 |[a,b],_=>exact⟨⟨a,b,rfl⟩,h2⟩
theorem zk{k n:Int}{l:List E}(h:dY k n l.length=true)(hk:k=1\/k=2\/k=3\/k=4\/k=8\/k=11):l=[]:=by
 have:l.length=0:=by
  unfold dY at h
  split at h
  ·simpa using h
  split at h
  ·simp only[Bool.and_eq_true,decide_eq_true_eq]at h;exact h.1
  ·omega
 exact List.eq_nil_of_length_eq_zero this
theorem A8{k n:Int}{m:Nat}(h:dY k n m=true):1<=k/\k<=24:=by
 unfold dY at h
 split at h
 ·omega
 split at h
 ·omega
 split at h
 ·omega
 split at h
 ·omega
 ·simp at h;omega
theorem Sw(e:E):Wf e->∃y r,uX e=y::r/\De y=true:=by
 induction e using E.vp with
 |_ e ih=>
  intro hw
  obtain⟨hk,_,_,uI⟩:=(I9 e).1 hw
  rw[vG]at uI
  have hki:=A8 hk
  have hg:(e.k=5\/e.k=6\/14<=e.k)->∃y r,(g0 (Ju e.az)).2=y::r/\De y=true:=λhc=>by
   have:∃a l,e.az=a::l:=by
    by_cases h5:e.k=5
    ·obtain⟨a,h⟩:=Df hk (.inl h5);exact⟨a,[],h⟩
    ·obtain⟨⟨a,b,h⟩,_⟩:=KO hk (by omega);exact⟨a,[b],h⟩
   obtain⟨a,l,h⟩:=this
   rw[h]
   exact ih a (by rw[h];exact List.mem_cons_self) (uI a (by rw[h];exact List.mem_cons_self))
  rw[Dc]
  unfold uO
  by_cases c1:e.k=1
  ·rw[if_pos c1];exact⟨_,_,rfl,by simp[De,Nu]⟩
  rw[if_neg c1]
  by_cases c2:e.k=2
  ·rw[if_pos c2]
   by_cases c:e.n=1
   ·rw[if_pos c];exact⟨_,_,rfl,by decide⟩
   ·rw[if_neg c];exact⟨_,_,rfl,by decide⟩
  rw[if_neg c2]
  by_cases c3:e.k=3
  ·rw[if_pos c3];exact⟨_,_,rfl,by decide⟩
  rw[if_neg c3]
  by_cases c4:e.k=4
  ·rw[if_pos c4];exact⟨_,_,rfl,by simp[De,Nm]⟩
  rw[if_neg c4]
  by_cases c5:e.k=5
  ·rw[if_pos c5];exact KN (Sv (hg (by omega)))
  rw[if_neg c5]
  by_cases c6:e.k=6
  ·rw[if_pos c6];exact KN (Sv (hg (by omega)))
  rw[if_neg c6]
  by_cases c7:e.k=7
  ·rw[if_pos c7];exact⟨_,_,rfl,by simp[De,Nm]⟩
  rw[if_neg c7]
  by_cases c8:e.k=8
  ·rw[if_pos c8];exact⟨_,_,rfl,by decide⟩
  rw[if_neg c8]
  by_cases c9:e.k=9
  ·rw[if_pos c9];exact⟨_,_,rfl,by decide⟩
  rw[if_neg c9]
  by_cases Ab:e.k=10
  ·rw[if_pos Ab];exact⟨_,_,rfl,by decide⟩
  rw[if_neg Ab]
  by_cases Js:e.k=11
  ·rw[if_pos Js];exact⟨_,_,rfl,by decide⟩
  rw[if_neg Js]
  by_cases Il:e.k=12
  ·rw[if_pos Il];exact⟨_,_,rfl,by decide⟩
  rw[if_neg Il]
  by_cases L7:e.k=13
  ·rw[if_pos L7];exact⟨_,_,rfl,by decide⟩
  rw[if_neg L7]
  exact KN (Sv (hg (by omega)))
theorem EP{x:TS}(h:De x=true){s:List UInt8}(hs:(jJ (W I6) s||jJ (W Db) s||jJ (W I7) s||jJ (W Of) s||jJ (W Sr) s||jJ (W I8) s||jJ (W [45]) s||jJ (W [33]) s||jJ (W [40]) s)=false):jJ x s=false:=by
 simp only[Bool.or_eq_false_iff]at hs
 obtain⟨⟨⟨⟨⟨⟨⟨⟨s1,s2⟩,s3⟩,s4⟩,s5⟩,s6⟩,s7⟩,s8⟩,s9⟩:=hs
 unfold De at h
 simp only[Bool.or_eq_true,decide_eq_true_eq]at h
 have k1:kZ s≠1/\kZ s≠2:=by
  unfold kZ
  split
  ·split<;>decide
  ·decide
 rcases h with (((((((((h|h)|h)|h)|h)|h)|h)|h)|h)|h)|h
 ·unfold jJ;rw[h];simp[Ne.symm k1.1]
 ·unfold jJ;rw[h];simp[Ne.symm k1.2]
 all_goals rw[h];assumption
theorem mM(s t:List UInt8):jJ (Nm s) t=false:=by
 unfold jJ Nm kZ
 simp only
 split
 ·split<;>simp
 ·simp
theorem Sx(n:Int)(t:List UInt8):jJ (Nu n) t=false:=by
 unfold jJ Nu kZ
 simp only
 split
 ·split<;>simp
 ·simp
theorem Mw{T:List Tk}:∀(l:List E)(acc:List E)(f:Nat)(q:RQ)(es:List E)(r:RQ),nU T f acc q=some (es,r)->(∀e∈l,PE e 0)->q.fe=0->1<=q.op->q.op<=50->(r.fe=0\/q.op+OD (GN l)<=50)->
  rK T q.at_ (KL (Ju l)++[W [41]])->r=⟨q.at_+(KL (Ju l)).length+1,q.op-1,q.fe,q.fa⟩/\l8 es=l8 acc++l8 l
 |l,acc,0,q,es,r,h,_,_,_,_,_,_=>by simp[nU]at h
 |[],acc,f+1,q,es,r,h,hp,hf,h1,h5,hd,hh=>by
  unfold nU at h
  have t1:bT T q.at_=W [41]:=hh.1
  have e1:fP T q [44]=false:=by rw[aV hf,t1];decide
  rw[e1]at h
  simp only[Bool.false_eq_true,if_false]at h
  cases h
  rw[ny hf (by rw[t1];decide) (by omega) (by omega)]
  exact⟨by simp[Ju,KL],by simp[l8]⟩
 |e::l,acc,f+1,q,es,r,h,hp,hf,h1,h5,hd,hh=>by
  unfold nU at h
  simp only[Ju,KL,List.cons_append,List.append_assoc]at hh
  rw[iZ,cW]at hh
  obtain⟨t1,t2,t3⟩:=hh
  have t1':bT T q.at_=W [44]:=t1
  have e1:fP T q [44]=true:=by rw[aV hf,t1'];decide
  rw[e1,if_pos rfl]at h
  obtain⟨⟨x1,x2⟩,a1,a2⟩:=Option.bind_eq_some_iff.1 h
  dsimp only at a2
  obtain⟨u1,u2⟩:=uG (l:=1) (e:=e) (sS e.k).1
  have hm:OD (GN (e::l))=max (dX e) (OD (GN l)):=rfl
  rw[hm]at hd
  have hd1:x2.fe=0\/(ay q).op+dW (0+1) e<=50:=hd.imp (λh=>((kE T f).2.2.2.2.2.2.2.2 _ _ _ _ a2).mS h) (λh=>by rw[u2];simp only[ay];omega)
  have fh:Az T 0 (q.at_+1+(uX e).length):=by
   cases l with
   |nil=>exact jc (x:=W [41]) (by have:=t3.1;exact this) (by decide)
   |cons y l=>exact jc (x:=W [44]) (by have:=t3.1;exact this) (by decide)
  obtain⟨rfl,b2⟩:=hp e List.mem_cons_self T f (ay q) x1 x2 a1 hf (by simp only[ay];omega) (by simp only[ay];omega) hd1 (by rw[u1];exact t2) (by rw[u1];exact fh)
  rw[u1]at a2
  obtain⟨c1,c2⟩:=Mw l (acc++[x1]) f _ es r a2 (λy hy=>hp y (List.mem_cons_of_mem _ hy)) hf (by simp only[mv,ay];omega) (by simp only[mv,ay];omega) (hd.imp id λh=>by simp only[mv,ay];omega) t3
  refine⟨?_,?_⟩
  ·rw[c1]
   simp only[mv,ay,Ju,KL,List.length_cons,List.length_append,RQ.mk.injEq,and_true]
   omega
  ·rw[c2,Ms]
   simp only[l8,b2,List.append_assoc,List.cons_append,List.nil_append]
theorem F0{T:List Tk}(l:List E)(f:Nat)(q:RQ)(es:List E)(r:RQ)(h:oA T f q=some (es,r))(hp:∀e∈l,PE e 0)(hw:∀e∈l,Wf e)(hf:q.fe=0)(h0:0<=q.op)(hd:r.fe=0\/q.op+(OD (GN l)+1)<=50)
  (hh:rK T q.at_ (W [40]::(args (Ju l)++[W [41]]))):r=mv q ((args (Ju l)).length+2)/\l8 es=l8 l:=by
 cases f with
 |zero=>simp[oA]at h
 |succ f=>
  have hg:eL T (gj T q [40]) r:=by
   unfold oA at h
   split at h
   ·cases h;exact cP
   ·obtain⟨⟨x1,x2⟩,a1,a2⟩:=Option.bind_eq_some_iff.1 h
    exact(eF a1).trans ((kE T f).2.2.2.2.2.2.2.2 _ _ _ _ a2)
  obtain⟨t1,hh⟩:=hh
  have t1':bT T q.at_=W [40]:=t1
  have Np:0<=OD (GN l):=Xn λx hx=>by
   rw[Gp]at hx
   obtain⟨y,_,rfl⟩:=List.mem_map.1 hx
   exact EO y
  obtain⟨o1,o2⟩:=zj (d:=OD (GN l)+1) hf h0 (by rw[t1'];decide) hd (by omega) hg
  unfold oA at h
  rw[o1]at h
  cases l with
  |nil=>
   have t2:bT T (q.at_+1)=W [41]:=hh.1
   have e1:fP T (mN q) [41]=true:=by rw[aV (q:=mN q) hf];show jJ (bT T (q.at_+1)) _=true;rw[t2];decide
   rw[e1,if_pos rfl]at h
   cases h
   rw[ny (q:=mN q) hf (by show jJ (bT T (q.at_+1)) _=true;rw[t2];decide) (by simp only[mN];omega) (by simp only[mN];omega)]
   refine⟨?_,rfl⟩
   simp only[mN,mv,Ju,args,List.length_nil,RQ.mk.injEq,and_true]
   exact⟨trivial,by omega⟩
  |cons e l=>
   obtain⟨y,r0,hx,hb⟩:=Sw e (hw e List.mem_cons_self)
   simp only[Ju,args,List.append_assoc]at hh
   rw[cW]at hh
   obtain⟨t2,t3⟩:=hh
   have Gq:bT T (q.at_+1)=y:=by rw[hx]at t2;exact t2.1
   have e1:fP T (mN q) [41]=false:=by rw[aV (q:=mN q) hf];show jJ (bT T (q.at_+1)) _=false;rw[Gq];exact EP hb (by decide)
   rw[e1]at h
   simp only[Bool.false_eq_true,if_false]at h
   obtain⟨⟨x1,x2⟩,a1,a2⟩:=Option.bind_eq_some_iff.1 h
   dsimp only at a2
   obtain⟨u1,u2⟩:=uG (l:=1) (e:=e) (sS e.k).1
   have hm:OD (GN (e::l))=max (dX e) (OD (GN l)):=rfl
   rw[hm]at hd
   have hd1:x2.fe=0\/(mN q).op+dW (0+1) e<=50:=hd.imp (λh=>((kE T f).2.2.2.2.2.2.2.2 _ _ _ _ a2).mS h) (λh=>by rw[u2];simp only[mN];omega)
   have fh:Az T 0 (q.at_+1+(uX e).length):=by
    cases l with
    |nil=>exact jc (x:=W [41]) (by have:=t3.1;exact this) (by decide)
    |cons y l=>exact jc (x:=W [44]) (by have:=t3.1;exact this) (by decide)
   obtain⟨rfl,b2⟩:=hp e List.mem_cons_self T f (mN q) x1 x2 a1 hf (by simp only[mN];omega) (by simp only[mN];omega) hd1 (by rw[u1];exact t2) (by rw[u1];exact fh)
   rw[u1]at a2
   obtain⟨c1,c2⟩:=Mw l [x1] f _ es r a2 (λy hy=>hp y (List.mem_cons_of_mem _ hy)) hf (by simp only[mv,mN];omega) (by simp only[mv,mN];omega) (hd.imp id λh=>by simp only[mv,mN];omega) t3
   refine⟨?_,?_⟩
   ·rw[c1]
    simp only[mv,mN,Ju,args,List.length_append,RQ.mk.injEq,and_true]
    omega
   ·rw[c2]
    simp only[l8,b2,List.cons_append,List.nil_append]
end A7
namespace A7
open Ax Go V7 kL lV
theorem Jb(T:List Tk)(q:RQ):(ey T q).k=(bT T q.at_).1:=rfl
theorem Sy(T:List Tk)(q:RQ):(ey T q).t=(bT T q.at_).2.1:=rfl
theorem aeS(T:List Tk)(q:RQ):(ey T q).n=(bT T q.at_).2.2:=rfl
theorem qI(k n:Int)(nm on:List UInt8)(od:Int)(ks:List E)(a:Int):er (Em k n nm on od ks a)=.mk k (lR k n) (gx k nm) (g8 k on) (hJ k od) (l8 ks) 0 T0 0:=by
 rw[rL];rfl
theorem CO{T:List Tk}{f:Nat}{q r:RQ}{e x:E}(hw:Wf e)(hp:∀y∈e.az,PE y 0)(h7:pg e.k=7)(h5:e.k≠5)(h6:e.k≠6)(h:jX T f q=some (x,r))(hf:q.fe=0)(h0:0<=q.op)
  (hd:r.fe=0\/q.op+dX e<=50)(hh:rK T q.at_ (uX e))(hn:jJ (bT T (q.at_+(uX e).length)) [40]=false):r=mv q (uX e).length/\er x=er e:=by
 obtain⟨hk,hod,ho8,uI⟩:=(I9 e).1 hw
 have hki:=A8 hk
 have bn:=Mu h7
 have he:=rL e
 rw[Dc]at hh hn ⊢
 rw[EN]at hd
 unfold uO at hh hn ⊢
 unfold dO at hd
 cases f with
 |zero=>simp[jX]at h
 |succ f=>
 unfold jX at h
 rw[aV hf,aV hf,aV hf,aV hf,aV hf,aV hf,aV hf,Jb]at h
 by_cases c1:e.k=1
 ·rw[if_pos c1]at hh ⊢
  have t:=hh.1
  change bT T q.at_=_ at t
  rw[t,if_pos ⟨hf,rfl⟩]at h
  cases h
  have uv:=zk hk (.inl c1)
  refine⟨rfl,?_⟩
  rw[qI,he,uv,c1,aeS,t]
  rfl
 rw[if_neg c1]at hh hn ⊢
 by_cases c2:e.k=2
 ·rw[if_pos c2]at hh ⊢
  have t:=hh.1
  change bT T q.at_=_ at t
  have hn2:e.n=0\/e.n=1:=by
   rw[c2]at hk
   unfold dY at hk
   rw[if_neg (by omega),if_pos rfl]at hk
   simp only[Bool.and_eq_true,Bool.or_eq_true,decide_eq_true_eq]at hk
   exact hk.2
  have uv:=zk hk (.inr (.inl c2))
  rcases hn2 with c|c
  ·rw[c,if_neg (by decide)]at t
   rw[t,if_neg (by rintro⟨_,b⟩;revert b;decide),if_pos (by decide)]at h
   cases h
   refine⟨rfl,?_⟩
   rw[qI,he,uv,c2,Sy,t,c]
   rfl
  ·rw[c,if_pos rfl]at t
   rw[t,if_neg (by rintro⟨_,b⟩;revert b;decide),if_pos (by decide)]at h
   cases h
   refine⟨rfl,?_⟩
   rw[qI,he,uv,c2,Sy,t,c]
   rfl
 rw[if_neg c2]at hh hn ⊢
 by_cases c3:e.k=3
 ·rw[if_pos c3]at hh ⊢
  obtain⟨t,t2⟩:=hh
  change bT T q.at_=_ at t
  have uv:=zk hk (.inr (.inr (.inl c3)))
  rw[t,if_neg (by rintro⟨_,b⟩;revert b;decide),if_neg (by decide),if_pos (by decide)]at h
  obtain⟨d1,d2⟩:=hod (.inl c3)
  have e1:=Gm (T:=T) (q:=ay q) hf d1 d2 t2
  rw[e1]at h
  cases h
  refine⟨by simp only[ay,mv,List.length_cons,RQ.mk.injEq,and_true];omega,?_⟩
  rw[qI,he,uv,c3]
  rfl
 rw[if_neg c3]at hh hn ⊢
 by_cases c4:e.k=4
 ·rw[if_pos c4]at hh hn ⊢
  have t:=hh.1
  change bT T q.at_=_ at t
  have uv:=zk hk (.inr (.inr (.inr (.inl c4))))
  rw[t,if_neg (by rintro⟨_,b⟩;exact absurd b (by simp[Nm]))]at h
  simp only[mM,Bool.or_self,Bool.false_eq_true,if_false]at h
  rw[nY hf t]at h
  simp only at h
  rw[aV (q:=ay q) hf,show jJ (bT T (ay q).at_) [40]=false from hn]at h
  simp only[Bool.false_eq_true,if_false]at h
  cases h
  refine⟨rfl,?_⟩
  rw[qI,he,uv,c4]
  rfl
 rw[if_neg c4,if_neg h5,if_neg h6]at hh hn ⊢
 by_cases c7:e.k=7
 ·rw[if_pos c7]at hh hn ⊢
  rw[if_neg (by omega),if_neg h5,if_neg h6,if_pos c7]at hd
  obtain⟨t,t2⟩:=hh
  change bT T q.at_=_ at t
  rw[t,if_neg (by rintro⟨_,b⟩;exact absurd b (by simp[Nm]))]at h
  simp only[mM,Bool.or_self,Bool.false_eq_true,if_false]at h
  rw[nY hf t]at h
  simp only at h
  have t3:bT T (ay q).at_=W [40]:=t2.1
  rw[aV (q:=ay q) hf,t3,if_pos (by decide)]at h
  obtain⟨⟨x1,x2⟩,a1,a2⟩:=Option.bind_eq_some_iff.1 h
  cases a2
  rw[vG]at uI
  obtain⟨rfl,b2⟩:=F0 e.az f (ay q) x1 _ a1 hp uI hf h0 (hd.imp id λh=>by simp only[ay];exact h) t2
  refine⟨by simp only[ay,mv,List.length_cons,List.length_append,List.length_nil,RQ.mk.injEq,and_true];omega,?_⟩
  rw[qI,he,c7,b2]
  rfl
 rw[if_neg c7]at hh hn ⊢
 by_cases c8:e.k=8
 ·rw[if_pos c8]at hh hn ⊢
  obtain⟨t,t2,_⟩:=hh
  change bT T q.at_=_ at t
  change bT T (q.at_+1)=_ at t2
  have uv:=zk hk (.inr (.inr (.inr (.inr (.inl c8)))))
  rw[t,if_neg (by rintro⟨_,b⟩;revert b;decide),if_neg (by decide),if_neg (by decide),if_pos (by decide)]at h
  cases f with
  |zero=>simp[k6]at h
  |succ f=>
   unfold k6 at h
   rw[aV (q:=ay q) hf,show bT T (ay q).at_=_ from t2,mM]at h
   simp only[Bool.false_eq_true,if_false]at h
   rw[nY (q:=ay q) hf t2]at h
   cases h
   refine⟨rfl,?_⟩
   rw[qI,he,uv,c8,ho8 c8]
   rfl
 rw[if_neg c8]at hh hn ⊢
 rw[if_neg (by omega),if_neg h5,if_neg h6,if_neg c7]at hd
 by_cases c9:e.k=9
 ·rw[if_pos c9]at hh hn ⊢
  rw[if_pos (.inl c9)]at hd
  obtain⟨k0,uv⟩:=Df hk (.inr (.inl c9))
  rw[uv]at hh hd hp ⊢
  simp only[Ju,GN,g0]at hh hd ⊢
  obtain⟨t,t2,hh⟩:=hh
  change bT T q.at_=_ at t
  change bT T (q.at_+1)=_ at t2
  rw[cW]at hh
  obtain⟨t3,t4,t5⟩:=hh
  change bT T _=_ at t4
  rw[t,if_neg (by rintro⟨_,b⟩;revert b;decide),if_neg (by decide),if_neg (by decide),if_pos (by decide)]at h
  cases f with
  |zero=>simp[k6]at h
  |succ f=>
   unfold k6 at h
   rw[aV (q:=ay q) hf,show bT T (ay q).at_=_ from t2,if_pos (by decide)]at h
   obtain⟨d1,d2⟩:=hod (.inr c9)
   have e1:=Gm (T:=T) (q:=ay (ay q)) hf d1 d2 t3
   rw[e1]at h
   simp only at h
   have OE:bT T (mv (ay (ay q)) (uT e.on e.od).length).at_=W [93]:=t4
   rw[gW (q:=mv (ay (ay q)) (uT e.on e.od).length) hf (by rw[OE];decide)]at h
   obtain⟨⟨x1,x2⟩,a1,a2⟩:=Option.bind_eq_some_iff.1 h
   cases a2
   obtain⟨rfl,b2⟩:=uw (hp k0 List.mem_cons_self) a1 hf h0 (hd.imp id λh=>by simp only[ay,mv];exact h) t5
   refine⟨by simp only[ay,mv,List.length_cons,List.length_append,List.length_nil,RQ.mk.injEq,and_true];omega,?_⟩
   rw[qI,he,uv,c9]
   simp only[l8,b2]
   rfl
 rw[if_neg c9]at hh hn ⊢
 by_cases Ab:e.k=10
 ·rw[if_pos Ab]at hh hn ⊢
  rw[if_pos (.inr Ab)]at hd
  obtain⟨k0,uv⟩:=Df hk (.inr (.inr (.inl Ab)))
  rw[uv]at hh hd hp ⊢
  simp only[Ju,GN,g0]at hh hd ⊢
  obtain⟨t,t2⟩:=hh
  change bT T q.at_=_ at t
  rw[t,if_neg (by rintro⟨_,b⟩;revert b;decide),if_neg (by decide),if_neg (by decide),if_neg (by decide),if_pos (by decide)]at h
  obtain⟨⟨x1,x2⟩,a1,a2⟩:=Option.bind_eq_some_iff.1 h
  cases a2
  obtain⟨rfl,b2⟩:=uw (q:=ay q) (hp k0 List.mem_cons_self) a1 hf h0 (hd.imp id λh=>by simp only[ay];exact h) t2
  refine⟨by simp only[ay,mv,List.length_cons,List.length_append,List.length_nil,RQ.mk.injEq,and_true];omega,?_⟩
  rw[qI,he,uv,Ab]
  simp only[l8,b2]
  rfl
 rw[if_neg Ab]at hh hn ⊢
 have Js:e.k=11:=by omega
 rw[if_pos Js]at hh hn ⊢
 rw[if_neg (by omega),if_pos Js]at hd
 obtain⟨t,t2,t3,_⟩:=hh
 change bT T q.at_=_ at t
 change bT T (q.at_+1)=_ at t2
 change bT T (q.at_+1+1)=_ at t3
 have uv:=zk hk (.inr (.inr (.inr (.inr (.inr Js)))))
 rw[t,if_neg (by rintro⟨_,b⟩;revert b;decide),if_neg (by decide),if_neg (by decide),if_neg (by decide),if_neg (by decide),if_pos (by decide)]at h
 cases h
 obtain⟨o1,o2⟩:=zj (q:=ay q) (s:=[40]) (d:=1) hf h0 (by rw[show bT T (ay q).at_=_ from t2];decide) hd (by omega) cP
 rw[o1,ny (q:=mN (ay q)) hf (by rw[show bT T (mN (ay q)).at_=_ from t3];decide) (by simp only[mN,ay];omega) (by simp only[mN,ay]at o2 ⊢;omega)]
 refine⟨?_,?_⟩
 ·simp only[mN,ay,mv,List.length_cons,List.length_nil,RQ.mk.injEq,and_true]
  refine⟨trivial,by omega⟩
 ·rw[qI,he,uv,Js]
  rfl
end A7
namespace A7
open Ax Go V7 kL lV
theorem Jc{T:List Tk}{f:Nat}{q r:RQ}{e':E}(h:jW T f q=some (e',r))(h1:fP T q [45]=false)(h2:fP T q [33]=false):∃g x,jX T g q=some x/\eZ T g x.1 x.2=some (e',r):=by
 cases f with
 |zero=>simp[jW]at h
 |succ f=>
  unfold jW at h
  rw[h1,h2]at h
  simp only[Bool.or_self,Bool.false_eq_true,if_false]at h
  obtain⟨x,a1,a2⟩:=Option.bind_eq_some_iff.1 h
  exact⟨f,x,a1,a2⟩
theorem qJ{T:List Tk}{f:Nat}{a e':E}{q r:RQ}(h:eZ T f a q=some (e',r)):eL T q r:=(kE T f).2.2.2.1 _ _ _ _ h
theorem Sz{e:E}(hl:pg e.k<7)(he:PE e 0):PB e:=by
 intro T f q e' r h hf h0 h5 hd hh hn
 obtain⟨u1,u2⟩:=aai (l:=7) hl
 rw[u1]at hh ⊢
 rw[u2]at hd
 have t:bT T q.at_=W [40]:=hh.1
 obtain⟨g,⟨x1,x2⟩,a1,a2⟩:=Jc h (by rw[aV hf,t];decide) (by rw[aV hf,t];decide)
 cases g with
 |zero=>simp[jX]at a1
 |succ g=>
  unfold jX at a1
  rw[aV hf,aV hf,aV hf,aV hf,aV hf,aV hf,aV hf,Jb,t]at a1
  rw[if_neg (by rintro⟨_,b⟩;revert b;decide),if_neg (by decide),if_neg (by decide),if_neg (by decide),if_neg (by decide),if_neg (by decide),if_pos (by decide)]at a1
  obtain⟨rfl,b2⟩:=uw he a1 hf h0 (hd.imp (λh=>(qJ a2).mS h) id) hh
  refine⟨g+1,x1,?_,b2⟩
  have e1:(W [40]::(uX e++[W [41]])).length=(uX e).length+2:=by simp
  rw[e1];exact a2
theorem ajZ{e:E}(hk:dY e.k e.n e.az.length=true)(h7:pg e.k=7)(h5:e.k≠5)(h6:e.k≠6):∃y r,uX e=y::r/\jJ y [45]=false/\jJ y [33]=false:=by
 have hki:=A8 hk
 have bn:=Mu h7
 rw[Dc]
 unfold uO
 by_cases c1:e.k=1
 ·rw[if_pos c1];exact⟨_,_,rfl,Sx _ _,Sx _ _⟩
 rw[if_neg c1]
 by_cases c2:e.k=2
 ·rw[if_pos c2]
  by_cases c:e.n=1
  ·rw[if_pos c];exact⟨_,_,rfl,by decide,by decide⟩
  ·rw[if_neg c];exact⟨_,_,rfl,by decide,by decide⟩
 rw[if_neg c2]
 by_cases c3:e.k=3
 ·rw[if_pos c3];exact⟨_,_,rfl,by decide,by decide⟩
 rw[if_neg c3]
 by_cases c4:e.k=4
 ·rw[if_pos c4];exact⟨_,_,rfl,mM _ _,mM _ _⟩
 rw[if_neg c4,if_neg h5,if_neg h6]
 by_cases c7:e.k=7
 ·rw[if_pos c7];exact⟨_,_,rfl,mM _ _,mM _ _⟩
 rw[if_neg c7]
 by_cases c8:e.k=8
 ·rw[if_pos c8];exact⟨_,_,rfl,by decide,by decide⟩
 rw[if_neg c8]
 by_cases c9:e.k=9
 ·rw[if_pos c9];exact⟨_,_,rfl,by decide,by decide⟩
 rw[if_neg c9]
 by_cases Ab:e.k=10
 ·rw[if_pos Ab];exact⟨_,_,rfl,by decide,by decide⟩
 rw[if_neg Ab,if_pos (by omega)]
 exact⟨_,_,rfl,by decide,by decide⟩
theorem VZ{e:E}(hw:Wf e)(hp:∀y∈e.az,PE y 0)(h7:pg e.k=7)(h5':e.k≠5)(h6:e.k≠6):PB e:=by
 intro T f q e' r h hf h0 h5 hd hh hn
 obtain⟨u1,u2⟩:=uG (l:=7) (e:=e) (by omega)
 rw[u1]at hh hn ⊢
 rw[u2]at hd
 obtain⟨y,l,b1,b2,b3⟩:=ajZ ((I9 e).1 hw).1 h7 h5' h6
 have t:bT T q.at_=y:=by rw[b1]at hh;exact hh.1
 obtain⟨g,⟨x1,x2⟩,a1,a2⟩:=Jc h (by rw[aV hf,t,b2]) (by rw[aV hf,t,b3])
 obtain⟨rfl,c2⟩:=CO hw hp h7 h5' h6 a1 hf h0 (hd.imp (λh=>(qJ a2).mS h) id) hh hn
 exact⟨g,x1,a2,c2⟩
theorem SA{e k0:E}(hk:e.k=5)(oy:e.az=[k0])(h0':PB k0):PB e:=by
 intro T f q e' r h hf h0 h5 hd hh hn
 have hl:pg e.k=7:=by rw[hk];decide
 obtain⟨u1,u2⟩:=uG (l:=7) (e:=e) (by omega)
 have ex:uX e=uW 7 k0++[W [46],Nm e.nm]:=by
  rw[Dc,hk,oy];rfl
 have ed:dX e=dW 7 k0:=by rw[EN,hk,oy];rfl
 rw[u1,ex]at hh ⊢
 rw[u2,ed]at hd
 rw[cW]at hh
 obtain⟨t1,t2,t3,_⟩:=hh
 change bT T _=_ at t2
 change bT T _=_ at t3
 obtain⟨f2,e2,b1,b2⟩:=h0' T f q e' r h hf h0 h5 hd t1 (by rw[t2];decide)
 cases f2 with
 |zero=>simp[eZ]at b1
 |succ f2=>
  unfold eZ at b1
  rw[aV (q:=mv q _) hf,show bT T (mv q (uW 7 k0).length).at_=_ from t2,if_pos (by decide)]at b1
  rw[nY (q:=ay (mv q (uW 7 k0).length)) hf t3]at b1
  refine⟨f2,Em 5 0 e.nm [] 0 [e2] (ey T (mv q (uW 7 k0).length)).a,?_,?_⟩
  ·simp only at b1
   have e1:mv q (uW 7 k0++[W [46],Nm e.nm]).length=ay (ay (mv q (uW 7 k0).length)):=by
    simp only[mv,ay,List.length_append,List.length_cons,List.length_nil,RQ.mk.injEq,and_true];omega
   rw[e1];exact b1
  ·rw[qI,rL e,hk,oy]
   simp only[l8,b2]
   rfl
theorem V0{e k0 k1:E}(hk:e.k=6)(oy:e.az=[k0,k1])(h0':PB k0)(h1':PE k1 0):PB e:=by
 intro T f q e' r h hf h0 h5 hd hh hn
 have hl:pg e.k=7:=by rw[hk];decide
 obtain⟨u1,u2⟩:=uG (l:=7) (e:=e) (by omega)
 have ex:uX e=uW 7 k0++W [91]::(uX k1++[W [93]]):=by
  rw[Dc,hk,oy];rfl
 have ed:dX e=max (dW 7 k0) (dX k1+1):=by rw[EN,hk,oy];rfl
 rw[u1,ex]at hh ⊢
 rw[u2,ed]at hd
 rw[cW,iZ,cW]at hh
 obtain⟨t1,t2,t3,t4,_⟩:=hh
 change bT T _=_ at t2
 change bT T _=_ at t4
 obtain⟨f2,e2,b1,b2⟩:=h0' T f q e' r h hf h0 h5 (hd.imp id λh=>by omega) t1 (by rw[t2];decide)
 cases f2 with
 |zero=>simp[eZ]at b1
 |succ f2=>
  unfold eZ at b1
  rw[aV (q:=mv q _) hf,aV (q:=mv q _) hf,show bT T (mv q (uW 7 k0).length).at_=_ from t2,if_neg (by decide),if_pos (by decide)]at b1
  obtain⟨⟨x1,x2⟩,a1,a2⟩:=Option.bind_eq_some_iff.1 b1
  dsimp only at a2
  have Np:=EO k1
  obtain⟨o1,o2⟩:=zj (q:=mv q (uW 7 k0).length) (s:=[91]) (d:=dX k1+1) (r:=r) hf h0 (by rw[show bT T (mv q (uW 7 k0).length).at_=_ from t2];decide) (hd.imp id λh=>by simp only[mv];omega) (by omega) ((eF a1).trans (cP.trans (qJ a2)))
  rw[o1]at a1
  simp only[mv]at o2
  obtain⟨v1,v2⟩:=uG (l:=1) (e:=k1) (sS k1.k).1
  have hd1:x2.fe=0\/(mN (mv q (uW 7 k0).length)).op+dW (0+1) k1<=50:=hd.imp (λh=>(cP.trans (qJ a2)).mS h) (λh=>by rw[v2];simp only[mN,mv];omega)
  obtain⟨rfl,c2⟩:=h1' T f2 (mN (mv q (uW 7 k0).length)) x1 x2 a1 hf (by simp only[mN,mv];omega) (by simp only[mN,mv];omega) hd1 (by rw[v1];exact t3) (by rw[v1];exact jc t4 (by decide))
  rw[v1]at a2
  rw[ny (q:=mv (mN (mv q (uW 7 k0).length)) (uX k1).length) hf (by rw[show bT T (mv (mN (mv q (uW 7 k0).length)) (uX k1).length).at_=_ from t4];decide) (by simp only[mv,mN];omega) (by simp only[mv,mN];omega)]at a2
  refine⟨f2,Em 6 0 [] [] 0 [e2,x1] (ey T (mv q (uW 7 k0).length)).a,?_,?_⟩
  ·have e1:mv q (uW 7 k0++W [91]::(uX k1++[W [93]])).length=⟨(mv (mN (mv q (uW 7 k0).length)) (uX k1).length).at_+1,(mv (mN (mv q (uW 7 k0).length)) (uX k1).length).op-1,(mv (mN (mv q (uW 7 k0).length)) (uX k1).length).fe,(mv (mN (mv q (uW 7 k0).length)) (uX k1).length).fa⟩:=by
    simp only[mv,mN,List.length_append,List.length_cons,List.length_nil,RQ.mk.injEq,and_true]
    exact⟨by omega,by omega⟩
   rw[e1];exact a2
  ·rw[qI,rL e,hk,oy]
   simp only[l8,b2,c2]
   rfl
theorem aeT{e k0:E}(hk:e.k=12\/e.k=13)(oy:e.az=[k0])(h0':PE k0 5):PE e 5:=by
 intro T f q e' r h hf h0 h5 hd hh hs
 have hl:pg e.k=6:=by rcases hk with h|h<;>rw[h]<;>decide
 obtain⟨u1,u2⟩:=uG (l:=5+1) (e:=e) (by omega)
 have ex:uX e=W (if e.k=12 then [45] else [33])::uW 6 k0:=by
  rw[Dc,oy]
  rcases hk with h|h<;>rw[h]<;>rfl
 have ed:dX e=dW 6 k0+1:=by
  rw[EN,oy]
  rcases hk with h|h<;>rw[h]<;>rfl
 rw[u1,ex]at hh hs ⊢
 rw[u2,ed]at hd
 obtain⟨t1,t2⟩:=hh
 change bT T _=_ at t1
 have Np:0<=dW 6 k0:=Su (EO k0)
 cases f with
 |zero=>simp[fA]at h
 |succ f=>
  unfold fA at h
  rw[if_pos rfl]at h
  cases f with
  |zero=>simp[jW]at h
  |succ f=>
   unfold jW at h
   rw[aV hf,aV hf,Sy,t1]at h
   have vZ:(jJ (W (if e.k=12 then [45] else [33])) [45]||jJ (W (if e.k=12 then [45] else [33])) [33])=true:=by rcases hk with h|h<;>rw[h]<;>decide
   rw[vZ,if_pos rfl]at h
   obtain⟨⟨x1,x2⟩,a1,a2⟩:=Option.bind_eq_some_iff.1 h
   simp only[Option.some.injEq,Prod.mk.injEq]at a2
   obtain⟨rfl,rfl⟩:=a2
   obtain⟨o1,o2⟩:=zj (q:=q) (s:=(W (if e.k=12 then [45] else [33])).2.1) (d:=dW 6 k0+1) (r:=pS x2 (-1)) hf h0 (by rw[t1];simp[jJ,W]) hd (by omega) ((eF a1).trans vh)
   rw[o1]at a1
   have fh:Az T 5 (q.at_+1+(uW (5+1) k0).length):=by
    have:q.at_+1+(uW (5+1) k0).length=q.at_+(W (if e.k=12 then [45] else [33])::uW 6 k0).length:=by simp only[List.length_cons,Nat.reduceAdd];omega
    rw[this];exact hs
   obtain⟨rfl,c2⟩:=h0' T f (mN q) x1 x2 a1 hf (by simp only[mN];omega) (by simp only[mN];omega) (hd.imp id λh=>by simp only[mN,Nat.reduceAdd];omega) t2 fh
   refine⟨?_,?_⟩
   ·unfold pS mv mN
    simp only
    rw[wW (by omega) (by omega)]
    simp only[List.length_cons,RQ.mk.injEq,and_true]
    exact⟨by simp only[Nat.reduceAdd];omega,by omega⟩
   ·have Xa:(if jJ (W (if e.k=12 then [45] else [33])) [45]=true then (12:Int) else 13)=e.k:=by rcases hk with h|h<;>rw[h]<;>decide
    rw[qI,Xa,rL e,oy]
    simp only[l8,c2]
    rcases hk with h|h<;>rw[h]<;>rfl
theorem aal{e k0 k1:E}{m:Nat}(hm:m<=4)(hl:pg e.k=m+1)(oy:e.az=[k0,k1])(hc:pg k0.k=m+1->PC k0 m)(h0':PE k0 (m+1))(h1':PE k1 (m+1)):PC e m:=by
 intro T f q e' r h hf h0 h5 hd hh hs
 obtain⟨b1,b2⟩:=Mt (k:=e.k) (by omega)
 obtain⟨s1,s2,s3,s4⟩:=KM b1 b2
 have ex:uX e=uW (m+1) k0++W (zi e.k)::uW (m+2) k1:=by
  rw[Dc,oy]
  unfold uO
  rw[if_neg (by omega),if_neg (by omega),if_neg (by omega),if_neg (by omega),if_neg (by omega),if_neg (by omega),if_neg (by omega),if_neg (by omega),if_neg (by omega),if_neg (by omega),if_neg (by omega),if_neg (by omega),if_neg (by omega),hl]
  rfl
 have ed:dX e=max (dW (m+1) k0) (dW (m+2) k1):=by
  rw[EN,oy]
  unfold dO
  rw[if_neg (by omega),if_neg (by omega),if_neg (by omega),if_neg (by omega),if_neg (by omega),if_neg (by omega),if_neg (by omega),hl]
  rfl
 rw[ex]at hh hs ⊢
 rw[ed]at hd
 rw[cW,iZ]at hh
 obtain⟨t1,t2,t3⟩:=hh
 change bT T _=_ at t2
 rw[hl]at s1 s2
 have fh:Az T (m+1) (q.at_+(uW (m+1) k0).length):=jc t2 s1
 obtain⟨f2,e2,a1,a2⟩:∃f2 e2,jg T f2 m e2 (mv q (uW (m+1) k0).length)=some (e',r)/\er e2=er k0:=by
  by_cases uv:pg k0.k=m+1
  ·obtain⟨u1,u2⟩:=uG (l:=m+1) (e:=k0) (by omega)
   rw[u1]at t1 fh ⊢
   rw[u2]at hd
   exact hc uv T f q e' r h hf h0 h5 (hd.imp id λh=>by omega) t1 fh
  ·obtain⟨u1,u2⟩:=Gn (l:=m+1) (m:=m+1+1) (e:=k0) (by omega)
   obtain⟨f2,⟨x1,x2⟩,a1,a2⟩:=vC h (by omega)
   rw[u1]at t1 fh ⊢
   rw[u2]at hd
   obtain⟨rfl,c2⟩:=h0' T f2 q x1 x2 a1 hf h0 h5 (hd.imp (λh=>((kE T f2).2.1 _ _ _ _ _ a2).mS h) λh=>by omega) t1 fh
   exact⟨f2,x1,a2,c2⟩
 cases f2 with
 |zero=>simp[jg]at a1
 |succ f2=>
  unfold jg at a1
  have yw:ot m (ey T (mv q (uW (m+1) k0).length))=e.k:=by
   rw[Gk,show bT T (mv q (uW (m+1) k0).length).at_=_ from t2]
   exact s2
  rw[yw,if_pos ⟨hf,by omega⟩]at a1
  obtain⟨⟨x1,x2⟩,c1,c2⟩:=Option.bind_eq_some_iff.1 a1
  dsimp only at c2
  have Lu:Az T (m+1) ((ay (mv q (uW (m+1) k0).length)).at_+(uW (m+1+1) k1).length):=by
   have:(ay (mv q (uW (m+1) k0).length)).at_+(uW (m+1+1) k1).length=q.at_+(uW (m+1) k0++W (zi e.k)::uW (m+2) k1).length:=by
    rw[show uW (m+1+1) k1=uW (m+2) k1 from rfl];simp only[ay,mv,List.length_append,List.length_cons];omega
   rw[this];exact hs
  obtain⟨rfl,d2⟩:=h1' T f2 (ay (mv q (uW (m+1) k0).length)) x1 x2 c1 hf h0 h5 (hd.imp (λh=>((kE T f2).2.1 _ _ _ _ _ c2).mS h) λh=>by rw[show dW (m+1+1) k1=dW (m+2) k1 from rfl];simp only[ay,mv];omega) t3 Lu
  refine⟨f2,Em e.k 0 [] [] 0 [e2,x1] (ey T (mv q (uW (m+1) k0).length)).a,?_,?_⟩
  ·have e1:mv q (uW (m+1) k0++W (zi e.k)::uW (m+2) k1).length=mv (ay (mv q (uW (m+1) k0).length)) (uW (m+1+1) k1).length:=by
    rw[show uW (m+1+1) k1=uW (m+2) k1 from rfl];simp only[ay,mv,List.length_append,List.length_cons,RQ.mk.injEq,and_true];omega
   rw[e1];exact c2
  ·rw[qI,rL e,oy]
   simp only[l8,a2,d2]
   have Sn:∀n:Int,lR e.k n=0:=λn=>by unfold lR;rw[if_neg (by omega)]
   have So:∀n:List UInt8,gx e.k n=[]:=λn=>by unfold gx;rw[if_neg (by omega)]
   have Tn:∀n:List UInt8,g8 e.k n=[]:=λn=>by unfold g8;rw[if_neg (by omega)]
   have k4':∀n:Int,hJ e.k n=0:=λn=>by unfold hJ;rw[if_neg (by omega)]
   rw[Sn,Sn,So,So,Tn,Tn,k4',k4']
theorem aam(e:E):Wf e->(∀n,n<=5->PE e n)/\PB e/\(∀m,pg e.k=m+1->m<=4->PC e m):=by
 induction e using E.vp with
 |_ e ih=>
  intro hw
  obtain⟨hk,hod,ho8,uI⟩:=(I9 e).1 hw
  rw[vG]at uI
  have hki:=A8 hk
  have hp:∀y∈e.az,(∀n,n<=5->PE y n)/\PB y/\(∀m,pg y.k=m+1->m<=4->PC y m):=λy hy=>ih y hy (uI y hy)
  obtain⟨l1,l2⟩:=sS e.k
  by_cases h7:pg e.k=7
  ·have hB:PB e:=by
    by_cases h5:e.k=5
    ·obtain⟨a,ha⟩:=Df hk (.inl h5)
     exact SA h5 ha (hp a (by rw[ha];exact List.mem_cons_self)).2.1
    by_cases h6:e.k=6
    ·obtain⟨⟨a,b,ha⟩,_⟩:=KO hk (.inl h6)
     exact V0 h6 ha (hp a (by rw[ha];exact List.mem_cons_self)).2.1 ((hp b (by rw[ha];exact List.mem_cons_of_mem _ List.mem_cons_self)).1 0 (by omega))
    exact VZ hw (λy hy=>(hp y hy).1 0 (by omega)) h7 h5 h6
   have h5:=aeQ (by omega) hB
   refine⟨λn hn=>uH (5-n) n (by omega) (λi hi=>by omega) ?_,hB,λm hm hm4=>by omega⟩
   rw[show n+(5-n)=5 by omega];exact h5
  by_cases h6:pg e.k=6
  ·have LD:=aah h6
   obtain⟨a,ha⟩:=Df hk (by omega)
   have h5:PE e 5:=aeT LD ha ((hp a (by rw[ha];exact List.mem_cons_self)).1 5 (by omega))
   have hE:∀n,n<=5->PE e n:=λn hn=>uH (5-n) n (by omega) (λi hi=>by omega) (by rw[show n+(5-n)=5 by omega];exact h5)
   exact⟨hE,Sz (by omega) (hE 0 (by omega)),λm hm hm4=>by omega⟩
  ·obtain⟨b1,b2⟩:=Mt (k:=e.k) (by omega)
   obtain⟨⟨a,b,ha⟩,_⟩:=KO hk (.inr b1)
   have pa:=hp a (by rw[ha];exact List.mem_cons_self)
   have pb:=hp b (by rw[ha];exact List.mem_cons_of_mem _ List.mem_cons_self)
   have hC:∀m,pg e.k=m+1->m<=4->PC e m:=λm hm hm4=>aal hm4 hm ha (λuv=>pa.2.2 m uv hm4) (pa.1 (m+1) (by omega)) (pb.1 (m+1) (by omega))
   obtain⟨L,hL⟩:∃L,pg e.k=L+1:=⟨pg e.k-1,by omega⟩
   have hS:PE e L:=VY hL (by omega) (hC L hL (by omega))
   have aeU:∀n,n<=L->PE e n:=λn hn=>uH (L-n) n (by omega) (λi hi=>by omega) (by rw[show n+(L-n)=L by omega];exact hS)
   have hB:PB e:=Sz (by omega) (aeU 0 (by omega))
   have h5:=aeQ (by omega) hB
   refine⟨λn hn=>?_,hB,hC⟩
   by_cases hnL:n<=L
   ·exact aeU n hnL
   ·exact uH (5-n) n (by omega) (λi hi=>by omega) (by rw[show n+(5-n)=5 by omega];exact h5)
end A7
namespace A7
open Ax Go V7 kL lV
def aj0:List UInt8:=[118,97,114]
def aj1:List UInt8:=[108,101,116]
def wIf:List UInt8:=[105,102]
def Dg:List UInt8:=[101,108,115,101]
def aan:List UInt8:=[119,104,105,108,101]
def aj2:List UInt8:=[114,101,116,117,114,110]
def aao:List UInt8:=[112,114,105,110,116]
def x0(es:List E):List TS:=match es with|e::_=>uX e | []=>[]
def x1(es:List E):List TS:=match es with|_::e::_=>uX e|_=>[]
def d0(es:List E):Int:=match es with|e::_=>dX e | []=>0
def d1(es:List E):Int:=match es with|_::e::_=>dX e|_=>0
def sO(k:Int)(nm on:List UInt8)(od:Int)(es:List E)(b c:List TS)(ce:Bool):List TS:=
 if k=1 then W aj0::Nm nm::W [58]::(uT on od++[W [59]])
 else if k=2 then W aj1::Nm nm::W [58]::(uT on od++W [61]::(x0 es++[W [59]]))
 else if k=3 then Nm nm::W [61]::(x0 es++[W [59]])
 else if k=4 then x0 es++W [61]::(x1 es++[W [59]])
 else if k=5 then W wIf::(x0 es++W [123]::(b++W [125]::(if ce then [] else W Dg::W [123]::(c++[W [125]]))))
 else if k=6 then W aan::(x0 es++W [123]::(b++[W [125]]))
 else if k=7 then W aj2::(x0 es++[W [59]])
 else if k=8 then W aao::(x0 es++[W [59]])
 else x0 es++[W [59]]
mutual
def uS:Sm->List TS
 |.mk k nm on od es bd el _ _=>sO k nm on od es (uB bd) (uB el) el.isEmpty
def uB:List Sm->List TS
 |[]=>[]
 |s::l=>uS s++uB l
end
theorem Xo(s:Sm):uS s=sO s.k s.nm s.on s.od s.es (uB s.bd) (uB s.el) s.el.isEmpty:=by
 obtain⟨k,nm,on,od,es,bd,el,a,cN⟩:=s
 (conv=>lhs;unfold uS)<;>rfl
def sD(k:Int)(es:List E)(b c:Int):Int:=
 if k=4 then max (d0 es) (d1 es)
 else if k=5 then max (d0 es) (max (b+1) (c+1))
 else if k=6 then max (d0 es) (b+1)
 else if k=1 then 0 else d0 es
mutual
def dS:Sm->Int
 |.mk k _ _ _ es bd el _ _=>sD k es (dB bd) (dB el)
def dB:List Sm->Int
 |[]=>0
 |s::l=>max (dS s) (dB l)
end
theorem Xp(s:Sm):dS s=sD s.k s.es (dB s.bd) (dB s.el):=by
 obtain⟨k,nm,on,od,es,bd,el,a,cN⟩:=s
 (conv=>lhs;unfold dS)<;>rfl
mutual
def KP:Sm->Sm
 |.mk k nm on od es bd el _ _=>.mk k (cg k nm) (bH k on) (bJ k od) (l8 es) (rM bd) (rM el) 0 0
def rM:List Sm->List Sm
 |[]=>[]
 |s::l=>KP s::rM l
end
theorem Gr(s:Sm):KP s=.mk s.k (cg s.k s.nm) (bH s.k s.on) (bJ s.k s.od) (l8 s.es) (rM s.bd) (rM s.el) 0 0:=by
 obtain⟨k,nm,on,od,es,bd,el,a,cN⟩:=s
 (conv=>lhs;unfold KP)<;>rfl
theorem Mx:∀l r:List Sm,rM (l++r)=rM l++rM r
 |[],r=>rfl
 |e::l,r=>by simp only[List.cons_append,rM,Mx l r]
def aap(k:Int)(es:List E):Prop:=
 (k=1->es=[])/\(k=2\/k=3\/k=5\/k=6\/k=8->∃e,es=[e])/\(k=4->∃a b,es=[a,b]/\(a.k=5\/a.k=6))/\(k=7->es=[]\/∃e,es=[e])/\(k=9->∃e,es=[e]/\e.k=7)
mutual
def Xq:Sm->Prop
 |.mk k _ _ od es bd el _ _=>1<=k/\k<=9/\(k=1\/k=2->0<=od/\od<=3)/\aap k es/\VW es/\(k≠5->k≠6->bd=[])/\(k≠5->el=[])/\ER bd/\ER el
def ER:List Sm->Prop
 |[]=>True
 |s::l=>Xq s/\ER l
end
theorem KQ(s:Sm):Xq s↔1<=s.k/\s.k<=9/\(s.k=1\/s.k=2->0<=s.od/\s.od<=3)/\aap s.k s.es/\VW s.es/\(s.k≠5->s.k≠6->s.bd=[])/\(s.k≠5->s.el=[])/\ER s.bd/\ER s.el:=by
 obtain⟨k,nm,on,od,es,bd,el,a,cN⟩:=s
 unfold Xq;exact Iff.rfl
theorem A9:∀l:List Sm,ER l↔∀e∈l,Xq e
 |[]=>by simp[ER]
 |e::l=>by simp[ER,A9 l]
theorem aeV(s:Sm):0<=dS s:=by
 have h0:0<=d0 s.es:=by unfold d0;split;exact EO _;exact Int.le_refl _
 rw[Xp]
 unfold sD
 repeat' split
 all_goals omega
theorem Xr:∀l:List Sm,0<=dB l
 |[]=>Int.le_refl _
 |s::l=>by
  have:=aeV s
  have:=Xr l
  unfold dB;omega
theorem aeW{s:Sm}(hw:Xq s):∃y r,uS s=y::r/\jJ y [125]=false/\jJ y Dg=false:=by
 obtain⟨k1,k9,_,qe,uI,_⟩:=(KQ s).1 hw
 obtain⟨e1,e2,e4,e7,e9⟩:=qe
 rw[vG]at uI
 have hx:∀e,Wf e->∀l,∃y r,uX e++l=y::r/\jJ y [125]=false/\jJ y Dg=false:=λe he l=>by
  obtain⟨y,r,h1,h2⟩:=Sw e he
  exact⟨y,r++l,by rw[h1];rfl,EP h2 (by decide),EP h2 (by decide)⟩
 rw[Xo]
 unfold sO
 by_cases c1:s.k=1
 ·rw[if_pos c1];exact⟨_,_,rfl,by decide,by decide⟩
 rw[if_neg c1]
 by_cases c2:s.k=2
 ·rw[if_pos c2];exact⟨_,_,rfl,by decide,by decide⟩
 rw[if_neg c2]
 by_cases c3:s.k=3
 ·rw[if_pos c3];exact⟨_,_,rfl,mM _ _,mM _ _⟩
 rw[if_neg c3]
 by_cases c4:s.k=4
 ·rw[if_pos c4]
  obtain⟨a,b,h,_⟩:=e4 c4
  rw[h]at uI ⊢
  exact hx a (uI a List.mem_cons_self) _
 rw[if_neg c4]
 by_cases c5:s.k=5
 ·rw[if_pos c5];exact⟨_,_,rfl,by decide,by decide⟩
 rw[if_neg c5]
 by_cases c6:s.k=6
 ·rw[if_pos c6];exact⟨_,_,rfl,by decide,by decide⟩
 rw[if_neg c6]
 by_cases c7:s.k=7
 ·rw[if_pos c7];exact⟨_,_,rfl,by decide,by decide⟩
 rw[if_neg c7]
 by_cases c8:s.k=8
 ·rw[if_pos c8];exact⟨_,_,rfl,by decide,by decide⟩
 rw[if_neg c8]
 obtain⟨a,h,_⟩:=e9 (by omega)
 rw[h]at uI ⊢
 exact hx a (uI a List.mem_cons_self) _
def PS(s:Sm):Prop:=∀(T:List Tk)(f:Nat)(q:RQ)(s':Sm)(r:RQ),pV T f q=some (s',r)->q.fe=0->0<=q.op->q.op<=50->(r.fe=0\/q.op+dS s<=50)->
 rK T q.at_ (uS s)->jJ (bT T (q.at_+(uS s).length)) Dg=false->r=mv q (uS s).length/\KP s'=KP s
theorem Jd{T:List Tk}:∀(l:List Sm)(acc:List Sm)(f:Nat)(q:RQ)(ss:List Sm)(r:RQ),kC T f acc q=some (ss,r)->(∀s∈l,PS s)->ER l->q.fe=0->1<=q.op->q.op<=50->(r.fe=0\/q.op+dB l<=50)->
  rK T q.at_ (uB l++[W [125]])->r=⟨q.at_+(uB l).length+1,q.op-1,q.fe,q.fa⟩/\rM ss=rM acc++rM l
 |l,acc,0,q,es,r,h,_,_,_,_,_,_,_=>by simp[kC]at h
 |[],acc,f+1,q,es,r,h,hp,_,hf,h1,h5,hd,hh=>by
  unfold kC at h
  have t1:bT T q.at_=W [125]:=hh.1
  rw[if_neg (by rintro⟨_,b⟩;rw[aV hf,t1]at b;revert b;decide)]at h
  cases h
  rw[ny hf (by rw[t1];decide) (by omega) (by omega)]
  exact⟨by simp[uB],by simp[rM]⟩
 |s::l,acc,f+1,q,es,r,h,hp,hw,hf,h1,h5,hd,hh=>by
  unfold kC at h
  unfold ER at hw
  obtain⟨y,l0,hy,y1,_⟩:=aeW hw.1
  simp only[uB,List.append_assoc]at hh
  rw[cW]at hh
  obtain⟨t1,t2⟩:=hh
  have ty:bT T q.at_=y:=by rw[hy]at t1;exact t1.1
  rw[if_pos ⟨hf,by rw[aV hf,ty];exact y1⟩]at h
  obtain⟨⟨x1,x2⟩,a1,a2⟩:=Option.bind_eq_some_iff.1 h
  dsimp only at a2
  have hm:dB (s::l)=max (dS s) (dB l):=rfl
  rw[hm]at hd
  have aeX:eL T x2 r:=((lH T f).2.2 _ _ _ _ a2)
  have rN:jJ (bT T (q.at_+(uS s).length)) Dg=false:=by
   cases l with
   |nil=>
    have:bT T (q.at_+(uS s).length)=W [125]:=t2.1
    rw[this];decide
   |cons s2 l2=>
    unfold ER at hw
    obtain⟨z,l3,hz,_,z2⟩:=aeW hw.2.1
    simp only[uB,hz,List.cons_append]at t2
    have:bT T (q.at_+(uS s).length)=z:=t2.1
    rw[this];exact z2
  obtain⟨rfl,b2⟩:=hp s List.mem_cons_self T f q x1 x2 a1 hf (by omega) h5 (hd.imp (λh=>aeX.mS h) λh=>by omega) t1 rN
  obtain⟨c1,c2⟩:=Jd l (acc++[x1]) f _ es r a2 (λy hy=>hp y (List.mem_cons_of_mem _ hy)) hw.2 hf h1 h5 (hd.imp id λh=>by simp only[mv];omega) t2
  refine⟨?_,?_⟩
  ·rw[c1]
   simp only[mv,uB,List.length_append,RQ.mk.injEq,and_true]
   omega
  ·rw[c2,Mx]
   simp only[rM,b2,List.append_assoc,List.cons_append,List.nil_append]
theorem fB{T:List Tk}{l:List Sm}{f:Nat}{q r:RQ}{ss:List Sm}(h:iD T f q=some (ss,r))(hp:∀s∈l,PS s)(hw:ER l)(hf:q.fe=0)(h0:0<=q.op)(hd:r.fe=0\/q.op+(dB l+1)<=50)
  (hh:rK T q.at_ (W [123]::(uB l++[W [125]]))):r=mv q ((uB l).length+2)/\rM ss=rM l:=by
 cases f with
 |zero=>simp[iD]at h
 |succ f=>
  unfold iD at h
  obtain⟨t1,t2⟩:=hh
  change bT T _=_ at t1
  have Np:=Xr l
  obtain⟨o1,o2⟩:=zj (d:=dB l+1) (r:=r) hf h0 (by rw[t1];decide) hd (by omega) ((lH T f).2.2 _ _ _ _ h)
  rw[o1]at h
  obtain⟨c1,c2⟩:=Jd l [] f (mN q) ss r h hp hw hf (by simp only[mN];omega) (by simp only[mN];omega) (hd.imp id λh=>by simp only[mN];omega) t2
  refine⟨?_,by rw[c2];rfl⟩
  rw[c1]
  simp only[mN,mv,RQ.mk.injEq,and_true]
  exact⟨by omega,by omega⟩
end A7
namespace A7
open Ax Go V7 kL lV
theorem wv{T:List Tk}{f:Nat}{q r:RQ}{e x:E}(hw:Wf e)(h:fA T f 0 q=some (x,r))(hf:q.fe=0)(h0:0<=q.op)(h5:q.op<=50)(hd:r.fe=0\/q.op+dX e<=50)(hh:rK T q.at_ (uX e))(hs:Az T 0 (q.at_+(uX e).length)) :
  r=mv q (uX e).length/\er x=er e:=by
 obtain⟨u1,u2⟩:=uG (l:=1) (e:=e) (sS e.k).1
 have:=(aam e hw).1 0 (by omega) T f q x r h hf h0 h5 (by rw[u2];exact hd) (by rw[u1];exact hh) (by rw[u1];exact hs)
 rw[u1]at this
 exact this
theorem zl{T:List Tk}{q:RQ}{nm on:List UInt8}{od:Int}{l:List TS}(hf:q.fe=0)(h0:0<=od)(h3:od<=3)(hh:rK T q.at_ (Nm nm::W [58]::(uT on od++l))) :
  cY T q=(⟨nm,on,od,(ey T q).a⟩,mv q ((uT on od).length+2))/\rK T (q.at_+((uT on od).length+2)) l:=by
 obtain⟨t1,t2,t3⟩:=hh
 rw[cW]at t3
 change bT T _=_ at t1
 change bT T _=_ at t2
 have e1:=nY hf t1
 have e2:cR T (ay q) [58]=ay (ay q):=gW (q:=ay q) hf (by rw[show bT T (ay q).at_=_ from t2];decide)
 have e3:=Gm (T:=T) (q:=ay (ay q)) hf h0 h3 t3.1
 unfold cY
 rw[e1]
 simp only
 rw[e2,e3]
 refine⟨?_,?_⟩
 ·simp only[Prod.mk.injEq,true_and]
  simp only[mv,ay,RQ.mk.injEq,and_true];omega
 ·have:=t3.2
  rw[show q.at_+((uT on od).length+2)=q.at_+1+1+(uT on od).length by omega]
  exact this
theorem wX{T:List Tk}{q:RQ}{s:List UInt8}(ht:bT T q.at_=W s)(hf:q.fe=0):cR T q s=mv q 1:=gW hf (by rw[ht];simp[jJ,W])
theorem aaq{x e:E}(h:er x=er e):x.k=e.k:=by
 rw[rL,rL]at h
 exact(E.mk.inj h).1
theorem aeY{x e:E}(h:er x=er e):gx x.k x.nm=gx e.k e.nm:=by
 rw[rL,rL]at h
 exact(E.mk.inj h).2.2.1
theorem qc(k:Int)(nm on:List UInt8)(od:Int)(es:List E)(bd el:List Sm)(a cN:Int):KP (.mk k nm on od es bd el a cN)=.mk k (cg k nm) (bH k on) (bJ k od) (l8 es) (rM bd) (rM el) 0 0:=by
 (conv=>lhs;unfold KP)<;>rfl
theorem Xs{q:RQ}{a b:Nat}(h:a=b):mv q a=mv q b:=by rw[h]
theorem CP(s:Sm):Xq s->PS s:=by
 induction s using Sm.vp with
 |_ s sZ tu=>
  intro hw T f q s' r h hf h0 h5 hd hh rN
  obtain⟨k1,k9,hod,qe,uI,CW,NS,hwb,hwe⟩:=(KQ s).1 hw
  obtain⟨e1,e2,e4,e7,e9⟩:=qe
  have pb:∀x∈s.bd,PS x:=λx hx=>sZ x hx ((A9 _).1 hwb x hx)
  have pe:∀x∈s.el,PS x:=λx hx=>tu x hx ((A9 _).1 hwe x hx)
  rw[vG]at uI
  have he:=Gr s
  rw[Xo]at hh rN ⊢
  rw[Xp]at hd
  unfold sO at hh rN ⊢
  unfold sD at hd
  cases f with
  |zero=>simp[pV]at h
  |succ f=>
  unfold pV at h
  rw[aV (q:=q) hf,aV (q:=q) hf,aV (q:=q) hf,aV (q:=q) hf,aV (q:=q) hf,aV (q:=q) hf]at h
  by_cases c1:s.k=1
  ·rw[if_pos c1]at hh rN ⊢
   obtain⟨t,hh⟩:=hh
   change bT T _=_ at t
   obtain⟨o0,o3⟩:=hod (.inl c1)
   obtain⟨p1,p2⟩:=zl (q:=ay q) hf o0 o3 hh
   have t2:bT T (mv (ay q) ((uT s.on s.od).length+2)).at_=W [59]:=p2.1
   rw[t,if_pos (by decide),p1,gW (q:=mv (ay q) _) hf (by rw[t2];decide)]at h
   cases h
   refine⟨by simp only[mv,ay,List.length_cons,List.length_append,List.length_nil,RQ.mk.injEq,and_true];omega,?_⟩
   rw[qc,he,c1,CW (by omega) (by omega),NS (by omega),e1 c1]
  rw[if_neg c1]at hh rN ⊢
  by_cases c2:s.k=2
  ·rw[if_pos c2]at hh rN ⊢
   rw[if_neg (by omega),if_neg (by omega),if_neg (by omega),if_neg (by omega)]at hd
   obtain⟨e,zm⟩:=e2 (.inl c2)
   rw[zm]at hh uI hd ⊢
   simp only[x0,d0]at hh hd ⊢
   obtain⟨t,hh⟩:=hh
   change bT T _=_ at t
   obtain⟨o0,o3⟩:=hod (.inr c2)
   obtain⟨p1,p2⟩:=zl (q:=ay q) hf o0 o3 hh
   rw[iZ,cW]at p2
   obtain⟨t2,t3,t4,_⟩:=p2
   have Gq:bT T (mv (ay q) ((uT s.on s.od).length+2)).at_=W [61]:=t2
   rw[t,if_neg (by decide),if_pos (by decide),p1,gW (q:=mv (ay q) _) hf (by rw[Gq];decide)]at h
   obtain⟨⟨y1,y2⟩,a1,a2⟩:=Option.bind_eq_some_iff.1 h
   simp only[Option.some.injEq,Prod.mk.injEq]at a2
   obtain⟨rfl,rfl⟩:=a2
   have OE:bT T (mv (mv (mv (ay q) ((uT s.on s.od).length+2)) 1) (uX e).length).at_=W [59]:=t4
   obtain⟨rfl,b2⟩:=wv (uI e List.mem_cons_self) a1 hf h0 h5 (hd.imp (λh=>aN.mS h) id) t3 (jc OE (by decide))
   rw[wX OE hf]
   refine⟨by simp only[mv,ay,List.length_cons,List.length_append,List.length_nil,RQ.mk.injEq,and_true];omega,?_⟩
   rw[qc,he,c2,CW (by omega) (by omega),NS (by omega),zm]
   simp only[l8,b2]
  rw[if_neg c2]at hh rN ⊢
  by_cases c3:s.k=3
  ·rw[if_pos c3]at hh rN ⊢
   rw[if_neg (by omega),if_neg (by omega),if_neg (by omega),if_neg (by omega)]at hd
   obtain⟨e,zm⟩:=e2 (.inr (.inl c3))
   rw[zm]at hh uI hd ⊢
   simp only[x0,d0]at hh hd ⊢
   obtain⟨t,t2,hh⟩:=hh
   rw[cW]at hh
   obtain⟨t3,t4,_⟩:=hh
   change bT T _=_ at t
   change bT T _=_ at t2
   rw[t]at h
   simp only[mM,Bool.false_eq_true,if_false]at h
   unfold nh at h
   obtain⟨⟨y1,y2⟩,a1,a2⟩:=Option.bind_eq_some_iff.1 h
   dsimp only at a2
   have hwv:Wf (Em 4 0 s.nm [] 0 [] 0):=(I9 _).2 ⟨rfl,(λh=>absurd h (by simp[Em,E.k])),(λh=>absurd h (by simp[Em,E.k])),trivial⟩
   have hg:r.fe=0->y2.fe=0:=λhr=>by
    split at a2
    ·obtain⟨⟨z1,z2⟩,b1,b2⟩:=Option.bind_eq_some_iff.1 a2
     simp only[Option.some.injEq,Prod.mk.injEq]at b2
     obtain⟨_,rfl⟩:=b2
     have h1:=(aN.trans ((eF b1).trans aN)).mS hr
     split at h1
     ·exact h1
     ·exact(eW.mS h1)
    ·simp only[Option.some.injEq,Prod.mk.injEq]at a2
     obtain⟨_,rfl⟩:=a2
     have h1:=aN.mS hr
     split at h1
     ·exact eW.mS h1
     ·exact h1
   have hdz:y2.fe=0\/q.op+dX (Em 4 0 s.nm [] 0 [] 0)<=50:=hd.imp hg λh=>by
    have:dX (Em 4 0 s.nm [] 0 [] 0)=0:=rfl
    have:=EO e
    omega
   obtain⟨rfl,b2⟩:=wv hwv a1 hf h0 h5 hdz ⟨t,trivial⟩ (jc (x:=W [61]) t2 (by decide))
   have hk4:y1.k=4:=aaq b2
   have hnm:y1.nm=s.nm:=by have:=aeY b2;rw[hk4]at this;exact this
   have Gq:bT T (mv q (uX (Em 4 0 s.nm [] 0 [] 0)).length).at_=W [61]:=t2
   rw[aV (q:=mv q _) hf,Gq,if_pos (by decide),if_pos (.inl hk4),gW (q:=mv q _) hf (by rw[Gq];decide)]at a2
   obtain⟨⟨z1,z2⟩,b1,b3⟩:=Option.bind_eq_some_iff.1 a2
   rw[if_pos hk4]at b3
   simp only[Option.some.injEq,Prod.mk.injEq]at b3
   obtain⟨rfl,rfl⟩:=b3
   have OE:bT T (mv (mv (mv q (uX (Em 4 0 s.nm [] 0 [] 0)).length) 1) (uX e).length).at_=W [59]:=t4
   obtain⟨rfl,d2⟩:=wv (uI e List.mem_cons_self) b1 hf h0 h5 (hd.imp (λh=>aN.mS h) id) t3 (jc OE (by decide))
   rw[wX OE hf]
   refine⟨?_,?_⟩
   ·have:(uX (Em 4 0 s.nm [] 0 [] 0)).length=1:=rfl
    simp only[mv,List.length_cons,List.length_append,List.length_nil,RQ.mk.injEq,and_true];omega
   ·rw[qc,he,c3,CW (by omega) (by omega),NS (by omega),zm,hnm]
    simp only[l8,d2]
    rfl
  rw[if_neg c3]at hh rN ⊢
  by_cases c4:s.k=4
  ·rw[if_pos c4]at hh rN ⊢
   rw[if_pos c4]at hd
   obtain⟨a,b,zm,hak⟩:=e4 c4
   rw[zm]at hh uI hd ⊢
   simp only[x0,x1,d0,d1]at hh hd ⊢
   have hwa:=uI a List.mem_cons_self
   obtain⟨y,l0,hy,hb⟩:=Sw a hwa
   rw[cW,iZ,cW]at hh
   obtain⟨t1,t2,t3,t4,_⟩:=hh
   have t:bT T q.at_=y:=by rw[hy]at t1;exact t1.1
   change bT T _=_ at t2
   have iP:∀w,(jJ (W I6) w||jJ (W Db) w||jJ (W I7) w||jJ (W Of) w||jJ (W Sr) w||jJ (W I8) w||jJ (W [45]) w||jJ (W [33]) w||jJ (W [40]) w)=false->jJ y w=false:=λw hw=>EP hb hw
   rw[t,iP _ (by decide),iP _ (by decide),iP _ (by decide),iP _ (by decide),iP _ (by decide),iP _ (by decide)]at h
   simp only[Bool.false_eq_true,if_false]at h
   unfold nh at h
   obtain⟨⟨y1,y2⟩,a1,a2⟩:=Option.bind_eq_some_iff.1 h
   dsimp only at a2
   have hg:r.fe=0->y2.fe=0:=λhr=>by
    split at a2
    ·obtain⟨⟨z1,z2⟩,b1,b2⟩:=Option.bind_eq_some_iff.1 a2
     simp only[Option.some.injEq,Prod.mk.injEq]at b2
     obtain⟨_,rfl⟩:=b2
     have h1:=(aN.trans ((eF b1).trans aN)).mS hr
     split at h1
     ·exact h1
     ·exact(eW.mS h1)
    ·simp only[Option.some.injEq,Prod.mk.injEq]at a2
     obtain⟨_,rfl⟩:=a2
     have h1:=aN.mS hr
     split at h1
     ·exact eW.mS h1
     ·exact h1
   obtain⟨rfl,b2⟩:=wv hwa a1 hf h0 h5 (hd.imp hg λh=>by omega) t1 (jc (x:=W [61]) t2 (by decide))
   have hk4:y1.k=5\/y1.k=6:=by rw[aaq b2];exact hak
   have Gq:bT T (mv q (uX a).length).at_=W [61]:=t2
   rw[aV (q:=mv q _) hf,Gq,if_pos (by decide),if_pos (.inr hk4),gW (q:=mv q _) hf (by rw[Gq];decide)]at a2
   obtain⟨⟨z1,z2⟩,b1,b3⟩:=Option.bind_eq_some_iff.1 a2
   rw[if_neg (by omega)]at b3
   simp only[Option.some.injEq,Prod.mk.injEq]at b3
   obtain⟨rfl,rfl⟩:=b3
   have OE:bT T (mv (mv (mv q (uX a).length) 1) (uX b).length).at_=W [59]:=t4
   obtain⟨rfl,d2⟩:=wv (uI b (List.mem_cons_of_mem _ List.mem_cons_self)) b1 hf h0 h5 (hd.imp (λh=>aN.mS h) λh=>by simp only[mv];omega) t3 (jc OE (by decide))
   rw[wX OE hf]
   refine⟨by simp only[mv,List.length_cons,List.length_append,List.length_nil,RQ.mk.injEq,and_true];omega,?_⟩
   rw[qc,he,c4,CW (by omega) (by omega),NS (by omega),zm]
   simp only[l8,b2,d2]
   rfl
  rw[if_neg c4]at hh rN ⊢
  rw[if_neg c4]at hd
  by_cases c5:s.k=5
  ·rw[if_pos c5]at hh rN ⊢
   rw[if_pos c5]at hd
   obtain⟨e,zm⟩:=e2 (by omega)
   rw[zm]at hh rN uI hd ⊢
   simp only[x0,d0]at hh rN hd ⊢
   obtain⟨t,hh⟩:=hh
   change bT T _=_ at t
   rw[cW]at hh
   obtain⟨t1,t2⟩:=hh
   have ff:rK T (q.at_+1+(uX e).length) (W [123]::(uB s.bd++[W [125]])):=by
    rw[iZ,cW]at t2 ⊢
    exact⟨t2.1,t2.2.1,t2.2.2.1,trivial⟩
   rw[t,if_neg (by decide),if_neg (by decide),if_pos (by decide)]at h
   obtain⟨⟨y1,y2⟩,a1,a2⟩:=Option.bind_eq_some_iff.1 h
   obtain⟨⟨z1,z2⟩,b1,b2⟩:=Option.bind_eq_some_iff.1 a2
   dsimp only at b1 b2
   have gz:r.fe=0->z2.fe=0:=λhr=>by
    split at b2
    ·obtain⟨⟨w1,w2⟩,c1,c2⟩:=Option.bind_eq_some_iff.1 b2
     simp only[Option.some.injEq,Prod.mk.injEq]at c2
     obtain⟨_,rfl⟩:=c2
     have:=(lI c1).1.mS hr
     exact this
    ·simp only[Option.some.injEq,Prod.mk.injEq]at b2
     obtain⟨_,rfl⟩:=b2
     exact hr
   obtain⟨rfl,d2⟩:=wv (uI e List.mem_cons_self) a1 hf h0 h5 (hd.imp (λh=>(lI b1).1.mS (gz h)) λh=>by simp only[ay];omega) t1 (jc (x:=W [123]) t2.1 (by decide))
   obtain⟨rfl,d4⟩:=fB b1 pb hwb hf h0 (hd.imp gz λh=>by simp only[mv,ay];omega) ff
   have t6:rK T (q.at_+1+(uX e).length+1+(uB s.bd).length+1) (if s.el.isEmpty=true then [] else W Dg::W [123]::(uB s.el++[W [125]])):=by
    rw[iZ,cW]at t2
    exact t2.2.2.2
   cases hE:s.el with
   |nil=>
    rw[hE]at rN t6
    simp only[List.isEmpty_nil,if_true]at rN t6
    have iP:fP T (mv (mv (ay q) (uX e).length) ((uB s.bd).length+2)) [101,108,115,101]=false:=by
     rw[aV (q:=mv (mv (ay q) (uX e).length) ((uB s.bd).length+2)) hf]
     have:(mv (mv (ay q) (uX e).length) ((uB s.bd).length+2)).at_=q.at_+(W wIf::(uX e++W [123]::(uB s.bd++W [125]::[]))).length:=by
      simp only[mv,ay,List.length_cons,List.length_append,List.length_nil];omega
     rw[this];exact rN
    rw[iP]at b2
    simp only[Bool.false_eq_true,if_false]at b2
    cases b2
    refine⟨by simp only[mv,ay,List.isEmpty_nil,if_true,List.length_cons,List.length_append,List.length_nil,RQ.mk.injEq,and_true];omega,?_⟩
    rw[qc,he,c5,zm,hE,d4]
    simp only[l8,d2]
    rfl
   |cons s2 l2=>
    rw[hE]at t6
    simp only[List.isEmpty_cons,Bool.false_eq_true,if_false]at t6
    rw[<-hE]at t6
    obtain⟨t7,t8⟩:=t6
    change bT T _=_ at t7
    have t7':bT T (mv (mv (ay q) (uX e).length) ((uB s.bd).length+2)).at_=W Dg:=by
     rw[<-t7];congr 1;simp only[mv,ay];omega
    rw[aV (q:=mv (mv (ay q) _) _) hf,t7',if_pos (by decide)]at b2
    obtain⟨⟨w1,w2⟩,c1,c2⟩:=Option.bind_eq_some_iff.1 b2
    simp only[Option.some.injEq,Prod.mk.injEq]at c2
    obtain⟨rfl,rfl⟩:=c2
    have hat:(ay (mv (mv (ay q) (uX e).length) ((uB s.bd).length+2))).at_=q.at_+1+(uX e).length+1+(uB s.bd).length+1+1:=by simp only[mv,ay];omega
    obtain⟨rfl,d6⟩:=fB c1 pe hwe hf h0 (hd.imp id λh=>by simp only[mv,ay];omega) (by rw[hat];exact t8)
    refine⟨?_,?_⟩
    ·have:(s2::l2).isEmpty=false:=rfl
     rw[this,<-hE]
     simp only[mv,ay,Bool.false_eq_true,if_false,List.length_cons,List.length_append,List.length_nil,RQ.mk.injEq,and_true];omega
    ·rw[qc,he,c5,zm,d4,d6]
     simp only[l8,d2]
     rfl
  rw[if_neg c5]at hh rN ⊢
  rw[if_neg c5]at hd
  by_cases c6:s.k=6
  ·rw[if_pos c6]at hh rN ⊢
   rw[if_pos c6]at hd
   obtain⟨e,zm⟩:=e2 (by omega)
   rw[zm]at hh uI hd ⊢
   simp only[x0,d0]at hh hd ⊢
   obtain⟨t,hh⟩:=hh
   change bT T _=_ at t
   rw[cW]at hh
   obtain⟨t1,t2⟩:=hh
   rw[t,if_neg (by decide),if_neg (by decide),if_neg (by decide),if_pos (by decide)]at h
   obtain⟨⟨y1,y2⟩,a1,a2⟩:=Option.bind_eq_some_iff.1 h
   obtain⟨⟨z1,z2⟩,b1,b2⟩:=Option.bind_eq_some_iff.1 a2
   simp only[Option.some.injEq,Prod.mk.injEq]at b2
   obtain⟨rfl,rfl⟩:=b2
   obtain⟨rfl,d2⟩:=wv (uI e List.mem_cons_self) a1 hf h0 h5 (hd.imp (λh=>(lI b1).1.mS h) λh=>by simp only[ay];omega) t1 (jc (x:=W [123]) t2.1 (by decide))
   obtain⟨rfl,d4⟩:=fB b1 pb hwb hf h0 (hd.imp id λh=>by simp only[mv,ay];omega) t2
   refine⟨by simp only[mv,ay,List.length_cons,List.length_append,List.length_nil,RQ.mk.injEq,and_true];omega,?_⟩
   rw[qc,he,c6,zm,d4,NS (by omega)]
   simp only[l8,d2]
   rfl
  rw[if_neg c6]at hh rN ⊢
  rw[if_neg c6,if_neg c1]at hd
  by_cases c7:s.k=7
  ·rw[if_pos c7]at hh rN ⊢
   obtain⟨t,hh⟩:=hh
   change bT T _=_ at t
   rw[t,if_neg (by decide),if_neg (by decide),if_neg (by decide),if_neg (by decide),if_pos (by decide)]at h
   rcases e7 c7 with zm|⟨e,zm⟩
   ·rw[zm]at hh ⊢
    simp only[x0,List.nil_append]at hh ⊢
    have t2:bT T (ay q).at_=W [59]:=hh.1
    rw[aV (q:=ay q) hf,t2,if_pos (by decide),gW (q:=ay q) hf (by rw[t2];decide)]at h
    cases h
    refine⟨rfl,?_⟩
    rw[qc,he,c7,zm,CW (by omega) (by omega),NS (by omega)]
    rfl
   ·rw[zm]at hh uI hd ⊢
    simp only[x0,d0]at hh hd ⊢
    rw[cW]at hh
    obtain⟨t1,t2,_⟩:=hh
    obtain⟨y,l0,hy,hb⟩:=Sw e (uI e List.mem_cons_self)
    have ty:bT T (ay q).at_=y:=by rw[hy]at t1;exact t1.1
    rw[aV (q:=ay q) hf,ty,EP hb (by decide)]at h
    simp only[Bool.false_eq_true,if_false]at h
    obtain⟨⟨y1,y2⟩,a1,a2⟩:=Option.bind_eq_some_iff.1 h
    simp only[Option.some.injEq,Prod.mk.injEq]at a2
    obtain⟨rfl,rfl⟩:=a2
    have Gq:bT T (mv (ay q) (uX e).length).at_=W [59]:=t2
    obtain⟨rfl,d2⟩:=wv (uI e List.mem_cons_self) a1 hf h0 h5 (hd.imp (λh=>aN.mS h) λh=>by simp only[ay];omega) t1 (jc Gq (by decide))
    rw[wX Gq hf]
    refine⟨by simp only[mv,ay,List.length_cons,List.length_append,List.length_nil,RQ.mk.injEq,and_true];omega,?_⟩
    rw[qc,he,c7,zm,CW (by omega) (by omega),NS (by omega)]
    simp only[l8,d2]
    rfl
  rw[if_neg c7]at hh rN ⊢
  by_cases c8:s.k=8
  ·rw[if_pos c8]at hh rN ⊢
   obtain⟨t,hh⟩:=hh
   change bT T _=_ at t
   rw[t,if_neg (by decide),if_neg (by decide),if_neg (by decide),if_neg (by decide),if_neg (by decide),if_pos (by decide)]at h
   obtain⟨e,zm⟩:=e2 (by omega)
   rw[zm]at hh uI hd ⊢
   simp only[x0,d0]at hh hd ⊢
   rw[cW]at hh
   obtain⟨t1,t2,_⟩:=hh
   obtain⟨⟨y1,y2⟩,a1,a2⟩:=Option.bind_eq_some_iff.1 h
   simp only[Option.some.injEq,Prod.mk.injEq]at a2
   obtain⟨rfl,rfl⟩:=a2
   have Gq:bT T (mv (ay q) (uX e).length).at_=W [59]:=t2
   obtain⟨rfl,d2⟩:=wv (uI e List.mem_cons_self) a1 hf h0 h5 (hd.imp (λh=>aN.mS h) λh=>by simp only[ay];omega) t1 (jc Gq (by decide))
   rw[wX Gq hf]
   refine⟨by simp only[mv,ay,List.length_cons,List.length_append,List.length_nil,RQ.mk.injEq,and_true];omega,?_⟩
   rw[qc,he,c8,zm,CW (by omega) (by omega),NS (by omega)]
   simp only[l8,d2]
   rfl
  rw[if_neg c8]at hh rN ⊢
  have c9:s.k=9:=by omega
  obtain⟨e,zm,hek⟩:=e9 c9
  rw[zm]at hh uI hd ⊢
  simp only[x0,d0]at hh hd ⊢
  rw[cW]at hh
  obtain⟨t1,t2,_⟩:=hh
  obtain⟨y,l0,hy,hb⟩:=Sw e (uI e List.mem_cons_self)
  have t:bT T q.at_=y:=by rw[hy]at t1;exact t1.1
  change bT T _=_ at t2
  have iP:∀w,(jJ (W I6) w||jJ (W Db) w||jJ (W I7) w||jJ (W Of) w||jJ (W Sr) w||jJ (W I8) w||jJ (W [45]) w||jJ (W [33]) w||jJ (W [40]) w)=false->jJ y w=false:=λw hw=>EP hb hw
  rw[t,iP _ (by decide),iP _ (by decide),iP _ (by decide),iP _ (by decide),iP _ (by decide),iP _ (by decide)]at h
  simp only[Bool.false_eq_true,if_false]at h
  unfold nh at h
  obtain⟨⟨y1,y2⟩,a1,a2⟩:=Option.bind_eq_some_iff.1 h
  dsimp only at a2
  have hg:r.fe=0->y2.fe=0:=λhr=>by
   split at a2
   ·obtain⟨⟨z1,z2⟩,b1,b2⟩:=Option.bind_eq_some_iff.1 a2
    simp only[Option.some.injEq,Prod.mk.injEq]at b2
    obtain⟨_,rfl⟩:=b2
    have h1:=(aN.trans ((eF b1).trans aN)).mS hr
    split at h1
    ·exact h1
    ·exact(eW.mS h1)
   ·simp only[Option.some.injEq,Prod.mk.injEq]at a2
    obtain⟨_,rfl⟩:=a2
    have h1:=aN.mS hr
    split at h1
    ·exact eW.mS h1
    ·exact h1
  have Gq:bT T (mv q (uX e).length).at_=W [59]:=t2
  obtain⟨rfl,d2⟩:=wv (uI e List.mem_cons_self) a1 hf h0 h5 (hd.imp hg id) t1 (jc Gq (by decide))
  have hk7:y1.k=7:=by rw[aaq d2];exact hek
  rw[aV (q:=mv q _) hf,aV (q:=mv q _) hf,Gq,if_neg (by decide),if_neg (by rintro⟨_,c⟩;exact c hk7),gW (q:=mv q _) hf (by rw[Gq];decide)]at a2
  cases a2
  refine⟨by simp only[mv,List.length_cons,List.length_append,List.length_nil,RQ.mk.injEq,and_true];omega,?_⟩
  rw[qc,he,c9,zm,CW (by omega) (by omega),NS (by omega)]
  simp only[l8,d2]
  rfl
end A7
namespace A7
open Ax Go V7 kL lV
def OF(p:PD):PD:=⟨p.name,p.on,p.od,0⟩
def pT(p:PD):List TS:=Nm p.name::W [58]::uT p.on p.od
def fT:List PD->List TS
 |[]=>[]
 |p::l=>pT p++W [59]::fT l
def V1:List PD->List TS
 |[]=>[]
 |p::l=>W [44]::(pT p++V1 l)
def sU(l:List PD):List TS:=match l with | []=>[]|p::l=>pT p++V1 l
def ym(r:Rc):List TS:=W Vj::Nm r.name::W [123]::(fT r.cq++[W [125]])
def ae0(p:PD):List TS:=W L5::(pT p++[W [59]])
def sV(f:Fc):List TS:=W L6::Nm f.name::W [40]::(sU f.params++W [41]::((if f.bO then W [58]::uT f.on f.od else [])++W [123]::(uB f.body++[W [125]])))
def qd{α:Type}(g:α->List TS):List α->List TS
 |[]=>[]
 |x::l=>g x++qd g l
def uP(p:Pg):List TS:=qd ym p.bG++(qd ae0 p.globals++qd sV p.funcs)
def Jv(r:Rc):Rc:=⟨r.name,r.cq.map OF,0⟩
def vH(f:Fc):Fc:=⟨f.name,f.params.map OF,f.bO,f.on,f.od,rM f.body,0⟩
def erG(p:Pg):Pg:=⟨p.bG.map Jv,p.globals.map OF,p.funcs.map vH⟩
def Gs(p:PD):Prop:=0<=p.od/\p.od<=3
structure WfF (f:Fc):Prop where
 len:f.params.length<=6
 od:∀p∈f.params,Gs p
 br:0<=f.od/\f.od<=3
 no:f.bO=false->f.on=[]/\f.od=0
 body:ER f.body
structure WfP (p:Pg):Prop where
 rl:p.bG.length<=12
 gl:p.globals.length<=8
 fl:p.funcs.length<=16
 r:∀r∈p.bG,r.cq.length<=8/\∀p∈r.cq,Gs p
 g:∀q∈p.globals,Gs q
 f:∀f∈p.funcs,WfF f
theorem KR{T:List Tk}{q:RQ}{p:PD}{l:List TS}(hf:q.fe=0)(ho:Gs p)(hh:rK T q.at_ (pT p++l)):cY T q=(⟨p.name,p.on,p.od,(ey T q).a⟩,mv q (pT p).length)/\rK T (q.at_+(pT p).length) l:=by
 have h:=zl (T:=T) (q:=q) (nm:=p.name) (on:=p.on) (od:=p.od) (l:=l) hf ho.1 ho.2 hh
 have e:(pT p).length=(uT p.on p.od).length+2:=rfl
 rw[e];exact h
theorem o8{T:List Tk}:∀(l acc:List PD)(f:Nat)(q:RQ)(l':List PD)(r:RQ),iX T f acc q=some (l',r)->q.fe=0->(∀p∈l,Gs p)->acc.length+l.length<=8->rK T q.at_ (fT l++[W [125]])->
  r=mv q (fT l).length/\l'.map OF=(acc++l).map OF
 |l,acc,0,q,l',r,h,_,_,_,_=>by simp[iX]at h
 |[],acc,f+1,q,l',r,h,hf,_,_,hh=>by
  unfold iX at h
  have t1:bT T q.at_=W [125]:=hh.1
  rw[if_neg (by rintro⟨_,b⟩;rw[aV hf,t1]at b;revert b;decide)]at h
  cases h
  exact⟨rfl,by simp⟩
 |p::l,acc,f+1,q,l',r,h,hf,ho,hn,hh=>by
  unfold iX at h
  simp only[fT,List.append_assoc,List.cons_append]at hh
  have t1:bT T q.at_=Nm p.name:=hh.1
  simp only[List.length_cons]at hn
  rw[if_pos ⟨hf,by rw[aV hf,t1];exact mM _ _⟩,if_neg (by rintro⟨_,b⟩;omega)]at h
  obtain⟨e1,Og⟩:=KR hf (ho p List.mem_cons_self) hh
  rw[e1]at h
  simp only at h
  rw[iZ]at Og
  have t2:bT T (mv q (pT p).length).at_=W [59]:=Og.1
  rw[gW (q:=mv q _) hf (by rw[t2];decide)]at h
  obtain⟨c1,c2⟩:=o8 l _ f (mv (mv q (pT p).length) 1) l' r h hf (λx hx=>ho x (List.mem_cons_of_mem _ hx)) (by simp;omega) Og.2
  refine⟨?_,?_⟩
  ·rw[c1,yl,yl]
   simp only[fT,List.length_append,List.length_cons]
   exact Xs (by omega)
  ·rw[c2]
   simp[OF]
theorem zn{T:List Tk}:∀(l acc:List PD)(f:Nat)(q:RQ)(l':List PD)(r:RQ),iI T f acc q=some (l',r)->q.fe=0->(∀p∈l,Gs p)->acc.length+l.length<=6->rK T q.at_ (sU l++[W [41]])->
  r=mv q (sU l).length/\l'.map OF=(acc++l).map OF
 |l,acc,0,q,l',r,h,_,_,_,_=>by simp[iI]at h
 |[],acc,f+1,q,l',r,h,hf,_,_,hh=>by
  unfold iI at h
  have t1:bT T q.at_=W [41]:=hh.1
  rw[if_neg (by rintro⟨_,b⟩;rw[aV hf,t1]at b;revert b;decide)]at h
  cases h
  exact⟨rfl,by simp⟩
 |[p],acc,f+1,q,l',r,h,hf,ho,hn,hh=>by
  unfold iI at h
  simp only[sU,V1,List.append_nil]at hh ⊢
  have t1:bT T q.at_=Nm p.name:=hh.1
  simp only[List.length_cons,List.length_nil]at hn
  rw[if_pos ⟨hf,by rw[aV hf,t1];exact mM _ _⟩,if_neg (by rintro⟨_,b⟩;omega)]at h
  obtain⟨e1,Og⟩:=KR hf (ho p List.mem_cons_self) hh
  rw[e1]at h
  simp only at h
  have t2:bT T (mv q (pT p).length).at_=W [41]:=Og.1
  have ec:sG T (mv q (pT p).length)=mv q (pT p).length:=by
   unfold sG
   rw[aV (q:=mv q _) hf,t2,if_pos (by decide)]
  rw[ec]at h
  obtain⟨c1,c2⟩:=zn [] _ f (mv q (pT p).length) l' r h hf (λx hx=>by cases hx) (by simp;omega) Og
  exact⟨by rw[c1];rfl,by rw[c2];simp[OF]⟩
 |p::p2::l,acc,f+1,q,l',r,h,hf,ho,hn,hh=>by
  unfold iI at h
  simp only[sU,V1,List.append_assoc,List.cons_append]at hh ⊢
  have t1:bT T q.at_=Nm p.name:=hh.1
  simp only[List.length_cons]at hn
  rw[if_pos ⟨hf,by rw[aV hf,t1];exact mM _ _⟩,if_neg (by rintro⟨_,b⟩;omega)]at h
  obtain⟨e1,Og⟩:=KR hf (ho p List.mem_cons_self) hh
  rw[e1]at h
  simp only at h
  rw[iZ]at Og
  have t2:bT T (mv q (pT p).length).at_=W [44]:=Og.1
  have t3:bT T (mv (mv q (pT p).length) 1).at_=Nm p2.name:=Og.2.1
  have ec:sG T (mv q (pT p).length)=mv (mv q (pT p).length) 1:=by
   unfold sG
   rw[aV (q:=mv q _) hf,t2,if_neg (by decide),gW (q:=mv q _) hf (by rw[t2];decide),aV (q:=mv (mv q _) 1) hf,t3,mM]
   simp
  rw[ec]at h
  obtain⟨c1,c2⟩:=zn (p2::l) _ f (mv (mv q (pT p).length) 1) l' r h hf (λx hx=>ho x (List.mem_cons_of_mem _ hx)) (by simp;omega) (by
   simp only[sU,List.append_assoc]
   exact Og.2)
  refine⟨?_,?_⟩
  ·rw[c1,yl,yl]
   simp only[sU,List.length_append,List.length_cons]
   exact Xs (by omega)
  ·rw[c2]
   simp[OF]
theorem za{T:List Tk}{f:Nat}{q r:RQ}{x:Rc}{c:Rc}(h:mA T f q=some (x,r))(hf:q.fe=0)(hl:c.cq.length<=8)(ho:∀p∈c.cq,Gs p)(hh:rK T q.at_ (Nm c.name::W [123]::(fT c.cq++[W [125]]))) :
  r=mv q ((fT c.cq).length+3)/\Jv x=Jv c:=by
 obtain⟨t1,t2,t3⟩:=hh
 change bT T _=_ at t1
 change bT T _=_ at t2
 unfold mA at h
 rw[nY hf t1]at h
 simp only at h
 rw[gW (q:=ay q) hf (by rw[show bT T (ay q).at_=_ from t2];decide)]at h
 obtain⟨⟨y1,y2⟩,a1,a2⟩:=Option.bind_eq_some_iff.1 h
 cases a2
 obtain⟨rfl,b2⟩:=o8 c.cq [] f (mv (ay q) 1) y1 y2 a1 hf ho (by simpa using hl) t3
 rw[cW]at t3
 have t4:bT T (mv (mv (ay q) 1) (fT c.cq).length).at_=W [125]:=t3.2.1
 rw[wX t4 hf]
 refine⟨by simp only[mv,ay,RQ.mk.injEq,and_true];omega,?_⟩
 unfold Jv
 rw[b2]
 rfl
theorem F3{T:List Tk}{f:Nat}{q r:RQ}{x c:Fc}(h:pW T f q=some (x,r))(hf:q.fe=0)(h0:q.op=0)(hw:WfF c)(hd:r.fe=0\/dB c.body+1<=50)
  (hh:rK T q.at_ (Nm c.name::W [40]::(sU c.params++W [41]::((if c.bO then W [58]::uT c.on c.od else [])++W [123]::(uB c.body++[W [125]]))))) :
  r=mv q ((sU c.params).length+(if c.bO then W [58]::uT c.on c.od else []).length+(uB c.body).length+5)/\vH x=vH c:=by
 obtain⟨t1,t2,t3⟩:=hh
 change bT T _=_ at t1
 change bT T _=_ at t2
 unfold pW at h
 rw[nY hf t1]at h
 simp only at h
 rw[gW (q:=ay q) hf (by rw[show bT T (ay q).at_=_ from t2];decide)]at h
 obtain⟨⟨y1,y2⟩,a1,a2⟩:=Option.bind_eq_some_iff.1 h
 have Nc:rK T (q.at_+1+1) (sU c.params++[W [41]]):=by
  rw[cW,iZ]at t3 ⊢
  exact⟨t3.1,t3.2.1,trivial⟩
 obtain⟨rfl,b2⟩:=zn c.params [] f (mv (ay q) 1) y1 y2 a1 hf hw.od (by simpa using hw.len) Nc
 rw[cW,iZ]at t3
 obtain⟨_,t4,t5⟩:=t3
 have OE:bT T (mv (mv (ay q) 1) (sU c.params).length).at_=W [41]:=t4
 dsimp only at a2
 rw[wX OE hf]at a2
 have pa:∀s∈c.body,PS s:=λs hs=>CP s ((A9 _).1 hw.body s hs)
 cases hc:c.bO with
 |true=>
  rw[hc]at t5
  simp only[if_true,List.cons_append]at t5
  obtain⟨t6,t7⟩:=t5
  change bT T _=_ at t6
  rw[cW]at t7
  obtain⟨t8,t9⟩:=t7
  rw[aV (q:=mv (mv (mv (ay q) 1) (sU c.params).length) 1) hf,show bT T (mv (mv (mv (ay q) 1) (sU c.params).length) 1).at_=_ from t6,if_pos (by decide)]at a2
  rw[Gm (T:=T) (q:=ay (mv (mv (mv (ay q) 1) (sU c.params).length) 1)) hf hw.br.1 hw.br.2 t8]at a2
  obtain⟨⟨z1,z2⟩,c1,c2⟩:=Option.bind_eq_some_iff.1 a2
  cases c2
  obtain⟨rfl,d2⟩:=fB c1 pa hw.body hf (by simp only[mv,ay,h0];omega) (hd.imp id λh=>by simp only[mv,ay,h0];omega) t9
  refine⟨?_,?_⟩
  ·simp only[mv,ay,if_true,List.length_cons,RQ.mk.injEq,and_true];omega
  ·unfold vH
   rw[b2,d2,hc]
   rfl
 |false=>
  rw[hc]at t5
  simp only[Bool.false_eq_true,if_false,List.nil_append]at t5
  have t6:bT T (mv (mv (mv (ay q) 1) (sU c.params).length) 1).at_=W [123]:=t5.1
  rw[aV (q:=mv (mv (mv (ay q) 1) (sU c.params).length) 1) hf,t6,if_neg (by decide)]at a2
  obtain⟨⟨z1,z2⟩,c1,c2⟩:=Option.bind_eq_some_iff.1 a2
  cases c2
  obtain⟨rfl,d2⟩:=fB c1 pa hw.body hf (by simp only[mv,ay,h0];omega) (hd.imp id λh=>by simp only[mv,ay,h0];omega) t5
  refine⟨?_,?_⟩
  ·simp only[mv,ay,Bool.false_eq_true,if_false,List.length_nil,RQ.mk.injEq,and_true];omega
  ·unfold vH
   rw[b2,d2,hc,(hw.no hc).1,(hw.no hc).2]
   rfl
theorem ae1(s:List UInt8):(W s).1≠0:=Ev s
theorem My{T:List Tk}:∀(l acc:List Rc)(gs:List PD)(fs:List Fc)(f:Nat)(q:RQ)(p:Pg)(r:RQ)(rest:List TS),jv T f ⟨acc,gs,fs⟩ q=some (p,r)->q.fe=0->acc.length+l.length<=12->
  (∀r∈l,r.cq.length<=8/\∀p∈r.cq,Gs p)->rK T q.at_ (qd ym l++rest)->∃f2 V2,jv T f2 ⟨V2,gs,fs⟩ (mv q (qd ym l).length)=some (p,r)/\V2.map Jv=(acc++l).map Jv
 |[],acc,gs,fs,f,q,p,r,rest,h,hf,_,_,hh=>⟨f,acc,h,by simp⟩
 |c::l,acc,gs,fs,0,q,p,r,rest,h,_,_,_,_=>by simp[jv]at h
 |c::l,acc,gs,fs,f+1,q,p,r,rest,h,hf,hn,hr,hh=>by
  unfold jv at h
  simp only[qd,ym,List.append_assoc,List.cons_append]at hh
  obtain⟨t,hh⟩:=hh
  change bT T _=_ at t
  simp only[List.length_cons]at hn
  rw[aV hf,aV hf,aV hf,Jb,t,if_pos ⟨hf,ae1 _⟩,if_neg (by
   rintro (⟨_,b⟩|⟨b,_⟩|⟨b,_⟩)
   ·simp only at b;omega
   ·revert b;decide
   ·revert b;decide),if_pos (by decide)]at h
  obtain⟨⟨x1,x2⟩,h1,h2⟩:=Option.bind_eq_some_iff.1 h
  have Tt:rK T (q.at_+1) (Nm c.name::W [123]::(fT c.cq++[W [125]])):=by
   obtain⟨u1,u2,u3⟩:=hh
   rw[cW]at u3
   refine⟨u1,u2,?_⟩
   rw[cW]
   exact⟨u3.1,u3.2.1,trivial⟩
  obtain⟨hl,ho⟩:=hr c List.mem_cons_self
  obtain⟨rfl,b2⟩:=za h1 hf hl ho Tt
  have Og:rK T ((ay q).at_+((fT c.cq).length+3)) (qd ym l++rest):=by
   obtain⟨u1,u2,u3⟩:=hh
   rw[cW]at u3
   have:=u3.2.2
   simp only[List.nil_append]at this
   rw[show (ay q).at_+((fT c.cq).length+3)=q.at_+1+1+1+(fT c.cq).length+1 by simp only[ay];omega]
   exact this
  obtain⟨f2,V2,c1,c2⟩:=My l (acc++[x1]) gs fs f (mv (ay q) ((fT c.cq).length+3)) p r rest h2 hf (by simp;omega) (λx hx=>hr x (List.mem_cons_of_mem _ hx)) Og
  refine⟨f2,V2,?_,?_⟩
  ·have:mv q (qd ym (c::l)).length=mv (mv (ay q) ((fT c.cq).length+3)) (qd ym l).length:=by
    simp only[mv,ay,qd,ym,List.length_append,List.length_cons,List.length_nil,RQ.mk.injEq,and_true];omega
   rw[this];exact c1
  ·rw[c2]
   simp[b2]
end A7
namespace Lx
open Ax Go V7 kL A7 U2 N7
def Je(r:List AV):TS:=yh (RA r)
def Lx(l:List UInt8)(ts:List TS):Prop:=∀a n:Nat,l.length+1<=n->∃rows,tq n (a+eE l) (l.drop (eE l))=(rows,none)/\rows.map Je=ts
theorem KS(d:Bool)(r:List UInt8):∀P:List UInt8,nT d (P++32::r)=nT d (P++[32])/\nT d (P++[32])<=P.length
 |[]=>by
  have:pR d 32=false:=by cases d<;>decide
  simp[nT,this]
 |c::P=>by
  obtain⟨h1,h2⟩:=KS d r P
  simp only[List.cons_append,nT,h1,List.length_cons]
  split
  ·exact⟨trivial,by omega⟩
  ·exact⟨trivial,by omega⟩
theorem Mz(P r:List UInt8)(n:Nat)(h:n<=P.length):nI (P++32::r) n=nI (P++[32]) n:=by
 unfold nI
 rw[List.drop_append_of_le_length h,List.drop_append_of_le_length h]
 cases P.drop n with
 |nil=>rfl
 |cons a l=>rfl
theorem aar(a:Nat)(c:UInt8)(P r:List UInt8):∃row,lg a (c::P++32::r)=(row,(lg 0 (c::P++[32])).2)/\Je row=Je (lg 0 (c::P++[32])).1:=by
 have hr:=λd=>KS d r (c::P)
 have ht:∀n,n<=(c::P).length->(c::P++32::r).take n=(c::P++[32]).take n:=λn hn=>by
  rw[List.take_append_of_le_length hn,List.take_append_of_le_length hn]
 have hs:wj (c::P++32::r)=wj (c::P++[32]):=by
  cases P with
  |nil=>rfl
  |cons d P=>rfl
 unfold lg
 simp only[List.cons_append]at hr ht hs ⊢
 rw[(hr false).1,(hr true).1,hs,ht _ (hr false).2]
 split
 ·unfold oL
  split
  ·exact⟨_,rfl,rfl⟩
  ·split
   ·exact⟨_,rfl,rfl⟩
   ·exact⟨_,rfl,rfl⟩
 ·split
  ·unfold qT
   rw[ht _ (hr true).2]
   have hn:=Mz (c::P) r _ (hr true).2
   simp only[List.cons_append]at hn
   rw[hn]
   split
   ·exact⟨_,rfl,rfl⟩
   ·split
    ·exact⟨_,rfl,rfl⟩
    ·exact⟨_,rfl,rfl⟩
  ·unfold qC
   split
   ·exact⟨_,rfl,rfl⟩
   ·exact⟨_,rfl,rfl⟩
theorem Gt:∀{ts:List TS}{T:List Tk}{i:Nat},(T.drop i).map yh=ts->rK T i ts
 |[],_,_,_=>trivial
 |x::ts,T,i,h=>by
  have hi:i<T.length:=by
   rcases Nat.lt_or_ge i T.length with h1|h1
   ·exact h1
   ·rw[List.drop_eq_nil_of_le h1]at h;cases h
  rw[List.drop_eq_getElem_cons hi,List.map_cons]at h
  obtain⟨h1,h2⟩:=List.cons.inj h
  refine⟨?_,Gt h2⟩
  rw[List.getD_eq_getElem?_getD,List.getElem?_eq_getElem hi]
  exact h1
end Lx
