/-
  A program's tokens as it is printed, and what the parser makes of them: expressions.
-/
import Derived.Test.YtachcambnjecnaaP
import Derived.Test.YtachcambnjecnaaN

set_option maxRecDepth 100000
namespace nO
open Ax Go V7 j4 k8
abbrev TS:=Int×List UInt8×Int
def strip (c:Tk):TS:=(c.k,c.t,c.n)
def W (s:List UInt8):TS:=(kA s,s,0)
def Nm (s:List UInt8):TS:=(1,s,0)
def Nu (n:Int):TS:=(2,[],n)
def Has (T:List Tk):Nat->List TS->Prop
 |_,[]=>True
 |i,x::r=>strip (T.getD i Xw)=x/\Has T (i+1) r
theorem cG {T:List Tk}:∀{a b:List TS}{i:Nat},Has T i (a++b)↔Has T i a/\Has T (i+a.length) b
 |[],b,i=>by simp[Has]
 |x::a,b,i=>by
  have:=cG (T:=T) (a:=a) (b:=b) (i:=i+1)
  simp only[List.cons_append,Has,this,List.length_cons,and_assoc]
  rw[show i+1+a.length=i+(a.length+1) by omega]
theorem gX {T:List Tk}{x:TS}{a:List TS}{i:Nat}:Has T i (x::a)↔strip (T.getD i Xw)=x/\Has T (i+1) a:=Iff.rfl
def jn (x:TS)(s:List UInt8):Bool:=decide (x.1=kA s)&&decide (x.2.1=s)
def Ux (n:Nat)(x:TS):Int:=if x.1=4 then eZ (dg n) x.2.1 else 0
def bL (T:List Tk)(i:Nat):TS:=strip (T.getD i Xw)
variable {T:List Tk}{q:RQ}
theorem aO (hf:q.fe=0)(s:List UInt8):fy T q s=jn (bL T q.at_) s:=by simp[fy,jn,bL,strip,cur,hf]
theorem Ff (n:Nat):nG n (cur T q)=Ux n (bL T q.at_):=rfl
theorem nq {s:List UInt8}(hf:q.fe=0)(h:bL T q.at_=Nm s):cQ T q=(s,ay q):=by
 unfold bL strip Nm at h
 simp only[Prod.mk.injEq]at h
 unfold cQ cur
 rw[if_pos ⟨hf,h.1⟩,h.2.1]
def mv (q:RQ)(n:Nat):RQ:=⟨q.at_+n,q.op,q.fe,q.fa⟩
theorem Fg:ay q=mv q 1:=rfl
theorem xd (a b:Nat):mv (mv q a) b=mv q (a+b):=by simp[mv,Nat.add_assoc]
theorem adh (n:Nat):(mv q n).at_=q.at_+n:=rfl
theorem ga (hf:q.fe=0){s:List UInt8}(h:jn (bL T q.at_) s=true):cC T q s=mv q 1:=by
 unfold cC;rw[aO hf,h];rfl
theorem vH {n:Int}(h : -100<=n)(h2:n<=100):IntKind.i64.wrap n=n:=by rw[wrap64]<;>omega
def lW (q:RQ):RQ:=⟨q.at_+1,q.op+1,q.fe,q.fa⟩
theorem MO (hf:q.fe=0){s:List UInt8}(h:jn (bL T q.at_) s=true):(fL T q s=lW q/\q.op<50\/(fL T q s).fe≠0/\50<=q.op)\/q.op<0:=by
 by_cases h0:q.op<0
 ·exact .inr h0
 left
 unfold fL
 rw[aO hf,h]
 by_cases h5:50<=q.op
 ·rw[if_pos (by simp[h5])]
  exact .inr ⟨iX (by decide),h5⟩
 ·rw[if_neg (by simp[h5]),ga hf h]
  refine .inl ⟨?_,by omega⟩
  unfold oO mv lW
  simp only
  rw[vH (by omega) (by omega)]
theorem mJ (hf:q.fe=0){s:List UInt8}(h:jn (bL T q.at_) s=true)(h0:0<=q.op)(h1:q.op<=51):jt T q s=⟨q.at_+1,q.op-1,q.fe,q.fa⟩:=by
 unfold jt
 rw[ga hf h]
 unfold oO mv
 simp only
 rw[vH (by omega) (by omega)]
 rfl
def MP:List UInt8:=[105,110,116]
def tA:List UInt8:=[98,111,111,108]
def YG (on:List UInt8):TS:=if on=MP\/on=tA then W on else Nm on
def uT (on:List UInt8)(od:Int):List TS:=List.replicate od.toNat (W [91])++YG on::List.replicate od.toNat (W [93])
theorem Q2 (on:List UInt8):jn (YG on) [91]=false:=by
 unfold YG
 split
 ·rename_i h
  rcases h with h|h<;>rw[h]<;>decide
 ·simp[jn,Nm,kA]
theorem K6:∀(k d:Nat)(q:RQ)(j:Nat)(x:TS),q.fe=0->j<=k->Has T q.at_ (List.replicate j (W [91])++[x])->jn x [91]=false->Du T k d q=(d+j,mv q j)
 |0,d,q,j,x,hf,hj,h,hx=>by
  have:j=0:=by omega
  subst this
  rfl
 |k+1,d,q,0,x,hf,hj,h,hx=>by
  unfold Du
  have h1:bL T q.at_=x:=h.1
  rw[aO hf,h1,hx]
  rfl
 |k+1,d,q,j+1,x,hf,hj,h,hx=>by
  unfold Du
  rw[List.replicate_succ,List.cons_append,gX]at h
  have h1:bL T q.at_=W [91]:=h.1
  have h2:jn (W [91]) [91]=true:=by decide
  rw[aO hf,h1,h2,if_pos rfl]
  have:=K6 k (d+1) (ay q) j x hf (by omega) h.2 hx
  rw[this,Fg,xd]
  rw[show d+1+j=d+(j+1) by omega,show 1+j=j+1 by omega]
theorem DL:∀(k:Nat)(q:RQ)(s:List UInt8),q.fe=0->Has T q.at_ (List.replicate k (W s))->oP T q s k=mv q k
 |0,q,s,hf,h=>rfl
 |k+1,q,s,hf,h=>by
  unfold oP
  rw[List.replicate_succ',cG]at h
  rw[DL k q s hf h.1]
  have h2:bL T (mv q k).at_=W s:=by
   have:=h.2.1
   simpa [mv,bL] using this
  rw[ga (q:=mv q k) hf (by rw[h2];simp[jn,W]),xd]
theorem Fh {on:List UInt8}{od:Int}(hf:q.fe=0)(h0:0<=od)(h3:od<=3)(h:Has T q.at_ (uT on od)):tY T q=((on,od),mv q (uT on od).length):=by
 obtain⟨k,rfl⟩:∃k:Nat,od=k:=⟨od.toNat,by omega⟩
 have hk:k<=3:=by omega
 unfold uT at h ⊢
 simp only[Int.toNat_natCast]at h ⊢
 have hL:Has T q.at_ (List.replicate k (W [91])++[YG on]):=by
  rw[cG]at h ⊢
  exact⟨h.1,h.2.1,trivial⟩
 have e1:=K6 3 0 q k (YG on) hf hk hL (Q2 on)
 rw[cG,gX,List.length_replicate]at h
 obtain⟨_,h2,h4⟩:=h
 have ht:bL T (mv q k).at_=YG on:=h2
 have hn:Xx T (mv q k)=(on,mv q (k+1)):=by
  unfold Xx
  rw[aO (q:=mv q k) hf,aO (q:=mv q k) hf,ht]
  unfold YG at ht ⊢
  split
  ·rename_i c
   have c1:(jn (W on) [105,110,116]||jn (W on) [98,111,111,108])=true:=by rcases c with c|c<;>rw[c]<;>decide
   rw[if_pos c]at ht
   rw[if_pos c1]
   have:(cur T (mv q k)).t=on:=by
    have:=congrArg (·.2.1) ht
    exact this
   rw[this,Fg,xd]
  ·rename_i c
   have c1:(jn (Nm on) [105,110,116]||jn (Nm on) [98,111,111,108])=false:=by simp[jn,Nm,kA]
   rw[if_neg c]at ht
   rw[c1]
   simp only[Bool.false_eq_true,if_false]
   rw[nq (q:=mv q k) hf ht,Fg,xd]
 unfold tY
 rw[e1]
 simp only[Nat.zero_add]
 have hb:fy T (mv q k) [91]=false:=by rw[aO (q:=mv q k) hf,ht,Q2]
 rw[hb,hn]
 simp only[Bool.false_eq_true,if_false]
 have:=DL (T:=T) k (mv q (k+1)) [93] hf (by
  rw[adh]
  have:q.at_+(k+1)=q.at_+k+1:=by omega
  rw[this];exact h4)
 rw[this,xd]
 simp
 congr 1
 omega
def ou (k:Int):Nat:=if k=24 then 1 else if k=23 then 2 else if 19<=k/\k<=22 then 3 else if k=14\/k=15 then 4 else if 16<=k/\k<=18 then 5 else if k=12\/k=13 then 6 else 7
def yq (k:Int):List UInt8:=if k=14 then [43] else if k=15 then [45] else if k=16 then [42] else if k=17 then [47] else if k=18 then [37] else if k=19 then [60] else if k=20 then [60,61] else if k=21 then [61,61] else if k=22 then [33,61] else if k=23 then [38,38] else [124,124]
def HW:List UInt8:=[116,114,117,101]
def Ch:List UInt8:=[102,97,108,115,101]
def HX:List UInt8:=[110,117,108,108]
def MQ:List UInt8:=[110,101,119]
def Q3:List UInt8:=[108,101,110]
def HY:List UInt8:=[114,101,97,100]
abbrev Kt:=Nat×List TS
def wr (l:Nat)(x:Kt):List TS:=if x.1<l then W [40]::(x.2++[W [41]]) else x.2
def g0 (ks:List Kt):Kt:=match ks with|x::_=>x | []=>(7,[])
def g1 (ks:List Kt):Kt:=match ks with|_::x::_=>x|_=>(7,[])
def JN:List Kt->List TS
 |[]=>[]
 |x::l=>W [44]::(x.2++JN l)
def args (ks:List Kt):List TS:=match ks with | []=>[]|x::l=>x.2++JN l
def uO (k n:Int)(nm on:List UInt8)(od:Int)(ks:List Kt):List TS:=
 if k=1 then [Nu n]
 else if k=2 then [W (if n=1 then HW else Ch)]
 else if k=3 then W HX::uT on od
 else if k=4 then [Nm nm]
 else if k=5 then wr 7 (g0 ks)++[W [46],Nm nm]
 else if k=6 then wr 7 (g0 ks)++W [91]::((g1 ks).2++[W [93]])
 else if k=7 then Nm nm::W [40]::(args ks++[W [41]])
 else if k=8 then [W MQ,Nm on]
 else if k=9 then W MQ::W [91]::(uT on od++W [93]::W [40]::((g0 ks).2++[W [41]]))
 else if k=10 then W Q3::W [40]::((g0 ks).2++[W [41]])
 else if k=11 then [W HY,W [40],W [41]]
 else if k=12 then W [45]::wr 6 (g0 ks)
 else if k=13 then W [33]::wr 6 (g0 ks)
 else wr (ou k) (g0 ks)++W (yq k)::wr (ou k+1) (g1 ks)
mutual
def uX:E->List TS
 |.mk k n nm on od kids _ _ _=>uO k n nm on od (Iu kids)
def Iu:List E->List Kt
 |[]=>[]
 |e::l=>(ou e.k,uX e)::Iu l
end
theorem Ci (e:E):uX e=uO e.k e.n e.nm e.on e.od (Iu e.kids):=by
 obtain⟨k,n,nm,on,od,kids,a,ty,ref⟩:=e
 (conv=>lhs;unfold uX)<;>rfl
def uW (l:Nat)(e:E):List TS:=wr l (ou e.k,uX e)
abbrev Kd:=Nat×Int
def wd (l:Nat)(x:Kd):Int:=if x.1<l then x.2+1 else x.2
def h0 (ks:List Kd):Kd:=match ks with|x::_=>x | []=>(7,0)
def h1 (ks:List Kd):Kd:=match ks with|_::x::_=>x|_=>(7,0)
def Ng:List Kd->Int
 |[]=>0
 |x::l=>max x.2 (Ng l)
def dO (k:Int)(ks:List Kd):Int:=
 if k=1\/k=2\/k=3\/k=4\/k=8 then 0
 else if k=5 then wd 7 (h0 ks)
 else if k=6 then max (wd 7 (h0 ks)) ((h1 ks).2+1)
 else if k=7 then Ng ks+1
 else if k=9\/k=10 then (h0 ks).2+1
 else if k=11 then 1
 else if k=12\/k=13 then wd 6 (h0 ks)+1
 else max (wd (ou k) (h0 ks)) (wd (ou k+1) (h1 ks))
mutual
def dX:E->Int
 |.mk k _ _ _ _ kids _ _ _=>dO k (FE kids)
def FE:List E->List Kd
 |[]=>[]
 |e::l=>(ou e.k,dX e)::FE l
end
theorem DM (e:E):dX e=dO e.k (FE e.kids):=by
 obtain⟨k,n,nm,on,od,kids,a,ty,ref⟩:=e
 (conv=>lhs;unfold dX)<;>rfl
def dW (l:Nat)(e:E):Int:=wd l (ou e.k,dX e)
mutual
def er:E->E
 |.mk k n nm on od kids _ _ _=>.mk k (jV k n) (fz k nm) (fM k on) (fN k od) (lp kids) 0 T0 0
def lp:List E->List E
 |[]=>[]
 |e::l=>er e::lp l
end
theorem qG (e:E):er e=.mk e.k (jV e.k e.n) (fz e.k e.nm) (fM e.k e.on) (fN e.k e.od) (lp e.kids) 0 T0 0:=by
 obtain⟨k,n,nm,on,od,kids,a,ty,ref⟩:=e
 (conv=>lhs;unfold er)<;>rfl
theorem K7:∀l r:List E,lp (l++r)=lp l++lp r
 |[],r=>rfl
 |e::l,r=>by simp only[List.cons_append,lp,K7 l r]
mutual
def Wf:E->Prop
 |.mk k n _ _ od kids _ _ _=>cR k n kids.length=true/\(k=3\/k=9->0<=od/\od<=3)/\(k=8->od=0)/\Nh kids
def Nh:List E->Prop
 |[]=>True
 |e::l=>Wf e/\Nh l
end
theorem HZ (e:E):Wf e↔cR e.k e.n e.kids.length=true/\(e.k=3\/e.k=9->0<=e.od/\e.od<=3)/\(e.k=8->e.od=0)/\Nh e.kids:=by
 obtain⟨k,n,nm,on,od,kids,a,ty,ref⟩:=e
 unfold Wf;exact Iff.rfl
theorem uv:∀l:List E,Nh l↔∀e∈l,Wf e
 |[]=>by simp[Nh]
 |e::l=>by simp[Nh,uv l]
def Stop (T:List Tk)(n i:Nat):Prop:=(∀m,n<=m->m<=4->Ux m (bL T i)=0)/\jn (bL T i) [46]=false/\jn (bL T i) [91]=false/\jn (bL T i) [40]=false
theorem Stop.mono {n m i:Nat}(h:Stop T n i)(hm:n<=m):Stop T m i:=⟨λk a b=>h.1 k (by omega) b,h.2⟩
end nO
namespace nO
open Ax Go V7 j4 k8
def Q4 (n:Nat)(x:TS):Bool:=(List.range 5).all (λm=>decide (m<n)||decide (Ux m x=0)) && !jn x [46] && !jn x [91] && !jn x [40]
theorem iF {T:List Tk}{n i:Nat}{x:TS}(hx:bL T i=x)(h:Q4 n x=true):Stop T n i:=by
 unfold Q4 at h
 simp only[Bool.and_eq_true,List.all_eq_true,Bool.not_eq_true',Bool.or_eq_true,decide_eq_true_eq,List.mem_range]at h
 obtain⟨⟨⟨a,b⟩,c⟩,d⟩:=h
 rw[<-hx]at a b c d
 exact⟨λm h1 h2=>(a m (by omega)).resolve_left (by omega),b,c,d⟩
theorem JO {k:Int}(h:14<=k)(h2:k<=24):Q4 (ou k) (W (yq k))=true/\Ux (ou k-1) (W (yq k))=k/\1<=ou k/\ou k<=5:=by
 have:k=14\/k=15\/k=16\/k=17\/k=18\/k=19\/k=20\/k=21\/k=22\/k=23\/k=24:=by omega
 rcases this with rfl|rfl|rfl|rfl|rfl|rfl|rfl|rfl|rfl|rfl|rfl<;>decide
theorem rI (k:Int):1<=ou k/\ou k<=7:=by
 unfold ou
 repeat' split
 all_goals omega
theorem K8 {k:Int}(h:ou k<=5):14<=k/\k<=24:=by
 unfold ou at h
 repeat' split at h
 all_goals omega
theorem YH {k:Int}(h:ou k=6):k=12\/k=13:=by
 unfold ou at h
 repeat' split at h
 all_goals omega
theorem La {k:Int}(h:ou k=7):¬(12<=k/\k<=24):=by
 unfold ou at h
 repeat' split at h
 all_goals omega
theorem Fi {l m:Nat}{e:E}(h:(ou e.k<l)↔(ou e.k<m)):uW l e=uW m e/\dW l e=dW m e:=by
 unfold uW dW wr wd
 simp only[h,and_self]
theorem tC {l:Nat}{e:E}(h:l<=ou e.k):uW l e=uX e/\dW l e=dX e:=by
 unfold uW dW wr wd
 simp only
 rw[if_neg (by omega),if_neg (by omega)]
 exact⟨rfl,rfl⟩
theorem YI {l:Nat}{e:E}(h:ou e.k<l):uW l e=W [40]::(uX e++[W [41]])/\dW l e=dX e+1:=by
 unfold uW dW wr wd
 simp only
 rw[if_pos h,if_pos h]
 exact⟨rfl,rfl⟩
theorem Q5 {l:Nat}{x:Kd}(h:0<=x.2):0<=wd l x:=by unfold wd;split<;>omega
theorem Fj:∀l:List E,FE l=l.map λe=>(ou e.k,dX e)
 |[]=>rfl
 |e::l=>by unfold FE;rw[Fj l];rfl
theorem VL:∀{l:List Kd},(∀x∈l,0<=x.2)->0<=Ng l
 |[],_=>Int.le_refl _
 |x::l,h=>by
  unfold Ng
  have:=h x List.mem_cons_self
  omega
theorem DN (e:E):0<=dX e:=by
 induction e using E.ind with
 |_ e ih=>
  have hk:∀x∈FE e.kids,0<=x.2:=by
   rw[Fj]
   intro x hx
   obtain⟨y,hy,rfl⟩:=List.mem_map.1 hx
   exact ih y hy
  have a0:0<=(h0 (FE e.kids)).2:=by
   unfold h0
   split
   ·rename_i x l heq;exact hk x (by rw[heq];exact List.mem_cons_self)
   ·exact Int.le_refl _
  have a1:0<=(h1 (FE e.kids)).2:=by
   unfold h1
   split
   ·rename_i y x l heq;exact hk x (by rw[heq];exact List.mem_cons_of_mem _ List.mem_cons_self)
   ·exact Int.le_refl _
  have a2:=VL hk
  have b1:=λl=>Q5 (l:=l) a0
  have b2:=λl=>Q5 (l:=l) a1
  rw[DM]
  unfold dO
  repeat' split
  ·omega
  ·exact b1 7
  ·have:=b1 7;omega
  ·omega
  ·omega
  ·omega
  ·have:=b1 6;omega
  ·have:=b1 (ou e.k);omega
theorem YJ {T:List Tk}{a r:RQ}(h:Good T a r)(hb:a.fe≠0):r.fe≠0:=by rw[(h.bad hb).1];exact hb
def PE (e:E)(n:Nat):Prop:=∀(T:List Tk)(f:Nat)(q:RQ)(e':E)(r:RQ),eO T f n q=some (e',r)->q.fe=0->0<=q.op->q.op<=50->(r.fe=0\/q.op+dW (n+1) e<=50)->
 Has T q.at_ (uW (n+1) e)->Stop T n (q.at_+(uW (n+1) e).length)->r=mv q (uW (n+1) e).length/\er e'=er e
def PC (e:E)(m:Nat):Prop:=∀(T:List Tk)(f:Nat)(q:RQ)(e':E)(r:RQ),eO T f m q=some (e',r)->q.fe=0->0<=q.op->q.op<=50->(r.fe=0\/q.op+dX e<=50)->
 Has T q.at_ (uX e)->Stop T (m+1) (q.at_+(uX e).length)->∃f2 e2,iJ T f2 m e2 (mv q (uX e).length)=some (e',r)/\er e2=er e
def PB (e:E):Prop:=∀(T:List Tk)(f:Nat)(q:RQ)(e':E)(r:RQ),jB T f q=some (e',r)->q.fe=0->0<=q.op->q.op<=50->(r.fe=0\/q.op+dW 7 e<=50)->
 Has T q.at_ (uW 7 e)->jn (bL T (q.at_+(uW 7 e).length)) [40]=false->∃f2 e2,eE T f2 e2 (mv q (uW 7 e).length)=some (e',r)/\er e2=er e
theorem Cj {T:List Tk}{f n:Nat}{a e':E}{q r:RQ}(h:iJ T f n a q=some (e',r))(hs:nG n (cur T q)=0):e'=a/\r=q:=by
 cases f with
 |zero=>simp[iJ]at h
 |succ f=>
  unfold iJ at h
  rw[if_neg (by rintro⟨_,c⟩;exact c hs)]at h
  cases h;exact⟨rfl,rfl⟩
theorem H6 {T:List Tk}{f:Nat}{a e':E}{q r:RQ}(h:eE T f a q=some (e',r))(h1:fy T q [46]=false)(h2:fy T q [91]=false):e'=a/\r=q:=by
 cases f with
 |zero=>simp[eE]at h
 |succ f=>
  unfold eE at h
  rw[h1,h2]at h
  simp only[Bool.false_eq_true,if_false]at h
  cases h;exact⟨rfl,rfl⟩
theorem uo {T:List Tk}{f n:Nat}{q r:RQ}{e':E}(h:eO T f n q=some (e',r))(hn:n<5):∃f2 x,eO T f2 (n+1) q=some x/\iJ T f2 n x.1 x.2=some (e',r):=by
 cases f with
 |zero=>simp[eO]at h
 |succ f=>
  unfold eO at h
  rw[if_neg (by omega)]at h
  obtain⟨x,h1,h2⟩:=Option.bind_eq_some_iff.1 h
  exact⟨f,x,h1,h2⟩
theorem Uy {e:E}{n:Nat}(hn:n<5)(hl:ou e.k≠n+1)(h:PE e (n+1)):PE e n:=by
 intro T f q e' r hp hf h0 h5 hd hh hs
 obtain⟨e1,e2⟩:=Fi (l:=n+1) (m:=n+1+1) (e:=e) (by omega)
 rw[e1]at hh hs ⊢
 rw[e2]at hd
 obtain⟨f2,⟨x1,x2⟩,a1,a2⟩:=uo hp hn
 have hd2:x2.fe=0\/q.op+dW (n+1+1) e<=50:=hd.imp (λh=>((jU T f2).2.1 _ _ _ _ _ a2).l5 h) id
 obtain⟨rfl,b2⟩:=h T f2 q x1 x2 a1 hf h0 h5 hd2 hh (hs.mono (by omega))
 obtain⟨rfl,rfl⟩:=Cj a2 (by rw[Ff];exact hs.1 n (Nat.le_refl _) (by omega))
 exact⟨rfl,b2⟩
theorem Uz {e:E}{n:Nat}(hl:ou e.k=n+1)(hn:n<=4)(h:PC e n):PE e n:=by
 intro T f q e' r hp hf h0 h5 hd hh hs
 obtain⟨e1,e2⟩:=tC (l:=n+1) (e:=e) (by omega)
 rw[e1]at hh hs ⊢
 rw[e2]at hd
 obtain⟨f2,x,a1,a2⟩:=h T f q e' r hp hf h0 h5 hd hh (hs.mono (by omega))
 obtain⟨rfl,rfl⟩:=Cj a1 (by rw[Ff];exact hs.1 n (Nat.le_refl _) hn)
 exact⟨rfl,a2⟩
theorem adi {e:E}(hl:ou e.k≠6)(h:PB e):PE e 5:=by
 intro T f q e' r hp hf h0 h5 hd hh hs
 obtain⟨e1,e2⟩:=Fi (l:=5+1) (m:=7) (e:=e) (by have:=(rI e.k).2;omega)
 rw[e1]at hh hs ⊢
 rw[e2]at hd
 cases f with
 |zero=>simp[eO]at hp
 |succ f=>
  unfold eO at hp
  rw[if_pos rfl]at hp
  obtain⟨f2,x,a1,a2⟩:=h T f q e' r hp hf h0 h5 hd hh hs.2.2.2
  obtain⟨rfl,rfl⟩:=H6 a1 (by rw[aO (q:=mv q _) hf];exact hs.2.1) (by rw[aO (q:=mv q _) hf];exact hs.2.2.1)
  exact⟨rfl,a2⟩
theorem tD {e:E}:∀(j n:Nat),n+j<=5->(∀i,i<j->ou e.k≠n+i+1)->PE e (n+j)->PE e n
 |0,_,_,_,h=>h
 |j+1,n,hn,hl,h=>by
  refine Uy (by omega) (hl 0 (by omega)) (tD j (n+1) (by omega) (λi hi=>?_) ?_)
  ·have:=hl (i+1) (by omega);omega
  ·rw[show n+1+j=n+(j+1) by omega];exact h
theorem opened {T:List Tk}{q r:RQ}{s:List UInt8}{d:Int}(hf:q.fe=0)(h0:0<=q.op)(ht:jn (bL T q.at_) s=true)(hd:r.fe=0\/q.op+d<=50)(hd1:1<=d)(hg:Good T (fL T q s) r):fL T q s=lW q/\q.op<50:=by
 rcases MO hf ht with (h|⟨h1,h2⟩)|h
 ·exact h
 ·rcases hd with hd|hd
  ·exact absurd hd (YJ hg h1)
  ·omega
 ·omega
theorem tf {T:List Tk}{f:Nat}{q r:RQ}{e x:E}(he:PE e 0)(h:jR T f q=some (x,r))(hf:q.fe=0)(h0:0<=q.op)(hd:r.fe=0\/q.op+(dX e+1)<=50)(hh:Has T q.at_ (W [40]::(uX e++[W [41]]))) :
  r=mv q ((uX e).length+2)/\er x=er e:=by
 cases f with
 |zero=>simp[jR]at h
 |succ f=>
  unfold jR at h
  obtain⟨⟨x1,x2⟩,a1,a2⟩:=Option.bind_eq_some_iff.1 h
  cases a2
  rw[gX,cG]at hh
  obtain⟨t1,t2,t3,_⟩:=hh
  have Mc:=DN e
  have t1':jn (bL T q.at_) [40]=true:=by show jn (strip _) _=true;rw[t1];decide
  obtain⟨o1,o2⟩:=opened (d:=dX e+1) hf h0 t1' hd (by omega) ((dJ a1).trans cz)
  rw[o1]at a1
  obtain⟨e1,e2⟩:=tC (l:=1) (e:=e) (rI e.k).1
  have hx2:x2.fe=0\/(lW q).op+dW (0+1) e<=50:=hd.imp (λh=>(cz).l5 h) (λh=>by rw[e2];simp only[lW];omega)
  have t3':bL T (q.at_+1+(uX e).length)=W [41]:=t3
  obtain⟨rfl,b2⟩:=he T f (lW q) x1 x2 a1 hf (by simp only[lW];omega) (by simp only[lW];omega) hx2 (by rw[e1];exact t2) (by rw[e1];exact iF t3' (by decide))
  rw[e1]
  have hc:=mJ (T:=T) (q:=mv (lW q) (uX e).length) (s:=[41]) hf (by show jn (bL T (q.at_+1+_)) _=true;rw[t3'];decide) (by simp only[mv,lW];omega) (by simp only[mv,lW];omega)
  rw[hc]
  refine⟨?_,b2⟩
  simp only[mv,lW,RQ.mk.injEq,and_true]
  omega
end nO
namespace nO
open Ax Go V7 j4 k8
def Q6 (x:TS):Bool:=decide (x.1=1)||decide (x.1=2)||decide (x=W HW)||decide (x=W Ch)||decide (x=W HX)||decide (x=W MQ)||decide (x=W Q3)||decide (x=W HY)||decide (x=W [45])||decide (x=W [33])||decide (x=W [40])
theorem Q7 {l:Nat}{x:Kt}(h:∃y r,x.2=y::r/\Q6 y=true):∃y r,wr l x=y::r/\Q6 y=true:=by
 unfold wr
 split
 ·exact⟨_,_,rfl,by decide⟩
 ·exact h
theorem JP {a b:List TS}(h:∃y r,a=y::r/\Q6 y=true):∃y r,a++b=y::r/\Q6 y=true:=by
 obtain⟨y,r,rfl,h⟩:=h
 exact⟨y,r++b,rfl,h⟩
theorem Ck {k n:Int}{l:List E}(h:cR k n l.length=true)(hk:k=5\/k=9\/k=10\/k=12\/k=13):∃a,l=[a]:=by
 have:l.length=1:=by
  unfold cR at h
  rw[if_neg (by omega),if_neg (by omega),if_neg (by omega),if_pos hk]at h
  simpa using h
 match l,this with
 |[a],_=>exact⟨a,rfl⟩
theorem JQ {k n:Int}{l:List E}(h:cR k n l.length=true)(hk:k=6\/14<=k):(∃a b,l=[a,b])/\k<=24:=by
 have:l.length=2/\k<=24:=by
  unfold cR at h
  rw[if_neg (by omega),if_neg (by omega),if_neg (by omega),if_neg (by omega)]at h
  simp at h
  omega
 obtain⟨h1,h2⟩:=this
 match l,h1 with
 |[a,b],_=>exact⟨⟨a,b,rfl⟩,h2⟩
theorem yu {k n:Int}{l:List E}(h:cR k n l.length=true)(hk:k=1\/k=2\/k=3\/k=4\/k=8\/k=11):l=[]:=by
 have:l.length=0:=by
  unfold cR at h
  split at h
  ·simpa using h
  split at h
  ·simp only[Bool.and_eq_true,decide_eq_true_eq]at h;exact h.1
  ·omega
 exact List.eq_nil_of_length_eq_zero this
theorem Ad {k n:Int}{m:Nat}(h:cR k n m=true):1<=k/\k<=24:=by
 unfold cR at h
 split at h
 ·omega
 split at h
 ·omega
 split at h
 ·omega
 split at h
 ·omega
 ·simp at h;omega
theorem Q8 (e:E):Wf e->∃y r,uX e=y::r/\Q6 y=true:=by
 induction e using E.ind with
 |_ e ih=>
  intro hw
  obtain⟨hk,_,_,tE⟩:=(HZ e).1 hw
  rw[uv]at tE
  have hki:=Ad hk
  have hg:(e.k=5\/e.k=6\/14<=e.k)->∃y r,(g0 (Iu e.kids)).2=y::r/\Q6 y=true:=λhc=>by
   have:∃a l,e.kids=a::l:=by
    by_cases h5:e.k=5
    ·obtain⟨a,h⟩:=Ck hk (.inl h5);exact⟨a,[],h⟩
    ·obtain⟨⟨a,b,h⟩,_⟩:=JQ hk (by omega);exact⟨a,[b],h⟩
   obtain⟨a,l,h⟩:=this
   rw[h]
   exact ih a (by rw[h];exact List.mem_cons_self) (tE a (by rw[h];exact List.mem_cons_self))
  rw[Ci]
  unfold uO
  by_cases c1:e.k=1
  ·rw[if_pos c1];exact⟨_,_,rfl,by simp[Q6,Nu]⟩
  rw[if_neg c1]
  by_cases c2:e.k=2
  ·rw[if_pos c2]
   by_cases c:e.n=1
   ·rw[if_pos c];exact⟨_,_,rfl,by decide⟩
   ·rw[if_neg c];exact⟨_,_,rfl,by decide⟩
  rw[if_neg c2]
  by_cases c3:e.k=3
  ·rw[if_pos c3];exact⟨_,_,rfl,by decide⟩
  rw[if_neg c3]
  by_cases c4:e.k=4
  ·rw[if_pos c4];exact⟨_,_,rfl,by simp[Q6,Nm]⟩
  rw[if_neg c4]
  by_cases c5:e.k=5
  ·rw[if_pos c5];exact JP (Q7 (hg (by omega)))
  rw[if_neg c5]
  by_cases c6:e.k=6
  ·rw[if_pos c6];exact JP (Q7 (hg (by omega)))
  rw[if_neg c6]
  by_cases c7:e.k=7
  ·rw[if_pos c7];exact⟨_,_,rfl,by simp[Q6,Nm]⟩
  rw[if_neg c7]
  by_cases c8:e.k=8
  ·rw[if_pos c8];exact⟨_,_,rfl,by decide⟩
  rw[if_neg c8]
  by_cases c9:e.k=9
  ·rw[if_pos c9];exact⟨_,_,rfl,by decide⟩
  rw[if_neg c9]
  by_cases zb:e.k=10
  ·rw[if_pos zb];exact⟨_,_,rfl,by decide⟩
  rw[if_neg zb]
  by_cases Is:e.k=11
  ·rw[if_pos Is];exact⟨_,_,rfl,by decide⟩
  rw[if_neg Is]
  by_cases G4:e.k=12
  ·rw[if_pos G4];exact⟨_,_,rfl,by decide⟩
  rw[if_neg G4]
  by_cases KL:e.k=13
  ·rw[if_pos KL];exact⟨_,_,rfl,by decide⟩
  rw[if_neg KL]
  exact JP (Q7 (hg (by omega)))
theorem DO {x:TS}(h:Q6 x=true){s:List UInt8}(hs:(jn (W HW) s||jn (W Ch) s||jn (W HX) s||jn (W MQ) s||jn (W Q3) s||jn (W HY) s||jn (W [45]) s||jn (W [33]) s||jn (W [40]) s)=false):jn x s=false:=by
 simp only[Bool.or_eq_false_iff]at hs
 obtain⟨⟨⟨⟨⟨⟨⟨⟨s1,s2⟩,s3⟩,s4⟩,s5⟩,s6⟩,s7⟩,s8⟩,s9⟩:=hs
 unfold Q6 at h
 simp only[Bool.or_eq_true,decide_eq_true_eq]at h
 have k1:kA s≠1/\kA s≠2:=by
  unfold kA
  split
  ·split<;>decide
  ·decide
 rcases h with (((((((((h|h)|h)|h)|h)|h)|h)|h)|h)|h)|h
 ·unfold jn;rw[h];simp[Ne.symm k1.1]
 ·unfold jn;rw[h];simp[Ne.symm k1.2]
 all_goals rw[h];assumption
theorem lV (s t:List UInt8):jn (Nm s) t=false:=by
 unfold jn Nm kA
 simp only
 split
 ·split<;>simp
 ·simp
theorem Q9 (n:Int)(t:List UInt8):jn (Nu n) t=false:=by
 unfold jn Nu kA
 simp only
 split
 ·split<;>simp
 ·simp
theorem Lb {T:List Tk}:∀(l:List E)(acc:List E)(f:Nat)(q:RQ)(es:List E)(r:RQ),nh T f acc q=some (es,r)->(∀e∈l,PE e 0)->q.fe=0->1<=q.op->q.op<=50->(r.fe=0\/q.op+Ng (FE l)<=50)->
  Has T q.at_ (JN (Iu l)++[W [41]])->r=⟨q.at_+(JN (Iu l)).length+1,q.op-1,q.fe,q.fa⟩/\lp es=lp acc++lp l
 |l,acc,0,q,es,r,h,_,_,_,_,_,_=>by simp[nh]at h
 |[],acc,f+1,q,es,r,h,hp,hf,h1,h5,hd,hh=>by
  unfold nh at h
  have t1:bL T q.at_=W [41]:=hh.1
  have e1:fy T q [44]=false:=by rw[aO hf,t1];decide
  rw[e1]at h
  simp only[Bool.false_eq_true,if_false]at h
  cases h
  rw[mJ hf (by rw[t1];decide) (by omega) (by omega)]
  exact⟨by simp[Iu,JN],by simp[lp]⟩
 |e::l,acc,f+1,q,es,r,h,hp,hf,h1,h5,hd,hh=>by
  unfold nh at h
  simp only[Iu,JN,List.cons_append,List.append_assoc]at hh
  rw[gX,cG]at hh
  obtain⟨t1,t2,t3⟩:=hh
  have t1':bL T q.at_=W [44]:=t1
  have e1:fy T q [44]=true:=by rw[aO hf,t1'];decide
  rw[e1,if_pos rfl]at h
  obtain⟨⟨x1,x2⟩,a1,a2⟩:=Option.bind_eq_some_iff.1 h
  dsimp only at a2
  obtain⟨u1,u2⟩:=tC (l:=1) (e:=e) (rI e.k).1
  have hm:Ng (FE (e::l))=max (dX e) (Ng (FE l)):=rfl
  rw[hm]at hd
  have hd1:x2.fe=0\/(ay q).op+dW (0+1) e<=50:=hd.imp (λh=>((jU T f).2.2.2.2.2.2.2.2 _ _ _ _ a2).l5 h) (λh=>by rw[u2];simp only[ay];omega)
  have eG:Stop T 0 (q.at_+1+(uX e).length):=by
   cases l with
   |nil=>exact iF (x:=W [41]) (by have:=t3.1;exact this) (by decide)
   |cons y l=>exact iF (x:=W [44]) (by have:=t3.1;exact this) (by decide)
  obtain⟨rfl,b2⟩:=hp e List.mem_cons_self T f (ay q) x1 x2 a1 hf (by simp only[ay];omega) (by simp only[ay];omega) hd1 (by rw[u1];exact t2) (by rw[u1];exact eG)
  rw[u1]at a2
  obtain⟨c1,c2⟩:=Lb l (acc++[x1]) f _ es r a2 (λy hy=>hp y (List.mem_cons_of_mem _ hy)) hf (by simp only[mv,ay];omega) (by simp only[mv,ay];omega) (hd.imp id λh=>by simp only[mv,ay];omega) t3
  refine⟨?_,?_⟩
  ·rw[c1]
   simp only[mv,ay,Iu,JN,List.length_cons,List.length_append,RQ.mk.injEq,and_true]
   omega
  ·rw[c2,K7]
   simp only[lp,b2,List.append_assoc,List.cons_append,List.nil_append]
theorem ER {T:List Tk}(l:List E)(f:Nat)(q:RQ)(es:List E)(r:RQ)(h:nL T f q=some (es,r))(hp:∀e∈l,PE e 0)(hw:∀e∈l,Wf e)(hf:q.fe=0)(h0:0<=q.op)(hd:r.fe=0\/q.op+(Ng (FE l)+1)<=50)
  (hh:Has T q.at_ (W [40]::(args (Iu l)++[W [41]]))):r=mv q ((args (Iu l)).length+2)/\lp es=lp l:=by
 cases f with
 |zero=>simp[nL]at h
 |succ f=>
  have hg:Good T (fL T q [40]) r:=by
   unfold nL at h
   split at h
   ·cases h;exact cz
   ·obtain⟨⟨x1,x2⟩,a1,a2⟩:=Option.bind_eq_some_iff.1 h
    exact(dJ a1).trans ((jU T f).2.2.2.2.2.2.2.2 _ _ _ _ a2)
  obtain⟨t1,hh⟩:=hh
  have t1':bL T q.at_=W [40]:=t1
  have Mc:0<=Ng (FE l):=VL λx hx=>by
   rw[Fj]at hx
   obtain⟨y,_,rfl⟩:=List.mem_map.1 hx
   exact DN y
  obtain⟨o1,o2⟩:=opened (d:=Ng (FE l)+1) hf h0 (by rw[t1'];decide) hd (by omega) hg
  unfold nL at h
  rw[o1]at h
  cases l with
  |nil=>
   have t2:bL T (q.at_+1)=W [41]:=hh.1
   have e1:fy T (lW q) [41]=true:=by rw[aO (q:=lW q) hf];show jn (bL T (q.at_+1)) _=true;rw[t2];decide
   rw[e1,if_pos rfl]at h
   cases h
   rw[mJ (q:=lW q) hf (by show jn (bL T (q.at_+1)) _=true;rw[t2];decide) (by simp only[lW];omega) (by simp only[lW];omega)]
   refine⟨?_,rfl⟩
   simp only[lW,mv,Iu,args,List.length_nil,RQ.mk.injEq,and_true]
   exact⟨trivial,by omega⟩
  |cons e l=>
   obtain⟨y,r0,hx,hb⟩:=Q8 e (hw e List.mem_cons_self)
   simp only[Iu,args,List.append_assoc]at hh
   rw[cG]at hh
   obtain⟨t2,t3⟩:=hh
   have Fk:bL T (q.at_+1)=y:=by rw[hx]at t2;exact t2.1
   have e1:fy T (lW q) [41]=false:=by rw[aO (q:=lW q) hf];show jn (bL T (q.at_+1)) _=false;rw[Fk];exact DO hb (by decide)
   rw[e1]at h
   simp only[Bool.false_eq_true,if_false]at h
   obtain⟨⟨x1,x2⟩,a1,a2⟩:=Option.bind_eq_some_iff.1 h
   dsimp only at a2
   obtain⟨u1,u2⟩:=tC (l:=1) (e:=e) (rI e.k).1
   have hm:Ng (FE (e::l))=max (dX e) (Ng (FE l)):=rfl
   rw[hm]at hd
   have hd1:x2.fe=0\/(lW q).op+dW (0+1) e<=50:=hd.imp (λh=>((jU T f).2.2.2.2.2.2.2.2 _ _ _ _ a2).l5 h) (λh=>by rw[u2];simp only[lW];omega)
   have eG:Stop T 0 (q.at_+1+(uX e).length):=by
    cases l with
    |nil=>exact iF (x:=W [41]) (by have:=t3.1;exact this) (by decide)
    |cons y l=>exact iF (x:=W [44]) (by have:=t3.1;exact this) (by decide)
   obtain⟨rfl,b2⟩:=hp e List.mem_cons_self T f (lW q) x1 x2 a1 hf (by simp only[lW];omega) (by simp only[lW];omega) hd1 (by rw[u1];exact t2) (by rw[u1];exact eG)
   rw[u1]at a2
   obtain⟨c1,c2⟩:=Lb l [x1] f _ es r a2 (λy hy=>hp y (List.mem_cons_of_mem _ hy)) hf (by simp only[mv,lW];omega) (by simp only[mv,lW];omega) (hd.imp id λh=>by simp only[mv,lW];omega) t3
   refine⟨?_,?_⟩
   ·rw[c1]
    simp only[mv,lW,Iu,args,List.length_append,RQ.mk.injEq,and_true]
    omega
   ·rw[c2]
    simp only[lp,b2,List.cons_append,List.nil_append]
end nO
namespace nO
open Ax Go V7 j4 k8
theorem DP (T:List Tk)(q:RQ):(cur T q).k=(bL T q.at_).1:=rfl
theorem Ra (T:List Tk)(q:RQ):(cur T q).t=(bL T q.at_).2.1:=rfl
theorem adk (T:List Tk)(q:RQ):(cur T q).n=(bL T q.at_).2.2:=rfl
theorem pX (k n:Int)(nm on:List UInt8)(od:Int)(ks:List E)(a:Int):er (Em k n nm on od ks a)=.mk k (jV k n) (fz k nm) (fM k on) (fN k od) (lp ks) 0 T0 0:=by
 rw[qG];rfl
theorem BU {T:List Tk}{f:Nat}{q r:RQ}{e x:E}(hw:Wf e)(hp:∀y∈e.kids,PE y 0)(h7:ou e.k=7)(h5:e.k≠5)(h6:e.k≠6)(h:jC T f q=some (x,r))(hf:q.fe=0)(h0:0<=q.op)
  (hd:r.fe=0\/q.op+dX e<=50) (hh:Has T q.at_ (uX e)) (hn:jn (bL T (q.at_+(uX e).length)) [40]=false):r=mv q (uX e).length/\er x=er e:=by
 obtain⟨hk,hod,ho8,tE⟩:=(HZ e).1 hw
 have hki:=Ad hk
 have aZ:=La h7
 have he:=qG e
 rw[Ci]at hh hn ⊢
 rw[DM]at hd
 unfold uO at hh hn ⊢
 unfold dO at hd
 cases f with
 |zero=>simp[jC]at h
 |succ f=>
 unfold jC at h
 rw[aO hf,aO hf,aO hf,aO hf,aO hf,aO hf,aO hf,DP]at h
 by_cases c1:e.k=1
 ·rw[if_pos c1]at hh ⊢
  have t:=hh.1
  change bL T q.at_=_ at t
  rw[t,if_pos ⟨hf,rfl⟩]at h
  cases h
  have uk:=yu hk (.inl c1)
  refine⟨rfl,?_⟩
  rw[pX,he,uk,c1,adk,t]
  rfl
 rw[if_neg c1]at hh hn ⊢
 by_cases c2:e.k=2
 ·rw[if_pos c2]at hh ⊢
  have t:=hh.1
  change bL T q.at_=_ at t
  have hn2:e.n=0\/e.n=1:=by
   rw[c2]at hk
   unfold cR at hk
   rw[if_neg (by omega),if_pos rfl]at hk
   simp only[Bool.and_eq_true,Bool.or_eq_true,decide_eq_true_eq]at hk
   exact hk.2
  have uk:=yu hk (.inr (.inl c2))
  rcases hn2 with c|c
  ·rw[c,if_neg (by decide)]at t
   rw[t,if_neg (by rintro⟨_,b⟩;revert b;decide),if_pos (by decide)]at h
   cases h
   refine⟨rfl,?_⟩
   rw[pX,he,uk,c2,Ra,t,c]
   rfl
  ·rw[c,if_pos rfl]at t
   rw[t,if_neg (by rintro⟨_,b⟩;revert b;decide),if_pos (by decide)]at h
   cases h
   refine⟨rfl,?_⟩
   rw[pX,he,uk,c2,Ra,t,c]
   rfl
 rw[if_neg c2]at hh hn ⊢
 by_cases c3:e.k=3
 ·rw[if_pos c3]at hh ⊢
  obtain⟨t,t2⟩:=hh
  change bL T q.at_=_ at t
  have uk:=yu hk (.inr (.inr (.inl c3)))
  rw[t,if_neg (by rintro⟨_,b⟩;revert b;decide),if_neg (by decide),if_pos (by decide)]at h
  obtain⟨d1,d2⟩:=hod (.inl c3)
  have e1:=Fh (T:=T) (q:=ay q) hf d1 d2 t2
  rw[e1]at h
  cases h
  refine⟨by simp only[ay,mv,List.length_cons,RQ.mk.injEq,and_true];omega,?_⟩
  rw[pX,he,uk,c3]
  rfl
 rw[if_neg c3]at hh hn ⊢
 by_cases c4:e.k=4
 ·rw[if_pos c4]at hh hn ⊢
  have t:=hh.1
  change bL T q.at_=_ at t
  have uk:=yu hk (.inr (.inr (.inr (.inl c4))))
  rw[t,if_neg (by rintro⟨_,b⟩;exact absurd b (by simp[Nm]))]at h
  simp only[lV,Bool.or_self,Bool.false_eq_true,if_false]at h
  rw[nq hf t]at h
  simp only at h
  rw[aO (q:=ay q) hf,show jn (bL T (ay q).at_) [40]=false from hn]at h
  simp only[Bool.false_eq_true,if_false]at h
  cases h
  refine⟨rfl,?_⟩
  rw[pX,he,uk,c4]
  rfl
 rw[if_neg c4,if_neg h5,if_neg h6]at hh hn ⊢
 by_cases c7:e.k=7
 ·rw[if_pos c7]at hh hn ⊢
  rw[if_neg (by omega),if_neg h5,if_neg h6,if_pos c7]at hd
  obtain⟨t,t2⟩:=hh
  change bL T q.at_=_ at t
  rw[t,if_neg (by rintro⟨_,b⟩;exact absurd b (by simp[Nm]))]at h
  simp only[lV,Bool.or_self,Bool.false_eq_true,if_false]at h
  rw[nq hf t]at h
  simp only at h
  have t3:bL T (ay q).at_=W [40]:=t2.1
  rw[aO (q:=ay q) hf,t3,if_pos (by decide)]at h
  obtain⟨⟨x1,x2⟩,a1,a2⟩:=Option.bind_eq_some_iff.1 h
  cases a2
  rw[uv]at tE
  obtain⟨rfl,b2⟩:=ER e.kids f (ay q) x1 _ a1 hp tE hf h0 (hd.imp id λh=>by simp only[ay];exact h) t2
  refine⟨by simp only[ay,mv,List.length_cons,List.length_append,List.length_nil,RQ.mk.injEq,and_true];omega,?_⟩
  rw[pX,he,c7,b2]
  rfl
 rw[if_neg c7]at hh hn ⊢
 by_cases c8:e.k=8
 ·rw[if_pos c8]at hh hn ⊢
  obtain⟨t,t2,_⟩:=hh
  change bL T q.at_=_ at t
  change bL T (q.at_+1)=_ at t2
  have uk:=yu hk (.inr (.inr (.inr (.inr (.inl c8)))))
  rw[t,if_neg (by rintro⟨_,b⟩;revert b;decide),if_neg (by decide),if_neg (by decide),if_pos (by decide)]at h
  cases f with
  |zero=>simp[kB]at h
  |succ f=>
   unfold kB at h
   rw[aO (q:=ay q) hf,show bL T (ay q).at_=_ from t2,lV]at h
   simp only[Bool.false_eq_true,if_false]at h
   rw[nq (q:=ay q) hf t2]at h
   cases h
   refine⟨rfl,?_⟩
   rw[pX,he,uk,c8,ho8 c8]
   rfl
 rw[if_neg c8]at hh hn ⊢
 rw[if_neg (by omega),if_neg h5,if_neg h6,if_neg c7]at hd
 by_cases c9:e.k=9
 ·rw[if_pos c9]at hh hn ⊢
  rw[if_pos (.inl c9)]at hd
  obtain⟨k0,uk⟩:=Ck hk (.inr (.inl c9))
  rw[uk]at hh hd hp ⊢
  simp only[Iu,FE,g0]at hh hd ⊢
  obtain⟨t,t2,hh⟩:=hh
  change bL T q.at_=_ at t
  change bL T (q.at_+1)=_ at t2
  rw[cG]at hh
  obtain⟨t3,t4,t5⟩:=hh
  change bL T _=_ at t4
  rw[t,if_neg (by rintro⟨_,b⟩;revert b;decide),if_neg (by decide),if_neg (by decide),if_pos (by decide)]at h
  cases f with
  |zero=>simp[kB]at h
  |succ f=>
   unfold kB at h
   rw[aO (q:=ay q) hf,show bL T (ay q).at_=_ from t2,if_pos (by decide)]at h
   obtain⟨d1,d2⟩:=hod (.inr c9)
   have e1:=Fh (T:=T) (q:=ay (ay q)) hf d1 d2 t3
   rw[e1]at h
   simp only at h
   have Ni:bL T (mv (ay (ay q)) (uT e.on e.od).length).at_=W [93]:=t4
   rw[ga (q:=mv (ay (ay q)) (uT e.on e.od).length) hf (by rw[Ni];decide)]at h
   obtain⟨⟨x1,x2⟩,a1,a2⟩:=Option.bind_eq_some_iff.1 h
   cases a2
   obtain⟨rfl,b2⟩:=tf (hp k0 List.mem_cons_self) a1 hf h0 (hd.imp id λh=>by simp only[ay,mv];exact h) t5
   refine⟨by simp only[ay,mv,List.length_cons,List.length_append,List.length_nil,RQ.mk.injEq,and_true];omega,?_⟩
   rw[pX,he,uk,c9]
   simp only[lp,b2]
   rfl
 rw[if_neg c9]at hh hn ⊢
 by_cases zb:e.k=10
 ·rw[if_pos zb]at hh hn ⊢
  rw[if_pos (.inr zb)]at hd
  obtain⟨k0,uk⟩:=Ck hk (.inr (.inr (.inl zb)))
  rw[uk]at hh hd hp ⊢
  simp only[Iu,FE,g0]at hh hd ⊢
  obtain⟨t,t2⟩:=hh
  change bL T q.at_=_ at t
  rw[t,if_neg (by rintro⟨_,b⟩;revert b;decide),if_neg (by decide),if_neg (by decide),if_neg (by decide),if_pos (by decide)]at h
  obtain⟨⟨x1,x2⟩,a1,a2⟩:=Option.bind_eq_some_iff.1 h
  cases a2
  obtain⟨rfl,b2⟩:=tf (q:=ay q) (hp k0 List.mem_cons_self) a1 hf h0 (hd.imp id λh=>by simp only[ay];exact h) t2
  refine⟨by simp only[ay,mv,List.length_cons,List.length_append,List.length_nil,RQ.mk.injEq,and_true];omega,?_⟩
  rw[pX,he,uk,zb]
  simp only[lp,b2]
  rfl
 rw[if_neg zb]at hh hn ⊢
 have Is:e.k=11:=by omega
 rw[if_pos Is]at hh hn ⊢
 rw[if_neg (by omega),if_pos Is]at hd
 obtain⟨t,t2,t3,_⟩:=hh
 change bL T q.at_=_ at t
 change bL T (q.at_+1)=_ at t2
 change bL T (q.at_+1+1)=_ at t3
 have uk:=yu hk (.inr (.inr (.inr (.inr (.inr Is)))))
 rw[t,if_neg (by rintro⟨_,b⟩;revert b;decide),if_neg (by decide),if_neg (by decide),if_neg (by decide),if_neg (by decide),if_pos (by decide)]at h
 cases h
 obtain⟨o1,o2⟩:=opened (q:=ay q) (s:=[40]) (d:=1) hf h0 (by rw[show bL T (ay q).at_=_ from t2];decide) hd (by omega) cz
 rw[o1,mJ (q:=lW (ay q)) hf (by rw[show bL T (lW (ay q)).at_=_ from t3];decide) (by simp only[lW,ay];omega) (by simp only[lW,ay]at o2 ⊢;omega)]
 refine⟨?_,?_⟩
 ·simp only[lW,ay,mv,List.length_cons,List.length_nil,RQ.mk.injEq,and_true]
  refine⟨trivial,by omega⟩
 ·rw[pX,he,uk,Is]
  rfl
end nO
namespace nO
open Ax Go V7 j4 k8
theorem H7 {T:List Tk}{f:Nat}{q r:RQ}{e':E}(h:jB T f q=some (e',r))(h1:fy T q [45]=false)(h2:fy T q [33]=false):∃g x,jC T g q=some x/\eE T g x.1 x.2=some (e',r):=by
 cases f with
 |zero=>simp[jB]at h
 |succ f=>
  unfold jB at h
  rw[h1,h2]at h
  simp only[Bool.or_self,Bool.false_eq_true,if_false]at h
  obtain⟨x,a1,a2⟩:=Option.bind_eq_some_iff.1 h
  exact⟨f,x,a1,a2⟩
theorem pY {T:List Tk}{f:Nat}{a e':E}{q r:RQ}(h:eE T f a q=some (e',r)):Good T q r:=(jU T f).2.2.2.1 _ _ _ _ h
theorem Rb {e:E}(hl:ou e.k<7)(he:PE e 0):PB e:=by
 intro T f q e' r h hf h0 h5 hd hh hn
 obtain⟨u1,u2⟩:=YI (l:=7) hl
 rw[u1]at hh ⊢
 rw[u2]at hd
 have t:bL T q.at_=W [40]:=hh.1
 obtain⟨g,⟨x1,x2⟩,a1,a2⟩:=H7 h (by rw[aO hf,t];decide) (by rw[aO hf,t];decide)
 cases g with
 |zero=>simp[jC]at a1
 |succ g=>
  unfold jC at a1
  rw[aO hf,aO hf,aO hf,aO hf,aO hf,aO hf,aO hf,DP,t]at a1
  rw[if_neg (by rintro⟨_,b⟩;revert b;decide),if_neg (by decide),if_neg (by decide),if_neg (by decide),if_neg (by decide),if_neg (by decide),if_pos (by decide)]at a1
  obtain⟨rfl,b2⟩:=tf he a1 hf h0 (hd.imp (λh=>(pY a2).l5 h) id) hh
  refine⟨g+1,x1,?_,b2⟩
  have e1:(W [40]::(uX e++[W [41]])).length=(uX e).length+2:=by simp
  rw[e1];exact a2
theorem ah4 {e:E}(hk:cR e.k e.n e.kids.length=true)(h7:ou e.k=7)(h5:e.k≠5)(h6:e.k≠6):∃y r,uX e=y::r/\jn y [45]=false/\jn y [33]=false:=by
 have hki:=Ad hk
 have aZ:=La h7
 rw[Ci]
 unfold uO
 by_cases c1:e.k=1
 ·rw[if_pos c1];exact⟨_,_,rfl,Q9 _ _,Q9 _ _⟩
 rw[if_neg c1]
 by_cases c2:e.k=2
 ·rw[if_pos c2]
  by_cases c:e.n=1
  ·rw[if_pos c];exact⟨_,_,rfl,by decide,by decide⟩
  ·rw[if_neg c];exact⟨_,_,rfl,by decide,by decide⟩
 rw[if_neg c2]
 by_cases c3:e.k=3
 ·rw[if_pos c3];exact⟨_,_,rfl,by decide,by decide⟩
 rw[if_neg c3]
 by_cases c4:e.k=4
 ·rw[if_pos c4];exact⟨_,_,rfl,lV _ _,lV _ _⟩
 rw[if_neg c4,if_neg h5,if_neg h6]
 by_cases c7:e.k=7
 ·rw[if_pos c7];exact⟨_,_,rfl,lV _ _,lV _ _⟩
 rw[if_neg c7]
 by_cases c8:e.k=8
 ·rw[if_pos c8];exact⟨_,_,rfl,by decide,by decide⟩
 rw[if_neg c8]
 by_cases c9:e.k=9
 ·rw[if_pos c9];exact⟨_,_,rfl,by decide,by decide⟩
 rw[if_neg c9]
 by_cases zb:e.k=10
 ·rw[if_pos zb];exact⟨_,_,rfl,by decide,by decide⟩
 rw[if_neg zb,if_pos (by omega)]
 exact⟨_,_,rfl,by decide,by decide⟩
theorem UA {e:E}(hw:Wf e)(hp:∀y∈e.kids,PE y 0)(h7:ou e.k=7)(h5':e.k≠5)(h6:e.k≠6):PB e:=by
 intro T f q e' r h hf h0 h5 hd hh hn
 obtain⟨u1,u2⟩:=tC (l:=7) (e:=e) (by omega)
 rw[u1]at hh hn ⊢
 rw[u2]at hd
 obtain⟨y,l,b1,b2,b3⟩:=ah4 ((HZ e).1 hw).1 h7 h5' h6
 have t:bL T q.at_=y:=by rw[b1]at hh;exact hh.1
 obtain⟨g,⟨x1,x2⟩,a1,a2⟩:=H7 h (by rw[aO hf,t,b2]) (by rw[aO hf,t,b3])
 obtain⟨rfl,c2⟩:=BU hw hp h7 h5' h6 a1 hf h0 (hd.imp (λh=>(pY a2).l5 h) id) hh hn
 exact⟨g,x1,a2,c2⟩
theorem Rd {e k0:E}(hk:e.k=5)(mq:e.kids=[k0])(YK:PB k0):PB e:=by
 intro T f q e' r h hf h0 h5 hd hh hn
 have hl:ou e.k=7:=by rw[hk];decide
 obtain⟨u1,u2⟩:=tC (l:=7) (e:=e) (by omega)
 have ex:uX e=uW 7 k0++[W [46],Nm e.nm]:=by
  rw[Ci,hk,mq];rfl
 have ed:dX e=dW 7 k0:=by rw[DM,hk,mq];rfl
 rw[u1,ex]at hh ⊢
 rw[u2,ed]at hd
 rw[cG]at hh
 obtain⟨t1,t2,t3,_⟩:=hh
 change bL T _=_ at t2
 change bL T _=_ at t3
 obtain⟨f2,e2,b1,b2⟩:=YK T f q e' r h hf h0 h5 hd t1 (by rw[t2];decide)
 cases f2 with
 |zero=>simp[eE]at b1
 |succ f2=>
  unfold eE at b1
  rw[aO (q:=mv q _) hf,show bL T (mv q (uW 7 k0).length).at_=_ from t2,if_pos (by decide)]at b1
  rw[nq (q:=ay (mv q (uW 7 k0).length)) hf t3]at b1
  refine⟨f2,Em 5 0 e.nm [] 0 [e2] (cur T (mv q (uW 7 k0).length)).a,?_,?_⟩
  ·simp only at b1
   have e1:mv q (uW 7 k0++[W [46],Nm e.nm]).length=ay (ay (mv q (uW 7 k0).length)):=by
    simp only[mv,ay,List.length_append,List.length_cons,List.length_nil,RQ.mk.injEq,and_true];omega
   rw[e1];exact b1
  ·rw[pX,qG e,hk,mq]
   simp only[lp,b2]
   rfl
theorem UB {e k0 k1:E}(hk:e.k=6)(mq:e.kids=[k0,k1])(YK:PB k0)(h1':PE k1 0):PB e:=by
 intro T f q e' r h hf h0 h5 hd hh hn
 have hl:ou e.k=7:=by rw[hk];decide
 obtain⟨u1,u2⟩:=tC (l:=7) (e:=e) (by omega)
 have ex:uX e=uW 7 k0++W [91]::(uX k1++[W [93]]):=by
  rw[Ci,hk,mq];rfl
 have ed:dX e=max (dW 7 k0) (dX k1+1):=by rw[DM,hk,mq];rfl
 rw[u1,ex]at hh ⊢
 rw[u2,ed]at hd
 rw[cG,gX,cG]at hh
 obtain⟨t1,t2,t3,t4,_⟩:=hh
 change bL T _=_ at t2
 change bL T _=_ at t4
 obtain⟨f2,e2,b1,b2⟩:=YK T f q e' r h hf h0 h5 (hd.imp id λh=>by omega) t1 (by rw[t2];decide)
 cases f2 with
 |zero=>simp[eE]at b1
 |succ f2=>
  unfold eE at b1
  rw[aO (q:=mv q _) hf,aO (q:=mv q _) hf,show bL T (mv q (uW 7 k0).length).at_=_ from t2,if_neg (by decide),if_pos (by decide)]at b1
  obtain⟨⟨x1,x2⟩,a1,a2⟩:=Option.bind_eq_some_iff.1 b1
  dsimp only at a2
  have Mc:=DN k1
  obtain⟨o1,o2⟩:=opened (q:=mv q (uW 7 k0).length) (s:=[91]) (d:=dX k1+1) (r:=r) hf h0 (by rw[show bL T (mv q (uW 7 k0).length).at_=_ from t2];decide) (hd.imp id λh=>by simp only[mv];omega) (by omega) ((dJ a1).trans (cz.trans (pY a2)))
  rw[o1]at a1
  simp only[mv]at o2
  obtain⟨v1,v2⟩:=tC (l:=1) (e:=k1) (rI k1.k).1
  have hd1:x2.fe=0\/(lW (mv q (uW 7 k0).length)).op+dW (0+1) k1<=50:=hd.imp (λh=>(cz.trans (pY a2)).l5 h) (λh=>by rw[v2];simp only[lW,mv];omega)
  obtain⟨rfl,c2⟩:=h1' T f2 (lW (mv q (uW 7 k0).length)) x1 x2 a1 hf (by simp only[lW,mv];omega) (by simp only[lW,mv];omega) hd1 (by rw[v1];exact t3) (by rw[v1];exact iF t4 (by decide))
  rw[v1]at a2
  rw[mJ (q:=mv (lW (mv q (uW 7 k0).length)) (uX k1).length) hf (by rw[show bL T (mv (lW (mv q (uW 7 k0).length)) (uX k1).length).at_=_ from t4];decide) (by simp only[mv,lW];omega) (by simp only[mv,lW];omega)]at a2
  refine⟨f2,Em 6 0 [] [] 0 [e2,x1] (cur T (mv q (uW 7 k0).length)).a,?_,?_⟩
  ·have e1:mv q (uW 7 k0++W [91]::(uX k1++[W [93]])).length=⟨(mv (lW (mv q (uW 7 k0).length)) (uX k1).length).at_+1,(mv (lW (mv q (uW 7 k0).length)) (uX k1).length).op-1,(mv (lW (mv q (uW 7 k0).length)) (uX k1).length).fe,(mv (lW (mv q (uW 7 k0).length)) (uX k1).length).fa⟩:=by
    simp only[mv,lW,List.length_append,List.length_cons,List.length_nil,RQ.mk.injEq,and_true]
    exact⟨by omega,by omega⟩
   rw[e1];exact a2
  ·rw[pX,qG e,hk,mq]
   simp only[lp,b2,c2]
   rfl
theorem adl {e k0:E}(hk:e.k=12\/e.k=13)(mq:e.kids=[k0])(YK:PE k0 5):PE e 5:=by
 intro T f q e' r h hf h0 h5 hd hh hs
 have hl:ou e.k=6:=by rcases hk with h|h<;>rw[h]<;>decide
 obtain⟨u1,u2⟩:=tC (l:=5+1) (e:=e) (by omega)
 have ex:uX e=W (if e.k=12 then [45] else [33])::uW 6 k0:=by
  rw[Ci,mq]
  rcases hk with h|h<;>rw[h]<;>rfl
 have ed:dX e=dW 6 k0+1:=by
  rw[DM,mq]
  rcases hk with h|h<;>rw[h]<;>rfl
 rw[u1,ex]at hh hs ⊢
 rw[u2,ed]at hd
 obtain⟨t1,t2⟩:=hh
 change bL T _=_ at t1
 have Mc:0<=dW 6 k0:=Q5 (DN k0)
 cases f with
 |zero=>simp[eO]at h
 |succ f=>
  unfold eO at h
  rw[if_pos rfl]at h
  cases f with
  |zero=>simp[jB]at h
  |succ f=>
   unfold jB at h
   rw[aO hf,aO hf,Ra,t1]at h
   have xA:(jn (W (if e.k=12 then [45] else [33])) [45]||jn (W (if e.k=12 then [45] else [33])) [33])=true:=by rcases hk with h|h<;>rw[h]<;>decide
   rw[xA,if_pos rfl]at h
   obtain⟨⟨x1,x2⟩,a1,a2⟩:=Option.bind_eq_some_iff.1 h
   simp only[Option.some.injEq,Prod.mk.injEq]at a2
   obtain⟨rfl,rfl⟩:=a2
   obtain⟨o1,o2⟩:=opened (q:=q) (s:=(W (if e.k=12 then [45] else [33])).2.1) (d:=dW 6 k0+1) (r:=oO x2 (-1)) hf h0 (by rw[t1];simp[jn,W]) hd (by omega) ((dJ a1).trans tZ)
   rw[o1]at a1
   have eG:Stop T 5 (q.at_+1+(uW (5+1) k0).length):=by
    have:q.at_+1+(uW (5+1) k0).length=q.at_+(W (if e.k=12 then [45] else [33])::uW 6 k0).length:=by simp only[List.length_cons,Nat.reduceAdd];omega
    rw[this];exact hs
   obtain⟨rfl,c2⟩:=YK T f (lW q) x1 x2 a1 hf (by simp only[lW];omega) (by simp only[lW];omega) (hd.imp id λh=>by simp only[lW,Nat.reduceAdd];omega) t2 eG
   refine⟨?_,?_⟩
   ·unfold oO mv lW
    simp only
    rw[vH (by omega) (by omega)]
    simp only[List.length_cons,RQ.mk.injEq,and_true]
    exact⟨by simp only[Nat.reduceAdd];omega,by omega⟩
   ·have Nb:(if jn (W (if e.k=12 then [45] else [33])) [45]=true then (12:Int) else 13)=e.k:=by rcases hk with h|h<;>rw[h]<;>decide
    rw[pX,Nb,qG e,mq]
    simp only[lp,c2]
    rcases hk with h|h<;>rw[h]<;>rfl
theorem YL {e k0 k1:E}{m:Nat}(hm:m<=4)(hl:ou e.k=m+1)(mq:e.kids=[k0,k1])(hc:ou k0.k=m+1->PC k0 m)(YK:PE k0 (m+1))(h1':PE k1 (m+1)):PC e m:=by
 intro T f q e' r h hf h0 h5 hd hh hs
 obtain⟨b1,b2⟩:=K8 (k:=e.k) (by omega)
 obtain⟨s1,s2,s3,s4⟩:=JO b1 b2
 have ex:uX e=uW (m+1) k0++W (yq e.k)::uW (m+2) k1:=by
  rw[Ci,mq]
  unfold uO
  rw[if_neg (by omega),if_neg (by omega),if_neg (by omega),if_neg (by omega),if_neg (by omega),if_neg (by omega),if_neg (by omega),if_neg (by omega),if_neg (by omega),if_neg (by omega),if_neg (by omega),if_neg (by omega),if_neg (by omega),hl]
  rfl
 have ed:dX e=max (dW (m+1) k0) (dW (m+2) k1):=by
  rw[DM,mq]
  unfold dO
  rw[if_neg (by omega),if_neg (by omega),if_neg (by omega),if_neg (by omega),if_neg (by omega),if_neg (by omega),if_neg (by omega),hl]
  rfl
 rw[ex]at hh hs ⊢
 rw[ed]at hd
 rw[cG,gX]at hh
 obtain⟨t1,t2,t3⟩:=hh
 change bL T _=_ at t2
 rw[hl]at s1 s2
 have eG:Stop T (m+1) (q.at_+(uW (m+1) k0).length):=iF t2 s1
 obtain⟨f2,e2,a1,a2⟩:∃f2 e2,iJ T f2 m e2 (mv q (uW (m+1) k0).length)=some (e',r)/\er e2=er k0:=by
  by_cases uk:ou k0.k=m+1
  ·obtain⟨u1,u2⟩:=tC (l:=m+1) (e:=k0) (by omega)
   rw[u1]at t1 eG ⊢
   rw[u2]at hd
   exact hc uk T f q e' r h hf h0 h5 (hd.imp id λh=>by omega) t1 eG
  ·obtain⟨u1,u2⟩:=Fi (l:=m+1) (m:=m+1+1) (e:=k0) (by omega)
   obtain⟨f2,⟨x1,x2⟩,a1,a2⟩:=uo h (by omega)
   rw[u1]at t1 eG ⊢
   rw[u2]at hd
   obtain⟨rfl,c2⟩:=YK T f2 q x1 x2 a1 hf h0 h5 (hd.imp (λh=>((jU T f2).2.1 _ _ _ _ _ a2).l5 h) λh=>by omega) t1 eG
   exact⟨f2,x1,a2,c2⟩
 cases f2 with
 |zero=>simp[iJ]at a1
 |succ f2=>
  unfold iJ at a1
  have xz:nG m (cur T (mv q (uW (m+1) k0).length))=e.k:=by
   rw[Ff,show bL T (mv q (uW (m+1) k0).length).at_=_ from t2]
   exact s2
  rw[xz,if_pos ⟨hf,by omega⟩]at a1
  obtain⟨⟨x1,x2⟩,c1,c2⟩:=Option.bind_eq_some_iff.1 a1
  dsimp only at c2
  have LM:Stop T (m+1) ((ay (mv q (uW (m+1) k0).length)).at_+(uW (m+1+1) k1).length):=by
   have:(ay (mv q (uW (m+1) k0).length)).at_+(uW (m+1+1) k1).length=q.at_+(uW (m+1) k0++W (yq e.k)::uW (m+2) k1).length:=by
    rw[show uW (m+1+1) k1=uW (m+2) k1 from rfl];simp only[ay,mv,List.length_append,List.length_cons];omega
   rw[this];exact hs
  obtain⟨rfl,d2⟩:=h1' T f2 (ay (mv q (uW (m+1) k0).length)) x1 x2 c1 hf h0 h5 (hd.imp (λh=>((jU T f2).2.1 _ _ _ _ _ c2).l5 h) λh=>by rw[show dW (m+1+1) k1=dW (m+2) k1 from rfl];simp only[ay,mv];omega) t3 LM
  refine⟨f2,Em e.k 0 [] [] 0 [e2,x1] (cur T (mv q (uW (m+1) k0).length)).a,?_,?_⟩
  ·have e1:mv q (uW (m+1) k0++W (yq e.k)::uW (m+2) k1).length=mv (ay (mv q (uW (m+1) k0).length)) (uW (m+1+1) k1).length:=by
    rw[show uW (m+1+1) k1=uW (m+2) k1 from rfl];simp only[ay,mv,List.length_append,List.length_cons,RQ.mk.injEq,and_true];omega
   rw[e1];exact c2
  ·rw[pX,qG e,mq]
   simp only[lp,a2,d2]
   have QZ:∀n:Int,jV e.k n=0:=λn=>by unfold jV;rw[if_neg (by omega)]
   have Q0:∀n:List UInt8,fz e.k n=[]:=λn=>by unfold fz;rw[if_neg (by omega)]
   have RM:∀n:List UInt8,fM e.k n=[]:=λn=>by unfold fM;rw[if_neg (by omega)]
   have k4':∀n:Int,fN e.k n=0:=λn=>by unfold fN;rw[if_neg (by omega)]
   rw[QZ,QZ,Q0,Q0,RM,RM,k4',k4']
theorem YM (e:E):Wf e->(∀n,n<=5->PE e n)/\PB e/\(∀m,ou e.k=m+1->m<=4->PC e m):=by
 induction e using E.ind with
 |_ e ih=>
  intro hw
  obtain⟨hk,hod,ho8,tE⟩:=(HZ e).1 hw
  rw[uv]at tE
  have hki:=Ad hk
  have hp:∀y∈e.kids,(∀n,n<=5->PE y n)/\PB y/\(∀m,ou y.k=m+1->m<=4->PC y m):=λy hy=>ih y hy (tE y hy)
  obtain⟨l1,l2⟩:=rI e.k
  by_cases h7:ou e.k=7
  ·have hB:PB e:=by
    by_cases h5:e.k=5
    ·obtain⟨a,ha⟩:=Ck hk (.inl h5)
     exact Rd h5 ha (hp a (by rw[ha];exact List.mem_cons_self)).2.1
    by_cases h6:e.k=6
    ·obtain⟨⟨a,b,ha⟩,_⟩:=JQ hk (.inl h6)
     exact UB h6 ha (hp a (by rw[ha];exact List.mem_cons_self)).2.1 ((hp b (by rw[ha];exact List.mem_cons_of_mem _ List.mem_cons_self)).1 0 (by omega))
    exact UA hw (λy hy=>(hp y hy).1 0 (by omega)) h7 h5 h6
   have h5:=adi (by omega) hB
   refine⟨λn hn=>tD (5-n) n (by omega) (λi hi=>by omega) ?_,hB,λm hm hm4=>by omega⟩
   rw[show n+(5-n)=5 by omega];exact h5
  by_cases h6:ou e.k=6
  ·have Km:=YH h6
   obtain⟨a,ha⟩:=Ck hk (by omega)
   have h5:PE e 5:=adl Km ha ((hp a (by rw[ha];exact List.mem_cons_self)).1 5 (by omega))
   have hE:∀n,n<=5->PE e n:=λn hn=>tD (5-n) n (by omega) (λi hi=>by omega) (by rw[show n+(5-n)=5 by omega];exact h5)
   exact⟨hE,Rb (by omega) (hE 0 (by omega)),λm hm hm4=>by omega⟩
  ·obtain⟨b1,b2⟩:=K8 (k:=e.k) (by omega)
   obtain⟨⟨a,b,ha⟩,_⟩:=JQ hk (.inr b1)
   have pa:=hp a (by rw[ha];exact List.mem_cons_self)
   have pb:=hp b (by rw[ha];exact List.mem_cons_of_mem _ List.mem_cons_self)
   have hC:∀m,ou e.k=m+1->m<=4->PC e m:=λm hm hm4=>YL hm4 hm ha (λuk=>pa.2.2 m uk hm4) (pa.1 (m+1) (by omega)) (pb.1 (m+1) (by omega))
   obtain⟨L,hL⟩:∃L,ou e.k=L+1:=⟨ou e.k-1,by omega⟩
   have hS:PE e L:=Uz hL (by omega) (hC L hL (by omega))
   have adm:∀n,n<=L->PE e n:=λn hn=>tD (L-n) n (by omega) (λi hi=>by omega) (by rw[show n+(L-n)=L by omega];exact hS)
   have hB:PB e:=Rb (by omega) (adm 0 (by omega))
   have h5:=adi (by omega) hB
   refine⟨λn hn=>?_,hB,hC⟩
   by_cases hnL:n<=L
   ·exact adm n hnL
   ·exact tD (5-n) n (by omega) (λi hi=>by omega) (by rw[show n+(5-n)=5 by omega];exact h5)
end nO
namespace nO
open Ax Go V7 j4 k8
def ah5:List UInt8:=[118,97,114]
def ah6:List UInt8:=[108,101,116]
def wIf:List UInt8:=[105,102]
def Cl:List UInt8:=[101,108,115,101]
def YN:List UInt8:=[119,104,105,108,101]
def ah7:List UInt8:=[114,101,116,117,114,110]
def YO:List UInt8:=[112,114,105,110,116]
def x0 (es:List E):List TS:=match es with|e::_=>uX e | []=>[]
def x1 (es:List E):List TS:=match es with|_::e::_=>uX e|_=>[]
def d0 (es:List E):Int:=match es with|e::_=>dX e | []=>0
def d1 (es:List E):Int:=match es with|_::e::_=>dX e|_=>0
def sO (k:Int)(nm on:List UInt8)(od:Int)(es:List E)(b c:List TS)(ce:Bool):List TS:=
 if k=1 then W ah5::Nm nm::W [58]::(uT on od++[W [59]])
 else if k=2 then W ah6::Nm nm::W [58]::(uT on od++W [61]::(x0 es++[W [59]]))
 else if k=3 then Nm nm::W [61]::(x0 es++[W [59]])
 else if k=4 then x0 es++W [61]::(x1 es++[W [59]])
 else if k=5 then W wIf::(x0 es++W [123]::(b++W [125]::(if ce then [] else W Cl::W [123]::(c++[W [125]]))))
 else if k=6 then W YN::(x0 es++W [123]::(b++[W [125]]))
 else if k=7 then W ah7::(x0 es++[W [59]])
 else if k=8 then W YO::(x0 es++[W [59]])
 else x0 es++[W [59]]
mutual
def uS:Sm->List TS
 |.mk k nm on od es bd el _ _=>sO k nm on od es (uB bd) (uB el) el.isEmpty
def uB:List Sm->List TS
 |[]=>[]
 |s::l=>uS s++uB l
end
theorem VM (s:Sm):uS s=sO s.k s.nm s.on s.od s.es (uB s.bd) (uB s.el) s.el.isEmpty:=by
 obtain⟨k,nm,on,od,es,bd,el,a,ref⟩:=s
 (conv=>lhs;unfold uS)<;>rfl
def sD (k:Int)(es:List E)(b c:Int):Int:=
 if k=4 then max (d0 es) (d1 es)
 else if k=5 then max (d0 es) (max (b+1) (c+1))
 else if k=6 then max (d0 es) (b+1)
 else if k=1 then 0 else d0 es
mutual
def dS:Sm->Int
 |.mk k _ _ _ es bd el _ _=>sD k es (dB bd) (dB el)
def dB:List Sm->Int
 |[]=>0
 |s::l=>max (dS s) (dB l)
end
theorem VN (s:Sm):dS s=sD s.k s.es (dB s.bd) (dB s.el):=by
 obtain⟨k,nm,on,od,es,bd,el,a,ref⟩:=s
 (conv=>lhs;unfold dS)<;>rfl
mutual
def Iv:Sm->Sm
 |.mk k nm on od es bd el _ _=>.mk k (bO k nm) (bh k on) (bn k od) (lp es) (tF bd) (tF el) 0 0
def tF:List Sm->List Sm
 |[]=>[]
 |s::l=>Iv s::tF l
end
theorem Fl (s:Sm):Iv s=.mk s.k (bO s.k s.nm) (bh s.k s.on) (bn s.k s.od) (lp s.es) (tF s.bd) (tF s.el) 0 0:=by
 obtain⟨k,nm,on,od,es,bd,el,a,ref⟩:=s
 (conv=>lhs;unfold Iv)<;>rfl
theorem Lc:∀l r:List Sm,tF (l++r)=tF l++tF r
 |[],r=>rfl
 |e::l,r=>by simp only[List.cons_append,tF,Lc l r]
def MS (k:Int)(es:List E):Prop:=
 (k=1->es=[])/\(k=2\/k=3\/k=5\/k=6\/k=8->∃e,es=[e])/\(k=4->∃a b,es=[a,b]/\(a.k=5\/a.k=6))/\(k=7->es=[]\/∃e,es=[e])/\(k=9->∃e,es=[e]/\e.k=7)
mutual
def UC:Sm->Prop
 |.mk k _ _ od es bd el _ _=>1<=k/\k<=9/\(k=1\/k=2->0<=od/\od<=3)/\MS k es/\Nh es/\(k≠5->k≠6->bd=[])/\(k≠5->el=[])/\Cm bd/\Cm el
def Cm:List Sm->Prop
 |[]=>True
 |s::l=>UC s/\Cm l
end
theorem yw (s:Sm):UC s↔1<=s.k/\s.k<=9/\(s.k=1\/s.k=2->0<=s.od/\s.od<=3)/\MS s.k s.es/\Nh s.es/\(s.k≠5->s.k≠6->s.bd=[])/\(s.k≠5->s.el=[])/\Cm s.bd/\Cm s.el:=by
 obtain⟨k,nm,on,od,es,bd,el,a,ref⟩:=s
 unfold UC;exact Iff.rfl
theorem Ae:∀l:List Sm,Cm l↔∀e∈l,UC e
 |[]=>by simp[Cm]
 |e::l=>by simp[Cm,Ae l]
theorem adn (s:Sm):0<=dS s:=by
 have h0:0<=d0 s.es:=by unfold d0;split;exact DN _;exact Int.le_refl _
 rw[VN]
 unfold sD
 repeat' split
 all_goals omega
theorem VO:∀l:List Sm,0<=dB l
 |[]=>Int.le_refl _
 |s::l=>by
  have:=adn s
  have:=VO l
  unfold dB;omega
theorem ado {s:Sm}(hw:UC s):∃y r,uS s=y::r/\jn y [125]=false/\jn y Cl=false:=by
 obtain⟨k1,k9,_,o6,tE,_⟩:=(yw s).1 hw
 obtain⟨e1,e2,e4,e7,e9⟩:=o6
 rw[uv]at tE
 have hx:∀e,Wf e->∀l,∃y r,uX e++l=y::r/\jn y [125]=false/\jn y Cl=false:=λe he l=>by
  obtain⟨y,r,h1,h2⟩:=Q8 e he
  exact⟨y,r++l,by rw[h1];rfl,DO h2 (by decide),DO h2 (by decide)⟩
 rw[VM]
 unfold sO
 by_cases c1:s.k=1
 ·rw[if_pos c1];exact⟨_,_,rfl,by decide,by decide⟩
 rw[if_neg c1]
 by_cases c2:s.k=2
 ·rw[if_pos c2];exact⟨_,_,rfl,by decide,by decide⟩
 rw[if_neg c2]
 by_cases c3:s.k=3
 ·rw[if_pos c3];exact⟨_,_,rfl,lV _ _,lV _ _⟩
 rw[if_neg c3]
 by_cases c4:s.k=4
 ·rw[if_pos c4]
  obtain⟨a,b,h,_⟩:=e4 c4
  rw[h]at tE ⊢
  exact hx a (tE a List.mem_cons_self) _
 rw[if_neg c4]
 by_cases c5:s.k=5
 ·rw[if_pos c5];exact⟨_,_,rfl,by decide,by decide⟩
 rw[if_neg c5]
 by_cases c6:s.k=6
 ·rw[if_pos c6];exact⟨_,_,rfl,by decide,by decide⟩
 rw[if_neg c6]
 by_cases c7:s.k=7
 ·rw[if_pos c7];exact⟨_,_,rfl,by decide,by decide⟩
 rw[if_neg c7]
 by_cases c8:s.k=8
 ·rw[if_pos c8];exact⟨_,_,rfl,by decide,by decide⟩
 rw[if_neg c8]
 obtain⟨a,h,_⟩:=e9 (by omega)
 rw[h]at tE ⊢
 exact hx a (tE a List.mem_cons_self) _
def PS (s:Sm):Prop:=∀(T:List Tk)(f:Nat)(q:RQ)(s':Sm)(r:RQ),oQ T f q=some (s',r)->q.fe=0->0<=q.op->q.op<=50->(r.fe=0\/q.op+dS s<=50)->
 Has T q.at_ (uS s)->jn (bL T (q.at_+(uS s).length)) Cl=false->r=mv q (uS s).length/\Iv s'=Iv s
theorem H8 {T:List Tk}:∀(l:List Sm)(acc:List Sm)(f:Nat)(q:RQ)(ss:List Sm)(r:RQ),jS T f acc q=some (ss,r)->(∀s∈l,PS s)->Cm l->q.fe=0->1<=q.op->q.op<=50->(r.fe=0\/q.op+dB l<=50)->
  Has T q.at_ (uB l++[W [125]])->r=⟨q.at_+(uB l).length+1,q.op-1,q.fe,q.fa⟩/\tF ss=tF acc++tF l
 |l,acc,0,q,es,r,h,_,_,_,_,_,_,_=>by simp[jS]at h
 |[],acc,f+1,q,es,r,h,hp,_,hf,h1,h5,hd,hh=>by
  unfold jS at h
  have t1:bL T q.at_=W [125]:=hh.1
  rw[if_neg (by rintro⟨_,b⟩;rw[aO hf,t1]at b;revert b;decide)]at h
  cases h
  rw[mJ hf (by rw[t1];decide) (by omega) (by omega)]
  exact⟨by simp[uB],by simp[tF]⟩
 |s::l,acc,f+1,q,es,r,h,hp,hw,hf,h1,h5,hd,hh=>by
  unfold jS at h
  unfold Cm at hw
  obtain⟨y,l0,hy,y1,_⟩:=ado hw.1
  simp only[uB,List.append_assoc]at hh
  rw[cG]at hh
  obtain⟨t1,t2⟩:=hh
  have ty:bL T q.at_=y:=by rw[hy]at t1;exact t1.1
  rw[if_pos ⟨hf,by rw[aO hf,ty];exact y1⟩]at h
  obtain⟨⟨x1,x2⟩,a1,a2⟩:=Option.bind_eq_some_iff.1 h
  dsimp only at a2
  have hm:dB (s::l)=max (dS s) (dB l):=rfl
  rw[hm]at hd
  have adp:Good T x2 r:=((kR T f).2.2 _ _ _ _ a2)
  have qH:jn (bL T (q.at_+(uS s).length)) Cl=false:=by
   cases l with
   |nil=>
    have:bL T (q.at_+(uS s).length)=W [125]:=t2.1
    rw[this];decide
   |cons s2 l2=>
    unfold Cm at hw
    obtain⟨z,l3,hz,_,z2⟩:=ado hw.2.1
    simp only[uB,hz,List.cons_append]at t2
    have:bL T (q.at_+(uS s).length)=z:=t2.1
    rw[this];exact z2
  obtain⟨rfl,b2⟩:=hp s List.mem_cons_self T f q x1 x2 a1 hf (by omega) h5 (hd.imp (λh=>adp.l5 h) λh=>by omega) t1 qH
  obtain⟨c1,c2⟩:=H8 l (acc++[x1]) f _ es r a2 (λy hy=>hp y (List.mem_cons_of_mem _ hy)) hw.2 hf h1 h5 (hd.imp id λh=>by simp only[mv];omega) t2
  refine⟨?_,?_⟩
  ·rw[c1]
   simp only[mv,uB,List.length_append,RQ.mk.injEq,and_true]
   omega
  ·rw[c2,Lc]
   simp only[tF,b2,List.append_assoc,List.cons_append,List.nil_append]
theorem eP {T:List Tk}{l:List Sm}{f:Nat}{q r:RQ}{ss:List Sm}(h:gT T f q=some (ss,r))(hp:∀s∈l,PS s)(hw:Cm l)(hf:q.fe=0)(h0:0<=q.op)(hd:r.fe=0\/q.op+(dB l+1)<=50)
  (hh:Has T q.at_ (W [123]::(uB l++[W [125]]))):r=mv q ((uB l).length+2)/\tF ss=tF l:=by
 cases f with
 |zero=>simp[gT]at h
 |succ f=>
  unfold gT at h
  obtain⟨t1,t2⟩:=hh
  change bL T _=_ at t1
  have Mc:=VO l
  obtain⟨o1,o2⟩:=opened (d:=dB l+1) (r:=r) hf h0 (by rw[t1];decide) hd (by omega) ((kR T f).2.2 _ _ _ _ h)
  rw[o1]at h
  obtain⟨c1,c2⟩:=H8 l [] f (lW q) ss r h hp hw hf (by simp only[lW];omega) (by simp only[lW];omega) (hd.imp id λh=>by simp only[lW];omega) t2
  refine⟨?_,by rw[c2];rfl⟩
  rw[c1]
  simp only[lW,mv,RQ.mk.injEq,and_true]
  exact⟨by omega,by omega⟩
end nO
namespace nO
open Ax Go V7 j4 k8
theorem u5 {T:List Tk}{f:Nat}{q r:RQ}{e x:E}(hw:Wf e)(h:eO T f 0 q=some (x,r))(hf:q.fe=0)(h0:0<=q.op)(h5:q.op<=50)(hd:r.fe=0\/q.op+dX e<=50)(hh:Has T q.at_ (uX e))(hs:Stop T 0 (q.at_+(uX e).length)) :
  r=mv q (uX e).length/\er x=er e:=by
 obtain⟨u1,u2⟩:=tC (l:=1) (e:=e) (rI e.k).1
 have:=(YM e hw).1 0 (by omega) T f q x r h hf h0 h5 (by rw[u2];exact hd) (by rw[u1];exact hh) (by rw[u1];exact hs)
 rw[u1]at this
 exact this
theorem yx {T:List Tk}{q:RQ}{nm on:List UInt8}{od:Int}{l:List TS}(hf:q.fe=0)(h0:0<=od)(h3:od<=3)(hh:Has T q.at_ (Nm nm::W [58]::(uT on od++l))) :
  cJ T q=(⟨nm,on,od,(cur T q).a⟩,mv q ((uT on od).length+2))/\Has T (q.at_+((uT on od).length+2)) l:=by
 obtain⟨t1,t2,t3⟩:=hh
 rw[cG]at t3
 change bL T _=_ at t1
 change bL T _=_ at t2
 have e1:=nq hf t1
 have e2:cC T (ay q) [58]=ay (ay q):=ga (q:=ay q) hf (by rw[show bL T (ay q).at_=_ from t2];decide)
 have e3:=Fh (T:=T) (q:=ay (ay q)) hf h0 h3 t3.1
 unfold cJ
 rw[e1]
 simp only
 rw[e2,e3]
 refine⟨?_,?_⟩
 ·simp only[Prod.mk.injEq,true_and]
  simp only[mv,ay,RQ.mk.injEq,and_true];omega
 ·have:=t3.2
  rw[show q.at_+((uT on od).length+2)=q.at_+1+1+(uT on od).length by omega]
  exact this
theorem vI {T:List Tk}{q:RQ}{s:List UInt8}(ht:bL T q.at_=W s)(hf:q.fe=0):cC T q s=mv q 1:=ga hf (by rw[ht];simp[jn,W])
theorem YP {x e:E}(h:er x=er e):x.k=e.k:=by
 rw[qG,qG]at h
 exact(E.mk.inj h).1
theorem adq {x e:E}(h:er x=er e):fz x.k x.nm=fz e.k e.nm:=by
 rw[qG,qG]at h
 exact(E.mk.inj h).2.2.1
theorem o5 (k:Int)(nm on:List UInt8)(od:Int)(es:List E)(bd el:List Sm)(a ref:Int):Iv (.mk k nm on od es bd el a ref)=.mk k (bO k nm) (bh k on) (bn k od) (lp es) (tF bd) (tF el) 0 0:=by
 (conv=>lhs;unfold Iv)<;>rfl
theorem VP {q:RQ}{a b:Nat}(h:a=b):mv q a=mv q b:=by rw[h]
theorem BW (s:Sm):UC s->PS s:=by
 induction s using Sm.ind with
 |_ s rL rA=>
  intro hw T f q s' r h hf h0 h5 hd hh qH
  obtain⟨k1,k9,hod,o6,tE,B2,MB,hwb,hwe⟩:=(yw s).1 hw
  obtain⟨e1,e2,e4,e7,e9⟩:=o6
  have pb:∀x∈s.bd,PS x:=λx hx=>rL x hx ((Ae _).1 hwb x hx)
  have pe:∀x∈s.el,PS x:=λx hx=>rA x hx ((Ae _).1 hwe x hx)
  rw[uv]at tE
  have he:=Fl s
  rw[VM]at hh qH ⊢
  rw[VN]at hd
  unfold sO at hh qH ⊢
  unfold sD at hd
  cases f with
  |zero=>simp[oQ]at h
  |succ f=>
  unfold oQ at h
  rw[aO (q:=q) hf,aO (q:=q) hf,aO (q:=q) hf,aO (q:=q) hf,aO (q:=q) hf,aO (q:=q) hf]at h
  by_cases c1:s.k=1
  ·rw[if_pos c1]at hh qH ⊢
   obtain⟨t,hh⟩:=hh
   change bL T _=_ at t
   obtain⟨o0,o3⟩:=hod (.inl c1)
   obtain⟨p1,p2⟩:=yx (q:=ay q) hf o0 o3 hh
   have t2:bL T (mv (ay q) ((uT s.on s.od).length+2)).at_=W [59]:=p2.1
   rw[t,if_pos (by decide),p1,ga (q:=mv (ay q) _) hf (by rw[t2];decide)]at h
   cases h
   refine⟨by simp only[mv,ay,List.length_cons,List.length_append,List.length_nil,RQ.mk.injEq,and_true];omega,?_⟩
   rw[o5,he,c1,B2 (by omega) (by omega),MB (by omega),e1 c1]
  rw[if_neg c1]at hh qH ⊢
  by_cases c2:s.k=2
  ·rw[if_pos c2]at hh qH ⊢
   rw[if_neg (by omega),if_neg (by omega),if_neg (by omega),if_neg (by omega)]at hd
   obtain⟨e,yy⟩:=e2 (.inl c2)
   rw[yy]at hh tE hd ⊢
   simp only[x0,d0]at hh hd ⊢
   obtain⟨t,hh⟩:=hh
   change bL T _=_ at t
   obtain⟨o0,o3⟩:=hod (.inr c2)
   obtain⟨p1,p2⟩:=yx (q:=ay q) hf o0 o3 hh
   rw[gX,cG]at p2
   obtain⟨t2,t3,t4,_⟩:=p2
   have Fk:bL T (mv (ay q) ((uT s.on s.od).length+2)).at_=W [61]:=t2
   rw[t,if_neg (by decide),if_pos (by decide),p1,ga (q:=mv (ay q) _) hf (by rw[Fk];decide)]at h
   obtain⟨⟨y1,y2⟩,a1,a2⟩:=Option.bind_eq_some_iff.1 h
   simp only[Option.some.injEq,Prod.mk.injEq]at a2
   obtain⟨rfl,rfl⟩:=a2
   have Ni:bL T (mv (mv (mv (ay q) ((uT s.on s.od).length+2)) 1) (uX e).length).at_=W [59]:=t4
   obtain⟨rfl,b2⟩:=u5 (tE e List.mem_cons_self) a1 hf h0 h5 (hd.imp (λh=>aJ.l5 h) id) t3 (iF Ni (by decide))
   rw[vI Ni hf]
   refine⟨by simp only[mv,ay,List.length_cons,List.length_append,List.length_nil,RQ.mk.injEq,and_true];omega,?_⟩
   rw[o5,he,c2,B2 (by omega) (by omega),MB (by omega),yy]
   simp only[lp,b2]
  rw[if_neg c2]at hh qH ⊢
  by_cases c3:s.k=3
  ·rw[if_pos c3]at hh qH ⊢
   rw[if_neg (by omega),if_neg (by omega),if_neg (by omega),if_neg (by omega)]at hd
   obtain⟨e,yy⟩:=e2 (.inr (.inl c3))
   rw[yy]at hh tE hd ⊢
   simp only[x0,d0]at hh hd ⊢
   obtain⟨t,t2,hh⟩:=hh
   rw[cG]at hh
   obtain⟨t3,t4,_⟩:=hh
   change bL T _=_ at t
   change bL T _=_ at t2
   rw[t]at h
   simp only[lV,Bool.false_eq_true,if_false]at h
   unfold mA at h
   obtain⟨⟨y1,y2⟩,a1,a2⟩:=Option.bind_eq_some_iff.1 h
   dsimp only at a2
   have hwv:Wf (Em 4 0 s.nm [] 0 [] 0):=(HZ _).2 ⟨rfl,(λh=>absurd h (by simp[Em,E.k])),(λh=>absurd h (by simp[Em,E.k])),trivial⟩
   have hg:r.fe=0->y2.fe=0:=λhr=>by
    split at a2
    ·obtain⟨⟨z1,z2⟩,b1,b2⟩:=Option.bind_eq_some_iff.1 a2
     simp only[Option.some.injEq,Prod.mk.injEq]at b2
     obtain⟨_,rfl⟩:=b2
     have h1:=(aJ.trans ((dJ b1).trans aJ)).l5 hr
     split at h1
     ·exact h1
     ·exact(dH.l5 h1)
    ·simp only[Option.some.injEq,Prod.mk.injEq]at a2
     obtain⟨_,rfl⟩:=a2
     have h1:=aJ.l5 hr
     split at h1
     ·exact dH.l5 h1
     ·exact h1
   have hdz:y2.fe=0\/q.op+dX (Em 4 0 s.nm [] 0 [] 0)<=50:=hd.imp hg λh=>by
    have:dX (Em 4 0 s.nm [] 0 [] 0)=0:=rfl
    have:=DN e
    omega
   obtain⟨rfl,b2⟩:=u5 hwv a1 hf h0 h5 hdz ⟨t,trivial⟩ (iF (x:=W [61]) t2 (by decide))
   have YQ:y1.k=4:=YP b2
   have hnm:y1.nm=s.nm:=by have:=adq b2;rw[YQ]at this;exact this
   have Fk:bL T (mv q (uX (Em 4 0 s.nm [] 0 [] 0)).length).at_=W [61]:=t2
   rw[aO (q:=mv q _) hf,Fk,if_pos (by decide),if_pos (.inl YQ),ga (q:=mv q _) hf (by rw[Fk];decide)]at a2
   obtain⟨⟨z1,z2⟩,b1,b3⟩:=Option.bind_eq_some_iff.1 a2
   rw[if_pos YQ]at b3
   simp only[Option.some.injEq,Prod.mk.injEq]at b3
   obtain⟨rfl,rfl⟩:=b3
   have Ni:bL T (mv (mv (mv q (uX (Em 4 0 s.nm [] 0 [] 0)).length) 1) (uX e).length).at_=W [59]:=t4
   obtain⟨rfl,d2⟩:=u5 (tE e List.mem_cons_self) b1 hf h0 h5 (hd.imp (λh=>aJ.l5 h) id) t3 (iF Ni (by decide))
   rw[vI Ni hf]
   refine⟨?_,?_⟩
   ·have:(uX (Em 4 0 s.nm [] 0 [] 0)).length=1:=rfl
    simp only[mv,List.length_cons,List.length_append,List.length_nil,RQ.mk.injEq,and_true];omega
   ·rw[o5,he,c3,B2 (by omega) (by omega),MB (by omega),yy,hnm]
    simp only[lp,d2]
    rfl
  rw[if_neg c3]at hh qH ⊢
  by_cases c4:s.k=4
  ·rw[if_pos c4]at hh qH ⊢
   rw[if_pos c4]at hd
   obtain⟨a,b,yy,hak⟩:=e4 c4
   rw[yy]at hh tE hd ⊢
   simp only[x0,x1,d0,d1]at hh hd ⊢
   have hwa:=tE a List.mem_cons_self
   obtain⟨y,l0,hy,hb⟩:=Q8 a hwa
   rw[cG,gX,cG]at hh
   obtain⟨t1,t2,t3,t4,_⟩:=hh
   have t:bL T q.at_=y:=by rw[hy]at t1;exact t1.1
   change bL T _=_ at t2
   have hY:∀w,(jn (W HW) w||jn (W Ch) w||jn (W HX) w||jn (W MQ) w||jn (W Q3) w||jn (W HY) w||jn (W [45]) w||jn (W [33]) w||jn (W [40]) w)=false->jn y w=false:=λw hw=>DO hb hw
   rw[t,hY _ (by decide),hY _ (by decide),hY _ (by decide),hY _ (by decide),hY _ (by decide),hY _ (by decide)]at h
   simp only[Bool.false_eq_true,if_false]at h
   unfold mA at h
   obtain⟨⟨y1,y2⟩,a1,a2⟩:=Option.bind_eq_some_iff.1 h
   dsimp only at a2
   have hg:r.fe=0->y2.fe=0:=λhr=>by
    split at a2
    ·obtain⟨⟨z1,z2⟩,b1,b2⟩:=Option.bind_eq_some_iff.1 a2
     simp only[Option.some.injEq,Prod.mk.injEq]at b2
     obtain⟨_,rfl⟩:=b2
     have h1:=(aJ.trans ((dJ b1).trans aJ)).l5 hr
     split at h1
     ·exact h1
     ·exact(dH.l5 h1)
    ·simp only[Option.some.injEq,Prod.mk.injEq]at a2
     obtain⟨_,rfl⟩:=a2
     have h1:=aJ.l5 hr
     split at h1
     ·exact dH.l5 h1
     ·exact h1
   obtain⟨rfl,b2⟩:=u5 hwa a1 hf h0 h5 (hd.imp hg λh=>by omega) t1 (iF (x:=W [61]) t2 (by decide))
   have YQ:y1.k=5\/y1.k=6:=by rw[YP b2];exact hak
   have Fk:bL T (mv q (uX a).length).at_=W [61]:=t2
   rw[aO (q:=mv q _) hf,Fk,if_pos (by decide),if_pos (.inr YQ),ga (q:=mv q _) hf (by rw[Fk];decide)]at a2
   obtain⟨⟨z1,z2⟩,b1,b3⟩:=Option.bind_eq_some_iff.1 a2
   rw[if_neg (by omega)]at b3
   simp only[Option.some.injEq,Prod.mk.injEq]at b3
   obtain⟨rfl,rfl⟩:=b3
   have Ni:bL T (mv (mv (mv q (uX a).length) 1) (uX b).length).at_=W [59]:=t4
   obtain⟨rfl,d2⟩:=u5 (tE b (List.mem_cons_of_mem _ List.mem_cons_self)) b1 hf h0 h5 (hd.imp (λh=>aJ.l5 h) λh=>by simp only[mv];omega) t3 (iF Ni (by decide))
   rw[vI Ni hf]
   refine⟨by simp only[mv,List.length_cons,List.length_append,List.length_nil,RQ.mk.injEq,and_true];omega,?_⟩
   rw[o5,he,c4,B2 (by omega) (by omega),MB (by omega),yy]
   simp only[lp,b2,d2]
   rfl
  rw[if_neg c4]at hh qH ⊢
  rw[if_neg c4]at hd
  by_cases c5:s.k=5
  ·rw[if_pos c5]at hh qH ⊢
   rw[if_pos c5]at hd
   obtain⟨e,yy⟩:=e2 (by omega)
   rw[yy]at hh qH tE hd ⊢
   simp only[x0,d0]at hh qH hd ⊢
   obtain⟨t,hh⟩:=hh
   change bL T _=_ at t
   rw[cG]at hh
   obtain⟨t1,t2⟩:=hh
   have eF:Has T (q.at_+1+(uX e).length) (W [123]::(uB s.bd++[W [125]])):=by
    rw[gX,cG]at t2 ⊢
    exact⟨t2.1,t2.2.1,t2.2.2.1,trivial⟩
   rw[t,if_neg (by decide),if_neg (by decide),if_pos (by decide)]at h
   obtain⟨⟨y1,y2⟩,a1,a2⟩:=Option.bind_eq_some_iff.1 h
   obtain⟨⟨z1,z2⟩,b1,b2⟩:=Option.bind_eq_some_iff.1 a2
   dsimp only at b1 b2
   have gz:r.fe=0->z2.fe=0:=λhr=>by
    split at b2
    ·obtain⟨⟨w1,w2⟩,c1,c2⟩:=Option.bind_eq_some_iff.1 b2
     simp only[Option.some.injEq,Prod.mk.injEq]at c2
     obtain⟨_,rfl⟩:=c2
     have:=(kS c1).1.l5 hr
     exact this
    ·simp only[Option.some.injEq,Prod.mk.injEq]at b2
     obtain⟨_,rfl⟩:=b2
     exact hr
   obtain⟨rfl,d2⟩:=u5 (tE e List.mem_cons_self) a1 hf h0 h5 (hd.imp (λh=>(kS b1).1.l5 (gz h)) λh=>by simp only[ay];omega) t1 (iF (x:=W [123]) t2.1 (by decide))
   obtain⟨rfl,d4⟩:=eP b1 pb hwb hf h0 (hd.imp gz λh=>by simp only[mv,ay];omega) eF
   have t6:Has T (q.at_+1+(uX e).length+1+(uB s.bd).length+1) (if s.el.isEmpty=true then [] else W Cl::W [123]::(uB s.el++[W [125]])):=by
    rw[gX,cG]at t2
    exact t2.2.2.2
   cases hE:s.el with
   |nil=>
    rw[hE]at qH t6
    simp only[List.isEmpty_nil,if_true]at qH t6
    have hY:fy T (mv (mv (ay q) (uX e).length) ((uB s.bd).length+2)) [101,108,115,101]=false:=by
     rw[aO (q:=mv (mv (ay q) (uX e).length) ((uB s.bd).length+2)) hf]
     have:(mv (mv (ay q) (uX e).length) ((uB s.bd).length+2)).at_=q.at_+(W wIf::(uX e++W [123]::(uB s.bd++W [125]::[]))).length:=by
      simp only[mv,ay,List.length_cons,List.length_append,List.length_nil];omega
     rw[this];exact qH
    rw[hY]at b2
    simp only[Bool.false_eq_true,if_false]at b2
    cases b2
    refine⟨by simp only[mv,ay,List.isEmpty_nil,if_true,List.length_cons,List.length_append,List.length_nil,RQ.mk.injEq,and_true];omega,?_⟩
    rw[o5,he,c5,yy,hE,d4]
    simp only[lp,d2]
    rfl
   |cons s2 l2=>
    rw[hE]at t6
    simp only[List.isEmpty_cons,Bool.false_eq_true,if_false]at t6
    rw[<-hE]at t6
    obtain⟨t7,t8⟩:=t6
    change bL T _=_ at t7
    have t7':bL T (mv (mv (ay q) (uX e).length) ((uB s.bd).length+2)).at_=W Cl:=by
     rw[<-t7];congr 1;simp only[mv,ay];omega
    rw[aO (q:=mv (mv (ay q) _) _) hf,t7',if_pos (by decide)]at b2
    obtain⟨⟨w1,w2⟩,c1,c2⟩:=Option.bind_eq_some_iff.1 b2
    simp only[Option.some.injEq,Prod.mk.injEq]at c2
    obtain⟨rfl,rfl⟩:=c2
    have hat:(ay (mv (mv (ay q) (uX e).length) ((uB s.bd).length+2))).at_=q.at_+1+(uX e).length+1+(uB s.bd).length+1+1:=by simp only[mv,ay];omega
    obtain⟨rfl,d6⟩:=eP c1 pe hwe hf h0 (hd.imp id λh=>by simp only[mv,ay];omega) (by rw[hat];exact t8)
    refine⟨?_,?_⟩
    ·have:(s2::l2).isEmpty=false:=rfl
     rw[this,<-hE]
     simp only[mv,ay,Bool.false_eq_true,if_false,List.length_cons,List.length_append,List.length_nil,RQ.mk.injEq,and_true];omega
    ·rw[o5,he,c5,yy,d4,d6]
     simp only[lp,d2]
     rfl
  rw[if_neg c5]at hh qH ⊢
  rw[if_neg c5]at hd
  by_cases c6:s.k=6
  ·rw[if_pos c6]at hh qH ⊢
   rw[if_pos c6]at hd
   obtain⟨e,yy⟩:=e2 (by omega)
   rw[yy]at hh tE hd ⊢
   simp only[x0,d0]at hh hd ⊢
   obtain⟨t,hh⟩:=hh
   change bL T _=_ at t
   rw[cG]at hh
   obtain⟨t1,t2⟩:=hh
   rw[t,if_neg (by decide),if_neg (by decide),if_neg (by decide),if_pos (by decide)]at h
   obtain⟨⟨y1,y2⟩,a1,a2⟩:=Option.bind_eq_some_iff.1 h
   obtain⟨⟨z1,z2⟩,b1,b2⟩:=Option.bind_eq_some_iff.1 a2
   simp only[Option.some.injEq,Prod.mk.injEq]at b2
   obtain⟨rfl,rfl⟩:=b2
   obtain⟨rfl,d2⟩:=u5 (tE e List.mem_cons_self) a1 hf h0 h5 (hd.imp (λh=>(kS b1).1.l5 h) λh=>by simp only[ay];omega) t1 (iF (x:=W [123]) t2.1 (by decide))
   obtain⟨rfl,d4⟩:=eP b1 pb hwb hf h0 (hd.imp id λh=>by simp only[mv,ay];omega) t2
   refine⟨by simp only[mv,ay,List.length_cons,List.length_append,List.length_nil,RQ.mk.injEq,and_true];omega,?_⟩
   rw[o5,he,c6,yy,d4,MB (by omega)]
   simp only[lp,d2]
   rfl
  rw[if_neg c6]at hh qH ⊢
  rw[if_neg c6,if_neg c1]at hd
  by_cases c7:s.k=7
  ·rw[if_pos c7]at hh qH ⊢
   obtain⟨t,hh⟩:=hh
   change bL T _=_ at t
   rw[t,if_neg (by decide),if_neg (by decide),if_neg (by decide),if_neg (by decide),if_pos (by decide)]at h
   rcases e7 c7 with yy|⟨e,yy⟩
   ·rw[yy]at hh ⊢
    simp only[x0,List.nil_append]at hh ⊢
    have t2:bL T (ay q).at_=W [59]:=hh.1
    rw[aO (q:=ay q) hf,t2,if_pos (by decide),ga (q:=ay q) hf (by rw[t2];decide)]at h
    cases h
    refine⟨rfl,?_⟩
    rw[o5,he,c7,yy,B2 (by omega) (by omega),MB (by omega)]
    rfl
   ·rw[yy]at hh tE hd ⊢
    simp only[x0,d0]at hh hd ⊢
    rw[cG]at hh
    obtain⟨t1,t2,_⟩:=hh
    obtain⟨y,l0,hy,hb⟩:=Q8 e (tE e List.mem_cons_self)
    have ty:bL T (ay q).at_=y:=by rw[hy]at t1;exact t1.1
    rw[aO (q:=ay q) hf,ty,DO hb (by decide)]at h
    simp only[Bool.false_eq_true,if_false]at h
    obtain⟨⟨y1,y2⟩,a1,a2⟩:=Option.bind_eq_some_iff.1 h
    simp only[Option.some.injEq,Prod.mk.injEq]at a2
    obtain⟨rfl,rfl⟩:=a2
    have Fk:bL T (mv (ay q) (uX e).length).at_=W [59]:=t2
    obtain⟨rfl,d2⟩:=u5 (tE e List.mem_cons_self) a1 hf h0 h5 (hd.imp (λh=>aJ.l5 h) λh=>by simp only[ay];omega) t1 (iF Fk (by decide))
    rw[vI Fk hf]
    refine⟨by simp only[mv,ay,List.length_cons,List.length_append,List.length_nil,RQ.mk.injEq,and_true];omega,?_⟩
    rw[o5,he,c7,yy,B2 (by omega) (by omega),MB (by omega)]
    simp only[lp,d2]
    rfl
  rw[if_neg c7]at hh qH ⊢
  by_cases c8:s.k=8
  ·rw[if_pos c8]at hh qH ⊢
   obtain⟨t,hh⟩:=hh
   change bL T _=_ at t
   rw[t,if_neg (by decide),if_neg (by decide),if_neg (by decide),if_neg (by decide),if_neg (by decide),if_pos (by decide)]at h
   obtain⟨e,yy⟩:=e2 (by omega)
   rw[yy]at hh tE hd ⊢
   simp only[x0,d0]at hh hd ⊢
   rw[cG]at hh
   obtain⟨t1,t2,_⟩:=hh
   obtain⟨⟨y1,y2⟩,a1,a2⟩:=Option.bind_eq_some_iff.1 h
   simp only[Option.some.injEq,Prod.mk.injEq]at a2
   obtain⟨rfl,rfl⟩:=a2
   have Fk:bL T (mv (ay q) (uX e).length).at_=W [59]:=t2
   obtain⟨rfl,d2⟩:=u5 (tE e List.mem_cons_self) a1 hf h0 h5 (hd.imp (λh=>aJ.l5 h) λh=>by simp only[ay];omega) t1 (iF Fk (by decide))
   rw[vI Fk hf]
   refine⟨by simp only[mv,ay,List.length_cons,List.length_append,List.length_nil,RQ.mk.injEq,and_true];omega,?_⟩
   rw[o5,he,c8,yy,B2 (by omega) (by omega),MB (by omega)]
   simp only[lp,d2]
   rfl
  rw[if_neg c8]at hh qH ⊢
  have c9:s.k=9:=by omega
  obtain⟨e,yy,hek⟩:=e9 c9
  rw[yy]at hh tE hd ⊢
  simp only[x0,d0]at hh hd ⊢
  rw[cG]at hh
  obtain⟨t1,t2,_⟩:=hh
  obtain⟨y,l0,hy,hb⟩:=Q8 e (tE e List.mem_cons_self)
  have t:bL T q.at_=y:=by rw[hy]at t1;exact t1.1
  change bL T _=_ at t2
  have hY:∀w,(jn (W HW) w||jn (W Ch) w||jn (W HX) w||jn (W MQ) w||jn (W Q3) w||jn (W HY) w||jn (W [45]) w||jn (W [33]) w||jn (W [40]) w)=false->jn y w=false:=λw hw=>DO hb hw
  rw[t,hY _ (by decide),hY _ (by decide),hY _ (by decide),hY _ (by decide),hY _ (by decide),hY _ (by decide)]at h
  simp only[Bool.false_eq_true,if_false]at h
  unfold mA at h
  obtain⟨⟨y1,y2⟩,a1,a2⟩:=Option.bind_eq_some_iff.1 h
  dsimp only at a2
  have hg:r.fe=0->y2.fe=0:=λhr=>by
   split at a2
   ·obtain⟨⟨z1,z2⟩,b1,b2⟩:=Option.bind_eq_some_iff.1 a2
    simp only[Option.some.injEq,Prod.mk.injEq]at b2
    obtain⟨_,rfl⟩:=b2
    have h1:=(aJ.trans ((dJ b1).trans aJ)).l5 hr
    split at h1
    ·exact h1
    ·exact(dH.l5 h1)
   ·simp only[Option.some.injEq,Prod.mk.injEq]at a2
    obtain⟨_,rfl⟩:=a2
    have h1:=aJ.l5 hr
    split at h1
    ·exact dH.l5 h1
    ·exact h1
  have Fk:bL T (mv q (uX e).length).at_=W [59]:=t2
  obtain⟨rfl,d2⟩:=u5 (tE e List.mem_cons_self) a1 hf h0 h5 (hd.imp hg id) t1 (iF Fk (by decide))
  have hk7:y1.k=7:=by rw[YP d2];exact hek
  rw[aO (q:=mv q _) hf,aO (q:=mv q _) hf,Fk,if_neg (by decide),if_neg (by rintro⟨_,c⟩;exact c hk7),ga (q:=mv q _) hf (by rw[Fk];decide)]at a2
  cases a2
  refine⟨by simp only[mv,List.length_cons,List.length_append,List.length_nil,RQ.mk.injEq,and_true];omega,?_⟩
  rw[o5,he,c9,yy,B2 (by omega) (by omega),MB (by omega)]
  simp only[lp,d2]
  rfl
end nO
namespace nO
open Ax Go V7 j4 k8
def MU (p:PD):PD:=⟨p.name,p.on,p.od,0⟩
def pT (p:PD):List TS:=Nm p.name::W [58]::uT p.on p.od
def fT:List PD->List TS
 |[]=>[]
 |p::l=>pT p++W [59]::fT l
def UD:List PD->List TS
 |[]=>[]
 |p::l=>W [44]::(pT p++UD l)
def qi (l:List PD):List TS:=match l with | []=>[]|p::l=>pT p++UD l
def xg (r:Rc):List TS:=W TP::Nm r.name::W [123]::(fT r.fields++[W [125]])
def zi (p:PD):List TS:=W KJ::(pT p++[W [59]])
def yz (f:Fc):List TS:=W KK::Nm f.name::W [40]::(qi f.params++W [41]::((if f.has then W [58]::uT f.on f.od else [])++W [123]::(uB f.body++[W [125]])))
def iG {α:Type}(g:α->List TS):List α->List TS
 |[]=>[]
 |x::l=>g x++iG g l
def uP (p:Pg):List TS:=iG xg p.bw++(iG zi p.globals++iG yz p.funcs)
def UE (r:Rc):Rc:=⟨r.name,r.fields.map MU,0⟩
def RN (f:Fc):Fc:=⟨f.name,f.params.map MU,f.has,f.on,f.od,tF f.body,0⟩
def Ld (p:Pg):Pg:=⟨p.bw.map UE,p.globals.map MU,p.funcs.map RN⟩
def Fm (p:PD):Prop:=0<=p.od/\p.od<=3
structure WfF (f:Fc):Prop where
 len:f.params.length<=6
 od:∀p∈f.params,Fm p
 res:0<=f.od/\f.od<=3
 no:f.has=false->f.on=[]/\f.od=0
 body:Cm f.body
structure WfP (p:Pg):Prop where
 rl:p.bw.length<=12
 gl:p.globals.length<=8
 fl:p.funcs.length<=16
 r:∀r∈p.bw,r.fields.length<=8/\∀p∈r.fields,Fm p
 g:∀q∈p.globals,Fm q
 f:∀f∈p.funcs,WfF f
theorem Fo {T:List Tk}{q:RQ}{p:PD}{l:List TS}(hf:q.fe=0)(ho:Fm p)(hh:Has T q.at_ (pT p++l)):cJ T q=(⟨p.name,p.on,p.od,(cur T q).a⟩,mv q (pT p).length)/\Has T (q.at_+(pT p).length) l:=by
 have h:=yx (T:=T) (q:=q) (nm:=p.name) (on:=p.on) (od:=p.od) (l:=l) hf ho.1 ho.2 hh
 have e:(pT p).length=(uT p.on p.od).length+2:=rfl
 rw[e];exact h
theorem oq {T:List Tk}:∀(l acc:List PD)(f:Nat)(q:RQ)(l':List PD)(r:RQ),iD T f acc q=some (l',r)->q.fe=0->(∀p∈l,Fm p)->acc.length+l.length<=8->Has T q.at_ (fT l++[W [125]])->
  r=mv q (fT l).length/\l'.map MU=(acc++l).map MU
 |l,acc,0,q,l',r,h,_,_,_,_=>by simp[iD]at h
 |[],acc,f+1,q,l',r,h,hf,_,_,hh=>by
  unfold iD at h
  have t1:bL T q.at_=W [125]:=hh.1
  rw[if_neg (by rintro⟨_,b⟩;rw[aO hf,t1]at b;revert b;decide)]at h
  cases h
  exact⟨rfl,by simp⟩
 |p::l,acc,f+1,q,l',r,h,hf,ho,hn,hh=>by
  unfold iD at h
  simp only[fT,List.append_assoc,List.cons_append]at hh
  have t1:bL T q.at_=Nm p.name:=hh.1
  simp only[List.length_cons]at hn
  rw[if_pos ⟨hf,by rw[aO hf,t1];exact lV _ _⟩,if_neg (by rintro⟨_,b⟩;omega)]at h
  obtain⟨e1,DQ⟩:=Fo hf (ho p List.mem_cons_self) hh
  rw[e1]at h
  simp only at h
  rw[gX]at DQ
  have t2:bL T (mv q (pT p).length).at_=W [59]:=DQ.1
  rw[ga (q:=mv q _) hf (by rw[t2];decide)]at h
  obtain⟨c1,c2⟩:=oq l _ f (mv (mv q (pT p).length) 1) l' r h hf (λx hx=>ho x (List.mem_cons_of_mem _ hx)) (by simp;omega) DQ.2
  refine⟨?_,?_⟩
  ·rw[c1,xd,xd]
   simp only[fT,List.length_append,List.length_cons]
   exact VP (by omega)
  ·rw[c2]
   simp[MU]
theorem yA {T:List Tk}:∀(l acc:List PD)(f:Nat)(q:RQ)(l':List PD)(r:RQ),gY T f acc q=some (l',r)->q.fe=0->(∀p∈l,Fm p)->acc.length+l.length<=6->Has T q.at_ (qi l++[W [41]])->
  r=mv q (qi l).length/\l'.map MU=(acc++l).map MU
 |l,acc,0,q,l',r,h,_,_,_,_=>by simp[gY]at h
 |[],acc,f+1,q,l',r,h,hf,_,_,hh=>by
  unfold gY at h
  have t1:bL T q.at_=W [41]:=hh.1
  rw[if_neg (by rintro⟨_,b⟩;rw[aO hf,t1]at b;revert b;decide)]at h
  cases h
  exact⟨rfl,by simp⟩
 |[p],acc,f+1,q,l',r,h,hf,ho,hn,hh=>by
  unfold gY at h
  simp only[qi,UD,List.append_nil]at hh ⊢
  have t1:bL T q.at_=Nm p.name:=hh.1
  simp only[List.length_cons,List.length_nil]at hn
  rw[if_pos ⟨hf,by rw[aO hf,t1];exact lV _ _⟩,if_neg (by rintro⟨_,b⟩;omega)]at h
  obtain⟨e1,DQ⟩:=Fo hf (ho p List.mem_cons_self) hh
  rw[e1]at h
  simp only at h
  have t2:bL T (mv q (pT p).length).at_=W [41]:=DQ.1
  have ec:rq T (mv q (pT p).length)=mv q (pT p).length:=by
   unfold rq
   rw[aO (q:=mv q _) hf,t2,if_pos (by decide)]
  rw[ec]at h
  obtain⟨c1,c2⟩:=yA [] _ f (mv q (pT p).length) l' r h hf (λx hx=>by cases hx) (by simp;omega) DQ
  exact⟨by rw[c1];rfl,by rw[c2];simp[MU]⟩
 |p::p2::l,acc,f+1,q,l',r,h,hf,ho,hn,hh=>by
  unfold gY at h
  simp only[qi,UD,List.append_assoc,List.cons_append]at hh ⊢
  have t1:bL T q.at_=Nm p.name:=hh.1
  simp only[List.length_cons]at hn
  rw[if_pos ⟨hf,by rw[aO hf,t1];exact lV _ _⟩,if_neg (by rintro⟨_,b⟩;omega)]at h
  obtain⟨e1,DQ⟩:=Fo hf (ho p List.mem_cons_self) hh
  rw[e1]at h
  simp only at h
  rw[gX]at DQ
  have t2:bL T (mv q (pT p).length).at_=W [44]:=DQ.1
  have t3:bL T (mv (mv q (pT p).length) 1).at_=Nm p2.name:=DQ.2.1
  have ec:rq T (mv q (pT p).length)=mv (mv q (pT p).length) 1:=by
   unfold rq
   rw[aO (q:=mv q _) hf,t2,if_neg (by decide),ga (q:=mv q _) hf (by rw[t2];decide),aO (q:=mv (mv q _) 1) hf,t3,lV]
   simp
  rw[ec]at h
  obtain⟨c1,c2⟩:=yA (p2::l) _ f (mv (mv q (pT p).length) 1) l' r h hf (λx hx=>ho x (List.mem_cons_of_mem _ hx)) (by simp;omega) (by
   simp only[qi,List.append_assoc]
   exact DQ.2)
  refine⟨?_,?_⟩
  ·rw[c1,xd,xd]
   simp only[qi,List.length_append,List.length_cons]
   exact VP (by omega)
  ·rw[c2]
   simp[MU]
theorem yc {T:List Tk}{f:Nat}{q r:RQ}{x:Rc}{c:Rc}(h:lH T f q=some (x,r))(hf:q.fe=0)(hl:c.fields.length<=8)(ho:∀p∈c.fields,Fm p)(hh:Has T q.at_ (Nm c.name::W [123]::(fT c.fields++[W [125]]))) :
  r=mv q ((fT c.fields).length+3)/\UE x=UE c:=by
 obtain⟨t1,t2,t3⟩:=hh
 change bL T _=_ at t1
 change bL T _=_ at t2
 unfold lH at h
 rw[nq hf t1]at h
 simp only at h
 rw[ga (q:=ay q) hf (by rw[show bL T (ay q).at_=_ from t2];decide)]at h
 obtain⟨⟨y1,y2⟩,a1,a2⟩:=Option.bind_eq_some_iff.1 h
 cases a2
 obtain⟨rfl,b2⟩:=oq c.fields [] f (mv (ay q) 1) y1 y2 a1 hf ho (by simpa using hl) t3
 rw[cG]at t3
 have t4:bL T (mv (mv (ay q) 1) (fT c.fields).length).at_=W [125]:=t3.2.1
 rw[vI t4 hf]
 refine⟨by simp only[mv,ay,RQ.mk.injEq,and_true];omega,?_⟩
 unfold UE
 rw[b2]
 rfl
theorem EU {T:List Tk}{f:Nat}{q r:RQ}{x c:Fc}(h:qB T f q=some (x,r))(hf:q.fe=0)(h0:q.op=0)(hw:WfF c)(hd:r.fe=0\/dB c.body+1<=50)
  (hh:Has T q.at_ (Nm c.name::W [40]::(qi c.params++W [41]::((if c.has then W [58]::uT c.on c.od else [])++W [123]::(uB c.body++[W [125]]))))) :
  r=mv q ((qi c.params).length+(if c.has then W [58]::uT c.on c.od else []).length+(uB c.body).length+5)/\RN x=RN c:=by
 obtain⟨t1,t2,t3⟩:=hh
 change bL T _=_ at t1
 change bL T _=_ at t2
 unfold qB at h
 rw[nq hf t1]at h
 simp only at h
 rw[ga (q:=ay q) hf (by rw[show bL T (ay q).at_=_ from t2];decide)]at h
 obtain⟨⟨y1,y2⟩,a1,a2⟩:=Option.bind_eq_some_iff.1 h
 have L1:Has T (q.at_+1+1) (qi c.params++[W [41]]):=by
  rw[cG,gX]at t3 ⊢
  exact⟨t3.1,t3.2.1,trivial⟩
 obtain⟨rfl,b2⟩:=yA c.params [] f (mv (ay q) 1) y1 y2 a1 hf hw.od (by simpa using hw.len) L1
 rw[cG,gX]at t3
 obtain⟨_,t4,t5⟩:=t3
 have Ni:bL T (mv (mv (ay q) 1) (qi c.params).length).at_=W [41]:=t4
 dsimp only at a2
 rw[vI Ni hf]at a2
 have pa:∀s∈c.body,PS s:=λs hs=>BW s ((Ae _).1 hw.body s hs)
 cases hc:c.has with
 |true=>
  rw[hc]at t5
  simp only[if_true,List.cons_append]at t5
  obtain⟨t6,t7⟩:=t5
  change bL T _=_ at t6
  rw[cG]at t7
  obtain⟨t8,t9⟩:=t7
  rw[aO (q:=mv (mv (mv (ay q) 1) (qi c.params).length) 1) hf,show bL T (mv (mv (mv (ay q) 1) (qi c.params).length) 1).at_=_ from t6,if_pos (by decide)]at a2
  rw[Fh (T:=T) (q:=ay (mv (mv (mv (ay q) 1) (qi c.params).length) 1)) hf hw.res.1 hw.res.2 t8]at a2
  obtain⟨⟨z1,z2⟩,c1,c2⟩:=Option.bind_eq_some_iff.1 a2
  cases c2
  obtain⟨rfl,d2⟩:=eP c1 pa hw.body hf (by simp only[mv,ay,h0];omega) (hd.imp id λh=>by simp only[mv,ay,h0];omega) t9
  refine⟨?_,?_⟩
  ·simp only[mv,ay,if_true,List.length_cons,RQ.mk.injEq,and_true];omega
  ·unfold RN
   rw[b2,d2,hc]
   rfl
 |false=>
  rw[hc]at t5
  simp only[Bool.false_eq_true,if_false,List.nil_append]at t5
  have t6:bL T (mv (mv (mv (ay q) 1) (qi c.params).length) 1).at_=W [123]:=t5.1
  rw[aO (q:=mv (mv (mv (ay q) 1) (qi c.params).length) 1) hf,t6,if_neg (by decide)]at a2
  obtain⟨⟨z1,z2⟩,c1,c2⟩:=Option.bind_eq_some_iff.1 a2
  cases c2
  obtain⟨rfl,d2⟩:=eP c1 pa hw.body hf (by simp only[mv,ay,h0];omega) (hd.imp id λh=>by simp only[mv,ay,h0];omega) t5
  refine⟨?_,?_⟩
  ·simp only[mv,ay,Bool.false_eq_true,if_false,List.length_nil,RQ.mk.injEq,and_true];omega
  ·unfold RN
   rw[b2,d2,hc,(hw.no hc).1,(hw.no hc).2]
   rfl
theorem ov {T:List Tk}:∀(f:Nat)(p:Pg)(q:RQ)(s:Pg)(r:RQ),gb T f p q=some (s,r)->Good T q r
 |0,_,_,_,_,h=>by simp[gb]at h
 |f+1,p,q,s,r,h=>by
  unfold gb at h
  split at h
  ·rename_i c
   have hq:q.at_<T.length:=qc c.2
   split at h
   ·exact dH.trans (ov f _ _ _ _ h)
   split at h
   ·obtain⟨⟨x1,x2⟩,h1,h2⟩:=Option.bind_eq_some_iff.1 h
    exact((bN c.1 hq).trans (sW h1).1).trans (ov f _ _ _ _ h2)
   split at h
   ·exact((bN c.1 hq).trans (gj.trans aJ)).trans (ov f _ _ _ _ h)
   split at h
   ·obtain⟨⟨x1,x2⟩,h1,h2⟩:=Option.bind_eq_some_iff.1 h
    exact((bN c.1 hq).trans (xZ h1).1).trans (ov f _ _ _ _ h2)
   ·exact dH.trans (ov f _ _ _ _ h)
  ·cases h;exact Good.refl _ _
theorem YR (s:List UInt8):(W s).1≠0:=Dv s
theorem Le {T:List Tk}:∀(l acc:List Rc)(gs:List PD)(fs:List Fc)(f:Nat)(q:RQ)(p:Pg)(r:RQ)(rest:List TS),gb T f ⟨acc,gs,fs⟩ q=some (p,r)->q.fe=0->acc.length+l.length<=12->
  (∀r∈l,r.fields.length<=8/\∀p∈r.fields,Fm p)->Has T q.at_ (iG xg l++rest)->∃f2 xh,gb T f2 ⟨xh,gs,fs⟩ (mv q (iG xg l).length)=some (p,r)/\xh.map UE=(acc++l).map UE
 |[],acc,gs,fs,f,q,p,r,rest,h,hf,_,_,hh=>⟨f,acc,h,by simp⟩
 |c::l,acc,gs,fs,0,q,p,r,rest,h,_,_,_,_=>by simp[gb]at h
 |c::l,acc,gs,fs,f+1,q,p,r,rest,h,hf,hn,hr,hh=>by
  unfold gb at h
  simp only[iG,xg,List.append_assoc,List.cons_append]at hh
  obtain⟨t,hh⟩:=hh
  change bL T _=_ at t
  simp only[List.length_cons]at hn
  rw[aO hf,aO hf,aO hf,DP,t,if_pos ⟨hf,YR _⟩,if_neg (by
   rintro (⟨_,b⟩|⟨b,_⟩|⟨b,_⟩)
   ·simp only at b;omega
   ·revert b;decide
   ·revert b;decide),if_pos (by decide)]at h
  obtain⟨⟨x1,x2⟩,h1,h2⟩:=Option.bind_eq_some_iff.1 h
  have RW:Has T (q.at_+1) (Nm c.name::W [123]::(fT c.fields++[W [125]])):=by
   obtain⟨u1,u2,u3⟩:=hh
   rw[cG]at u3
   refine⟨u1,u2,?_⟩
   rw[cG]
   exact⟨u3.1,u3.2.1,trivial⟩
  obtain⟨hl,ho⟩:=hr c List.mem_cons_self
  obtain⟨rfl,b2⟩:=yc h1 hf hl ho RW
  have DQ:Has T ((ay q).at_+((fT c.fields).length+3)) (iG xg l++rest):=by
   obtain⟨u1,u2,u3⟩:=hh
   rw[cG]at u3
   have:=u3.2.2
   simp only[List.nil_append]at this
   rw[show (ay q).at_+((fT c.fields).length+3)=q.at_+1+1+1+(fT c.fields).length+1 by simp only[ay];omega]
   exact this
  obtain⟨f2,xh,c1,c2⟩:=Le l (acc++[x1]) gs fs f (mv (ay q) ((fT c.fields).length+3)) p r rest h2 hf (by simp;omega) (λx hx=>hr x (List.mem_cons_of_mem _ hx)) DQ
  refine⟨f2,xh,?_,?_⟩
  ·have:mv q (iG xg (c::l)).length=mv (mv (ay q) ((fT c.fields).length+3)) (iG xg l).length:=by
    simp only[mv,ay,iG,xg,List.length_append,List.length_cons,List.length_nil,RQ.mk.injEq,and_true];omega
   rw[this];exact c1
  ·rw[c2]
   simp[b2]
theorem H9 {T:List Tk}:∀(l acc:List PD)(rs:List Rc)(fs:List Fc)(f:Nat)(q:RQ)(p:Pg)(r:RQ)(rest:List TS),gb T f ⟨rs,acc,fs⟩ q=some (p,r)->q.fe=0->acc.length+l.length<=8->
  (∀r∈l,Fm r)->Has T q.at_ (iG zi l++rest)->∃f2 xh,gb T f2 ⟨rs,xh,fs⟩ (mv q (iG zi l).length)=some (p,r)/\xh.map MU=(acc++l).map MU
 |[],acc,gs,fs,f,q,p,r,rest,h,hf,_,_,hh=>⟨f,acc,h,by simp⟩
 |c::l,acc,gs,fs,0,q,p,r,rest,h,_,_,_,_=>by simp[gb]at h
 |c::l,acc,rs,fs,f+1,q,p,r,rest,h,hf,hn,hr,hh=>by
  unfold gb at h
  simp only[iG,zi,List.append_assoc,List.cons_append,List.nil_append]at hh
  obtain⟨t,hh⟩:=hh
  change bL T _=_ at t
  simp only[List.length_cons]at hn
  rw[aO hf,aO hf,aO hf,DP,t,if_pos ⟨hf,YR _⟩,if_neg (by
   rintro (⟨b,_⟩|⟨_,b⟩|⟨b,_⟩)
   ·revert b;decide
   ·simp only at b;omega
   ·revert b;decide),if_neg (by decide),if_pos (by decide)]at h
  obtain⟨e1,DQ⟩:=Fo (q:=ay q) hf (hr c List.mem_cons_self) hh
  rw[gX]at DQ
  have t2:bL T (mv (ay q) (pT c).length).at_=W [59]:=DQ.1
  rw[e1]at h
  simp only at h
  rw[ga (q:=mv (ay q) _) hf (by rw[t2];decide)]at h
  obtain⟨f2,xh,c1,c2⟩:=H9 l _ rs fs f (mv (mv (ay q) (pT c).length) 1) p r rest h hf (by simp;omega) (λx hx=>hr x (List.mem_cons_of_mem _ hx)) DQ.2
  refine⟨f2,xh,?_,?_⟩
  ·have:mv q (iG zi (c::l)).length=mv (mv (mv (ay q) (pT c).length) 1) (iG zi l).length:=by
    simp only[mv,ay,iG,zi,List.length_append,List.length_cons,List.length_nil,RQ.mk.injEq,and_true];omega
   rw[this];exact c1
  ·rw[c2]
   simp[MU]
theorem Lg {T:List Tk}:∀(l acc:List Fc)(rs:List Rc)(gs:List PD)(f:Nat)(q:RQ)(p:Pg)(r:RQ)(rest:List TS),gb T f ⟨rs,gs,acc⟩ q=some (p,r)->q.fe=0->q.op=0->acc.length+l.length<=16->
  (∀r∈l,WfF r)->(r.fe=0\/∀c∈l,dB c.body+1<=50)->Has T q.at_ (iG yz l++rest)->∃f2 xh,gb T f2 ⟨rs,gs,xh⟩ (mv q (iG yz l).length)=some (p,r)/\xh.map RN=(acc++l).map RN
 |[],acc,gs,fs,f,q,p,r,rest,h,hf,_,_,_,_,hh=>⟨f,acc,h,by simp⟩
 |c::l,acc,gs,fs,0,q,p,r,rest,h,_,_,_,_,_,_=>by simp[gb]at h
 |c::l,acc,rs,gs,f+1,q,p,r,rest,h,hf,h0,hn,hr,hd,hh=>by
  unfold gb at h
  simp only[iG,yz,List.append_assoc,List.cons_append]at hh
  obtain⟨t,hh⟩:=hh
  change bL T _=_ at t
  simp only[List.length_cons]at hn
  rw[aO hf,aO hf,aO hf,DP,t,if_pos ⟨hf,YR _⟩,if_neg (by
   rintro (⟨b,_⟩|⟨b,_⟩|⟨_,b⟩)
   ·revert b;decide
   ·revert b;decide
   ·simp only at b;omega),if_neg (by decide),if_neg (by decide),if_pos (by decide)]at h
  obtain⟨⟨x1,x2⟩,h1,h2⟩:=Option.bind_eq_some_iff.1 h
  have SN:∀(a b:List TS) i,Has T i (a++b)->Has T i a:=λa b i h=>(cG.1 h).1
  have FC:Has T (q.at_+1) ((Nm c.name::W [40]::(qi c.params++W [41]::((if c.has then W [58]::uT c.on c.od else [])++W [123]::(uB c.body++[W [125]]))))++(iG yz l++rest)):=by
   simp only[List.append_assoc,List.cons_append]
   exact hh
  obtain⟨rfl,b2⟩:=EU h1 hf h0 (hr c List.mem_cons_self) (hd.imp (λhr=>(ov _ _ _ _ _ h2).l5 hr) λh=>h c List.mem_cons_self) (SN _ _ _ FC)
  rw[cG]at FC
  have RA:(Nm c.name::W [40]::(qi c.params++W [41]::((if c.has then W [58]::uT c.on c.od else [])++W [123]::(uB c.body++[W [125]])))).length=(qi c.params).length+(if c.has then W [58]::uT c.on c.od else []).length+(uB c.body).length+5:=by
   simp only[List.length_cons,List.length_append,List.length_nil];omega
  rw[RA]at FC
  obtain⟨f2,xh,c1,c2⟩:=Lg l (acc++[x1]) rs gs f (mv (ay q) ((qi c.params).length+(if c.has then W [58]::uT c.on c.od else []).length+(uB c.body).length+5)) p r rest h2 hf h0 (by simp;omega)
   (λx hx=>hr x (List.mem_cons_of_mem _ hx)) (hd.imp id λh x hx=>h x (List.mem_cons_of_mem _ hx)) FC.2
  refine⟨f2,xh,?_,?_⟩
  ·have:mv q (iG yz (c::l)).length=mv (mv (ay q) ((qi c.params).length+(if c.has then W [58]::uT c.on c.od else []).length+(uB c.body).length+5)) (iG yz l).length:=by
    simp only[mv,ay,iG,yz,List.length_append,List.length_cons,List.length_nil,RQ.mk.injEq,and_true];omega
   rw[this];exact c1
  ·rw[c2]
   simp[b2]
theorem Re {T:List Tk}{F:Nat}{x:Pg×Int×Int}{p:Pg}(h:oR T F=some x)(hw:WfP p)(hd:x.2.1=0\/∀c∈p.funcs,dB c.body+1<=50)(hh:Has T 0 (uP p++[(0,[],0)])):x.2=(0,0)/\Ld x.1=Ld p:=by
 unfold oR at h
 obtain⟨⟨y1,y2⟩,h1,h2⟩:=Option.bind_eq_some_iff.1 h
 dsimp only at h2
 have hd2:y2.fe=0\/∀c∈p.funcs,dB c.body+1<=50:=hd.imp (λhx=>by
  split at h2
  ·assumption
  ·rename_i jH
   cases h2;exact absurd hx jH) id
 unfold uP at hh
 simp only[List.append_assoc]at hh
 obtain⟨f1,rs,a1,a2⟩:=Le p.bw [] [] [] F ⟨0,0,0,0⟩ y1 y2 _ h1 rfl (by simpa using hw.rl) hw.r hh
 rw[cG]at hh
 obtain⟨f2,gs,b1,b2⟩:=H9 p.globals [] rs [] f1 _ y1 y2 _ a1 rfl (by simpa using hw.gl) hw.g hh.2
 have DQ:=(cG.1 hh.2).2
 obtain⟨f3,fs,c1,c2⟩:=Lg p.funcs [] rs gs f2 _ y1 y2 _ b1 rfl rfl (by simpa using hw.fl) hw.f hd2 DQ
 have hh3:=(cG.1 DQ).2.1
 cases f3 with
 |zero=>simp[gb]at c1
 |succ f3=>
  unfold gb at c1
  rw[if_neg (by
   rintro⟨_,k⟩
   apply k
   rw[DP]
   have:bL T (mv (mv (mv (⟨0,0,0,0⟩:RQ) (iG xg p.bw).length) (iG zi p.globals).length) (iG yz p.funcs).length).at_=(0,[],0):=hh3
   rw[this])]at c1
  cases c1
  change some (if (0:Int)=0 then _ else _)=_ at h2
  rw[if_pos rfl]at h2
  cases h2
  refine⟨rfl,?_⟩
  unfold Ld
  simp only[List.nil_append]at a2 b2 c2
  rw[a2,b2,c2]
end nO
namespace Lx
open Ax Go V7 j4 nO U2 N7
def Rf (r:List AV):TS:=strip (acF r)
def Lx (l:List UInt8)(ts:List TS):Prop:=∀a n:Nat,l.length+1<=n->∃rows,sU n (a+dR l) (l.drop (dR l))=(rows,none)/\rows.map Rf=ts
theorem Rg:Lx [] [(0,[],0)]:=by
 intro a n hn
 cases n with
 |zero=>simp at hn
 |succ n=>exact⟨_,rfl,rfl⟩
theorem xk {c:UInt8}{l:List UInt8}{ts:List TS}(hc:sR c=true)(h:Lx l ts):Lx (c::l) ts:=by
 intro a n hn
 have e:dR (c::l)=dR l+1:=by
  show kQ (l.length+1) (c::l)=_
  unfold kQ
  rw[if_pos hc];rfl
 simp only[List.length_cons]at hn
 rw[e,show a+(dR l+1)=(a+1)+dR l by omega,List.drop_succ_cons]
 exact h (a+1) n (by omega)
theorem JR {c:UInt8}{l:List UInt8}{k:Nat}{t:TS}{ts:List TS}(hw:sR c=false)(hc:pO (c::l)=false)(h1:∀a,∃row,lZ a (c::l)=(row,k+1)/\Rf row=t)(h2:Lx ((c::l).drop (k+1)) ts):Lx (c::l) (t::ts):=by
 intro a n hn
 have e:dR (c::l)=0:=by
  show kQ (l.length+1) (c::l)=_
  unfold kQ
  rw[if_neg (by rw[hw];decide),if_neg (by rw[hc];decide)]
 rw[e,List.drop_zero,Nat.add_zero]
 cases n with
 |zero=>simp at hn
 |succ n=>
  obtain⟨row,r1,r2⟩:=h1 a
  simp only[List.length_cons]at hn
  obtain⟨rows,b1,b2⟩:=h2 (a+(k+1)) n (by simp only[List.length_drop,List.length_cons];omega)
  unfold sU
  rw[r1]
  simp only
  rw[b1]
  exact⟨_,rfl,by simp[r2,b2]⟩
theorem Rh (d:Bool)(r:List UInt8):∀P:List UInt8,m9 d (P++32::r)=m9 d (P++[32])/\m9 d (P++[32])<=P.length
 |[]=>by
  have:pR d 32=false:=by cases d<;>decide
  simp[m9,this]
 |c::P=>by
  obtain⟨h1,h2⟩:=Rh d r P
  simp only[List.cons_append,m9,h1,List.length_cons]
  split
  ·exact⟨trivial,by omega⟩
  ·exact⟨trivial,by omega⟩
theorem UF (P r:List UInt8)(n:Nat)(h:n<=P.length):mQ (P++32::r) n=mQ (P++[32]) n:=by
 unfold mQ
 rw[List.drop_append_of_le_length h,List.drop_append_of_le_length h]
 cases P.drop n with
 |nil=>rfl
 |cons a l=>rfl
theorem YS (a:Nat)(c:UInt8)(P r:List UInt8):∃row,lZ a (c::P++32::r)=(row,(lZ 0 (c::P++[32])).2)/\Rf row=Rf (lZ 0 (c::P++[32])).1:=by
 have hr:=λd=>Rh d r (c::P)
 have ht:∀n,n<=(c::P).length->(c::P++32::r).take n=(c::P++[32]).take n:=λn hn=>by
  rw[List.take_append_of_le_length hn,List.take_append_of_le_length hn]
 have hs:uV (c::P++32::r)=uV (c::P++[32]):=by
  cases P with
  |nil=>rfl
  |cons d P=>rfl
 unfold lZ
 simp only[List.cons_append]at hr ht hs ⊢
 rw[(hr false).1,(hr true).1,hs,ht _ (hr false).2]
 split
 ·unfold nX
  split
  ·exact⟨_,rfl,rfl⟩
  ·split
   ·exact⟨_,rfl,rfl⟩
   ·exact⟨_,rfl,rfl⟩
 ·split
  ·unfold qb
   rw[ht _ (hr true).2]
   have hn:=UF (c::P) r _ (hr true).2
   simp only[List.cons_append]at hn
   rw[hn]
   split
   ·exact⟨_,rfl,rfl⟩
   ·split
    ·exact⟨_,rfl,rfl⟩
    ·exact⟨_,rfl,rfl⟩
  ·unfold pP
   split
   ·exact⟨_,rfl,rfl⟩
   ·exact⟨_,rfl,rfl⟩
def Fp:Nat->List UInt8->Option (List TS)
 |0,_=>none
 |_+1,[]=>some []
 |n+1,c::P=>if sR c then Fp n P else if pO (c::P++[32]) then none else
   match lZ 0 (c::P++[32]) with
   |(_,0)=>none
   |(row,k+1)=>if Nat.ble (k+1) (P.length+1) then (match Fp n ((c::P).drop (k+1)) with|some ts=>some (Rf row::ts)|none=>none) else none
theorem xm:∀(n:Nat)(P:List UInt8)(ts:List TS),Fp n P=some ts->∀rest us,Lx (32::rest) us->Lx (P++32::rest) (ts++us)
 |0,_,_,h,_,_,_=>by cases h
 |n+1,[],ts,h,rest,us,hx=>by
  unfold Fp at h
  cases h;exact hx
 |n+1,c::P,ts,h,rest,us,hx=>by
  unfold Fp at h
  split at h
  ·rename_i hw
   exact xk hw (xm n P ts h rest us hx)
  ·rename_i hw
   split at h
   ·cases h
   ·rename_i hc
    obtain⟨o1,k0,uk⟩:∃o1 k0,lZ 0 (c::P++[32])=(o1,k0):=⟨_,_,rfl⟩
    rw[uk]at h
    cases k0 with
    |zero=>cases h
    |succ k=>
     simp only at h
     split at h
     ·rename_i hle
      have IN:=Nat.le_of_ble_eq_true hle
      split at h
      ·rename_i ts2 hl
       cases h
       have QA:pO (c::P++32::rest)=false:=by
        have:pO (c::P++32::rest)=pO (c::P++[32]):=by
         cases P with
         |nil=>rfl
         |cons d P=>rfl
        rw[this];simpa using hc
       refine JR (k:=k) (by simpa using hw) QA (λa=>?_) ?_
       ·have:=YS a c P rest
        rw[uk]at this
        exact this
       ·have hd:(c::(P++32::rest)).drop (k+1)=(c::P).drop (k+1)++32::rest:=by
         rw[<-List.cons_append,List.drop_append_of_le_length (by simpa using IN)]
        have:=xm n _ ts2 hl rest us hx
        rw[<-hd]at this
        exact this
      ·cases h
     ·cases h
theorem Lh:∀{ts:List TS}{T:List Tk}{i:Nat},(T.drop i).map strip=ts->Has T i ts
 |[],_,_,_=>trivial
 |x::ts,T,i,h=>by
  have hi:i<T.length:=by
   rcases Nat.lt_or_ge i T.length with h1|h1
   ·exact h1
   ·rw[List.drop_eq_nil_of_le h1]at h;cases h
  rw[List.drop_eq_getElem_cons hi,List.map_cons]at h
  obtain⟨h1,h2⟩:=List.cons.inj h
  refine⟨?_,Lh h2⟩
  rw[List.getD_eq_getElem?_getD,List.getElem?_eq_getElem hi]
  exact h1
theorem DR {s:List UInt8}{p:Pg}(hl:s.length<=6000)(hx:Lx s (uP p++[(0,[],0)]))(hw:WfP p)(hd:∀c∈p.funcs,dB c.body+1<=50):∃p',lT s=(p',0,0)/\Ld p'=Ld p:=by
 obtain⟨rows,h1,h2⟩:=hx 0 (s.length+1) (Nat.le_refl _)
 rw[Nat.zero_add]at h1
 have ht:Bx s=(rows,none):=h1
 unfold lT
 rw[if_pos hl,ht]
 simp only
 obtain⟨x,hx⟩:=pQ (l9 rows)
 rw[hx,Option.getD_some]
 have hm:(l9 rows).map strip=uP p++[(0,[],0)]:=by
  rw[<-h2,l9,List.map_map]
  exact List.map_congr_left λr _=>rfl
 obtain⟨a1,a2⟩:=Re hx hw (.inr hd) (Lh (by rw[List.drop_zero];exact hm))
 exact⟨x.1,by rw[<-a1],a2⟩
end Lx
