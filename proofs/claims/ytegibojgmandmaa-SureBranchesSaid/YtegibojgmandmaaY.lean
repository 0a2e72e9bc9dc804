/-
  A program's tokens as it is printed, and what the parser makes of them: expressions.
-/
import Derived.Test.YtegibojgmandmaaP

namespace Unp
open Ax Go V7 Par Chk
abbrev TS:=Int×List UInt8×Int
def strip (c:Tk):TS:=(c.k,c.t,c.n)
def W (s:List UInt8):TS:=(kindOf s,s,0)
def Nm (s:List UInt8):TS:=(1,s,0)
def Nu (n:Int):TS:=(2,[],n)
def Has (T:List Tk):Nat->List TS->Prop
 |_,[]=>True
 |i,x::r=>strip (T.getD i Tk0)=x/\Has T (i+1) r
theorem has_app {T:List Tk}:∀{a b:List TS}{i:Nat},Has T i (a++b)↔Has T i a/\Has T (i+a.length) b
 |[],b,i=>by simp[Has]
 |x::a,b,i=>by
  have:=has_app (T:=T) (a:=a) (b:=b) (i:=i+1)
  simp only[List.cons_append,Has,this,List.length_cons,and_assoc]
  rw[show i+1+a.length=i+(a.length+1) by omega]
theorem has_cons {T:List Tk}{x:TS}{a:List TS}{i:Nat}:Has T i (x::a)↔strip (T.getD i Tk0)=x/\Has T (i+1) a:=Iff.rfl
def isT (x:TS)(s:List UInt8):Bool:=decide (x.1=kindOf s)&&decide (x.2.1=s)
def levS (n:Nat)(x:TS):Int:=if x.1=4 then findT (signsT n) x.2.1 else 0
def tokA (T:List Tk)(i:Nat):TS:=strip (T.getD i Tk0)
variable {T:List Tk}{q:RQ}
theorem isQ_tok (hf:q.fe=0)(s:List UInt8):isQ T q s=isT (tokA T q.at_) s:=by simp[isQ,isT,tokA,strip,cur,hf]
theorem lev_tok (n:Nat):levelT n (cur T q)=levS n (tokA T q.at_):=rfl
theorem name_tok {s:List UInt8}(hf:q.fe=0)(h:tokA T q.at_=Nm s):nameQ T q=(s,stepQ q):=by
 unfold tokA strip Nm at h
 simp only[Prod.mk.injEq]at h
 unfold nameQ cur
 rw[if_pos ⟨hf,h.1⟩,h.2.1]
def mv (q:RQ)(n:Nat):RQ:=⟨q.at_+n,q.op,q.fe,q.fa⟩
theorem step_mv:stepQ q=mv q 1:=rfl
theorem mv_mv (a b:Nat):mv (mv q a) b=mv q (a+b):=by simp[mv,Nat.add_assoc]
theorem mv_at (n:Nat):(mv q n).at_=q.at_+n:=rfl
theorem take_tok (hf:q.fe=0){s:List UInt8}(h:isT (tokA T q.at_) s=true):takeQ T q s=mv q 1:=by
 unfold takeQ;rw[isQ_tok hf,h];rfl
theorem wrap_small {n:Int}(h : -100<=n)(h2:n<=100):IntKind.i64.wrap n=n:=by rw[wrap64]<;>omega
def op1 (q:RQ):RQ:=⟨q.at_+1,q.op+1,q.fe,q.fa⟩
theorem opens_tok (hf:q.fe=0){s:List UInt8}(h:isT (tokA T q.at_) s=true):(opensQ T q s=op1 q/\q.op<50\/(opensQ T q s).fe≠0/\50<=q.op)\/q.op<0:=by
 by_cases h0:q.op<0
 ·exact .inr h0
 left
 unfold opensQ
 rw[isQ_tok hf,h]
 by_cases h5:50<=q.op
 ·rw[if_pos (by simp[h5])]
  exact .inr ⟨fail_bad (by decide),h5⟩
 ·rw[if_neg (by simp[h5]),take_tok hf h]
  refine .inl ⟨?_,by omega⟩
  unfold bumpQ mv op1
  simp only
  rw[wrap_small (by omega) (by omega)]
theorem closes_tok (hf:q.fe=0){s:List UInt8}(h:isT (tokA T q.at_) s=true)(h0:0<=q.op)(h1:q.op<=51):closesQ T q s=⟨q.at_+1,q.op-1,q.fe,q.fa⟩:=by
 unfold closesQ
 rw[take_tok hf h]
 unfold bumpQ mv
 simp only
 rw[wrap_small (by omega) (by omega)]
 rfl
def nInt:List UInt8:=[105,110,116]
def nBool:List UInt8:=[98,111,111,108]
def tyN (on:List UInt8):TS:=if on=nInt\/on=nBool then W on else Nm on
def uT (on:List UInt8)(od:Int):List TS:=List.replicate od.toNat (W [91])++tyN on::List.replicate od.toNat (W [93])
theorem tyN_no (on:List UInt8):isT (tyN on) [91]=false:=by
 unfold tyN
 split
 ·rename_i h
  rcases h with h|h<;>rw[h]<;>decide
 ·simp[isT,Nm,kindOf]
theorem ofL_has:∀(k d:Nat)(q:RQ)(j:Nat)(x:TS),q.fe=0->j<=k->Has T q.at_ (List.replicate j (W [91])++[x])->isT x [91]=false->ofL T k d q=(d+j,mv q j)
 |0,d,q,j,x,hf,hj,h,hx=>by
  have:j=0:=by omega
  subst this
  rfl
 |k+1,d,q,0,x,hf,hj,h,hx=>by
  unfold ofL
  have h1:tokA T q.at_=x:=h.1
  rw[isQ_tok hf,h1,hx]
  rfl
 |k+1,d,q,j+1,x,hf,hj,h,hx=>by
  unfold ofL
  rw[List.replicate_succ,List.cons_append,has_cons]at h
  have h1:tokA T q.at_=W [91]:=h.1
  have h2:isT (W [91]) [91]=true:=by decide
  rw[isQ_tok hf,h1,h2,if_pos rfl]
  have:=ofL_has k (d+1) (stepQ q) j x hf (by omega) h.2 hx
  rw[this,step_mv,mv_mv]
  rw[show d+1+j=d+(j+1) by omega,show 1+j=j+1 by omega]
theorem takes_has:∀(k:Nat)(q:RQ)(s:List UInt8),q.fe=0->Has T q.at_ (List.replicate k (W s))->takesQ T q s k=mv q k
 |0,q,s,hf,h=>rfl
 |k+1,q,s,hf,h=>by
  unfold takesQ
  rw[List.replicate_succ',has_app]at h
  rw[takes_has k q s hf h.1]
  have h2:tokA T (mv q k).at_=W s:=by
   have:=h.2.1
   simpa [mv,tokA] using this
  rw[take_tok (q:=mv q k) hf (by rw[h2];simp[isT,W]),mv_mv]
theorem of_has {on:List UInt8}{od:Int}(hf:q.fe=0)(h0:0<=od)(h3:od<=3)(h:Has T q.at_ (uT on od)):ofQ T q=((on,od),mv q (uT on od).length):=by
 obtain⟨k,rfl⟩:∃k:Nat,od=k:=⟨od.toNat,by omega⟩
 have hk:k<=3:=by omega
 unfold uT at h ⊢
 simp only[Int.toNat_natCast]at h ⊢
 have hL:Has T q.at_ (List.replicate k (W [91])++[tyN on]):=by
  rw[has_app]at h ⊢
  exact⟨h.1,h.2.1,trivial⟩
 have e1:=ofL_has 3 0 q k (tyN on) hf hk hL (tyN_no on)
 rw[has_app,has_cons,List.length_replicate]at h
 obtain⟨_,h2,h4⟩:=h
 have ht:tokA T (mv q k).at_=tyN on:=h2
 have hn:ofN T (mv q k)=(on,mv q (k+1)):=by
  unfold ofN
  rw[isQ_tok (q:=mv q k) hf,isQ_tok (q:=mv q k) hf,ht]
  unfold tyN at ht ⊢
  split
  ·rename_i c
   have c1:(isT (W on) [105,110,116]||isT (W on) [98,111,111,108])=true:=by rcases c with c|c<;>rw[c]<;>decide
   rw[if_pos c]at ht
   rw[if_pos c1]
   have:(cur T (mv q k)).t=on:=by
    have:=congrArg (·.2.1) ht
    exact this
   rw[this,step_mv,mv_mv]
  ·rename_i c
   have c1:(isT (Nm on) [105,110,116]||isT (Nm on) [98,111,111,108])=false:=by simp[isT,Nm,kindOf]
   rw[if_neg c]at ht
   rw[c1]
   simp only[Bool.false_eq_true,if_false]
   rw[name_tok (q:=mv q k) hf ht,step_mv,mv_mv]
 unfold ofQ
 rw[e1]
 simp only[Nat.zero_add]
 have hb:isQ T (mv q k) [91]=false:=by rw[isQ_tok (q:=mv q k) hf,ht,tyN_no]
 rw[hb,hn]
 simp only[Bool.false_eq_true,if_false]
 have:=takes_has (T:=T) k (mv q (k+1)) [93] hf (by
  rw[mv_at]
  have:q.at_+(k+1)=q.at_+k+1:=by omega
  rw[this];exact h4)
 rw[this,mv_mv]
 simp
 congr 1
 omega
def lev (k:Int):Nat:=if k=24 then 1 else if k=23 then 2 else if 19<=k/\k<=22 then 3 else if k=14\/k=15 then 4 else if 16<=k/\k<=18 then 5 else if k=12\/k=13 then 6 else 7
def signOf (k:Int):List UInt8:=if k=14 then [43] else if k=15 then [45] else if k=16 then [42] else if k=17 then [47] else if k=18 then [37] else if k=19 then [60] else if k=20 then [60,61] else if k=21 then [61,61] else if k=22 then [33,61] else if k=23 then [38,38] else [124,124]
def wTrue:List UInt8:=[116,114,117,101]
def wFalse:List UInt8:=[102,97,108,115,101]
def wNull:List UInt8:=[110,117,108,108]
def wNew:List UInt8:=[110,101,119]
def wLen:List UInt8:=[108,101,110]
def wRead:List UInt8:=[114,101,97,100]
abbrev Kt:=Nat×List TS
def wr (l:Nat)(x:Kt):List TS:=if x.1<l then W [40]::(x.2++[W [41]]) else x.2
def g0 (ks:List Kt):Kt:=match ks with|x::_=>x | []=>(7,[])
def g1 (ks:List Kt):Kt:=match ks with|_::x::_=>x|_=>(7,[])
def argT:List Kt->List TS
 |[]=>[]
 |x::l=>W [44]::(x.2++argT l)
def args (ks:List Kt):List TS:=match ks with | []=>[]|x::l=>x.2++argT l
def uO (k n:Int)(nm on:List UInt8)(od:Int)(ks:List Kt):List TS:=
 if k=1 then [Nu n]
 else if k=2 then [W (if n=1 then wTrue else wFalse)]
 else if k=3 then W wNull::uT on od
 else if k=4 then [Nm nm]
 else if k=5 then wr 7 (g0 ks)++[W [46],Nm nm]
 else if k=6 then wr 7 (g0 ks)++W [91]::((g1 ks).2++[W [93]])
 else if k=7 then Nm nm::W [40]::(args ks++[W [41]])
 else if k=8 then [W wNew,Nm on]
 else if k=9 then W wNew::W [91]::(uT on od++W [93]::W [40]::((g0 ks).2++[W [41]]))
 else if k=10 then W wLen::W [40]::((g0 ks).2++[W [41]])
 else if k=11 then [W wRead,W [40],W [41]]
 else if k=12 then W [45]::wr 6 (g0 ks)
 else if k=13 then W [33]::wr 6 (g0 ks)
 else wr (lev k) (g0 ks)++W (signOf k)::wr (lev k+1) (g1 ks)
mutual
def uX:E->List TS
 |.mk k n nm on od kids _ _ _=>uO k n nm on od (uKs kids)
def uKs:List E->List Kt
 |[]=>[]
 |e::l=>(lev e.k,uX e)::uKs l
end
theorem uX_eq (e:E):uX e=uO e.k e.n e.nm e.on e.od (uKs e.kids):=by
 obtain⟨k,n,nm,on,od,kids,a,ty,ref⟩:=e
 (conv=>lhs;unfold uX)<;>rfl
def uW (l:Nat)(e:E):List TS:=wr l (lev e.k,uX e)
abbrev Kd:=Nat×Int
def wd (l:Nat)(x:Kd):Int:=if x.1<l then x.2+1 else x.2
def h0 (ks:List Kd):Kd:=match ks with|x::_=>x | []=>(7,0)
def h1 (ks:List Kd):Kd:=match ks with|_::x::_=>x|_=>(7,0)
def mxD:List Kd->Int
 |[]=>0
 |x::l=>max x.2 (mxD l)
def dO (k:Int)(ks:List Kd):Int:=
 if k=1\/k=2\/k=3\/k=4\/k=8 then 0
 else if k=5 then wd 7 (h0 ks)
 else if k=6 then max (wd 7 (h0 ks)) ((h1 ks).2+1)
 else if k=7 then mxD ks+1
 else if k=9\/k=10 then (h0 ks).2+1
 else if k=11 then 1
 else if k=12\/k=13 then wd 6 (h0 ks)+1
 else max (wd (lev k) (h0 ks)) (wd (lev k+1) (h1 ks))
mutual
def dX:E->Int
 |.mk k _ _ _ _ kids _ _ _=>dO k (dKs kids)
def dKs:List E->List Kd
 |[]=>[]
 |e::l=>(lev e.k,dX e)::dKs l
end
theorem dX_eq (e:E):dX e=dO e.k (dKs e.kids):=by
 obtain⟨k,n,nm,on,od,kids,a,ty,ref⟩:=e
 (conv=>lhs;unfold dX)<;>rfl
def dW (l:Nat)(e:E):Int:=wd l (lev e.k,dX e)
mutual
def er:E->E
 |.mk k n nm on od kids _ _ _=>.mk k (keptN k n) (keptNm k nm) (keptOn k on) (keptOd k od) (ers kids) 0 T0 0
def ers:List E->List E
 |[]=>[]
 |e::l=>er e::ers l
end
theorem er_eq (e:E):er e=.mk e.k (keptN e.k e.n) (keptNm e.k e.nm) (keptOn e.k e.on) (keptOd e.k e.od) (ers e.kids) 0 T0 0:=by
 obtain⟨k,n,nm,on,od,kids,a,ty,ref⟩:=e
 (conv=>lhs;unfold er)<;>rfl
theorem ers_app:∀l r:List E,ers (l++r)=ers l++ers r
 |[],r=>rfl
 |e::l,r=>by simp only[List.cons_append,ers,ers_app l r]
mutual
def Wf:E->Prop
 |.mk k n _ _ od kids _ _ _=>kindsT k n kids.length=true/\(k=3\/k=9->0<=od/\od<=3)/\(k=8->od=0)/\Wfs kids
def Wfs:List E->Prop
 |[]=>True
 |e::l=>Wf e/\Wfs l
end
theorem Wf_eq (e:E):Wf e↔kindsT e.k e.n e.kids.length=true/\(e.k=3\/e.k=9->0<=e.od/\e.od<=3)/\(e.k=8->e.od=0)/\Wfs e.kids:=by
 obtain⟨k,n,nm,on,od,kids,a,ty,ref⟩:=e
 unfold Wf;exact Iff.rfl
theorem Wfs_iff:∀l:List E,Wfs l↔∀e∈l,Wf e
 |[]=>by simp[Wfs]
 |e::l=>by simp[Wfs,Wfs_iff l]
def Stop (T:List Tk)(n i:Nat):Prop:=(∀m,n<=m->m<=4->levS m (tokA T i)=0)/\isT (tokA T i) [46]=false/\isT (tokA T i) [91]=false/\isT (tokA T i) [40]=false
theorem Stop.mono {n m i:Nat}(h:Stop T n i)(hm:n<=m):Stop T m i:=⟨fun k a b=>h.1 k (by omega) b,h.2⟩
end Unp
namespace Unp
open Ax Go V7 Par Chk
def stopB (n:Nat)(x:TS):Bool:=(List.range 5).all (fun m=>decide (m<n)||decide (levS m x=0)) && !isT x [46] && !isT x [91] && !isT x [40]
theorem stop_of {T:List Tk}{n i:Nat}{x:TS}(hx:tokA T i=x)(h:stopB n x=true):Stop T n i:=by
 unfold stopB at h
 simp only[Bool.and_eq_true,List.all_eq_true,Bool.not_eq_true',Bool.or_eq_true,decide_eq_true_eq,List.mem_range]at h
 obtain⟨⟨⟨a,b⟩,c⟩,d⟩:=h
 rw[<-hx]at a b c d
 exact⟨fun m h1 h2=>(a m (by omega)).resolve_left (by omega),b,c,d⟩
theorem sign_facts {k:Int}(h:14<=k)(h2:k<=24):stopB (lev k) (W (signOf k))=true/\levS (lev k-1) (W (signOf k))=k/\1<=lev k/\lev k<=5:=by
 have:k=14\/k=15\/k=16\/k=17\/k=18\/k=19\/k=20\/k=21\/k=22\/k=23\/k=24:=by omega
 rcases this with rfl|rfl|rfl|rfl|rfl|rfl|rfl|rfl|rfl|rfl|rfl<;>decide
theorem lev_pos (k:Int):1<=lev k/\lev k<=7:=by
 unfold lev
 repeat' split
 all_goals omega
theorem lev_bin {k:Int}(h:lev k<=5):14<=k/\k<=24:=by
 unfold lev at h
 repeat' split at h
 all_goals omega
theorem lev_un {k:Int}(h:lev k=6):k=12\/k=13:=by
 unfold lev at h
 repeat' split at h
 all_goals omega
theorem lev_top {k:Int}(h:lev k=7):¬(12<=k/\k<=24):=by
 unfold lev at h
 repeat' split at h
 all_goals omega
theorem uW_same {l m:Nat}{e:E}(h:(lev e.k<l)↔(lev e.k<m)):uW l e=uW m e/\dW l e=dW m e:=by
 unfold uW dW wr wd
 simp only[h,and_self]
theorem uW_no {l:Nat}{e:E}(h:l<=lev e.k):uW l e=uX e/\dW l e=dX e:=by
 unfold uW dW wr wd
 simp only
 rw[if_neg (by omega),if_neg (by omega)]
 exact⟨rfl,rfl⟩
theorem uW_par {l:Nat}{e:E}(h:lev e.k<l):uW l e=W [40]::(uX e++[W [41]])/\dW l e=dX e+1:=by
 unfold uW dW wr wd
 simp only
 rw[if_pos h,if_pos h]
 exact⟨rfl,rfl⟩
theorem wd_nn {l:Nat}{x:Kd}(h:0<=x.2):0<=wd l x:=by unfold wd;split<;>omega
theorem dKs_map:∀l:List E,dKs l=l.map fun e=>(lev e.k,dX e)
 |[]=>rfl
 |e::l=>by unfold dKs;rw[dKs_map l];rfl
theorem mx_nn:∀{l:List Kd},(∀x∈l,0<=x.2)->0<=mxD l
 |[],_=>Int.le_refl _
 |x::l,h=>by
  unfold mxD
  have:=h x List.mem_cons_self
  omega
theorem dX_nn (e:E):0<=dX e:=by
 induction e using E.ind with
 |_ e ih=>
  have hk:∀x∈dKs e.kids,0<=x.2:=by
   rw[dKs_map]
   intro x hx
   obtain⟨y,hy,rfl⟩:=List.mem_map.1 hx
   exact ih y hy
  have a0:0<=(h0 (dKs e.kids)).2:=by
   unfold h0
   split
   ·rename_i x l heq;exact hk x (by rw[heq];exact List.mem_cons_self)
   ·exact Int.le_refl _
  have a1:0<=(h1 (dKs e.kids)).2:=by
   unfold h1
   split
   ·rename_i y x l heq;exact hk x (by rw[heq];exact List.mem_cons_of_mem _ List.mem_cons_self)
   ·exact Int.le_refl _
  have a2:=mx_nn hk
  have b1:=fun l=>wd_nn (l:=l) a0
  have b2:=fun l=>wd_nn (l:=l) a1
  rw[dX_eq]
  unfold dO
  repeat' split
  ·omega
  ·exact b1 7
  ·have:=b1 7;omega
  ·omega
  ·omega
  ·omega
  ·have:=b1 6;omega
  ·have:=b1 (lev e.k);omega
theorem bad_on {T:List Tk}{a r:RQ}(h:Good T a r)(hb:a.fe≠0):r.fe≠0:=by rw[(h.bad hb).1];exact hb
def PE (e:E)(n:Nat):Prop:=∀(T:List Tk)(f:Nat)(q:RQ)(e':E)(r:RQ),pExpr T f n q=some (e',r)->q.fe=0->0<=q.op->q.op<=50->(r.fe=0\/q.op+dW (n+1) e<=50)->
 Has T q.at_ (uW (n+1) e)->Stop T n (q.at_+(uW (n+1) e).length)->r=mv q (uW (n+1) e).length/\er e'=er e
def PC (e:E)(m:Nat):Prop:=∀(T:List Tk)(f:Nat)(q:RQ)(e':E)(r:RQ),pExpr T f m q=some (e',r)->q.fe=0->0<=q.op->q.op<=50->(r.fe=0\/q.op+dX e<=50)->
 Has T q.at_ (uX e)->Stop T (m+1) (q.at_+(uX e).length)->∃f2 e2,pSigns T f2 m e2 (mv q (uX e).length)=some (e',r)/\er e2=er e
def PB (e:E):Prop:=∀(T:List Tk)(f:Nat)(q:RQ)(e':E)(r:RQ),pUnary T f q=some (e',r)->q.fe=0->0<=q.op->q.op<=50->(r.fe=0\/q.op+dW 7 e<=50)->
 Has T q.at_ (uW 7 e)->isT (tokA T (q.at_+(uW 7 e).length)) [40]=false->∃f2 e2,pBehind T f2 e2 (mv q (uW 7 e).length)=some (e',r)/\er e2=er e
theorem signs_stop {T:List Tk}{f n:Nat}{a e':E}{q r:RQ}(h:pSigns T f n a q=some (e',r))(hs:levelT n (cur T q)=0):e'=a/\r=q:=by
 cases f with
 |zero=>simp[pSigns]at h
 |succ f=>
  unfold pSigns at h
  rw[if_neg (by rintro⟨_,c⟩;exact c hs)]at h
  cases h;exact⟨rfl,rfl⟩
theorem behind_stop {T:List Tk}{f:Nat}{a e':E}{q r:RQ}(h:pBehind T f a q=some (e',r))(h1:isQ T q [46]=false)(h2:isQ T q [91]=false):e'=a/\r=q:=by
 cases f with
 |zero=>simp[pBehind]at h
 |succ f=>
  unfold pBehind at h
  rw[h1,h2]at h
  simp only[Bool.false_eq_true,if_false]at h
  cases h;exact⟨rfl,rfl⟩
theorem expr_step {T:List Tk}{f n:Nat}{q r:RQ}{e':E}(h:pExpr T f n q=some (e',r))(hn:n<5):∃f2 x,pExpr T f2 (n+1) q=some x/\pSigns T f2 n x.1 x.2=some (e',r):=by
 cases f with
 |zero=>simp[pExpr]at h
 |succ f=>
  unfold pExpr at h
  rw[if_neg (by omega)]at h
  obtain⟨x,h1,h2⟩:=Option.bind_eq_some_iff.1 h
  exact⟨f,x,h1,h2⟩
theorem PE_down {e:E}{n:Nat}(hn:n<5)(hl:lev e.k≠n+1)(h:PE e (n+1)):PE e n:=by
 intro T f q e' r hp hf h0 h5 hd hh hs
 obtain⟨e1,e2⟩:=uW_same (l:=n+1) (m:=n+1+1) (e:=e) (by omega)
 rw[e1]at hh hs ⊢
 rw[e2]at hd
 obtain⟨f2,⟨x1,x2⟩,a1,a2⟩:=expr_step hp hn
 have hd2:x2.fe=0\/q.op+dW (n+1+1) e<=50:=hd.imp (fun h=>((good_all T f2).2.1 _ _ _ _ _ a2).fe0 h) id
 obtain⟨rfl,b2⟩:=h T f2 q x1 x2 a1 hf h0 h5 hd2 hh (hs.mono (by omega))
 obtain⟨rfl,rfl⟩:=signs_stop a2 (by rw[lev_tok];exact hs.1 n (Nat.le_refl _) (by omega))
 exact⟨rfl,b2⟩
theorem PE_same {e:E}{n:Nat}(hl:lev e.k=n+1)(hn:n<=4)(h:PC e n):PE e n:=by
 intro T f q e' r hp hf h0 h5 hd hh hs
 obtain⟨e1,e2⟩:=uW_no (l:=n+1) (e:=e) (by omega)
 rw[e1]at hh hs ⊢
 rw[e2]at hd
 obtain⟨f2,x,a1,a2⟩:=h T f q e' r hp hf h0 h5 hd hh (hs.mono (by omega))
 obtain⟨rfl,rfl⟩:=signs_stop a1 (by rw[lev_tok];exact hs.1 n (Nat.le_refl _) hn)
 exact⟨rfl,a2⟩
theorem PE_5 {e:E}(hl:lev e.k≠6)(h:PB e):PE e 5:=by
 intro T f q e' r hp hf h0 h5 hd hh hs
 obtain⟨e1,e2⟩:=uW_same (l:=5+1) (m:=7) (e:=e) (by have:=(lev_pos e.k).2;omega)
 rw[e1]at hh hs ⊢
 rw[e2]at hd
 cases f with
 |zero=>simp[pExpr]at hp
 |succ f=>
  unfold pExpr at hp
  rw[if_pos rfl]at hp
  obtain⟨f2,x,a1,a2⟩:=h T f q e' r hp hf h0 h5 hd hh hs.2.2.2
  obtain⟨rfl,rfl⟩:=behind_stop a1 (by rw[isQ_tok (q:=mv q _) hf];exact hs.2.1) (by rw[isQ_tok (q:=mv q _) hf];exact hs.2.2.1)
  exact⟨rfl,a2⟩
theorem PE_downs {e:E}:∀(j n:Nat),n+j<=5->(∀i,i<j->lev e.k≠n+i+1)->PE e (n+j)->PE e n
 |0,_,_,_,h=>h
 |j+1,n,hn,hl,h=>by
  refine PE_down (by omega) (hl 0 (by omega)) (PE_downs j (n+1) (by omega) (fun i hi=>?_) ?_)
  ·have:=hl (i+1) (by omega);omega
  ·rw[show n+1+j=n+(j+1) by omega];exact h
theorem opened {T:List Tk}{q r:RQ}{s:List UInt8}{d:Int}(hf:q.fe=0)(h0:0<=q.op)(ht:isT (tokA T q.at_) s=true)(hd:r.fe=0\/q.op+d<=50)(hd1:1<=d)(hg:Good T (opensQ T q s) r):opensQ T q s=op1 q/\q.op<50:=by
 rcases opens_tok hf ht with (h|⟨h1,h2⟩)|h
 ·exact h
 ·rcases hd with hd|hd
  ·exact absurd hd (bad_on hg h1)
  ·omega
 ·omega
theorem inner_ok {T:List Tk}{f:Nat}{q r:RQ}{e x:E}(he:PE e 0)(h:pInner T f q=some (x,r))(hf:q.fe=0)(h0:0<=q.op)(hd:r.fe=0\/q.op+(dX e+1)<=50)(hh:Has T q.at_ (W [40]::(uX e++[W [41]]))) :
  r=mv q ((uX e).length+2)/\er x=er e:=by
 cases f with
 |zero=>simp[pInner]at h
 |succ f=>
  unfold pInner at h
  obtain⟨⟨x1,x2⟩,a1,a2⟩:=Option.bind_eq_some_iff.1 h
  cases a2
  rw[has_cons,has_app]at hh
  obtain⟨t1,t2,t3,_⟩:=hh
  have hnn:=dX_nn e
  have t1':isT (tokA T q.at_) [40]=true:=by show isT (strip _) _=true;rw[t1];decide
  obtain⟨o1,o2⟩:=opened (d:=dX e+1) hf h0 t1' hd (by omega) ((good_expr a1).trans good_closes)
  rw[o1]at a1
  obtain⟨e1,e2⟩:=uW_no (l:=1) (e:=e) (lev_pos e.k).1
  have hx2:x2.fe=0\/(op1 q).op+dW (0+1) e<=50:=hd.imp (fun h=>(good_closes).fe0 h) (fun h=>by rw[e2];simp only[op1];omega)
  have t3':tokA T (q.at_+1+(uX e).length)=W [41]:=t3
  obtain⟨rfl,b2⟩:=he T f (op1 q) x1 x2 a1 hf (by simp only[op1];omega) (by simp only[op1];omega) hx2 (by rw[e1];exact t2) (by rw[e1];exact stop_of t3' (by decide))
  rw[e1]
  have hc:=closes_tok (T:=T) (q:=mv (op1 q) (uX e).length) (s:=[41]) hf (by show isT (tokA T (q.at_+1+_)) _=true;rw[t3'];decide) (by simp only[mv,op1];omega) (by simp only[mv,op1];omega)
  rw[hc]
  refine⟨?_,b2⟩
  simp only[mv,op1,RQ.mk.injEq,and_true]
  omega
end Unp
namespace Unp
open Ax Go V7 Par Chk
def hdB (x:TS):Bool:=decide (x.1=1)||decide (x.1=2)||decide (x=W wTrue)||decide (x=W wFalse)||decide (x=W wNull)||decide (x=W wNew)||decide (x=W wLen)||decide (x=W wRead)||decide (x=W [45])||decide (x=W [33])||decide (x=W [40])
theorem hd_wr {l:Nat}{x:Kt}(h:∃y r,x.2=y::r/\hdB y=true):∃y r,wr l x=y::r/\hdB y=true:=by
 unfold wr
 split
 ·exact⟨_,_,rfl,by decide⟩
 ·exact h
theorem hd_app {a b:List TS}(h:∃y r,a=y::r/\hdB y=true):∃y r,a++b=y::r/\hdB y=true:=by
 obtain⟨y,r,rfl,h⟩:=h
 exact⟨y,r++b,rfl,h⟩
theorem kids_1 {k n:Int}{l:List E}(h:kindsT k n l.length=true)(hk:k=5\/k=9\/k=10\/k=12\/k=13):∃a,l=[a]:=by
 have:l.length=1:=by
  unfold kindsT at h
  rw[if_neg (by omega),if_neg (by omega),if_neg (by omega),if_pos hk]at h
  simpa using h
 match l,this with
 |[a],_=>exact⟨a,rfl⟩
theorem kids_2 {k n:Int}{l:List E}(h:kindsT k n l.length=true)(hk:k=6\/14<=k):(∃a b,l=[a,b])/\k<=24:=by
 have:l.length=2/\k<=24:=by
  unfold kindsT at h
  rw[if_neg (by omega),if_neg (by omega),if_neg (by omega),if_neg (by omega)]at h
  simp at h
  omega
 obtain⟨h1,h2⟩:=this
 match l,h1 with
 |[a,b],_=>exact⟨⟨a,b,rfl⟩,h2⟩
theorem kids_0 {k n:Int}{l:List E}(h:kindsT k n l.length=true)(hk:k=1\/k=2\/k=3\/k=4\/k=8\/k=11):l=[]:=by
 have:l.length=0:=by
  unfold kindsT at h
  split at h
  ·simpa using h
  split at h
  ·simp only[Bool.and_eq_true,decide_eq_true_eq]at h;exact h.1
  ·omega
 exact List.eq_nil_of_length_eq_zero this
theorem kind_in {k n:Int}{m:Nat}(h:kindsT k n m=true):1<=k/\k<=24:=by
 unfold kindsT at h
 split at h
 ·omega
 split at h
 ·omega
 split at h
 ·omega
 split at h
 ·omega
 ·simp at h;omega
theorem hd_X (e:E):Wf e->∃y r,uX e=y::r/\hdB y=true:=by
 induction e using E.ind with
 |_ e ih=>
  intro hw
  obtain⟨hk,_,_,hws⟩:=(Wf_eq e).1 hw
  rw[Wfs_iff]at hws
  have hki:=kind_in hk
  have hg:(e.k=5\/e.k=6\/14<=e.k)->∃y r,(g0 (uKs e.kids)).2=y::r/\hdB y=true:=fun hc=>by
   have:∃a l,e.kids=a::l:=by
    by_cases h5:e.k=5
    ·obtain⟨a,h⟩:=kids_1 hk (.inl h5);exact⟨a,[],h⟩
    ·obtain⟨⟨a,b,h⟩,_⟩:=kids_2 hk (by omega);exact⟨a,[b],h⟩
   obtain⟨a,l,h⟩:=this
   rw[h]
   exact ih a (by rw[h];exact List.mem_cons_self) (hws a (by rw[h];exact List.mem_cons_self))
  rw[uX_eq]
  unfold uO
  by_cases c1:e.k=1
  ·rw[if_pos c1];exact⟨_,_,rfl,by simp[hdB,Nu]⟩
  rw[if_neg c1]
  by_cases c2:e.k=2
  ·rw[if_pos c2]
   by_cases c:e.n=1
   ·rw[if_pos c];exact⟨_,_,rfl,by decide⟩
   ·rw[if_neg c];exact⟨_,_,rfl,by decide⟩
  rw[if_neg c2]
  by_cases c3:e.k=3
  ·rw[if_pos c3];exact⟨_,_,rfl,by decide⟩
  rw[if_neg c3]
  by_cases c4:e.k=4
  ·rw[if_pos c4];exact⟨_,_,rfl,by simp[hdB,Nm]⟩
  rw[if_neg c4]
  by_cases c5:e.k=5
  ·rw[if_pos c5];exact hd_app (hd_wr (hg (by omega)))
  rw[if_neg c5]
  by_cases c6:e.k=6
  ·rw[if_pos c6];exact hd_app (hd_wr (hg (by omega)))
  rw[if_neg c6]
  by_cases c7:e.k=7
  ·rw[if_pos c7];exact⟨_,_,rfl,by simp[hdB,Nm]⟩
  rw[if_neg c7]
  by_cases c8:e.k=8
  ·rw[if_pos c8];exact⟨_,_,rfl,by decide⟩
  rw[if_neg c8]
  by_cases c9:e.k=9
  ·rw[if_pos c9];exact⟨_,_,rfl,by decide⟩
  rw[if_neg c9]
  by_cases c10:e.k=10
  ·rw[if_pos c10];exact⟨_,_,rfl,by decide⟩
  rw[if_neg c10]
  by_cases c11:e.k=11
  ·rw[if_pos c11];exact⟨_,_,rfl,by decide⟩
  rw[if_neg c11]
  by_cases c12:e.k=12
  ·rw[if_pos c12];exact⟨_,_,rfl,by decide⟩
  rw[if_neg c12]
  by_cases c13:e.k=13
  ·rw[if_pos c13];exact⟨_,_,rfl,by decide⟩
  rw[if_neg c13]
  exact hd_app (hd_wr (hg (by omega)))
theorem hd_no {x:TS}(h:hdB x=true){s:List UInt8}(hs:(isT (W wTrue) s||isT (W wFalse) s||isT (W wNull) s||isT (W wNew) s||isT (W wLen) s||isT (W wRead) s||isT (W [45]) s||isT (W [33]) s||isT (W [40]) s)=false):isT x s=false:=by
 simp only[Bool.or_eq_false_iff]at hs
 obtain⟨⟨⟨⟨⟨⟨⟨⟨s1,s2⟩,s3⟩,s4⟩,s5⟩,s6⟩,s7⟩,s8⟩,s9⟩:=hs
 unfold hdB at h
 simp only[Bool.or_eq_true,decide_eq_true_eq]at h
 have k1:kindOf s≠1/\kindOf s≠2:=by
  unfold kindOf
  split
  ·split<;>decide
  ·decide
 rcases h with (((((((((h|h)|h)|h)|h)|h)|h)|h)|h)|h)|h
 ·unfold isT;rw[h];simp[Ne.symm k1.1]
 ·unfold isT;rw[h];simp[Ne.symm k1.2]
 all_goals rw[h];assumption
theorem isT_Nm (s t:List UInt8):isT (Nm s) t=false:=by
 unfold isT Nm kindOf
 simp only
 split
 ·split<;>simp
 ·simp
theorem isT_Nu (n:Int)(t:List UInt8):isT (Nu n) t=false:=by
 unfold isT Nu kindOf
 simp only
 split
 ·split<;>simp
 ·simp
theorem more_ok {T:List Tk}:∀(l:List E)(acc:List E)(f:Nat)(q:RQ)(es:List E)(r:RQ),pMore T f acc q=some (es,r)->(∀e∈l,PE e 0)->q.fe=0->1<=q.op->q.op<=50->(r.fe=0\/q.op+mxD (dKs l)<=50)->
  Has T q.at_ (argT (uKs l)++[W [41]])->r=⟨q.at_+(argT (uKs l)).length+1,q.op-1,q.fe,q.fa⟩/\ers es=ers acc++ers l
 |l,acc,0,q,es,r,h,_,_,_,_,_,_=>by simp[pMore]at h
 |[],acc,f+1,q,es,r,h,hp,hf,h1,h5,hd,hh=>by
  unfold pMore at h
  have t1:tokA T q.at_=W [41]:=hh.1
  have e1:isQ T q [44]=false:=by rw[isQ_tok hf,t1];decide
  rw[e1]at h
  simp only[Bool.false_eq_true,if_false]at h
  cases h
  rw[closes_tok hf (by rw[t1];decide) (by omega) (by omega)]
  exact⟨by simp[uKs,argT],by simp[ers]⟩
 |e::l,acc,f+1,q,es,r,h,hp,hf,h1,h5,hd,hh=>by
  unfold pMore at h
  simp only[uKs,argT,List.cons_append,List.append_assoc]at hh
  rw[has_cons,has_app]at hh
  obtain⟨t1,t2,t3⟩:=hh
  have t1':tokA T q.at_=W [44]:=t1
  have e1:isQ T q [44]=true:=by rw[isQ_tok hf,t1'];decide
  rw[e1,if_pos rfl]at h
  obtain⟨⟨x1,x2⟩,a1,a2⟩:=Option.bind_eq_some_iff.1 h
  dsimp only at a2
  obtain⟨u1,u2⟩:=uW_no (l:=1) (e:=e) (lev_pos e.k).1
  have hm:mxD (dKs (e::l))=max (dX e) (mxD (dKs l)):=rfl
  rw[hm]at hd
  have hd1:x2.fe=0\/(stepQ q).op+dW (0+1) e<=50:=hd.imp (fun h=>((good_all T f).2.2.2.2.2.2.2.2 _ _ _ _ a2).fe0 h) (fun h=>by rw[u2];simp only[stepQ];omega)
  have hst:Stop T 0 (q.at_+1+(uX e).length):=by
   cases l with
   |nil=>exact stop_of (x:=W [41]) (by have:=t3.1;exact this) (by decide)
   |cons y l=>exact stop_of (x:=W [44]) (by have:=t3.1;exact this) (by decide)
  obtain⟨rfl,b2⟩:=hp e List.mem_cons_self T f (stepQ q) x1 x2 a1 hf (by simp only[stepQ];omega) (by simp only[stepQ];omega) hd1 (by rw[u1];exact t2) (by rw[u1];exact hst)
  rw[u1]at a2
  obtain⟨c1,c2⟩:=more_ok l (acc++[x1]) f _ es r a2 (fun y hy=>hp y (List.mem_cons_of_mem _ hy)) hf (by simp only[mv,stepQ];omega) (by simp only[mv,stepQ];omega) (hd.imp id fun h=>by simp only[mv,stepQ];omega) t3
  refine⟨?_,?_⟩
  ·rw[c1]
   simp only[mv,stepQ,uKs,argT,List.length_cons,List.length_append,RQ.mk.injEq,and_true]
   omega
  ·rw[c2,ers_app]
   simp only[ers,b2,List.append_assoc,List.cons_append,List.nil_append]
theorem args_ok {T:List Tk}(l:List E)(f:Nat)(q:RQ)(es:List E)(r:RQ)(h:pArgs T f q=some (es,r))(hp:∀e∈l,PE e 0)(hw:∀e∈l,Wf e)(hf:q.fe=0)(h0:0<=q.op)(hd:r.fe=0\/q.op+(mxD (dKs l)+1)<=50)
  (hh:Has T q.at_ (W [40]::(args (uKs l)++[W [41]]))):r=mv q ((args (uKs l)).length+2)/\ers es=ers l:=by
 cases f with
 |zero=>simp[pArgs]at h
 |succ f=>
  have hg:Good T (opensQ T q [40]) r:=by
   unfold pArgs at h
   split at h
   ·cases h;exact good_closes
   ·obtain⟨⟨x1,x2⟩,a1,a2⟩:=Option.bind_eq_some_iff.1 h
    exact(good_expr a1).trans ((good_all T f).2.2.2.2.2.2.2.2 _ _ _ _ a2)
  obtain⟨t1,hh⟩:=hh
  have t1':tokA T q.at_=W [40]:=t1
  have hnn:0<=mxD (dKs l):=mx_nn fun x hx=>by
   rw[dKs_map]at hx
   obtain⟨y,_,rfl⟩:=List.mem_map.1 hx
   exact dX_nn y
  obtain⟨o1,o2⟩:=opened (d:=mxD (dKs l)+1) hf h0 (by rw[t1'];decide) hd (by omega) hg
  unfold pArgs at h
  rw[o1]at h
  cases l with
  |nil=>
   have t2:tokA T (q.at_+1)=W [41]:=hh.1
   have e1:isQ T (op1 q) [41]=true:=by rw[isQ_tok (q:=op1 q) hf];show isT (tokA T (q.at_+1)) _=true;rw[t2];decide
   rw[e1,if_pos rfl]at h
   cases h
   rw[closes_tok (q:=op1 q) hf (by show isT (tokA T (q.at_+1)) _=true;rw[t2];decide) (by simp only[op1];omega) (by simp only[op1];omega)]
   refine⟨?_,rfl⟩
   simp only[op1,mv,uKs,args,List.length_nil,RQ.mk.injEq,and_true]
   exact⟨trivial,by omega⟩
  |cons e l=>
   obtain⟨y,r0,hx,hb⟩:=hd_X e (hw e List.mem_cons_self)
   simp only[uKs,args,List.append_assoc]at hh
   rw[has_app]at hh
   obtain⟨t2,t3⟩:=hh
   have t2':tokA T (q.at_+1)=y:=by rw[hx]at t2;exact t2.1
   have e1:isQ T (op1 q) [41]=false:=by rw[isQ_tok (q:=op1 q) hf];show isT (tokA T (q.at_+1)) _=false;rw[t2'];exact hd_no hb (by decide)
   rw[e1]at h
   simp only[Bool.false_eq_true,if_false]at h
   obtain⟨⟨x1,x2⟩,a1,a2⟩:=Option.bind_eq_some_iff.1 h
   dsimp only at a2
   obtain⟨u1,u2⟩:=uW_no (l:=1) (e:=e) (lev_pos e.k).1
   have hm:mxD (dKs (e::l))=max (dX e) (mxD (dKs l)):=rfl
   rw[hm]at hd
   have hd1:x2.fe=0\/(op1 q).op+dW (0+1) e<=50:=hd.imp (fun h=>((good_all T f).2.2.2.2.2.2.2.2 _ _ _ _ a2).fe0 h) (fun h=>by rw[u2];simp only[op1];omega)
   have hst:Stop T 0 (q.at_+1+(uX e).length):=by
    cases l with
    |nil=>exact stop_of (x:=W [41]) (by have:=t3.1;exact this) (by decide)
    |cons y l=>exact stop_of (x:=W [44]) (by have:=t3.1;exact this) (by decide)
   obtain⟨rfl,b2⟩:=hp e List.mem_cons_self T f (op1 q) x1 x2 a1 hf (by simp only[op1];omega) (by simp only[op1];omega) hd1 (by rw[u1];exact t2) (by rw[u1];exact hst)
   rw[u1]at a2
   obtain⟨c1,c2⟩:=more_ok l [x1] f _ es r a2 (fun y hy=>hp y (List.mem_cons_of_mem _ hy)) hf (by simp only[mv,op1];omega) (by simp only[mv,op1];omega) (hd.imp id fun h=>by simp only[mv,op1];omega) t3
   refine⟨?_,?_⟩
   ·rw[c1]
    simp only[mv,op1,uKs,args,List.length_append,RQ.mk.injEq,and_true]
    omega
   ·rw[c2]
    simp only[ers,b2,List.cons_append,List.nil_append]
end Unp
namespace Unp
open Ax Go V7 Par Chk
theorem cur_k (T:List Tk)(q:RQ):(cur T q).k=(tokA T q.at_).1:=rfl
theorem cur_t (T:List Tk)(q:RQ):(cur T q).t=(tokA T q.at_).2.1:=rfl
theorem cur_n (T:List Tk)(q:RQ):(cur T q).n=(tokA T q.at_).2.2:=rfl
theorem er_Em (k n:Int)(nm on:List UInt8)(od:Int)(ks:List E)(a:Int):er (Em k n nm on od ks a)=.mk k (keptN k n) (keptNm k nm) (keptOn k on) (keptOd k od) (ers ks) 0 T0 0:=by
 rw[er_eq];rfl
theorem first_ok {T:List Tk}{f:Nat}{q r:RQ}{e x:E}(hw:Wf e)(hp:∀y∈e.kids,PE y 0)(h7:lev e.k=7)(h5:e.k≠5)(h6:e.k≠6)(h:pFirst T f q=some (x,r))(hf:q.fe=0)(h0:0<=q.op)
  (hd:r.fe=0\/q.op+dX e<=50) (hh:Has T q.at_ (uX e)) (hn:isT (tokA T (q.at_+(uX e).length)) [40]=false):r=mv q (uX e).length/\er x=er e:=by
 obtain⟨hk,hod,ho8,hws⟩:=(Wf_eq e).1 hw
 have hki:=kind_in hk
 have hlt:=lev_top h7
 have he:=er_eq e
 rw[uX_eq]at hh hn ⊢
 rw[dX_eq]at hd
 unfold uO at hh hn ⊢
 unfold dO at hd
 cases f with
 |zero=>simp[pFirst]at h
 |succ f=>
 unfold pFirst at h
 rw[isQ_tok hf,isQ_tok hf,isQ_tok hf,isQ_tok hf,isQ_tok hf,isQ_tok hf,isQ_tok hf,cur_k]at h
 by_cases c1:e.k=1
 ·rw[if_pos c1]at hh ⊢
  have t:=hh.1
  change tokA T q.at_=_ at t
  rw[t,if_pos ⟨hf,rfl⟩]at h
  cases h
  have hk0:=kids_0 hk (.inl c1)
  refine⟨rfl,?_⟩
  rw[er_Em,he,hk0,c1,cur_n,t]
  rfl
 rw[if_neg c1]at hh hn ⊢
 by_cases c2:e.k=2
 ·rw[if_pos c2]at hh ⊢
  have t:=hh.1
  change tokA T q.at_=_ at t
  have hn2:e.n=0\/e.n=1:=by
   rw[c2]at hk
   unfold kindsT at hk
   rw[if_neg (by omega),if_pos rfl]at hk
   simp only[Bool.and_eq_true,Bool.or_eq_true,decide_eq_true_eq]at hk
   exact hk.2
  have hk0:=kids_0 hk (.inr (.inl c2))
  rcases hn2 with c|c
  ·rw[c,if_neg (by decide)]at t
   rw[t,if_neg (by rintro⟨_,b⟩;revert b;decide),if_pos (by decide)]at h
   cases h
   refine⟨rfl,?_⟩
   rw[er_Em,he,hk0,c2,cur_t,t,c]
   rfl
  ·rw[c,if_pos rfl]at t
   rw[t,if_neg (by rintro⟨_,b⟩;revert b;decide),if_pos (by decide)]at h
   cases h
   refine⟨rfl,?_⟩
   rw[er_Em,he,hk0,c2,cur_t,t,c]
   rfl
 rw[if_neg c2]at hh hn ⊢
 by_cases c3:e.k=3
 ·rw[if_pos c3]at hh ⊢
  obtain⟨t,t2⟩:=hh
  change tokA T q.at_=_ at t
  have hk0:=kids_0 hk (.inr (.inr (.inl c3)))
  rw[t,if_neg (by rintro⟨_,b⟩;revert b;decide),if_neg (by decide),if_pos (by decide)]at h
  obtain⟨d1,d2⟩:=hod (.inl c3)
  have e1:=of_has (T:=T) (q:=stepQ q) hf d1 d2 t2
  rw[e1]at h
  cases h
  refine⟨by simp only[stepQ,mv,List.length_cons,RQ.mk.injEq,and_true];omega,?_⟩
  rw[er_Em,he,hk0,c3]
  rfl
 rw[if_neg c3]at hh hn ⊢
 by_cases c4:e.k=4
 ·rw[if_pos c4]at hh hn ⊢
  have t:=hh.1
  change tokA T q.at_=_ at t
  have hk0:=kids_0 hk (.inr (.inr (.inr (.inl c4))))
  rw[t,if_neg (by rintro⟨_,b⟩;exact absurd b (by simp[Nm]))]at h
  simp only[isT_Nm,Bool.or_self,Bool.false_eq_true,if_false]at h
  rw[name_tok hf t]at h
  simp only at h
  rw[isQ_tok (q:=stepQ q) hf,show isT (tokA T (stepQ q).at_) [40]=false from hn]at h
  simp only[Bool.false_eq_true,if_false]at h
  cases h
  refine⟨rfl,?_⟩
  rw[er_Em,he,hk0,c4]
  rfl
 rw[if_neg c4,if_neg h5,if_neg h6]at hh hn ⊢
 by_cases c7:e.k=7
 ·rw[if_pos c7]at hh hn ⊢
  rw[if_neg (by omega),if_neg h5,if_neg h6,if_pos c7]at hd
  obtain⟨t,t2⟩:=hh
  change tokA T q.at_=_ at t
  rw[t,if_neg (by rintro⟨_,b⟩;exact absurd b (by simp[Nm]))]at h
  simp only[isT_Nm,Bool.or_self,Bool.false_eq_true,if_false]at h
  rw[name_tok hf t]at h
  simp only at h
  have t3:tokA T (stepQ q).at_=W [40]:=t2.1
  rw[isQ_tok (q:=stepQ q) hf,t3,if_pos (by decide)]at h
  obtain⟨⟨x1,x2⟩,a1,a2⟩:=Option.bind_eq_some_iff.1 h
  cases a2
  rw[Wfs_iff]at hws
  obtain⟨rfl,b2⟩:=args_ok e.kids f (stepQ q) x1 _ a1 hp hws hf h0 (hd.imp id fun h=>by simp only[stepQ];exact h) t2
  refine⟨by simp only[stepQ,mv,List.length_cons,List.length_append,List.length_nil,RQ.mk.injEq,and_true];omega,?_⟩
  rw[er_Em,he,c7,b2]
  rfl
 rw[if_neg c7]at hh hn ⊢
 by_cases c8:e.k=8
 ·rw[if_pos c8]at hh hn ⊢
  obtain⟨t,t2,_⟩:=hh
  change tokA T q.at_=_ at t
  change tokA T (q.at_+1)=_ at t2
  have hk0:=kids_0 hk (.inr (.inr (.inr (.inr (.inl c8)))))
  rw[t,if_neg (by rintro⟨_,b⟩;revert b;decide),if_neg (by decide),if_neg (by decide),if_pos (by decide)]at h
  cases f with
  |zero=>simp[pFresh]at h
  |succ f=>
   unfold pFresh at h
   rw[isQ_tok (q:=stepQ q) hf,show tokA T (stepQ q).at_=_ from t2,isT_Nm]at h
   simp only[Bool.false_eq_true,if_false]at h
   rw[name_tok (q:=stepQ q) hf t2]at h
   cases h
   refine⟨rfl,?_⟩
   rw[er_Em,he,hk0,c8,ho8 c8]
   rfl
 rw[if_neg c8]at hh hn ⊢
 rw[if_neg (by omega),if_neg h5,if_neg h6,if_neg c7]at hd
 by_cases c9:e.k=9
 ·rw[if_pos c9]at hh hn ⊢
  rw[if_pos (.inl c9)]at hd
  obtain⟨k0,hk0⟩:=kids_1 hk (.inr (.inl c9))
  rw[hk0]at hh hd hp ⊢
  simp only[uKs,dKs,g0]at hh hd ⊢
  obtain⟨t,t2,hh⟩:=hh
  change tokA T q.at_=_ at t
  change tokA T (q.at_+1)=_ at t2
  rw[has_app]at hh
  obtain⟨t3,t4,t5⟩:=hh
  change tokA T _=_ at t4
  rw[t,if_neg (by rintro⟨_,b⟩;revert b;decide),if_neg (by decide),if_neg (by decide),if_pos (by decide)]at h
  cases f with
  |zero=>simp[pFresh]at h
  |succ f=>
   unfold pFresh at h
   rw[isQ_tok (q:=stepQ q) hf,show tokA T (stepQ q).at_=_ from t2,if_pos (by decide)]at h
   obtain⟨d1,d2⟩:=hod (.inr c9)
   have e1:=of_has (T:=T) (q:=stepQ (stepQ q)) hf d1 d2 t3
   rw[e1]at h
   simp only at h
   have t4':tokA T (mv (stepQ (stepQ q)) (uT e.on e.od).length).at_=W [93]:=t4
   rw[take_tok (q:=mv (stepQ (stepQ q)) (uT e.on e.od).length) hf (by rw[t4'];decide)]at h
   obtain⟨⟨x1,x2⟩,a1,a2⟩:=Option.bind_eq_some_iff.1 h
   cases a2
   obtain⟨rfl,b2⟩:=inner_ok (hp k0 List.mem_cons_self) a1 hf h0 (hd.imp id fun h=>by simp only[stepQ,mv];exact h) t5
   refine⟨by simp only[stepQ,mv,List.length_cons,List.length_append,List.length_nil,RQ.mk.injEq,and_true];omega,?_⟩
   rw[er_Em,he,hk0,c9]
   simp only[ers,b2]
   rfl
 rw[if_neg c9]at hh hn ⊢
 by_cases c10:e.k=10
 ·rw[if_pos c10]at hh hn ⊢
  rw[if_pos (.inr c10)]at hd
  obtain⟨k0,hk0⟩:=kids_1 hk (.inr (.inr (.inl c10)))
  rw[hk0]at hh hd hp ⊢
  simp only[uKs,dKs,g0]at hh hd ⊢
  obtain⟨t,t2⟩:=hh
  change tokA T q.at_=_ at t
  rw[t,if_neg (by rintro⟨_,b⟩;revert b;decide),if_neg (by decide),if_neg (by decide),if_neg (by decide),if_pos (by decide)]at h
  obtain⟨⟨x1,x2⟩,a1,a2⟩:=Option.bind_eq_some_iff.1 h
  cases a2
  obtain⟨rfl,b2⟩:=inner_ok (q:=stepQ q) (hp k0 List.mem_cons_self) a1 hf h0 (hd.imp id fun h=>by simp only[stepQ];exact h) t2
  refine⟨by simp only[stepQ,mv,List.length_cons,List.length_append,List.length_nil,RQ.mk.injEq,and_true];omega,?_⟩
  rw[er_Em,he,hk0,c10]
  simp only[ers,b2]
  rfl
 rw[if_neg c10]at hh hn ⊢
 have c11:e.k=11:=by omega
 rw[if_pos c11]at hh hn ⊢
 rw[if_neg (by omega),if_pos c11]at hd
 obtain⟨t,t2,t3,_⟩:=hh
 change tokA T q.at_=_ at t
 change tokA T (q.at_+1)=_ at t2
 change tokA T (q.at_+1+1)=_ at t3
 have hk0:=kids_0 hk (.inr (.inr (.inr (.inr (.inr c11)))))
 rw[t,if_neg (by rintro⟨_,b⟩;revert b;decide),if_neg (by decide),if_neg (by decide),if_neg (by decide),if_neg (by decide),if_pos (by decide)]at h
 cases h
 obtain⟨o1,o2⟩:=opened (q:=stepQ q) (s:=[40]) (d:=1) hf h0 (by rw[show tokA T (stepQ q).at_=_ from t2];decide) hd (by omega) good_closes
 rw[o1,closes_tok (q:=op1 (stepQ q)) hf (by rw[show tokA T (op1 (stepQ q)).at_=_ from t3];decide) (by simp only[op1,stepQ];omega) (by simp only[op1,stepQ]at o2 ⊢;omega)]
 refine⟨?_,?_⟩
 ·simp only[op1,stepQ,mv,List.length_cons,List.length_nil,RQ.mk.injEq,and_true]
  refine⟨trivial,by omega⟩
 ·rw[er_Em,he,hk0,c11]
  rfl
end Unp
namespace Unp
open Ax Go V7 Par Chk
theorem unary_no {T:List Tk}{f:Nat}{q r:RQ}{e':E}(h:pUnary T f q=some (e',r))(h1:isQ T q [45]=false)(h2:isQ T q [33]=false):∃g x,pFirst T g q=some x/\pBehind T g x.1 x.2=some (e',r):=by
 cases f with
 |zero=>simp[pUnary]at h
 |succ f=>
  unfold pUnary at h
  rw[h1,h2]at h
  simp only[Bool.or_self,Bool.false_eq_true,if_false]at h
  obtain⟨x,a1,a2⟩:=Option.bind_eq_some_iff.1 h
  exact⟨f,x,a1,a2⟩
theorem behind_good {T:List Tk}{f:Nat}{a e':E}{q r:RQ}(h:pBehind T f a q=some (e',r)):Good T q r:=(good_all T f).2.2.2.1 _ _ _ _ h
theorem PB_par {e:E}(hl:lev e.k<7)(he:PE e 0):PB e:=by
 intro T f q e' r h hf h0 h5 hd hh hn
 obtain⟨u1,u2⟩:=uW_par (l:=7) hl
 rw[u1]at hh ⊢
 rw[u2]at hd
 have t:tokA T q.at_=W [40]:=hh.1
 obtain⟨g,⟨x1,x2⟩,a1,a2⟩:=unary_no h (by rw[isQ_tok hf,t];decide) (by rw[isQ_tok hf,t];decide)
 cases g with
 |zero=>simp[pFirst]at a1
 |succ g=>
  unfold pFirst at a1
  rw[isQ_tok hf,isQ_tok hf,isQ_tok hf,isQ_tok hf,isQ_tok hf,isQ_tok hf,isQ_tok hf,cur_k,t]at a1
  rw[if_neg (by rintro⟨_,b⟩;revert b;decide),if_neg (by decide),if_neg (by decide),if_neg (by decide),if_neg (by decide),if_neg (by decide),if_pos (by decide)]at a1
  obtain⟨rfl,b2⟩:=inner_ok he a1 hf h0 (hd.imp (fun h=>(behind_good a2).fe0 h) id) hh
  refine⟨g+1,x1,?_,b2⟩
  have e1:(W [40]::(uX e++[W [41]])).length=(uX e).length+2:=by simp
  rw[e1];exact a2
theorem hd_7 {e:E}(hk:kindsT e.k e.n e.kids.length=true)(h7:lev e.k=7)(h5:e.k≠5)(h6:e.k≠6):∃y r,uX e=y::r/\isT y [45]=false/\isT y [33]=false:=by
 have hki:=kind_in hk
 have hlt:=lev_top h7
 rw[uX_eq]
 unfold uO
 by_cases c1:e.k=1
 ·rw[if_pos c1];exact⟨_,_,rfl,isT_Nu _ _,isT_Nu _ _⟩
 rw[if_neg c1]
 by_cases c2:e.k=2
 ·rw[if_pos c2]
  by_cases c:e.n=1
  ·rw[if_pos c];exact⟨_,_,rfl,by decide,by decide⟩
  ·rw[if_neg c];exact⟨_,_,rfl,by decide,by decide⟩
 rw[if_neg c2]
 by_cases c3:e.k=3
 ·rw[if_pos c3];exact⟨_,_,rfl,by decide,by decide⟩
 rw[if_neg c3]
 by_cases c4:e.k=4
 ·rw[if_pos c4];exact⟨_,_,rfl,isT_Nm _ _,isT_Nm _ _⟩
 rw[if_neg c4,if_neg h5,if_neg h6]
 by_cases c7:e.k=7
 ·rw[if_pos c7];exact⟨_,_,rfl,isT_Nm _ _,isT_Nm _ _⟩
 rw[if_neg c7]
 by_cases c8:e.k=8
 ·rw[if_pos c8];exact⟨_,_,rfl,by decide,by decide⟩
 rw[if_neg c8]
 by_cases c9:e.k=9
 ·rw[if_pos c9];exact⟨_,_,rfl,by decide,by decide⟩
 rw[if_neg c9]
 by_cases c10:e.k=10
 ·rw[if_pos c10];exact⟨_,_,rfl,by decide,by decide⟩
 rw[if_neg c10,if_pos (by omega)]
 exact⟨_,_,rfl,by decide,by decide⟩
theorem PB_base {e:E}(hw:Wf e)(hp:∀y∈e.kids,PE y 0)(h7:lev e.k=7)(h5':e.k≠5)(h6:e.k≠6):PB e:=by
 intro T f q e' r h hf h0 h5 hd hh hn
 obtain⟨u1,u2⟩:=uW_no (l:=7) (e:=e) (by omega)
 rw[u1]at hh hn ⊢
 rw[u2]at hd
 obtain⟨y,l,b1,b2,b3⟩:=hd_7 ((Wf_eq e).1 hw).1 h7 h5' h6
 have t:tokA T q.at_=y:=by rw[b1]at hh;exact hh.1
 obtain⟨g,⟨x1,x2⟩,a1,a2⟩:=unary_no h (by rw[isQ_tok hf,t,b2]) (by rw[isQ_tok hf,t,b3])
 obtain⟨rfl,c2⟩:=first_ok hw hp h7 h5' h6 a1 hf h0 (hd.imp (fun h=>(behind_good a2).fe0 h) id) hh hn
 exact⟨g,x1,a2,c2⟩
theorem PB_field {e k0:E}(hk:e.k=5)(hks:e.kids=[k0])(h0':PB k0):PB e:=by
 intro T f q e' r h hf h0 h5 hd hh hn
 have hl:lev e.k=7:=by rw[hk];decide
 obtain⟨u1,u2⟩:=uW_no (l:=7) (e:=e) (by omega)
 have ex:uX e=uW 7 k0++[W [46],Nm e.nm]:=by
  rw[uX_eq,hk,hks];rfl
 have ed:dX e=dW 7 k0:=by rw[dX_eq,hk,hks];rfl
 rw[u1,ex]at hh ⊢
 rw[u2,ed]at hd
 rw[has_app]at hh
 obtain⟨t1,t2,t3,_⟩:=hh
 change tokA T _=_ at t2
 change tokA T _=_ at t3
 obtain⟨f2,e2,b1,b2⟩:=h0' T f q e' r h hf h0 h5 hd t1 (by rw[t2];decide)
 cases f2 with
 |zero=>simp[pBehind]at b1
 |succ f2=>
  unfold pBehind at b1
  rw[isQ_tok (q:=mv q _) hf,show tokA T (mv q (uW 7 k0).length).at_=_ from t2,if_pos (by decide)]at b1
  rw[name_tok (q:=stepQ (mv q (uW 7 k0).length)) hf t3]at b1
  refine⟨f2,Em 5 0 e.nm [] 0 [e2] (cur T (mv q (uW 7 k0).length)).a,?_,?_⟩
  ·simp only at b1
   have e1:mv q (uW 7 k0++[W [46],Nm e.nm]).length=stepQ (stepQ (mv q (uW 7 k0).length)):=by
    simp only[mv,stepQ,List.length_append,List.length_cons,List.length_nil,RQ.mk.injEq,and_true];omega
   rw[e1];exact b1
  ·rw[er_Em,er_eq e,hk,hks]
   simp only[ers,b2]
   rfl
theorem PB_item {e k0 k1:E}(hk:e.k=6)(hks:e.kids=[k0,k1])(h0':PB k0)(h1':PE k1 0):PB e:=by
 intro T f q e' r h hf h0 h5 hd hh hn
 have hl:lev e.k=7:=by rw[hk];decide
 obtain⟨u1,u2⟩:=uW_no (l:=7) (e:=e) (by omega)
 have ex:uX e=uW 7 k0++W [91]::(uX k1++[W [93]]):=by
  rw[uX_eq,hk,hks];rfl
 have ed:dX e=max (dW 7 k0) (dX k1+1):=by rw[dX_eq,hk,hks];rfl
 rw[u1,ex]at hh ⊢
 rw[u2,ed]at hd
 rw[has_app,has_cons,has_app]at hh
 obtain⟨t1,t2,t3,t4,_⟩:=hh
 change tokA T _=_ at t2
 change tokA T _=_ at t4
 obtain⟨f2,e2,b1,b2⟩:=h0' T f q e' r h hf h0 h5 (hd.imp id fun h=>by omega) t1 (by rw[t2];decide)
 cases f2 with
 |zero=>simp[pBehind]at b1
 |succ f2=>
  unfold pBehind at b1
  rw[isQ_tok (q:=mv q _) hf,isQ_tok (q:=mv q _) hf,show tokA T (mv q (uW 7 k0).length).at_=_ from t2,if_neg (by decide),if_pos (by decide)]at b1
  obtain⟨⟨x1,x2⟩,a1,a2⟩:=Option.bind_eq_some_iff.1 b1
  dsimp only at a2
  have hnn:=dX_nn k1
  obtain⟨o1,o2⟩:=opened (q:=mv q (uW 7 k0).length) (s:=[91]) (d:=dX k1+1) (r:=r) hf h0 (by rw[show tokA T (mv q (uW 7 k0).length).at_=_ from t2];decide) (hd.imp id fun h=>by simp only[mv];omega) (by omega) ((good_expr a1).trans (good_closes.trans (behind_good a2)))
  rw[o1]at a1
  simp only[mv]at o2
  obtain⟨v1,v2⟩:=uW_no (l:=1) (e:=k1) (lev_pos k1.k).1
  have hd1:x2.fe=0\/(op1 (mv q (uW 7 k0).length)).op+dW (0+1) k1<=50:=hd.imp (fun h=>(good_closes.trans (behind_good a2)).fe0 h) (fun h=>by rw[v2];simp only[op1,mv];omega)
  obtain⟨rfl,c2⟩:=h1' T f2 (op1 (mv q (uW 7 k0).length)) x1 x2 a1 hf (by simp only[op1,mv];omega) (by simp only[op1,mv];omega) hd1 (by rw[v1];exact t3) (by rw[v1];exact stop_of t4 (by decide))
  rw[v1]at a2
  rw[closes_tok (q:=mv (op1 (mv q (uW 7 k0).length)) (uX k1).length) hf (by rw[show tokA T (mv (op1 (mv q (uW 7 k0).length)) (uX k1).length).at_=_ from t4];decide) (by simp only[mv,op1];omega) (by simp only[mv,op1];omega)]at a2
  refine⟨f2,Em 6 0 [] [] 0 [e2,x1] (cur T (mv q (uW 7 k0).length)).a,?_,?_⟩
  ·have e1:mv q (uW 7 k0++W [91]::(uX k1++[W [93]])).length=⟨(mv (op1 (mv q (uW 7 k0).length)) (uX k1).length).at_+1,(mv (op1 (mv q (uW 7 k0).length)) (uX k1).length).op-1,(mv (op1 (mv q (uW 7 k0).length)) (uX k1).length).fe,(mv (op1 (mv q (uW 7 k0).length)) (uX k1).length).fa⟩:=by
    simp only[mv,op1,List.length_append,List.length_cons,List.length_nil,RQ.mk.injEq,and_true]
    exact⟨by omega,by omega⟩
   rw[e1];exact a2
  ·rw[er_Em,er_eq e,hk,hks]
   simp only[ers,b2,c2]
   rfl
theorem PE_un {e k0:E}(hk:e.k=12\/e.k=13)(hks:e.kids=[k0])(h0':PE k0 5):PE e 5:=by
 intro T f q e' r h hf h0 h5 hd hh hs
 have hl:lev e.k=6:=by rcases hk with h|h<;>rw[h]<;>decide
 obtain⟨u1,u2⟩:=uW_no (l:=5+1) (e:=e) (by omega)
 have ex:uX e=W (if e.k=12 then [45] else [33])::uW 6 k0:=by
  rw[uX_eq,hks]
  rcases hk with h|h<;>rw[h]<;>rfl
 have ed:dX e=dW 6 k0+1:=by
  rw[dX_eq,hks]
  rcases hk with h|h<;>rw[h]<;>rfl
 rw[u1,ex]at hh hs ⊢
 rw[u2,ed]at hd
 obtain⟨t1,t2⟩:=hh
 change tokA T _=_ at t1
 have hnn:0<=dW 6 k0:=wd_nn (dX_nn k0)
 cases f with
 |zero=>simp[pExpr]at h
 |succ f=>
  unfold pExpr at h
  rw[if_pos rfl]at h
  cases f with
  |zero=>simp[pUnary]at h
  |succ f=>
   unfold pUnary at h
   rw[isQ_tok hf,isQ_tok hf,cur_t,t1]at h
   have hs1:(isT (W (if e.k=12 then [45] else [33])) [45]||isT (W (if e.k=12 then [45] else [33])) [33])=true:=by rcases hk with h|h<;>rw[h]<;>decide
   rw[hs1,if_pos rfl]at h
   obtain⟨⟨x1,x2⟩,a1,a2⟩:=Option.bind_eq_some_iff.1 h
   simp only[Option.some.injEq,Prod.mk.injEq]at a2
   obtain⟨rfl,rfl⟩:=a2
   obtain⟨o1,o2⟩:=opened (q:=q) (s:=(W (if e.k=12 then [45] else [33])).2.1) (d:=dW 6 k0+1) (r:=bumpQ x2 (-1)) hf h0 (by rw[t1];simp[isT,W]) hd (by omega) ((good_expr a1).trans good_bump)
   rw[o1]at a1
   have hst:Stop T 5 (q.at_+1+(uW (5+1) k0).length):=by
    have:q.at_+1+(uW (5+1) k0).length=q.at_+(W (if e.k=12 then [45] else [33])::uW 6 k0).length:=by simp only[List.length_cons,Nat.reduceAdd];omega
    rw[this];exact hs
   obtain⟨rfl,c2⟩:=h0' T f (op1 q) x1 x2 a1 hf (by simp only[op1];omega) (by simp only[op1];omega) (hd.imp id fun h=>by simp only[op1,Nat.reduceAdd];omega) t2 hst
   refine⟨?_,?_⟩
   ·unfold bumpQ mv op1
    simp only
    rw[wrap_small (by omega) (by omega)]
    simp only[List.length_cons,RQ.mk.injEq,and_true]
    exact⟨by simp only[Nat.reduceAdd];omega,by omega⟩
   ·have hkk:(if isT (W (if e.k=12 then [45] else [33])) [45]=true then (12:Int) else 13)=e.k:=by rcases hk with h|h<;>rw[h]<;>decide
    rw[er_Em,hkk,er_eq e,hks]
    simp only[ers,c2]
    rcases hk with h|h<;>rw[h]<;>rfl
theorem PC_bin {e k0 k1:E}{m:Nat}(hm:m<=4)(hl:lev e.k=m+1)(hks:e.kids=[k0,k1])(hc:lev k0.k=m+1->PC k0 m)(h0':PE k0 (m+1))(h1':PE k1 (m+1)):PC e m:=by
 intro T f q e' r h hf h0 h5 hd hh hs
 obtain⟨b1,b2⟩:=lev_bin (k:=e.k) (by omega)
 obtain⟨s1,s2,s3,s4⟩:=sign_facts b1 b2
 have ex:uX e=uW (m+1) k0++W (signOf e.k)::uW (m+2) k1:=by
  rw[uX_eq,hks]
  unfold uO
  rw[if_neg (by omega),if_neg (by omega),if_neg (by omega),if_neg (by omega),if_neg (by omega),if_neg (by omega),if_neg (by omega),if_neg (by omega),if_neg (by omega),if_neg (by omega),if_neg (by omega),if_neg (by omega),if_neg (by omega),hl]
  rfl
 have ed:dX e=max (dW (m+1) k0) (dW (m+2) k1):=by
  rw[dX_eq,hks]
  unfold dO
  rw[if_neg (by omega),if_neg (by omega),if_neg (by omega),if_neg (by omega),if_neg (by omega),if_neg (by omega),if_neg (by omega),hl]
  rfl
 rw[ex]at hh hs ⊢
 rw[ed]at hd
 rw[has_app,has_cons]at hh
 obtain⟨t1,t2,t3⟩:=hh
 change tokA T _=_ at t2
 rw[hl]at s1 s2
 have hst:Stop T (m+1) (q.at_+(uW (m+1) k0).length):=stop_of t2 s1
 obtain⟨f2,e2,a1,a2⟩:∃f2 e2,pSigns T f2 m e2 (mv q (uW (m+1) k0).length)=some (e',r)/\er e2=er k0:=by
  by_cases hk0:lev k0.k=m+1
  ·obtain⟨u1,u2⟩:=uW_no (l:=m+1) (e:=k0) (by omega)
   rw[u1]at t1 hst ⊢
   rw[u2]at hd
   exact hc hk0 T f q e' r h hf h0 h5 (hd.imp id fun h=>by omega) t1 hst
  ·obtain⟨u1,u2⟩:=uW_same (l:=m+1) (m:=m+1+1) (e:=k0) (by omega)
   obtain⟨f2,⟨x1,x2⟩,a1,a2⟩:=expr_step h (by omega)
   rw[u1]at t1 hst ⊢
   rw[u2]at hd
   obtain⟨rfl,c2⟩:=h0' T f2 q x1 x2 a1 hf h0 h5 (hd.imp (fun h=>((good_all T f2).2.1 _ _ _ _ _ a2).fe0 h) fun h=>by omega) t1 hst
   exact⟨f2,x1,a2,c2⟩
 cases f2 with
 |zero=>simp[pSigns]at a1
 |succ f2=>
  unfold pSigns at a1
  have hlv:levelT m (cur T (mv q (uW (m+1) k0).length))=e.k:=by
   rw[lev_tok,show tokA T (mv q (uW (m+1) k0).length).at_=_ from t2]
   exact s2
  rw[hlv,if_pos ⟨hf,by omega⟩]at a1
  obtain⟨⟨x1,x2⟩,c1,c2⟩:=Option.bind_eq_some_iff.1 a1
  dsimp only at c2
  have hs2:Stop T (m+1) ((stepQ (mv q (uW (m+1) k0).length)).at_+(uW (m+1+1) k1).length):=by
   have:(stepQ (mv q (uW (m+1) k0).length)).at_+(uW (m+1+1) k1).length=q.at_+(uW (m+1) k0++W (signOf e.k)::uW (m+2) k1).length:=by
    rw[show uW (m+1+1) k1=uW (m+2) k1 from rfl];simp only[stepQ,mv,List.length_append,List.length_cons];omega
   rw[this];exact hs
  obtain⟨rfl,d2⟩:=h1' T f2 (stepQ (mv q (uW (m+1) k0).length)) x1 x2 c1 hf h0 h5 (hd.imp (fun h=>((good_all T f2).2.1 _ _ _ _ _ c2).fe0 h) fun h=>by rw[show dW (m+1+1) k1=dW (m+2) k1 from rfl];simp only[stepQ,mv];omega) t3 hs2
  refine⟨f2,Em e.k 0 [] [] 0 [e2,x1] (cur T (mv q (uW (m+1) k0).length)).a,?_,?_⟩
  ·have e1:mv q (uW (m+1) k0++W (signOf e.k)::uW (m+2) k1).length=mv (stepQ (mv q (uW (m+1) k0).length)) (uW (m+1+1) k1).length:=by
    rw[show uW (m+1+1) k1=uW (m+2) k1 from rfl];simp only[stepQ,mv,List.length_append,List.length_cons,RQ.mk.injEq,and_true];omega
   rw[e1];exact c2
  ·rw[er_Em,er_eq e,hks]
   simp only[ers,a2,d2]
   have k1':∀n:Int,keptN e.k n=0:=fun n=>by unfold keptN;rw[if_neg (by omega)]
   have k2':∀n:List UInt8,keptNm e.k n=[]:=fun n=>by unfold keptNm;rw[if_neg (by omega)]
   have k3':∀n:List UInt8,keptOn e.k n=[]:=fun n=>by unfold keptOn;rw[if_neg (by omega)]
   have k4':∀n:Int,keptOd e.k n=0:=fun n=>by unfold keptOd;rw[if_neg (by omega)]
   rw[k1',k1',k2',k2',k3',k3',k4',k4']
theorem all_ok (e:E):Wf e->(∀n,n<=5->PE e n)/\PB e/\(∀m,lev e.k=m+1->m<=4->PC e m):=by
 induction e using E.ind with
 |_ e ih=>
  intro hw
  obtain⟨hk,hod,ho8,hws⟩:=(Wf_eq e).1 hw
  rw[Wfs_iff]at hws
  have hki:=kind_in hk
  have hp:∀y∈e.kids,(∀n,n<=5->PE y n)/\PB y/\(∀m,lev y.k=m+1->m<=4->PC y m):=fun y hy=>ih y hy (hws y hy)
  obtain⟨l1,l2⟩:=lev_pos e.k
  by_cases h7:lev e.k=7
  ·have hB:PB e:=by
    by_cases h5:e.k=5
    ·obtain⟨a,ha⟩:=kids_1 hk (.inl h5)
     exact PB_field h5 ha (hp a (by rw[ha];exact List.mem_cons_self)).2.1
    by_cases h6:e.k=6
    ·obtain⟨⟨a,b,ha⟩,_⟩:=kids_2 hk (.inl h6)
     exact PB_item h6 ha (hp a (by rw[ha];exact List.mem_cons_self)).2.1 ((hp b (by rw[ha];exact List.mem_cons_of_mem _ List.mem_cons_self)).1 0 (by omega))
    exact PB_base hw (fun y hy=>(hp y hy).1 0 (by omega)) h7 h5 h6
   have h5:=PE_5 (by omega) hB
   refine⟨fun n hn=>PE_downs (5-n) n (by omega) (fun i hi=>by omega) ?_,hB,fun m hm hm4=>by omega⟩
   rw[show n+(5-n)=5 by omega];exact h5
  by_cases h6:lev e.k=6
  ·have hk2:=lev_un h6
   obtain⟨a,ha⟩:=kids_1 hk (by omega)
   have h5:PE e 5:=PE_un hk2 ha ((hp a (by rw[ha];exact List.mem_cons_self)).1 5 (by omega))
   have hE:∀n,n<=5->PE e n:=fun n hn=>PE_downs (5-n) n (by omega) (fun i hi=>by omega) (by rw[show n+(5-n)=5 by omega];exact h5)
   exact⟨hE,PB_par (by omega) (hE 0 (by omega)),fun m hm hm4=>by omega⟩
  ·obtain⟨b1,b2⟩:=lev_bin (k:=e.k) (by omega)
   obtain⟨⟨a,b,ha⟩,_⟩:=kids_2 hk (.inr b1)
   have pa:=hp a (by rw[ha];exact List.mem_cons_self)
   have pb:=hp b (by rw[ha];exact List.mem_cons_of_mem _ List.mem_cons_self)
   have hC:∀m,lev e.k=m+1->m<=4->PC e m:=fun m hm hm4=>PC_bin hm4 hm ha (fun hk0=>pa.2.2 m hk0 hm4) (pa.1 (m+1) (by omega)) (pb.1 (m+1) (by omega))
   obtain⟨L,hL⟩:∃L,lev e.k=L+1:=⟨lev e.k-1,by omega⟩
   have hS:PE e L:=PE_same hL (by omega) (hC L hL (by omega))
   have hlow:∀n,n<=L->PE e n:=fun n hn=>PE_downs (L-n) n (by omega) (fun i hi=>by omega) (by rw[show n+(L-n)=L by omega];exact hS)
   have hB:PB e:=PB_par (by omega) (hlow 0 (by omega))
   have h5:=PE_5 (by omega) hB
   refine⟨fun n hn=>?_,hB,hC⟩
   by_cases hnL:n<=L
   ·exact hlow n hnL
   ·exact PE_downs (5-n) n (by omega) (fun i hi=>by omega) (by rw[show n+(5-n)=5 by omega];exact h5)
end Unp
namespace Unp
open Ax Go V7 Par Chk
def wVar:List UInt8:=[118,97,114]
def wLet:List UInt8:=[108,101,116]
def wIf:List UInt8:=[105,102]
def wElse:List UInt8:=[101,108,115,101]
def wWhile:List UInt8:=[119,104,105,108,101]
def wRet:List UInt8:=[114,101,116,117,114,110]
def wPrint:List UInt8:=[112,114,105,110,116]
def x0 (es:List E):List TS:=match es with|e::_=>uX e | []=>[]
def x1 (es:List E):List TS:=match es with|_::e::_=>uX e|_=>[]
def d0 (es:List E):Int:=match es with|e::_=>dX e | []=>0
def d1 (es:List E):Int:=match es with|_::e::_=>dX e|_=>0
def sO (k:Int)(nm on:List UInt8)(od:Int)(es:List E)(b c:List TS)(ce:Bool):List TS:=
 if k=1 then W wVar::Nm nm::W [58]::(uT on od++[W [59]])
 else if k=2 then W wLet::Nm nm::W [58]::(uT on od++W [61]::(x0 es++[W [59]]))
 else if k=3 then Nm nm::W [61]::(x0 es++[W [59]])
 else if k=4 then x0 es++W [61]::(x1 es++[W [59]])
 else if k=5 then W wIf::(x0 es++W [123]::(b++W [125]::(if ce then [] else W wElse::W [123]::(c++[W [125]]))))
 else if k=6 then W wWhile::(x0 es++W [123]::(b++[W [125]]))
 else if k=7 then W wRet::(x0 es++[W [59]])
 else if k=8 then W wPrint::(x0 es++[W [59]])
 else x0 es++[W [59]]
mutual
def uS:Sm->List TS
 |.mk k nm on od es bd el _ _=>sO k nm on od es (uB bd) (uB el) el.isEmpty
def uB:List Sm->List TS
 |[]=>[]
 |s::l=>uS s++uB l
end
theorem uS_eq (s:Sm):uS s=sO s.k s.nm s.on s.od s.es (uB s.bd) (uB s.el) s.el.isEmpty:=by
 obtain⟨k,nm,on,od,es,bd,el,a,ref⟩:=s
 (conv=>lhs;unfold uS)<;>rfl
def sD (k:Int)(es:List E)(b c:Int):Int:=
 if k=4 then max (d0 es) (d1 es)
 else if k=5 then max (d0 es) (max (b+1) (c+1))
 else if k=6 then max (d0 es) (b+1)
 else if k=1 then 0 else d0 es
mutual
def dS:Sm->Int
 |.mk k _ _ _ es bd el _ _=>sD k es (dB bd) (dB el)
def dB:List Sm->Int
 |[]=>0
 |s::l=>max (dS s) (dB l)
end
theorem dS_eq (s:Sm):dS s=sD s.k s.es (dB s.bd) (dB s.el):=by
 obtain⟨k,nm,on,od,es,bd,el,a,ref⟩:=s
 (conv=>lhs;unfold dS)<;>rfl
mutual
def erS:Sm->Sm
 |.mk k nm on od es bd el _ _=>.mk k (keptS k nm) (keptSn k on) (keptSd k od) (ers es) (erB bd) (erB el) 0 0
def erB:List Sm->List Sm
 |[]=>[]
 |s::l=>erS s::erB l
end
theorem erS_eq (s:Sm):erS s=.mk s.k (keptS s.k s.nm) (keptSn s.k s.on) (keptSd s.k s.od) (ers s.es) (erB s.bd) (erB s.el) 0 0:=by
 obtain⟨k,nm,on,od,es,bd,el,a,ref⟩:=s
 (conv=>lhs;unfold erS)<;>rfl
theorem erB_app:∀l r:List Sm,erB (l++r)=erB l++erB r
 |[],r=>rfl
 |e::l,r=>by simp only[List.cons_append,erB,erB_app l r]
def esOk (k:Int)(es:List E):Prop:=
 (k=1->es=[])/\(k=2\/k=3\/k=5\/k=6\/k=8->∃e,es=[e])/\(k=4->∃a b,es=[a,b]/\(a.k=5\/a.k=6))/\(k=7->es=[]\/∃e,es=[e])/\(k=9->∃e,es=[e]/\e.k=7)
mutual
def WfS:Sm->Prop
 |.mk k _ _ od es bd el _ _=>1<=k/\k<=9/\(k=1\/k=2->0<=od/\od<=3)/\esOk k es/\Wfs es/\(k≠5->k≠6->bd=[])/\(k≠5->el=[])/\WfB bd/\WfB el
def WfB:List Sm->Prop
 |[]=>True
 |s::l=>WfS s/\WfB l
end
theorem WfS_eq (s:Sm):WfS s↔1<=s.k/\s.k<=9/\(s.k=1\/s.k=2->0<=s.od/\s.od<=3)/\esOk s.k s.es/\Wfs s.es/\(s.k≠5->s.k≠6->s.bd=[])/\(s.k≠5->s.el=[])/\WfB s.bd/\WfB s.el:=by
 obtain⟨k,nm,on,od,es,bd,el,a,ref⟩:=s
 unfold WfS;exact Iff.rfl
theorem WfB_iff:∀l:List Sm,WfB l↔∀e∈l,WfS e
 |[]=>by simp[WfB]
 |e::l=>by simp[WfB,WfB_iff l]
theorem dS_nn (s:Sm):0<=dS s:=by
 have h0:0<=d0 s.es:=by unfold d0;split;exact dX_nn _;exact Int.le_refl _
 rw[dS_eq]
 unfold sD
 repeat' split
 all_goals omega
theorem dB_nn:∀l:List Sm,0<=dB l
 |[]=>Int.le_refl _
 |s::l=>by
  have:=dS_nn s
  have:=dB_nn l
  unfold dB;omega
theorem hd_S {s:Sm}(hw:WfS s):∃y r,uS s=y::r/\isT y [125]=false/\isT y wElse=false:=by
 obtain⟨k1,k9,_,hes,hws,_⟩:=(WfS_eq s).1 hw
 obtain⟨e1,e2,e4,e7,e9⟩:=hes
 rw[Wfs_iff]at hws
 have hx:∀e,Wf e->∀l,∃y r,uX e++l=y::r/\isT y [125]=false/\isT y wElse=false:=fun e he l=>by
  obtain⟨y,r,h1,h2⟩:=hd_X e he
  exact⟨y,r++l,by rw[h1];rfl,hd_no h2 (by decide),hd_no h2 (by decide)⟩
 rw[uS_eq]
 unfold sO
 by_cases c1:s.k=1
 ·rw[if_pos c1];exact⟨_,_,rfl,by decide,by decide⟩
 rw[if_neg c1]
 by_cases c2:s.k=2
 ·rw[if_pos c2];exact⟨_,_,rfl,by decide,by decide⟩
 rw[if_neg c2]
 by_cases c3:s.k=3
 ·rw[if_pos c3];exact⟨_,_,rfl,isT_Nm _ _,isT_Nm _ _⟩
 rw[if_neg c3]
 by_cases c4:s.k=4
 ·rw[if_pos c4]
  obtain⟨a,b,h,_⟩:=e4 c4
  rw[h]at hws ⊢
  exact hx a (hws a List.mem_cons_self) _
 rw[if_neg c4]
 by_cases c5:s.k=5
 ·rw[if_pos c5];exact⟨_,_,rfl,by decide,by decide⟩
 rw[if_neg c5]
 by_cases c6:s.k=6
 ·rw[if_pos c6];exact⟨_,_,rfl,by decide,by decide⟩
 rw[if_neg c6]
 by_cases c7:s.k=7
 ·rw[if_pos c7];exact⟨_,_,rfl,by decide,by decide⟩
 rw[if_neg c7]
 by_cases c8:s.k=8
 ·rw[if_pos c8];exact⟨_,_,rfl,by decide,by decide⟩
 rw[if_neg c8]
 obtain⟨a,h,_⟩:=e9 (by omega)
 rw[h]at hws ⊢
 exact hx a (hws a List.mem_cons_self) _
def PS (s:Sm):Prop:=∀(T:List Tk)(f:Nat)(q:RQ)(s':Sm)(r:RQ),pStmt T f q=some (s',r)->q.fe=0->0<=q.op->q.op<=50->(r.fe=0\/q.op+dS s<=50)->
 Has T q.at_ (uS s)->isT (tokA T (q.at_+(uS s).length)) wElse=false->r=mv q (uS s).length/\erS s'=erS s
theorem stmts_ok {T:List Tk}:∀(l:List Sm)(acc:List Sm)(f:Nat)(q:RQ)(ss:List Sm)(r:RQ),pStmts T f acc q=some (ss,r)->(∀s∈l,PS s)->WfB l->q.fe=0->1<=q.op->q.op<=50->(r.fe=0\/q.op+dB l<=50)->
  Has T q.at_ (uB l++[W [125]])->r=⟨q.at_+(uB l).length+1,q.op-1,q.fe,q.fa⟩/\erB ss=erB acc++erB l
 |l,acc,0,q,es,r,h,_,_,_,_,_,_,_=>by simp[pStmts]at h
 |[],acc,f+1,q,es,r,h,hp,_,hf,h1,h5,hd,hh=>by
  unfold pStmts at h
  have t1:tokA T q.at_=W [125]:=hh.1
  rw[if_neg (by rintro⟨_,b⟩;rw[isQ_tok hf,t1]at b;revert b;decide)]at h
  cases h
  rw[closes_tok hf (by rw[t1];decide) (by omega) (by omega)]
  exact⟨by simp[uB],by simp[erB]⟩
 |s::l,acc,f+1,q,es,r,h,hp,hw,hf,h1,h5,hd,hh=>by
  unfold pStmts at h
  unfold WfB at hw
  obtain⟨y,l0,hy,y1,_⟩:=hd_S hw.1
  simp only[uB,List.append_assoc]at hh
  rw[has_app]at hh
  obtain⟨t1,t2⟩:=hh
  have ty:tokA T q.at_=y:=by rw[hy]at t1;exact t1.1
  rw[if_pos ⟨hf,by rw[isQ_tok hf,ty];exact y1⟩]at h
  obtain⟨⟨x1,x2⟩,a1,a2⟩:=Option.bind_eq_some_iff.1 h
  dsimp only at a2
  have hm:dB (s::l)=max (dS s) (dB l):=rfl
  rw[hm]at hd
  have hgood:Good T x2 r:=((good_stall T f).2.2 _ _ _ _ a2)
  have hel:isT (tokA T (q.at_+(uS s).length)) wElse=false:=by
   cases l with
   |nil=>
    have:tokA T (q.at_+(uS s).length)=W [125]:=t2.1
    rw[this];decide
   |cons s2 l2=>
    unfold WfB at hw
    obtain⟨z,l3,hz,_,z2⟩:=hd_S hw.2.1
    simp only[uB,hz,List.cons_append]at t2
    have:tokA T (q.at_+(uS s).length)=z:=t2.1
    rw[this];exact z2
  obtain⟨rfl,b2⟩:=hp s List.mem_cons_self T f q x1 x2 a1 hf (by omega) h5 (hd.imp (fun h=>hgood.fe0 h) fun h=>by omega) t1 hel
  obtain⟨c1,c2⟩:=stmts_ok l (acc++[x1]) f _ es r a2 (fun y hy=>hp y (List.mem_cons_of_mem _ hy)) hw.2 hf h1 h5 (hd.imp id fun h=>by simp only[mv];omega) t2
  refine⟨?_,?_⟩
  ·rw[c1]
   simp only[mv,uB,List.length_append,RQ.mk.injEq,and_true]
   omega
  ·rw[c2,erB_app]
   simp only[erB,b2,List.append_assoc,List.cons_append,List.nil_append]
theorem block_ok {T:List Tk}{l:List Sm}{f:Nat}{q r:RQ}{ss:List Sm}(h:pBlock T f q=some (ss,r))(hp:∀s∈l,PS s)(hw:WfB l)(hf:q.fe=0)(h0:0<=q.op)(hd:r.fe=0\/q.op+(dB l+1)<=50)
  (hh:Has T q.at_ (W [123]::(uB l++[W [125]]))):r=mv q ((uB l).length+2)/\erB ss=erB l:=by
 cases f with
 |zero=>simp[pBlock]at h
 |succ f=>
  unfold pBlock at h
  obtain⟨t1,t2⟩:=hh
  change tokA T _=_ at t1
  have hnn:=dB_nn l
  obtain⟨o1,o2⟩:=opened (d:=dB l+1) (r:=r) hf h0 (by rw[t1];decide) hd (by omega) ((good_stall T f).2.2 _ _ _ _ h)
  rw[o1]at h
  obtain⟨c1,c2⟩:=stmts_ok l [] f (op1 q) ss r h hp hw hf (by simp only[op1];omega) (by simp only[op1];omega) (hd.imp id fun h=>by simp only[op1];omega) t2
  refine⟨?_,by rw[c2];rfl⟩
  rw[c1]
  simp only[op1,mv,RQ.mk.injEq,and_true]
  exact⟨by omega,by omega⟩
end Unp
namespace Unp
open Ax Go V7 Par Chk
theorem ex_ok {T:List Tk}{f:Nat}{q r:RQ}{e x:E}(hw:Wf e)(h:pExpr T f 0 q=some (x,r))(hf:q.fe=0)(h0:0<=q.op)(h5:q.op<=50)(hd:r.fe=0\/q.op+dX e<=50)(hh:Has T q.at_ (uX e))(hs:Stop T 0 (q.at_+(uX e).length)) :
  r=mv q (uX e).length/\er x=er e:=by
 obtain⟨u1,u2⟩:=uW_no (l:=1) (e:=e) (lev_pos e.k).1
 have:=(all_ok e hw).1 0 (by omega) T f q x r h hf h0 h5 (by rw[u2];exact hd) (by rw[u1];exact hh) (by rw[u1];exact hs)
 rw[u1]at this
 exact this
theorem param_has {T:List Tk}{q:RQ}{nm on:List UInt8}{od:Int}{l:List TS}(hf:q.fe=0)(h0:0<=od)(h3:od<=3)(hh:Has T q.at_ (Nm nm::W [58]::(uT on od++l))) :
  paramQ T q=(⟨nm,on,od,(cur T q).a⟩,mv q ((uT on od).length+2))/\Has T (q.at_+((uT on od).length+2)) l:=by
 obtain⟨t1,t2,t3⟩:=hh
 rw[has_app]at t3
 change tokA T _=_ at t1
 change tokA T _=_ at t2
 have e1:=name_tok hf t1
 have e2:takeQ T (stepQ q) [58]=stepQ (stepQ q):=take_tok (q:=stepQ q) hf (by rw[show tokA T (stepQ q).at_=_ from t2];decide)
 have e3:=of_has (T:=T) (q:=stepQ (stepQ q)) hf h0 h3 t3.1
 unfold paramQ
 rw[e1]
 simp only
 rw[e2,e3]
 refine⟨?_,?_⟩
 ·simp only[Prod.mk.injEq,true_and]
  simp only[mv,stepQ,RQ.mk.injEq,and_true];omega
 ·have:=t3.2
  rw[show q.at_+((uT on od).length+2)=q.at_+1+1+(uT on od).length by omega]
  exact this
theorem take_w {T:List Tk}{q:RQ}{s:List UInt8}(ht:tokA T q.at_=W s)(hf:q.fe=0):takeQ T q s=mv q 1:=take_tok hf (by rw[ht];simp[isT,W])
theorem er_k {x e:E}(h:er x=er e):x.k=e.k:=by
 rw[er_eq,er_eq]at h
 exact(E.mk.inj h).1
theorem er_nm {x e:E}(h:er x=er e):keptNm x.k x.nm=keptNm e.k e.nm:=by
 rw[er_eq,er_eq]at h
 exact(E.mk.inj h).2.2.1
theorem erS_mk (k:Int)(nm on:List UInt8)(od:Int)(es:List E)(bd el:List Sm)(a ref:Int):erS (.mk k nm on od es bd el a ref)=.mk k (keptS k nm) (keptSn k on) (keptSd k od) (ers es) (erB bd) (erB el) 0 0:=by
 (conv=>lhs;unfold erS)<;>rfl
theorem mv_eq {q:RQ}{a b:Nat}(h:a=b):mv q a=mv q b:=by rw[h]
theorem stmt_all (s:Sm):WfS s->PS s:=by
 induction s using Sm.ind with
 |_ s ih1 ih2=>
  intro hw T f q s' r h hf h0 h5 hd hh hel
  obtain⟨k1,k9,hod,hes,hws,hbd,hbe,hwb,hwe⟩:=(WfS_eq s).1 hw
  obtain⟨e1,e2,e4,e7,e9⟩:=hes
  have pb:∀x∈s.bd,PS x:=fun x hx=>ih1 x hx ((WfB_iff _).1 hwb x hx)
  have pe:∀x∈s.el,PS x:=fun x hx=>ih2 x hx ((WfB_iff _).1 hwe x hx)
  rw[Wfs_iff]at hws
  have he:=erS_eq s
  rw[uS_eq]at hh hel ⊢
  rw[dS_eq]at hd
  unfold sO at hh hel ⊢
  unfold sD at hd
  cases f with
  |zero=>simp[pStmt]at h
  |succ f=>
  unfold pStmt at h
  rw[isQ_tok (q:=q) hf,isQ_tok (q:=q) hf,isQ_tok (q:=q) hf,isQ_tok (q:=q) hf,isQ_tok (q:=q) hf,isQ_tok (q:=q) hf]at h
  by_cases c1:s.k=1
  ·rw[if_pos c1]at hh hel ⊢
   obtain⟨t,hh⟩:=hh
   change tokA T _=_ at t
   obtain⟨o0,o3⟩:=hod (.inl c1)
   obtain⟨p1,p2⟩:=param_has (q:=stepQ q) hf o0 o3 hh
   have t2:tokA T (mv (stepQ q) ((uT s.on s.od).length+2)).at_=W [59]:=p2.1
   rw[t,if_pos (by decide),p1,take_tok (q:=mv (stepQ q) _) hf (by rw[t2];decide)]at h
   cases h
   refine⟨by simp only[mv,stepQ,List.length_cons,List.length_append,List.length_nil,RQ.mk.injEq,and_true];omega,?_⟩
   rw[erS_mk,he,c1,hbd (by omega) (by omega),hbe (by omega),e1 c1]
  rw[if_neg c1]at hh hel ⊢
  by_cases c2:s.k=2
  ·rw[if_pos c2]at hh hel ⊢
   rw[if_neg (by omega),if_neg (by omega),if_neg (by omega),if_neg (by omega)]at hd
   obtain⟨e,hee⟩:=e2 (.inl c2)
   rw[hee]at hh hws hd ⊢
   simp only[x0,d0]at hh hd ⊢
   obtain⟨t,hh⟩:=hh
   change tokA T _=_ at t
   obtain⟨o0,o3⟩:=hod (.inr c2)
   obtain⟨p1,p2⟩:=param_has (q:=stepQ q) hf o0 o3 hh
   rw[has_cons,has_app]at p2
   obtain⟨t2,t3,t4,_⟩:=p2
   have t2':tokA T (mv (stepQ q) ((uT s.on s.od).length+2)).at_=W [61]:=t2
   rw[t,if_neg (by decide),if_pos (by decide),p1,take_tok (q:=mv (stepQ q) _) hf (by rw[t2'];decide)]at h
   obtain⟨⟨y1,y2⟩,a1,a2⟩:=Option.bind_eq_some_iff.1 h
   simp only[Option.some.injEq,Prod.mk.injEq]at a2
   obtain⟨rfl,rfl⟩:=a2
   have t4':tokA T (mv (mv (mv (stepQ q) ((uT s.on s.od).length+2)) 1) (uX e).length).at_=W [59]:=t4
   obtain⟨rfl,b2⟩:=ex_ok (hws e List.mem_cons_self) a1 hf h0 h5 (hd.imp (fun h=>good_take.fe0 h) id) t3 (stop_of t4' (by decide))
   rw[take_w t4' hf]
   refine⟨by simp only[mv,stepQ,List.length_cons,List.length_append,List.length_nil,RQ.mk.injEq,and_true];omega,?_⟩
   rw[erS_mk,he,c2,hbd (by omega) (by omega),hbe (by omega),hee]
   simp only[ers,b2]
  rw[if_neg c2]at hh hel ⊢
  by_cases c3:s.k=3
  ·rw[if_pos c3]at hh hel ⊢
   rw[if_neg (by omega),if_neg (by omega),if_neg (by omega),if_neg (by omega)]at hd
   obtain⟨e,hee⟩:=e2 (.inr (.inl c3))
   rw[hee]at hh hws hd ⊢
   simp only[x0,d0]at hh hd ⊢
   obtain⟨t,t2,hh⟩:=hh
   rw[has_app]at hh
   obtain⟨t3,t4,_⟩:=hh
   change tokA T _=_ at t
   change tokA T _=_ at t2
   rw[t]at h
   simp only[isT_Nm,Bool.false_eq_true,if_false]at h
   unfold pPlain at h
   obtain⟨⟨y1,y2⟩,a1,a2⟩:=Option.bind_eq_some_iff.1 h
   dsimp only at a2
   have hwv:Wf (Em 4 0 s.nm [] 0 [] 0):=(Wf_eq _).2 ⟨rfl,(fun h=>absurd h (by simp[Em,E.k])),(fun h=>absurd h (by simp[Em,E.k])),trivial⟩
   have hg:r.fe=0->y2.fe=0:=fun hr=>by
    split at a2
    ·obtain⟨⟨z1,z2⟩,b1,b2⟩:=Option.bind_eq_some_iff.1 a2
     simp only[Option.some.injEq,Prod.mk.injEq]at b2
     obtain⟨_,rfl⟩:=b2
     have h1:=(good_take.trans ((good_expr b1).trans good_take)).fe0 hr
     split at h1
     ·exact h1
     ·exact(good_fail.fe0 h1)
    ·simp only[Option.some.injEq,Prod.mk.injEq]at a2
     obtain⟨_,rfl⟩:=a2
     have h1:=good_take.fe0 hr
     split at h1
     ·exact good_fail.fe0 h1
     ·exact h1
   have hdz:y2.fe=0\/q.op+dX (Em 4 0 s.nm [] 0 [] 0)<=50:=hd.imp hg fun h=>by
    have:dX (Em 4 0 s.nm [] 0 [] 0)=0:=rfl
    have:=dX_nn e
    omega
   obtain⟨rfl,b2⟩:=ex_ok hwv a1 hf h0 h5 hdz ⟨t,trivial⟩ (stop_of (x:=W [61]) t2 (by decide))
   have hk4:y1.k=4:=er_k b2
   have hnm:y1.nm=s.nm:=by have:=er_nm b2;rw[hk4]at this;exact this
   have t2':tokA T (mv q (uX (Em 4 0 s.nm [] 0 [] 0)).length).at_=W [61]:=t2
   rw[isQ_tok (q:=mv q _) hf,t2',if_pos (by decide),if_pos (.inl hk4),take_tok (q:=mv q _) hf (by rw[t2'];decide)]at a2
   obtain⟨⟨z1,z2⟩,b1,b3⟩:=Option.bind_eq_some_iff.1 a2
   rw[if_pos hk4]at b3
   simp only[Option.some.injEq,Prod.mk.injEq]at b3
   obtain⟨rfl,rfl⟩:=b3
   have t4':tokA T (mv (mv (mv q (uX (Em 4 0 s.nm [] 0 [] 0)).length) 1) (uX e).length).at_=W [59]:=t4
   obtain⟨rfl,d2⟩:=ex_ok (hws e List.mem_cons_self) b1 hf h0 h5 (hd.imp (fun h=>good_take.fe0 h) id) t3 (stop_of t4' (by decide))
   rw[take_w t4' hf]
   refine⟨?_,?_⟩
   ·have:(uX (Em 4 0 s.nm [] 0 [] 0)).length=1:=rfl
    simp only[mv,List.length_cons,List.length_append,List.length_nil,RQ.mk.injEq,and_true];omega
   ·rw[erS_mk,he,c3,hbd (by omega) (by omega),hbe (by omega),hee,hnm]
    simp only[ers,d2]
    rfl
  rw[if_neg c3]at hh hel ⊢
  by_cases c4:s.k=4
  ·rw[if_pos c4]at hh hel ⊢
   rw[if_pos c4]at hd
   obtain⟨a,b,hee,hak⟩:=e4 c4
   rw[hee]at hh hws hd ⊢
   simp only[x0,x1,d0,d1]at hh hd ⊢
   have hwa:=hws a List.mem_cons_self
   obtain⟨y,l0,hy,hb⟩:=hd_X a hwa
   rw[has_app,has_cons,has_app]at hh
   obtain⟨t1,t2,t3,t4,_⟩:=hh
   have t:tokA T q.at_=y:=by rw[hy]at t1;exact t1.1
   change tokA T _=_ at t2
   have hno:∀w,(isT (W wTrue) w||isT (W wFalse) w||isT (W wNull) w||isT (W wNew) w||isT (W wLen) w||isT (W wRead) w||isT (W [45]) w||isT (W [33]) w||isT (W [40]) w)=false->isT y w=false:=fun w hw=>hd_no hb hw
   rw[t,hno _ (by decide),hno _ (by decide),hno _ (by decide),hno _ (by decide),hno _ (by decide),hno _ (by decide)]at h
   simp only[Bool.false_eq_true,if_false]at h
   unfold pPlain at h
   obtain⟨⟨y1,y2⟩,a1,a2⟩:=Option.bind_eq_some_iff.1 h
   dsimp only at a2
   have hg:r.fe=0->y2.fe=0:=fun hr=>by
    split at a2
    ·obtain⟨⟨z1,z2⟩,b1,b2⟩:=Option.bind_eq_some_iff.1 a2
     simp only[Option.some.injEq,Prod.mk.injEq]at b2
     obtain⟨_,rfl⟩:=b2
     have h1:=(good_take.trans ((good_expr b1).trans good_take)).fe0 hr
     split at h1
     ·exact h1
     ·exact(good_fail.fe0 h1)
    ·simp only[Option.some.injEq,Prod.mk.injEq]at a2
     obtain⟨_,rfl⟩:=a2
     have h1:=good_take.fe0 hr
     split at h1
     ·exact good_fail.fe0 h1
     ·exact h1
   obtain⟨rfl,b2⟩:=ex_ok hwa a1 hf h0 h5 (hd.imp hg fun h=>by omega) t1 (stop_of (x:=W [61]) t2 (by decide))
   have hk4:y1.k=5\/y1.k=6:=by rw[er_k b2];exact hak
   have t2':tokA T (mv q (uX a).length).at_=W [61]:=t2
   rw[isQ_tok (q:=mv q _) hf,t2',if_pos (by decide),if_pos (.inr hk4),take_tok (q:=mv q _) hf (by rw[t2'];decide)]at a2
   obtain⟨⟨z1,z2⟩,b1,b3⟩:=Option.bind_eq_some_iff.1 a2
   rw[if_neg (by omega)]at b3
   simp only[Option.some.injEq,Prod.mk.injEq]at b3
   obtain⟨rfl,rfl⟩:=b3
   have t4':tokA T (mv (mv (mv q (uX a).length) 1) (uX b).length).at_=W [59]:=t4
   obtain⟨rfl,d2⟩:=ex_ok (hws b (List.mem_cons_of_mem _ List.mem_cons_self)) b1 hf h0 h5 (hd.imp (fun h=>good_take.fe0 h) fun h=>by simp only[mv];omega) t3 (stop_of t4' (by decide))
   rw[take_w t4' hf]
   refine⟨by simp only[mv,List.length_cons,List.length_append,List.length_nil,RQ.mk.injEq,and_true];omega,?_⟩
   rw[erS_mk,he,c4,hbd (by omega) (by omega),hbe (by omega),hee]
   simp only[ers,b2,d2]
   rfl
  rw[if_neg c4]at hh hel ⊢
  rw[if_neg c4]at hd
  by_cases c5:s.k=5
  ·rw[if_pos c5]at hh hel ⊢
   rw[if_pos c5]at hd
   obtain⟨e,hee⟩:=e2 (by omega)
   rw[hee]at hh hel hws hd ⊢
   simp only[x0,d0]at hh hel hd ⊢
   obtain⟨t,hh⟩:=hh
   change tokA T _=_ at t
   rw[has_app]at hh
   obtain⟨t1,t2⟩:=hh
   have hblk:Has T (q.at_+1+(uX e).length) (W [123]::(uB s.bd++[W [125]])):=by
    rw[has_cons,has_app]at t2 ⊢
    exact⟨t2.1,t2.2.1,t2.2.2.1,trivial⟩
   rw[t,if_neg (by decide),if_neg (by decide),if_pos (by decide)]at h
   obtain⟨⟨y1,y2⟩,a1,a2⟩:=Option.bind_eq_some_iff.1 h
   obtain⟨⟨z1,z2⟩,b1,b2⟩:=Option.bind_eq_some_iff.1 a2
   dsimp only at b1 b2
   have gz:r.fe=0->z2.fe=0:=fun hr=>by
    split at b2
    ·obtain⟨⟨w1,w2⟩,c1,c2⟩:=Option.bind_eq_some_iff.1 b2
     simp only[Option.some.injEq,Prod.mk.injEq]at c2
     obtain⟨_,rfl⟩:=c2
     have:=(good_block c1).1.fe0 hr
     exact this
    ·simp only[Option.some.injEq,Prod.mk.injEq]at b2
     obtain⟨_,rfl⟩:=b2
     exact hr
   obtain⟨rfl,d2⟩:=ex_ok (hws e List.mem_cons_self) a1 hf h0 h5 (hd.imp (fun h=>(good_block b1).1.fe0 (gz h)) fun h=>by simp only[stepQ];omega) t1 (stop_of (x:=W [123]) t2.1 (by decide))
   obtain⟨rfl,d4⟩:=block_ok b1 pb hwb hf h0 (hd.imp gz fun h=>by simp only[mv,stepQ];omega) hblk
   have t6:Has T (q.at_+1+(uX e).length+1+(uB s.bd).length+1) (if s.el.isEmpty=true then [] else W wElse::W [123]::(uB s.el++[W [125]])):=by
    rw[has_cons,has_app]at t2
    exact t2.2.2.2
   cases hE:s.el with
   |nil=>
    rw[hE]at hel t6
    simp only[List.isEmpty_nil,if_true]at hel t6
    have hno:isQ T (mv (mv (stepQ q) (uX e).length) ((uB s.bd).length+2)) [101,108,115,101]=false:=by
     rw[isQ_tok (q:=mv (mv (stepQ q) (uX e).length) ((uB s.bd).length+2)) hf]
     have:(mv (mv (stepQ q) (uX e).length) ((uB s.bd).length+2)).at_=q.at_+(W wIf::(uX e++W [123]::(uB s.bd++W [125]::[]))).length:=by
      simp only[mv,stepQ,List.length_cons,List.length_append,List.length_nil];omega
     rw[this];exact hel
    rw[hno]at b2
    simp only[Bool.false_eq_true,if_false]at b2
    cases b2
    refine⟨by simp only[mv,stepQ,List.isEmpty_nil,if_true,List.length_cons,List.length_append,List.length_nil,RQ.mk.injEq,and_true];omega,?_⟩
    rw[erS_mk,he,c5,hee,hE,d4]
    simp only[ers,d2]
    rfl
   |cons s2 l2=>
    rw[hE]at t6
    simp only[List.isEmpty_cons,Bool.false_eq_true,if_false]at t6
    rw[<-hE]at t6
    obtain⟨t7,t8⟩:=t6
    change tokA T _=_ at t7
    have t7':tokA T (mv (mv (stepQ q) (uX e).length) ((uB s.bd).length+2)).at_=W wElse:=by
     rw[<-t7];congr 1;simp only[mv,stepQ];omega
    rw[isQ_tok (q:=mv (mv (stepQ q) _) _) hf,t7',if_pos (by decide)]at b2
    obtain⟨⟨w1,w2⟩,c1,c2⟩:=Option.bind_eq_some_iff.1 b2
    simp only[Option.some.injEq,Prod.mk.injEq]at c2
    obtain⟨rfl,rfl⟩:=c2
    have hat:(stepQ (mv (mv (stepQ q) (uX e).length) ((uB s.bd).length+2))).at_=q.at_+1+(uX e).length+1+(uB s.bd).length+1+1:=by simp only[mv,stepQ];omega
    obtain⟨rfl,d6⟩:=block_ok c1 pe hwe hf h0 (hd.imp id fun h=>by simp only[mv,stepQ];omega) (by rw[hat];exact t8)
    refine⟨?_,?_⟩
    ·have:(s2::l2).isEmpty=false:=rfl
     rw[this,<-hE]
     simp only[mv,stepQ,Bool.false_eq_true,if_false,List.length_cons,List.length_append,List.length_nil,RQ.mk.injEq,and_true];omega
    ·rw[erS_mk,he,c5,hee,d4,d6]
     simp only[ers,d2]
     rfl
  rw[if_neg c5]at hh hel ⊢
  rw[if_neg c5]at hd
  by_cases c6:s.k=6
  ·rw[if_pos c6]at hh hel ⊢
   rw[if_pos c6]at hd
   obtain⟨e,hee⟩:=e2 (by omega)
   rw[hee]at hh hws hd ⊢
   simp only[x0,d0]at hh hd ⊢
   obtain⟨t,hh⟩:=hh
   change tokA T _=_ at t
   rw[has_app]at hh
   obtain⟨t1,t2⟩:=hh
   rw[t,if_neg (by decide),if_neg (by decide),if_neg (by decide),if_pos (by decide)]at h
   obtain⟨⟨y1,y2⟩,a1,a2⟩:=Option.bind_eq_some_iff.1 h
   obtain⟨⟨z1,z2⟩,b1,b2⟩:=Option.bind_eq_some_iff.1 a2
   simp only[Option.some.injEq,Prod.mk.injEq]at b2
   obtain⟨rfl,rfl⟩:=b2
   obtain⟨rfl,d2⟩:=ex_ok (hws e List.mem_cons_self) a1 hf h0 h5 (hd.imp (fun h=>(good_block b1).1.fe0 h) fun h=>by simp only[stepQ];omega) t1 (stop_of (x:=W [123]) t2.1 (by decide))
   obtain⟨rfl,d4⟩:=block_ok b1 pb hwb hf h0 (hd.imp id fun h=>by simp only[mv,stepQ];omega) t2
   refine⟨by simp only[mv,stepQ,List.length_cons,List.length_append,List.length_nil,RQ.mk.injEq,and_true];omega,?_⟩
   rw[erS_mk,he,c6,hee,d4,hbe (by omega)]
   simp only[ers,d2]
   rfl
  rw[if_neg c6]at hh hel ⊢
  rw[if_neg c6,if_neg c1]at hd
  by_cases c7:s.k=7
  ·rw[if_pos c7]at hh hel ⊢
   obtain⟨t,hh⟩:=hh
   change tokA T _=_ at t
   rw[t,if_neg (by decide),if_neg (by decide),if_neg (by decide),if_neg (by decide),if_pos (by decide)]at h
   rcases e7 c7 with hee|⟨e,hee⟩
   ·rw[hee]at hh ⊢
    simp only[x0,List.nil_append]at hh ⊢
    have t2:tokA T (stepQ q).at_=W [59]:=hh.1
    rw[isQ_tok (q:=stepQ q) hf,t2,if_pos (by decide),take_tok (q:=stepQ q) hf (by rw[t2];decide)]at h
    cases h
    refine⟨rfl,?_⟩
    rw[erS_mk,he,c7,hee,hbd (by omega) (by omega),hbe (by omega)]
    rfl
   ·rw[hee]at hh hws hd ⊢
    simp only[x0,d0]at hh hd ⊢
    rw[has_app]at hh
    obtain⟨t1,t2,_⟩:=hh
    obtain⟨y,l0,hy,hb⟩:=hd_X e (hws e List.mem_cons_self)
    have ty:tokA T (stepQ q).at_=y:=by rw[hy]at t1;exact t1.1
    rw[isQ_tok (q:=stepQ q) hf,ty,hd_no hb (by decide)]at h
    simp only[Bool.false_eq_true,if_false]at h
    obtain⟨⟨y1,y2⟩,a1,a2⟩:=Option.bind_eq_some_iff.1 h
    simp only[Option.some.injEq,Prod.mk.injEq]at a2
    obtain⟨rfl,rfl⟩:=a2
    have t2':tokA T (mv (stepQ q) (uX e).length).at_=W [59]:=t2
    obtain⟨rfl,d2⟩:=ex_ok (hws e List.mem_cons_self) a1 hf h0 h5 (hd.imp (fun h=>good_take.fe0 h) fun h=>by simp only[stepQ];omega) t1 (stop_of t2' (by decide))
    rw[take_w t2' hf]
    refine⟨by simp only[mv,stepQ,List.length_cons,List.length_append,List.length_nil,RQ.mk.injEq,and_true];omega,?_⟩
    rw[erS_mk,he,c7,hee,hbd (by omega) (by omega),hbe (by omega)]
    simp only[ers,d2]
    rfl
  rw[if_neg c7]at hh hel ⊢
  by_cases c8:s.k=8
  ·rw[if_pos c8]at hh hel ⊢
   obtain⟨t,hh⟩:=hh
   change tokA T _=_ at t
   rw[t,if_neg (by decide),if_neg (by decide),if_neg (by decide),if_neg (by decide),if_neg (by decide),if_pos (by decide)]at h
   obtain⟨e,hee⟩:=e2 (by omega)
   rw[hee]at hh hws hd ⊢
   simp only[x0,d0]at hh hd ⊢
   rw[has_app]at hh
   obtain⟨t1,t2,_⟩:=hh
   obtain⟨⟨y1,y2⟩,a1,a2⟩:=Option.bind_eq_some_iff.1 h
   simp only[Option.some.injEq,Prod.mk.injEq]at a2
   obtain⟨rfl,rfl⟩:=a2
   have t2':tokA T (mv (stepQ q) (uX e).length).at_=W [59]:=t2
   obtain⟨rfl,d2⟩:=ex_ok (hws e List.mem_cons_self) a1 hf h0 h5 (hd.imp (fun h=>good_take.fe0 h) fun h=>by simp only[stepQ];omega) t1 (stop_of t2' (by decide))
   rw[take_w t2' hf]
   refine⟨by simp only[mv,stepQ,List.length_cons,List.length_append,List.length_nil,RQ.mk.injEq,and_true];omega,?_⟩
   rw[erS_mk,he,c8,hee,hbd (by omega) (by omega),hbe (by omega)]
   simp only[ers,d2]
   rfl
  rw[if_neg c8]at hh hel ⊢
  have c9:s.k=9:=by omega
  obtain⟨e,hee,hek⟩:=e9 c9
  rw[hee]at hh hws hd ⊢
  simp only[x0,d0]at hh hd ⊢
  rw[has_app]at hh
  obtain⟨t1,t2,_⟩:=hh
  obtain⟨y,l0,hy,hb⟩:=hd_X e (hws e List.mem_cons_self)
  have t:tokA T q.at_=y:=by rw[hy]at t1;exact t1.1
  change tokA T _=_ at t2
  have hno:∀w,(isT (W wTrue) w||isT (W wFalse) w||isT (W wNull) w||isT (W wNew) w||isT (W wLen) w||isT (W wRead) w||isT (W [45]) w||isT (W [33]) w||isT (W [40]) w)=false->isT y w=false:=fun w hw=>hd_no hb hw
  rw[t,hno _ (by decide),hno _ (by decide),hno _ (by decide),hno _ (by decide),hno _ (by decide),hno _ (by decide)]at h
  simp only[Bool.false_eq_true,if_false]at h
  unfold pPlain at h
  obtain⟨⟨y1,y2⟩,a1,a2⟩:=Option.bind_eq_some_iff.1 h
  dsimp only at a2
  have hg:r.fe=0->y2.fe=0:=fun hr=>by
   split at a2
   ·obtain⟨⟨z1,z2⟩,b1,b2⟩:=Option.bind_eq_some_iff.1 a2
    simp only[Option.some.injEq,Prod.mk.injEq]at b2
    obtain⟨_,rfl⟩:=b2
    have h1:=(good_take.trans ((good_expr b1).trans good_take)).fe0 hr
    split at h1
    ·exact h1
    ·exact(good_fail.fe0 h1)
   ·simp only[Option.some.injEq,Prod.mk.injEq]at a2
    obtain⟨_,rfl⟩:=a2
    have h1:=good_take.fe0 hr
    split at h1
    ·exact good_fail.fe0 h1
    ·exact h1
  have t2':tokA T (mv q (uX e).length).at_=W [59]:=t2
  obtain⟨rfl,d2⟩:=ex_ok (hws e List.mem_cons_self) a1 hf h0 h5 (hd.imp hg id) t1 (stop_of t2' (by decide))
  have hk7:y1.k=7:=by rw[er_k d2];exact hek
  rw[isQ_tok (q:=mv q _) hf,isQ_tok (q:=mv q _) hf,t2',if_neg (by decide),if_neg (by rintro⟨_,c⟩;exact c hk7),take_tok (q:=mv q _) hf (by rw[t2'];decide)]at a2
  cases a2
  refine⟨by simp only[mv,List.length_cons,List.length_append,List.length_nil,RQ.mk.injEq,and_true];omega,?_⟩
  rw[erS_mk,he,c9,hee,hbd (by omega) (by omega),hbe (by omega)]
  simp only[ers,d2]
  rfl
end Unp
namespace Unp
open Ax Go V7 Par Chk
def erP (p:PD):PD:=⟨p.name,p.on,p.od,0⟩
def pT (p:PD):List TS:=Nm p.name::W [58]::uT p.on p.od
def fT:List PD->List TS
 |[]=>[]
 |p::l=>pT p++W [59]::fT l
def parM:List PD->List TS
 |[]=>[]
 |p::l=>W [44]::(pT p++parM l)
def parT (l:List PD):List TS:=match l with | []=>[]|p::l=>pT p++parM l
def recT (r:Rc):List TS:=W wRec::Nm r.name::W [123]::(fT r.fields++[W [125]])
def globT (p:PD):List TS:=W wGlob::(pT p++[W [59]])
def funT (f:Fc):List TS:=W wFunc::Nm f.name::W [40]::(parT f.params++W [41]::((if f.has then W [58]::uT f.on f.od else [])++W [123]::(uB f.body++[W [125]])))
def manyT {α:Type}(g:α->List TS):List α->List TS
 |[]=>[]
 |x::l=>g x++manyT g l
def uP (p:Pg):List TS:=manyT recT p.recs++(manyT globT p.globals++manyT funT p.funcs)
def erR (r:Rc):Rc:=⟨r.name,r.fields.map erP,0⟩
def erF (f:Fc):Fc:=⟨f.name,f.params.map erP,f.has,f.on,f.od,erB f.body,0⟩
def erG (p:Pg):Pg:=⟨p.recs.map erR,p.globals.map erP,p.funcs.map erF⟩
def odOk (p:PD):Prop:=0<=p.od/\p.od<=3
structure WfF (f:Fc):Prop where
 len:f.params.length<=6
 od:∀p∈f.params,odOk p
 res:0<=f.od/\f.od<=3
 no:f.has=false->f.on=[]/\f.od=0
 body:WfB f.body
structure WfP (p:Pg):Prop where
 rl:p.recs.length<=12
 gl:p.globals.length<=8
 fl:p.funcs.length<=16
 r:∀r∈p.recs,r.fields.length<=8/\∀p∈r.fields,odOk p
 g:∀q∈p.globals,odOk q
 f:∀f∈p.funcs,WfF f
theorem par_ok {T:List Tk}{q:RQ}{p:PD}{l:List TS}(hf:q.fe=0)(ho:odOk p)(hh:Has T q.at_ (pT p++l)):paramQ T q=(⟨p.name,p.on,p.od,(cur T q).a⟩,mv q (pT p).length)/\Has T (q.at_+(pT p).length) l:=by
 have h:=param_has (T:=T) (q:=q) (nm:=p.name) (on:=p.on) (od:=p.od) (l:=l) hf ho.1 ho.2 hh
 have e:(pT p).length=(uT p.on p.od).length+2:=rfl
 rw[e];exact h
theorem fields_ok {T:List Tk}:∀(l acc:List PD)(f:Nat)(q:RQ)(l':List PD)(r:RQ),pFields T f acc q=some (l',r)->q.fe=0->(∀p∈l,odOk p)->acc.length+l.length<=8->Has T q.at_ (fT l++[W [125]])->
  r=mv q (fT l).length/\l'.map erP=(acc++l).map erP
 |l,acc,0,q,l',r,h,_,_,_,_=>by simp[pFields]at h
 |[],acc,f+1,q,l',r,h,hf,_,_,hh=>by
  unfold pFields at h
  have t1:tokA T q.at_=W [125]:=hh.1
  rw[if_neg (by rintro⟨_,b⟩;rw[isQ_tok hf,t1]at b;revert b;decide)]at h
  cases h
  exact⟨rfl,by simp⟩
 |p::l,acc,f+1,q,l',r,h,hf,ho,hn,hh=>by
  unfold pFields at h
  simp only[fT,List.append_assoc,List.cons_append]at hh
  have t1:tokA T q.at_=Nm p.name:=hh.1
  simp only[List.length_cons]at hn
  rw[if_pos ⟨hf,by rw[isQ_tok hf,t1];exact isT_Nm _ _⟩,if_neg (by rintro⟨_,b⟩;omega)]at h
  obtain⟨e1,hh2⟩:=par_ok hf (ho p List.mem_cons_self) hh
  rw[e1]at h
  simp only at h
  rw[has_cons]at hh2
  have t2:tokA T (mv q (pT p).length).at_=W [59]:=hh2.1
  rw[take_tok (q:=mv q _) hf (by rw[t2];decide)]at h
  obtain⟨c1,c2⟩:=fields_ok l _ f (mv (mv q (pT p).length) 1) l' r h hf (fun x hx=>ho x (List.mem_cons_of_mem _ hx)) (by simp;omega) hh2.2
  refine⟨?_,?_⟩
  ·rw[c1,mv_mv,mv_mv]
   simp only[fT,List.length_append,List.length_cons]
   exact mv_eq (by omega)
  ·rw[c2]
   simp[erP]
theorem params_ok {T:List Tk}:∀(l acc:List PD)(f:Nat)(q:RQ)(l':List PD)(r:RQ),pParams T f acc q=some (l',r)->q.fe=0->(∀p∈l,odOk p)->acc.length+l.length<=6->Has T q.at_ (parT l++[W [41]])->
  r=mv q (parT l).length/\l'.map erP=(acc++l).map erP
 |l,acc,0,q,l',r,h,_,_,_,_=>by simp[pParams]at h
 |[],acc,f+1,q,l',r,h,hf,_,_,hh=>by
  unfold pParams at h
  have t1:tokA T q.at_=W [41]:=hh.1
  rw[if_neg (by rintro⟨_,b⟩;rw[isQ_tok hf,t1]at b;revert b;decide)]at h
  cases h
  exact⟨rfl,by simp⟩
 |[p],acc,f+1,q,l',r,h,hf,ho,hn,hh=>by
  unfold pParams at h
  simp only[parT,parM,List.append_nil]at hh ⊢
  have t1:tokA T q.at_=Nm p.name:=hh.1
  simp only[List.length_cons,List.length_nil]at hn
  rw[if_pos ⟨hf,by rw[isQ_tok hf,t1];exact isT_Nm _ _⟩,if_neg (by rintro⟨_,b⟩;omega)]at h
  obtain⟨e1,hh2⟩:=par_ok hf (ho p List.mem_cons_self) hh
  rw[e1]at h
  simp only at h
  have t2:tokA T (mv q (pT p).length).at_=W [41]:=hh2.1
  have ec:commaQ T (mv q (pT p).length)=mv q (pT p).length:=by
   unfold commaQ
   rw[isQ_tok (q:=mv q _) hf,t2,if_pos (by decide)]
  rw[ec]at h
  obtain⟨c1,c2⟩:=params_ok [] _ f (mv q (pT p).length) l' r h hf (fun x hx=>by cases hx) (by simp;omega) hh2
  exact⟨by rw[c1];rfl,by rw[c2];simp[erP]⟩
 |p::p2::l,acc,f+1,q,l',r,h,hf,ho,hn,hh=>by
  unfold pParams at h
  simp only[parT,parM,List.append_assoc,List.cons_append]at hh ⊢
  have t1:tokA T q.at_=Nm p.name:=hh.1
  simp only[List.length_cons]at hn
  rw[if_pos ⟨hf,by rw[isQ_tok hf,t1];exact isT_Nm _ _⟩,if_neg (by rintro⟨_,b⟩;omega)]at h
  obtain⟨e1,hh2⟩:=par_ok hf (ho p List.mem_cons_self) hh
  rw[e1]at h
  simp only at h
  rw[has_cons]at hh2
  have t2:tokA T (mv q (pT p).length).at_=W [44]:=hh2.1
  have t3:tokA T (mv (mv q (pT p).length) 1).at_=Nm p2.name:=hh2.2.1
  have ec:commaQ T (mv q (pT p).length)=mv (mv q (pT p).length) 1:=by
   unfold commaQ
   rw[isQ_tok (q:=mv q _) hf,t2,if_neg (by decide),take_tok (q:=mv q _) hf (by rw[t2];decide),isQ_tok (q:=mv (mv q _) 1) hf,t3,isT_Nm]
   simp
  rw[ec]at h
  obtain⟨c1,c2⟩:=params_ok (p2::l) _ f (mv (mv q (pT p).length) 1) l' r h hf (fun x hx=>ho x (List.mem_cons_of_mem _ hx)) (by simp;omega) (by
   simp only[parT,List.append_assoc]
   exact hh2.2)
  refine⟨?_,?_⟩
  ·rw[c1,mv_mv,mv_mv]
   simp only[parT,List.length_append,List.length_cons]
   exact mv_eq (by omega)
  ·rw[c2]
   simp[erP]
theorem record_ok {T:List Tk}{f:Nat}{q r:RQ}{x:Rc}{c:Rc}(h:pRecord T f q=some (x,r))(hf:q.fe=0)(hl:c.fields.length<=8)(ho:∀p∈c.fields,odOk p)(hh:Has T q.at_ (Nm c.name::W [123]::(fT c.fields++[W [125]]))) :
  r=mv q ((fT c.fields).length+3)/\erR x=erR c:=by
 obtain⟨t1,t2,t3⟩:=hh
 change tokA T _=_ at t1
 change tokA T _=_ at t2
 unfold pRecord at h
 rw[name_tok hf t1]at h
 simp only at h
 rw[take_tok (q:=stepQ q) hf (by rw[show tokA T (stepQ q).at_=_ from t2];decide)]at h
 obtain⟨⟨y1,y2⟩,a1,a2⟩:=Option.bind_eq_some_iff.1 h
 cases a2
 obtain⟨rfl,b2⟩:=fields_ok c.fields [] f (mv (stepQ q) 1) y1 y2 a1 hf ho (by simpa using hl) t3
 rw[has_app]at t3
 have t4:tokA T (mv (mv (stepQ q) 1) (fT c.fields).length).at_=W [125]:=t3.2.1
 rw[take_w t4 hf]
 refine⟨by simp only[mv,stepQ,RQ.mk.injEq,and_true];omega,?_⟩
 unfold erR
 rw[b2]
 rfl
theorem func_ok {T:List Tk}{f:Nat}{q r:RQ}{x c:Fc}(h:pFunc T f q=some (x,r))(hf:q.fe=0)(h0:q.op=0)(hw:WfF c)(hd:r.fe=0\/dB c.body+1<=50)
  (hh:Has T q.at_ (Nm c.name::W [40]::(parT c.params++W [41]::((if c.has then W [58]::uT c.on c.od else [])++W [123]::(uB c.body++[W [125]]))))) :
  r=mv q ((parT c.params).length+(if c.has then W [58]::uT c.on c.od else []).length+(uB c.body).length+5)/\erF x=erF c:=by
 obtain⟨t1,t2,t3⟩:=hh
 change tokA T _=_ at t1
 change tokA T _=_ at t2
 unfold pFunc at h
 rw[name_tok hf t1]at h
 simp only at h
 rw[take_tok (q:=stepQ q) hf (by rw[show tokA T (stepQ q).at_=_ from t2];decide)]at h
 obtain⟨⟨y1,y2⟩,a1,a2⟩:=Option.bind_eq_some_iff.1 h
 have hpar:Has T (q.at_+1+1) (parT c.params++[W [41]]):=by
  rw[has_app,has_cons]at t3 ⊢
  exact⟨t3.1,t3.2.1,trivial⟩
 obtain⟨rfl,b2⟩:=params_ok c.params [] f (mv (stepQ q) 1) y1 y2 a1 hf hw.od (by simpa using hw.len) hpar
 rw[has_app,has_cons]at t3
 obtain⟨_,t4,t5⟩:=t3
 have t4':tokA T (mv (mv (stepQ q) 1) (parT c.params).length).at_=W [41]:=t4
 dsimp only at a2
 rw[take_w t4' hf]at a2
 have pa:∀s∈c.body,PS s:=fun s hs=>stmt_all s ((WfB_iff _).1 hw.body s hs)
 cases hc:c.has with
 |true=>
  rw[hc]at t5
  simp only[if_true,List.cons_append]at t5
  obtain⟨t6,t7⟩:=t5
  change tokA T _=_ at t6
  rw[has_app]at t7
  obtain⟨t8,t9⟩:=t7
  rw[isQ_tok (q:=mv (mv (mv (stepQ q) 1) (parT c.params).length) 1) hf,show tokA T (mv (mv (mv (stepQ q) 1) (parT c.params).length) 1).at_=_ from t6,if_pos (by decide)]at a2
  rw[of_has (T:=T) (q:=stepQ (mv (mv (mv (stepQ q) 1) (parT c.params).length) 1)) hf hw.res.1 hw.res.2 t8]at a2
  obtain⟨⟨z1,z2⟩,c1,c2⟩:=Option.bind_eq_some_iff.1 a2
  cases c2
  obtain⟨rfl,d2⟩:=block_ok c1 pa hw.body hf (by simp only[mv,stepQ,h0];omega) (hd.imp id fun h=>by simp only[mv,stepQ,h0];omega) t9
  refine⟨?_,?_⟩
  ·simp only[mv,stepQ,if_true,List.length_cons,RQ.mk.injEq,and_true];omega
  ·unfold erF
   rw[b2,d2,hc]
   rfl
 |false=>
  rw[hc]at t5
  simp only[Bool.false_eq_true,if_false,List.nil_append]at t5
  have t6:tokA T (mv (mv (mv (stepQ q) 1) (parT c.params).length) 1).at_=W [123]:=t5.1
  rw[isQ_tok (q:=mv (mv (mv (stepQ q) 1) (parT c.params).length) 1) hf,t6,if_neg (by decide)]at a2
  obtain⟨⟨z1,z2⟩,c1,c2⟩:=Option.bind_eq_some_iff.1 a2
  cases c2
  obtain⟨rfl,d2⟩:=block_ok c1 pa hw.body hf (by simp only[mv,stepQ,h0];omega) (hd.imp id fun h=>by simp only[mv,stepQ,h0];omega) t5
  refine⟨?_,?_⟩
  ·simp only[mv,stepQ,Bool.false_eq_true,if_false,List.length_nil,RQ.mk.injEq,and_true];omega
  ·unfold erF
   rw[b2,d2,hc,(hw.no hc).1,(hw.no hc).2]
   rfl
theorem good_prog {T:List Tk}:∀(f:Nat)(p:Pg)(q:RQ)(s:Pg)(r:RQ),pProg T f p q=some (s,r)->Good T q r
 |0,_,_,_,_,h=>by simp[pProg]at h
 |f+1,p,q,s,r,h=>by
  unfold pProg at h
  split at h
  ·rename_i c
   have hq:q.at_<T.length:=cur_in c.2
   split at h
   ·exact good_fail.trans (good_prog f _ _ _ _ h)
   split at h
   ·obtain⟨⟨x1,x2⟩,h1,h2⟩:=Option.bind_eq_some_iff.1 h
    exact((good_step c.1 hq).trans (good_record h1).1).trans (good_prog f _ _ _ _ h2)
   split at h
   ·exact((good_step c.1 hq).trans (good_param.trans good_take)).trans (good_prog f _ _ _ _ h)
   split at h
   ·obtain⟨⟨x1,x2⟩,h1,h2⟩:=Option.bind_eq_some_iff.1 h
    exact((good_step c.1 hq).trans (good_func h1).1).trans (good_prog f _ _ _ _ h2)
   ·exact good_fail.trans (good_prog f _ _ _ _ h)
  ·cases h;exact Good.refl _ _
theorem kW_0 (s:List UInt8):(W s).1≠0:=kindOf_ne s
theorem recs_ok {T:List Tk}:∀(l acc:List Rc)(gs:List PD)(fs:List Fc)(f:Nat)(q:RQ)(p:Pg)(r:RQ)(rest:List TS),pProg T f ⟨acc,gs,fs⟩ q=some (p,r)->q.fe=0->acc.length+l.length<=12->
  (∀r∈l,r.fields.length<=8/\∀p∈r.fields,odOk p)->Has T q.at_ (manyT recT l++rest)->∃f2 acc2,pProg T f2 ⟨acc2,gs,fs⟩ (mv q (manyT recT l).length)=some (p,r)/\acc2.map erR=(acc++l).map erR
 |[],acc,gs,fs,f,q,p,r,rest,h,hf,_,_,hh=>⟨f,acc,h,by simp⟩
 |c::l,acc,gs,fs,0,q,p,r,rest,h,_,_,_,_=>by simp[pProg]at h
 |c::l,acc,gs,fs,f+1,q,p,r,rest,h,hf,hn,hr,hh=>by
  unfold pProg at h
  simp only[manyT,recT,List.append_assoc,List.cons_append]at hh
  obtain⟨t,hh⟩:=hh
  change tokA T _=_ at t
  simp only[List.length_cons]at hn
  rw[isQ_tok hf,isQ_tok hf,isQ_tok hf,cur_k,t,if_pos ⟨hf,kW_0 _⟩,if_neg (by
   rintro (⟨_,b⟩|⟨b,_⟩|⟨b,_⟩)
   ·simp only at b;omega
   ·revert b;decide
   ·revert b;decide),if_pos (by decide)]at h
  obtain⟨⟨x1,x2⟩,h1,h2⟩:=Option.bind_eq_some_iff.1 h
  have hrec:Has T (q.at_+1) (Nm c.name::W [123]::(fT c.fields++[W [125]])):=by
   obtain⟨u1,u2,u3⟩:=hh
   rw[has_app]at u3
   refine⟨u1,u2,?_⟩
   rw[has_app]
   exact⟨u3.1,u3.2.1,trivial⟩
  obtain⟨hl,ho⟩:=hr c List.mem_cons_self
  obtain⟨rfl,b2⟩:=record_ok h1 hf hl ho hrec
  have hh2:Has T ((stepQ q).at_+((fT c.fields).length+3)) (manyT recT l++rest):=by
   obtain⟨u1,u2,u3⟩:=hh
   rw[has_app]at u3
   have:=u3.2.2
   simp only[List.nil_append]at this
   rw[show (stepQ q).at_+((fT c.fields).length+3)=q.at_+1+1+1+(fT c.fields).length+1 by simp only[stepQ];omega]
   exact this
  obtain⟨f2,acc2,c1,c2⟩:=recs_ok l (acc++[x1]) gs fs f (mv (stepQ q) ((fT c.fields).length+3)) p r rest h2 hf (by simp;omega) (fun x hx=>hr x (List.mem_cons_of_mem _ hx)) hh2
  refine⟨f2,acc2,?_,?_⟩
  ·have:mv q (manyT recT (c::l)).length=mv (mv (stepQ q) ((fT c.fields).length+3)) (manyT recT l).length:=by
    simp only[mv,stepQ,manyT,recT,List.length_append,List.length_cons,List.length_nil,RQ.mk.injEq,and_true];omega
   rw[this];exact c1
  ·rw[c2]
   simp[b2]
theorem globs_ok {T:List Tk}:∀(l acc:List PD)(rs:List Rc)(fs:List Fc)(f:Nat)(q:RQ)(p:Pg)(r:RQ)(rest:List TS),pProg T f ⟨rs,acc,fs⟩ q=some (p,r)->q.fe=0->acc.length+l.length<=8->
  (∀r∈l,odOk r)->Has T q.at_ (manyT globT l++rest)->∃f2 acc2,pProg T f2 ⟨rs,acc2,fs⟩ (mv q (manyT globT l).length)=some (p,r)/\acc2.map erP=(acc++l).map erP
 |[],acc,gs,fs,f,q,p,r,rest,h,hf,_,_,hh=>⟨f,acc,h,by simp⟩
 |c::l,acc,gs,fs,0,q,p,r,rest,h,_,_,_,_=>by simp[pProg]at h
 |c::l,acc,rs,fs,f+1,q,p,r,rest,h,hf,hn,hr,hh=>by
  unfold pProg at h
  simp only[manyT,globT,List.append_assoc,List.cons_append,List.nil_append]at hh
  obtain⟨t,hh⟩:=hh
  change tokA T _=_ at t
  simp only[List.length_cons]at hn
  rw[isQ_tok hf,isQ_tok hf,isQ_tok hf,cur_k,t,if_pos ⟨hf,kW_0 _⟩,if_neg (by
   rintro (⟨b,_⟩|⟨_,b⟩|⟨b,_⟩)
   ·revert b;decide
   ·simp only at b;omega
   ·revert b;decide),if_neg (by decide),if_pos (by decide)]at h
  obtain⟨e1,hh2⟩:=par_ok (q:=stepQ q) hf (hr c List.mem_cons_self) hh
  rw[has_cons]at hh2
  have t2:tokA T (mv (stepQ q) (pT c).length).at_=W [59]:=hh2.1
  rw[e1]at h
  simp only at h
  rw[take_tok (q:=mv (stepQ q) _) hf (by rw[t2];decide)]at h
  obtain⟨f2,acc2,c1,c2⟩:=globs_ok l _ rs fs f (mv (mv (stepQ q) (pT c).length) 1) p r rest h hf (by simp;omega) (fun x hx=>hr x (List.mem_cons_of_mem _ hx)) hh2.2
  refine⟨f2,acc2,?_,?_⟩
  ·have:mv q (manyT globT (c::l)).length=mv (mv (mv (stepQ q) (pT c).length) 1) (manyT globT l).length:=by
    simp only[mv,stepQ,manyT,globT,List.length_append,List.length_cons,List.length_nil,RQ.mk.injEq,and_true];omega
   rw[this];exact c1
  ·rw[c2]
   simp[erP]
theorem funs_ok {T:List Tk}:∀(l acc:List Fc)(rs:List Rc)(gs:List PD)(f:Nat)(q:RQ)(p:Pg)(r:RQ)(rest:List TS),pProg T f ⟨rs,gs,acc⟩ q=some (p,r)->q.fe=0->q.op=0->acc.length+l.length<=16->
  (∀r∈l,WfF r)->(r.fe=0\/∀c∈l,dB c.body+1<=50)->Has T q.at_ (manyT funT l++rest)->∃f2 acc2,pProg T f2 ⟨rs,gs,acc2⟩ (mv q (manyT funT l).length)=some (p,r)/\acc2.map erF=(acc++l).map erF
 |[],acc,gs,fs,f,q,p,r,rest,h,hf,_,_,_,_,hh=>⟨f,acc,h,by simp⟩
 |c::l,acc,gs,fs,0,q,p,r,rest,h,_,_,_,_,_,_=>by simp[pProg]at h
 |c::l,acc,rs,gs,f+1,q,p,r,rest,h,hf,h0,hn,hr,hd,hh=>by
  unfold pProg at h
  simp only[manyT,funT,List.append_assoc,List.cons_append]at hh
  obtain⟨t,hh⟩:=hh
  change tokA T _=_ at t
  simp only[List.length_cons]at hn
  rw[isQ_tok hf,isQ_tok hf,isQ_tok hf,cur_k,t,if_pos ⟨hf,kW_0 _⟩,if_neg (by
   rintro (⟨b,_⟩|⟨b,_⟩|⟨_,b⟩)
   ·revert b;decide
   ·revert b;decide
   ·simp only at b;omega),if_neg (by decide),if_neg (by decide),if_pos (by decide)]at h
  obtain⟨⟨x1,x2⟩,h1,h2⟩:=Option.bind_eq_some_iff.1 h
  have hpre:∀(a b:List TS) i,Has T i (a++b)->Has T i a:=fun a b i h=>(has_app.1 h).1
  have hfn:Has T (q.at_+1) ((Nm c.name::W [40]::(parT c.params++W [41]::((if c.has then W [58]::uT c.on c.od else [])++W [123]::(uB c.body++[W [125]]))))++(manyT funT l++rest)):=by
   simp only[List.append_assoc,List.cons_append]
   exact hh
  obtain⟨rfl,b2⟩:=func_ok h1 hf h0 (hr c List.mem_cons_self) (hd.imp (fun hr=>(good_prog _ _ _ _ _ h2).fe0 hr) fun h=>h c List.mem_cons_self) (hpre _ _ _ hfn)
  rw[has_app]at hfn
  have hl1:(Nm c.name::W [40]::(parT c.params++W [41]::((if c.has then W [58]::uT c.on c.od else [])++W [123]::(uB c.body++[W [125]])))).length=(parT c.params).length+(if c.has then W [58]::uT c.on c.od else []).length+(uB c.body).length+5:=by
   simp only[List.length_cons,List.length_append,List.length_nil];omega
  rw[hl1]at hfn
  obtain⟨f2,acc2,c1,c2⟩:=funs_ok l (acc++[x1]) rs gs f (mv (stepQ q) ((parT c.params).length+(if c.has then W [58]::uT c.on c.od else []).length+(uB c.body).length+5)) p r rest h2 hf h0 (by simp;omega)
   (fun x hx=>hr x (List.mem_cons_of_mem _ hx)) (hd.imp id fun h x hx=>h x (List.mem_cons_of_mem _ hx)) hfn.2
  refine⟨f2,acc2,?_,?_⟩
  ·have:mv q (manyT funT (c::l)).length=mv (mv (stepQ q) ((parT c.params).length+(if c.has then W [58]::uT c.on c.od else []).length+(uB c.body).length+5)) (manyT funT l).length:=by
    simp only[mv,stepQ,manyT,funT,List.length_append,List.length_cons,List.length_nil,RQ.mk.injEq,and_true];omega
   rw[this];exact c1
  ·rw[c2]
   simp[b2]
theorem prog_has {T:List Tk}{F:Nat}{x:Pg×Int×Int}{p:Pg}(h:progOf T F=some x)(hw:WfP p)(hd:x.2.1=0\/∀c∈p.funcs,dB c.body+1<=50)(hh:Has T 0 (uP p++[(0,[],0)])):x.2=(0,0)/\erG x.1=erG p:=by
 unfold progOf at h
 obtain⟨⟨y1,y2⟩,h1,h2⟩:=Option.bind_eq_some_iff.1 h
 dsimp only at h2
 have hd2:y2.fe=0\/∀c∈p.funcs,dB c.body+1<=50:=hd.imp (fun hx=>by
  split at h2
  ·assumption
  ·rename_i hne
   cases h2;exact absurd hx hne) id
 unfold uP at hh
 simp only[List.append_assoc]at hh
 obtain⟨f1,rs,a1,a2⟩:=recs_ok p.recs [] [] [] F ⟨0,0,0,0⟩ y1 y2 _ h1 rfl (by simpa using hw.rl) hw.r hh
 rw[has_app]at hh
 obtain⟨f2,gs,b1,b2⟩:=globs_ok p.globals [] rs [] f1 _ y1 y2 _ a1 rfl (by simpa using hw.gl) hw.g hh.2
 have hh2:=(has_app.1 hh.2).2
 obtain⟨f3,fs,c1,c2⟩:=funs_ok p.funcs [] rs gs f2 _ y1 y2 _ b1 rfl rfl (by simpa using hw.fl) hw.f hd2 hh2
 have hh3:=(has_app.1 hh2).2.1
 cases f3 with
 |zero=>simp[pProg]at c1
 |succ f3=>
  unfold pProg at c1
  rw[if_neg (by
   rintro⟨_,k⟩
   apply k
   rw[cur_k]
   have:tokA T (mv (mv (mv (⟨0,0,0,0⟩:RQ) (manyT recT p.recs).length) (manyT globT p.globals).length) (manyT funT p.funcs).length).at_=(0,[],0):=hh3
   rw[this])]at c1
  cases c1
  change some (if (0:Int)=0 then _ else _)=_ at h2
  rw[if_pos rfl]at h2
  cases h2
  refine⟨rfl,?_⟩
  unfold erG
  simp only[List.nil_append]at a2 b2 c2
  rw[a2,b2,c2]
end Unp
namespace Unp
open Ax Go V7 Par Chk
mutual
def ep:E->E
 |.mk k n nm on od kids _ ty ref=>.mk k n nm on od (eps kids) 0 ty ref
def eps:List E->List E
 |[]=>[]
 |e::l=>ep e::eps l
end
theorem ep_eq (e:E):ep e=.mk e.k e.n e.nm e.on e.od (eps e.kids) 0 e.ty e.ref:=by
 obtain⟨k,n,nm,on,od,kids,a,ty,ref⟩:=e
 (conv=>lhs;unfold ep)<;>rfl
theorem ep_mk (k n:Int)(nm on:List UInt8)(od:Int)(ks:List E)(a:Int)(ty:T3)(ref:Int):ep (.mk k n nm on od ks a ty ref)=.mk k n nm on od (eps ks) 0 ty ref:=by
 (conv=>lhs;unfold ep)<;>rfl
theorem ep_ty {x y:E}(h:ep x=ep y):x.ty=y.ty:=by
 rw[ep_eq,ep_eq]at h
 exact(E.mk.inj h).2.2.2.2.2.2.2.1
def Rel {α:Type}(p:α->α->Prop):Except Int α->Except Int α->Prop
 |.ok a,.ok b=>p a b
 |.error _,.error _=>True
 |_,_=>False
theorem kinds_keptN (k n:Int)(m:Nat):kindsT k n m=kindsT k (keptN k n) m:=by
 unfold keptN
 split
 ·rfl
 ·rename_i h
  have h2:k≠2:=by omega
  unfold kindsT
  simp only[if_neg h2]
theorem ers_len:∀{l l':List E},ers l=ers l'->l.length=l'.length
 |[],[],_=>rfl
 |[],_::_,h=>by cases h
 |_::_,[],h=>by cases h
 |a::l,b::l',h=>by
  simp only[ers,List.cons.injEq]at h
  simp[ers_len h.2]
theorem eps_ty1 {l l':List E}(h:eps l=eps l'):ty1 l=ty1 l':=by
 cases l with
 |nil=>cases l' with
  |nil=>rfl
  |cons b l'=>cases h
 |cons a l=>cases l' with
  |nil=>cases h
  |cons b l'=>
   simp only[eps,List.cons.injEq]at h
   exact ep_ty h.1
theorem eps_ty2 {l l':List E}(h:eps l=eps l'):ty2 l=ty2 l':=by
 cases l with
 |nil=>cases l' with
  |nil=>rfl
  |cons b l'=>cases h
 |cons a l=>cases l' with
  |nil=>cases h
  |cons b l'=>
   simp only[eps,List.cons.injEq]at h
   cases l with
   |nil=>cases l' with
    |nil=>rfl
    |cons d l'=>have:=h.2;cases this
   |cons c l=>cases l' with
    |nil=>have:=h.2;cases this
    |cons d l'=>
     have h2:=h.2
     simp only[eps,List.cons.injEq]at h2
     exact ep_ty h2.1
theorem eps_same:∀{fs:List Vd}{l l':List E},eps l=eps l'->sameTs fs l=sameTs fs l'
 |fs,[],[],_=>rfl
 |_,[],_::_,h=>by cases h
 |_,_::_,[],h=>by cases h
 |[],a::l,b::l',h=>rfl
 |f::fs,a::l,b::l',h=>by
  simp only[eps,List.cons.injEq]at h
  unfold sameTs
  rw[ep_ty h.1,eps_same h.2]
theorem eps_len:∀{l l':List E},eps l=eps l'->l.length=l'.length
 |[],[],_=>rfl
 |[],_::_,h=>by cases h
 |_::_,[],h=>by cases h
 |a::l,b::l',h=>by
  simp only[eps,List.cons.injEq]at h
  simp[eps_len h.2]
theorem typ_same {H:Hd}{V:List Vd}{k:Int}{nm on:List UInt8}{od:Int}{l l':List E}(h:eps l=eps l'):typE H V k nm on od l=typE H V k nm on od l':=by
 unfold typE callT
 rw[eps_ty1 h,eps_ty2 h]
 simp only[eps_same h]
theorem ckV_rel {H:Hd}{V:List Vd}:∀{l l':List E},ers l=ers l'->(∀e∈l,∀e',er e=er e'->Rel (fun a b=>ep a=ep b) (ckE H V e) (ckE H V e'))->Rel (fun a b=>eps a=eps b) (ckV H V l) (ckV H V l')
 |[],[],_,_=>by unfold ckV;exact rfl
 |[],_::_,h,_=>by cases h
 |_::_,[],h,_=>by cases h
 |a::l,b::l',h,hp=>by
  simp only[ers,List.cons.injEq]at h
  have h1:=hp a List.mem_cons_self b h.1
  have h2:=ckV_rel h.2 fun e he=>hp e (List.mem_cons_of_mem _ he)
  unfold ckV
  cases e1:ckE H V a with
  |error x=>
   cases e2:ckE H V b with
   |error y=>trivial
   |ok y=>rw[e1,e2]at h1;exact h1.elim
  |ok x=>
   cases e2:ckE H V b with
   |error y=>rw[e1,e2]at h1;exact h1.elim
   |ok y=>
    rw[e1,e2]at h1
    have ht:=ep_ty h1
    simp only
    rw[ht]
    split
    ·trivial
    ·cases e3:ckV H V l with
     |error z=>
      cases e4:ckV H V l' with
      |error w=>trivial
      |ok w=>rw[e3,e4]at h2;exact h2.elim
     |ok z=>
      cases e4:ckV H V l' with
      |error w=>rw[e3,e4]at h2;exact h2.elim
      |ok w=>
       rw[e3,e4]at h2
       show eps (x::z)=eps (y::w)
       simp only[eps]
       rw[h1,h2]
theorem ckE_eq2 (H:Hd)(V:List Vd)(e:E):ckE H V e=if kindsT e.k e.n e.kids.length then
   match ckV H V e.kids with
   |.error x=>.error x
   |.ok ks=>match typE H V e.k e.nm e.on e.od ks with
    |none=>.error e.a
    |some (t,r)=>.ok (.mk e.k (keptN e.k e.n) (keptNm e.k e.nm) (keptOn e.k e.on) (keptOd e.k e.od) ks e.a t r)
  else .error e.a:=by
 obtain⟨k,n,nm,on,od,kids,a,ty,ref⟩:=e
 (conv=>lhs;unfold ckE)<;>rfl
theorem ckE_rel {H:Hd}{V:List Vd}(e:E):∀e',er e=er e'->Rel (fun a b=>ep a=ep b) (ckE H V e) (ckE H V e'):=by
 induction e using E.ind with
 |_ e ih=>
  intro e' h
  rw[er_eq,er_eq]at h
  obtain⟨h1,h2,h3,h4,h5,h6,_⟩:=E.mk.inj h
  have hv:=ckV_rel (H:=H) (V:=V) h6 ih
  rw[ckE_eq2,ckE_eq2,kinds_keptN e.k,kinds_keptN e'.k,ers_len h6,h2,<-h1]
  split
  ·cases e1:ckV H V e.kids with
   |error x=>
    cases e2:ckV H V e'.kids with
    |error y=>trivial
    |ok y=>rw[e1,e2]at hv;exact hv.elim
   |ok x=>
    cases e2:ckV H V e'.kids with
    |error y=>rw[e1,e2]at hv;exact hv.elim
    |ok y=>
     rw[e1,e2]at hv
     have hv':eps x=eps y:=hv
     simp only
     have ht:typE H V e.k e.nm e.on e.od x=typE H V e.k e'.nm e'.on e'.od y:=by
      rw[<-typ_kept (nm:=e.nm),<-typ_kept (nm:=e'.nm),typ_same hv']
      rw[<-h1]at h3 h4 h5
      rw[h3,h4,h5]
     rw[ht]
     cases typE H V e.k e'.nm e'.on e'.od y with
     |none=>trivial
     |some z=>
      obtain⟨t,r⟩:=z
      show ep _=ep _
      rw[ep_mk,ep_mk]
      rw[<-h1]at h2 h3 h4 h5
      rw[h3,h4,h5,hv']
  ·trivial
mutual
def epS:Sm->Sm
 |.mk k nm on od es bd el _ ref=>.mk k nm on od (eps es) (epB bd) (epB el) 0 ref
def epB:List Sm->List Sm
 |[]=>[]
 |s::l=>epS s::epB l
end
theorem epS_eq (s:Sm):epS s=.mk s.k s.nm s.on s.od (eps s.es) (epB s.bd) (epB s.el) 0 s.ref:=by
 obtain⟨k,nm,on,od,es,bd,el,a,ref⟩:=s
 (conv=>lhs;unfold epS)<;>rfl
theorem epS_mk (k:Int)(nm on:List UInt8)(od:Int)(es:List E)(bd el:List Sm)(a ref:Int):epS (.mk k nm on od es bd el a ref)=.mk k nm on od (eps es) (epB bd) (epB el) 0 ref:=by
 (conv=>lhs;unfold epS)<;>rfl
theorem er_kk {a b:E}(h:er a=er b):a.k=b.k:=by rw[er_eq,er_eq]at h;exact(E.mk.inj h).1
theorem form_same {has:Bool}{k:Int}:∀{es es':List E},ers es=ers es'->formT has k es=formT has k es'
 |[],[],_=>rfl
 |[],_::_,h=>by cases h
 |_::_,[],h=>by cases h
 |[a],[b],h=>by
  simp only[ers,List.cons.injEq]at h
  unfold formT
  simp only[er_kk h.1,List.length_cons,List.length_nil]
 |[_],_::_::_,h=>by have:=ers_len h;simp at this
 |_::_::_,[_],h=>by have:=ers_len h;simp at this
 |[a,_],[b,_],h=>by
  simp only[ers,List.cons.injEq]at h
  unfold formT
  simp only[er_kk h.1,List.length_cons,List.length_nil]
 |[_,_],_::_::_::_,h=>by have:=ers_len h;simp at this
 |_::_::_::_,[_,_],h=>by have:=ers_len h;simp at this
 |_::_::_::_,_::_::_::_,h=>by
  have:=ers_len h
  unfold formT
  simp only[this]
theorem decl_same {H:Hd}{k:Int}{on on':List UInt8}{od od':Int}(h1:keptSn k on=keptSn k on')(h2:keptSd k od=keptSd k od'):declT H k on od=declT H k on' od':=by
 unfold declT
 unfold keptSn at h1
 unfold keptSd at h2
 split
 ·rename_i c
  rw[if_pos c,if_pos c]at h1 h2
  rw[h1,h2]
 ·rfl
theorem esT_rel {H:Hd}{V:List Vd}{k:Int}{es es':List E}(h:ers es=ers es'):Rel (fun a b=>eps a=eps b) (esT H V k es) (esT H V k es'):=by
 unfold esT
 split
 ·cases es with
  |nil=>
   cases es' with
   |nil=>exact rfl
   |cons b l=>cases h
  |cons a l=>
   cases es' with
   |nil=>cases h
   |cons b l'=>
    simp only[ers,List.cons.injEq]at h
    have h1:=ckE_rel (H:=H) (V:=V) a b h.1
    simp only
    cases e1:ckE H V a with
    |error x=>
     cases e2:ckE H V b with
     |error y=>trivial
     |ok y=>rw[e1,e2]at h1;exact h1.elim
    |ok x=>
     cases e2:ckE H V b with
     |error y=>rw[e1,e2]at h1;exact h1.elim
     |ok y=>
      rw[e1,e2]at h1
      show eps [x]=eps [y]
      simp only[eps]
      rw[h1]
 ·exact ckV_rel h fun e _=>ckE_rel e
theorem fit_same {H:Hd}{res:T3}{V:List Vd}{k:Int}{nm nm':List UInt8}{es es':List E}{t:T3}(h:eps es=eps es')(hn:keptS k nm=keptS k nm'):fitT H res V k nm es t=fitT H res V k nm' es' t:=by
 unfold fitT
 unfold keptS at hn
 rw[eps_ty1 h,eps_ty2 h,eps_len h]
 by_cases c1:k=1
 ·rw[if_pos (.inl c1),if_pos (.inl c1)]at hn;rw[hn]
 by_cases c2:k=2
 ·rw[if_pos (.inr (.inl c2)),if_pos (.inr (.inl c2))]at hn;rw[hn]
 by_cases c3:k=3
 ·rw[if_pos (.inr (.inr c3)),if_pos (.inr (.inr c3))]at hn;rw[hn]
 rw[if_neg c1,if_neg c2,if_neg c3,if_neg c1,if_neg c2,if_neg c3]
def RS:Sm×List Vd->Sm×List Vd->Prop:=fun a b=>epS a.1=epS b.1/\a.2=b.2
def RB:List Sm×List Vd->List Sm×List Vd->Prop:=fun a b=>epB a.1=epB b.1/\a.2=b.2
theorem ckB_rel {H:Hd}{has:Bool}{res:T3}:∀{l l':List Sm}{V:List Vd},erB l=erB l'->(∀s∈l,∀s',erS s=erS s'->∀V,Rel RS (ckS H has res V s) (ckS H has res V s'))->Rel RB (ckB H has res V l) (ckB H has res V l')
 |[],[],V,_,_=>by unfold ckB;exact⟨rfl,rfl⟩
 |[],_::_,_,h,_=>by cases h
 |_::_,[],_,h,_=>by cases h
 |a::l,b::l',V,h,hp=>by
  simp only[erB,List.cons.injEq]at h
  have h1:=hp a List.mem_cons_self b h.1 V
  unfold ckB
  cases e1:ckS H has res V a with
  |error x=>
   cases e2:ckS H has res V b with
   |error y=>trivial
   |ok y=>rw[e1,e2]at h1;exact h1.elim
  |ok x=>
   cases e2:ckS H has res V b with
   |error y=>rw[e1,e2]at h1;exact h1.elim
   |ok y=>
    rw[e1,e2]at h1
    obtain⟨x1,x2⟩:=x
    obtain⟨y1,y2⟩:=y
    obtain⟨r1,r2⟩:=h1
    simp only at r1 r2
    subst r2
    have h2:=ckB_rel (V:=x2) h.2 fun e he=>hp e (List.mem_cons_of_mem _ he)
    simp only
    cases e3:ckB H has res x2 l with
    |error z=>
     cases e4:ckB H has res x2 l' with
     |error w=>trivial
     |ok w=>rw[e3,e4]at h2;exact h2.elim
    |ok z=>
     cases e4:ckB H has res x2 l' with
     |error w=>rw[e3,e4]at h2;exact h2.elim
     |ok w=>
      rw[e3,e4]at h2
      obtain⟨z1,z2⟩:=z
      obtain⟨w1,w2⟩:=w
      obtain⟨q1,q2⟩:=h2
      refine⟨?_,q2⟩
      show epB (x1::z1)=epB (y1::w1)
      simp only[epB]
      simp only at q1
      rw[r1,q1]
theorem ckS_rel {H:Hd}{has:Bool}{res:T3}(s:Sm):∀s',erS s=erS s'->∀V,Rel RS (ckS H has res V s) (ckS H has res V s'):=by
 induction s using Sm.ind with
 |_ s ih1 ih2=>
  intro s' h V
  rw[erS_eq,erS_eq]at h
  obtain⟨h1,h2,h3,h4,h5,h6,h7,_⟩:=Sm.mk.inj h
  rw[<-h1]at h2 h3 h4
  have hes:=esT_rel (H:=H) (V:=V) (k:=s.k) h5
  rw[ckS_eq,ckS_eq,<-h1,form_same h5,decl_same h3 h4]
  split
  ·cases declT H s.k s'.on s'.od with
   |none=>trivial
   |some t=>
    simp only
    cases e1:esT H V s.k s.es with
    |error x=>
     cases e2:esT H V s.k s'.es with
     |error y=>trivial
     |ok y=>rw[e1,e2]at hes;exact hes.elim
    |ok x=>
     cases e2:esT H V s.k s'.es with
     |error y=>rw[e1,e2]at hes;exact hes.elim
     |ok y=>
      rw[e1,e2]at hes
      have hes':eps x=eps y:=hes
      simp only
      rw[fit_same hes' h2]
      cases fitT H res V s.k s'.nm y t with
      |none=>trivial
      |some z=>
       obtain⟨r,W⟩:=z
       simp only
       by_cases c5:s.k=5
       ·rw[if_pos c5,if_pos c5]
        have hb:=ckB_rel (has:=has) (res:=res) (V:=W) h6 ih1
        cases e3:ckB H has res W s.bd with
        |error z=>
         cases e4:ckB H has res W s'.bd with
         |error w=>trivial
         |ok w=>rw[e3,e4]at hb;exact hb.elim
        |ok z=>
         cases e4:ckB H has res W s'.bd with
         |error w=>rw[e3,e4]at hb;exact hb.elim
         |ok w=>
          rw[e3,e4]at hb
          obtain⟨z1,z2⟩:=z
          obtain⟨w1,w2⟩:=w
          obtain⟨q1,q2⟩:=hb
          simp only at q1 q2
          subst q2
          simp only
          have hc:=ckB_rel (has:=has) (res:=res) (V:=z2) h7 ih2
          cases e5:ckB H has res z2 s.el with
          |error z=>
           cases e6:ckB H has res z2 s'.el with
           |error w=>trivial
           |ok w=>rw[e5,e6]at hc;exact hc.elim
          |ok u=>
           cases e6:ckB H has res z2 s'.el with
           |error w=>rw[e5,e6]at hc;exact hc.elim
           |ok v=>
            rw[e5,e6]at hc
            obtain⟨u1,u2⟩:=u
            obtain⟨v1,v2⟩:=v
            obtain⟨p1,p2⟩:=hc
            simp only at p1 p2
            refine⟨?_,p2⟩
            show epS _=epS _
            rw[epS_mk,epS_mk]
            rw[h2,h3,h4,hes',q1,p1]
       ·rw[if_neg c5,if_neg c5]
        by_cases c6:s.k=6
        ·rw[if_pos c6,if_pos c6]
         have hb:=ckB_rel (has:=has) (res:=res) (V:=W) h6 ih1
         cases e3:ckB H has res W s.bd with
         |error z=>
          cases e4:ckB H has res W s'.bd with
          |error w=>trivial
          |ok w=>rw[e3,e4]at hb;exact hb.elim
         |ok z=>
          cases e4:ckB H has res W s'.bd with
          |error w=>rw[e3,e4]at hb;exact hb.elim
          |ok w=>
           rw[e3,e4]at hb
           obtain⟨z1,z2⟩:=z
           obtain⟨w1,w2⟩:=w
           obtain⟨q1,q2⟩:=hb
           simp only at q1 q2
           refine⟨?_,q2⟩
           show epS _=epS _
           rw[epS_mk,epS_mk]
           rw[h2,h3,h4,hes',q1]
        ·rw[if_neg c6,if_neg c6]
         refine⟨?_,rfl⟩
         show epS _=epS _
         rw[epS_mk,epS_mk]
         rw[h2,h3,h4,hes']
  ·trivial
theorem ask_same (su:List Bool)(e:E):∀e',ep e=ep e'->(askE su e).isNone=(askE su e').isNone:=by
 induction e using E.ind with
 |_ e ih=>
  intro e' h
  rw[ep_eq,ep_eq]at h
  obtain⟨h1,_,_,_,_,h6,_,_,h9⟩:=E.mk.inj h
  have hl:∀(l l':List E),(∀x∈l,x∈e.kids)->eps l=eps l'->(askL su l).isNone=(askL su l').isNone:=fun l=>by
   induction l with
   |nil=>
    intro l' _ h
    cases l' with
    |nil=>rfl
    |cons b l'=>cases h
   |cons a l ihl=>
    intro l' hm h
    cases l' with
    |nil=>cases h
    |cons b l'=>
     simp only[eps,List.cons.injEq]at h
     have a1:=ih a (hm a List.mem_cons_self) b h.1
     have a2:=ihl l' (fun x hx=>hm x (List.mem_cons_of_mem _ hx)) h.2
     rw[askL_cons,askL_cons]
     revert a1 a2
     cases askE su a<;>cases askE su b<;>simp[orO]
  have hk:=hl e.kids e'.kids (fun _ h=>h) h6
  rw[askE_eq,askE_eq,h1,h9]
  revert hk
  cases askL su e.kids<;>cases askL su e'.kids<;>simp[orO]
  split<;>rfl
theorem askL_same (su:List Bool):∀{l l':List E},eps l=eps l'->(askL su l).isNone=(askL su l').isNone
 |[],[],_=>rfl
 |[],_::_,h=>by cases h
 |_::_,[],h=>by cases h
 |a::l,b::l',h=>by
  simp only[eps,List.cons.injEq]at h
  have a1:=ask_same su a b h.1
  have a2:=askL_same su h.2
  rw[askL_cons,askL_cons]
  revert a1 a2
  cases askE su a<;>cases askE su b<;>simp[orO]
def SR (x y:List Bool×Option Int):Prop:=x.1=y.1/\x.2.isNone=y.2.isNone
theorem orO_none2 {a b c d:Option Int}(h:a.isNone=c.isNone)(k:b.isNone=d.isNone):(orO a b).isNone=(orO c d).isNone:=by
 cases a<;>cases c<;>simp_all [orO]
theorem surB_same:∀{l l':List Sm}{su:List Bool},epB l=epB l'->(∀s∈l,∀s',epS s=epS s'->∀su,SR (surS su s) (surS su s'))->SR (surB su l) (surB su l')
 |[],[],su,_,_=>⟨rfl,rfl⟩
 |[],_::_,_,h,_=>by cases h
 |_::_,[],_,h,_=>by cases h
 |a::l,b::l',su,h,hp=>by
  simp only[epB,List.cons.injEq]at h
  obtain⟨a1,a2⟩:=hp a List.mem_cons_self b h.1 su
  obtain⟨b1,b2⟩:=surB_same (su:=(surS su a).1) h.2 fun s hs=>hp s (List.mem_cons_of_mem _ hs)
  rw[surB_cons,surB_cons,<-a1]
  exact⟨b1,orO_none2 a2 b2⟩
theorem surS_same (s:Sm):∀s',epS s=epS s'->∀su,SR (surS su s) (surS su s'):=by
 induction s using Sm.ind with
 |_ s ih1 ih2=>
  intro s' h su
  rw[epS_eq,epS_eq]at h
  obtain⟨h1,_,_,_,h5,h6,h7,_,h9⟩:=Sm.mk.inj h
  have hb:∀su,SR (surB su s.bd) (surB su s'.bd):=fun su=>surB_same h6 ih1
  have hc:∀su,SR (surB su s.el) (surB su s'.el):=fun su=>surB_same h7 ih2
  have he:=askL_same su h5
  rw[surS_eq,surS_eq,<-h1,<-h9]
  split
  ·exact⟨rfl,he⟩
  split
  ·exact⟨rfl,he⟩
  split
  ·exact⟨rfl,he⟩
  split
  ·exact⟨rfl,orO_none2 he (hb su).2⟩
  split
  ·exact⟨by rw[(hb su).1,(hc su).1],orO_none2 he (orO_none2 (hb su).2 (hc su).2)⟩
  ·exact⟨rfl,he⟩
theorem surBl_same {l l':List Sm}{su:List Bool}(h:epB l=epB l'):SR (surB su l) (surB su l'):=surB_same h fun s _=>surS_same s
def RF:List Bd->List Bd->Prop
 |[],[]=>True
 |a::l,b::m=>a.vars=b.vars/\epB a.code=epB b.code/\RF l m
 |_,_=>False
theorem ckF_rel {H:Hd}:∀{ss:List Sg}{fs gs:List Fc},fs.map (fun f=>erB f.body)=gs.map (fun f=>erB f.body)->Rel RF (ckF H ss fs) (ckF H ss gs)
 |[],fs,gs,_=>by
  have:∀fs,ckF H [] fs=.ok []:=fun fs=>by unfold ckF;rfl
  rw[this,this];trivial
 |s::ss,[],[],_=>by
  have:ckF H (s::ss) []=.ok []:=by unfold ckF;rfl
  rw[this];trivial
 |s::ss,[],_::_,h=>by cases h
 |s::ss,_::_,[],h=>by cases h
 |s::ss,f::fs,g::gs,h=>by
  simp only[List.map_cons,List.cons.injEq]at h
  have h1:=ckB_rel (H:=H) (has:=s.has) (res:=s.res) (V:=s.ps) h.1 fun x _=>ckS_rel x
  have h2:=ckF_rel (H:=H) (ss:=ss) h.2
  unfold ckF
  cases e1:ckB H s.has s.res s.ps f.body with
  |error x=>
   cases e2:ckB H s.has s.res s.ps g.body with
   |error y=>trivial
   |ok y=>rw[e1,e2]at h1;exact h1.elim
  |ok x=>
   cases e2:ckB H s.has s.res s.ps g.body with
   |error y=>rw[e1,e2]at h1;exact h1.elim
   |ok y=>
    rw[e1,e2]at h1
    obtain⟨x1,x2⟩:=x
    obtain⟨y1,y2⟩:=y
    obtain⟨r1,r2⟩:=h1
    simp only at r1 r2 ⊢
    cases e3:ckF H ss fs with
    |error z=>
     cases e4:ckF H ss gs with
     |error w=>trivial
     |ok w=>rw[e3,e4]at h2;exact h2.elim
    |ok z=>
     cases e4:ckF H ss gs with
     |error w=>rw[e3,e4]at h2;exact h2.elim
     |ok w=>
      rw[e3,e4]at h2
      exact⟨r2,r1,h2⟩
theorem surF_same:∀{ss:List Sg}{bs cs:List Bd},RF bs cs->(surF ss bs).isNone=(surF ss cs).isNone
 |[],bs,cs,_=>by
  have:∀bs,surF [] bs=none:=fun bs=>by unfold surF;rfl
  rw[this,this]
 |s::ss,[],[],_=>rfl
 |s::ss,[],_::_,h=>h.elim
 |s::ss,_::_,[],h=>h.elim
 |s::ss,b::bs,c::cs,h=>by
  obtain⟨h1,h2,h3⟩:=h
  unfold surF
  refine orO_none2 ?_ (surF_same h3)
  have:su0 s b=su0 s c:=by unfold su0;rw[h1]
  rw[this]
  exact(surBl_same h2).2
end Unp
