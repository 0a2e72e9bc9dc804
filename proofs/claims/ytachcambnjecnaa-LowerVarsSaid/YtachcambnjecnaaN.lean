/-
  The reader of the document's parser: what stands at a place, and what goes over it.
-/
import Derived.Test.YtachcambnjecnaaCode2
import Derived.Test.YtachcambnjecnaaP
import Derived.Test.YtachcambnjecnaaL
import Derived.Test.YtachcambnjecnaaM

set_option maxRecDepth 100000
set_option maxHeartbeats 8000000
namespace N7
open Ax Go cp V7 j4
section
variable {l:AV}{T:List Tk}(hT:TL l T)(aa:Nat)(q:RQ)
theorem wU:(aW S).call 0 aa 15 [.ptr 0 0 0 0] [q.obj l]=some (.bool (decide (q.fe=0)),[q.obj l]):=by
 refine ax (sf:=s15) rfl rfl rfl ?_
 simp[s15,RQ.obj,cut,AV.view]
include hT
theorem kT:(aW S).call 0 aa 16 [.ptr 0 0 0 0] [q.obj l]=some (.agg (cur T q).cells,[q.obj l]):=by
 have hs:=hT.sl
 have hz:=hT.sz
 have hr:=hT.rows
 refine ax (sf:=s16) rfl rfl rfl ?_
 have h0:¬(q.at_:Int)<0:=by omega
 by_cases h1:q.at_<T.length
 ·have h2:¬(T.length:Int)<=(q.at_:Int):=by omega
  have hc:cur T q=T[q.at_]:=by simp[cur,h1]
  simp[s16,RQ.obj,cut,h0,h1,h2,hs,hz,hr,hc,Tk.cells,aB,az,AV.view]
 ·have h2:(T.length:Int)<=(q.at_:Int):=by omega
  have hc:cur T q=Xw:=by simp[cur,List.getD,List.getElem?_eq_none (Nat.le_of_not_lt h1)]
  simp[s16,RQ.obj,cut,h0,h2,hs,hr,hc,Tk.cells,aB,az,AV.view]
theorem iZ (s:List UInt8)(jH:s≠[]):(aW S).call 0 aa 17 [.ptr 0 0 0 0,.str s] [q.obj l]=some (.bool (fy T q s),[q.obj l]):=by
 have et:=λaa=>kT hT aa q
 have eo:=λaa=>wU (l:=l) aa q
 cases s with
 |nil=>exact absurd rfl jH
 |cons c s=>
  obtain⟨v,hv⟩:∃v,fy T q (c::s)=v:=⟨_,rfl⟩
  rw[hv]
  simp only[fy]at hv
  refine ax (sf:=s17) rfl rfl rfl ?_
  generalize cur T q=x at *
  simp only[Tk.cells]at et
  have fin:∀k:Int,kA (c::s)=k->v=(decide (q.fe=0)&&decide (x.k=k)&&decide (x.t=c::s)):=λk hk=>by rw[<-hv,hk]
  by_cases c1:97<=c.toNat
  ·have d1:(97:Int)<=(c.toNat:Int):=by omega
   by_cases c2:c.toNat<=122
   ·have d2:(c.toNat:Int)<=122:=by omega
    rw[fin 3 (by simp[kA,c1,c2])]
    by_cases f0:q.fe=0<;>by_cases f1:x.k=3<;>simp[s17,et,eo,d1,d2,f0,f1]
   ·have d2:¬(c.toNat:Int)<=122:=by omega
    rw[fin 4 (by simp[kA,c2])]
    by_cases f0:q.fe=0<;>by_cases f1:x.k=4<;>simp[s17,et,eo,d1,d2,f0,f1]
  ·have d1:¬(97:Int)<=(c.toNat:Int):=by omega
   rw[fin 4 (by simp[kA,c1])]
   by_cases f0:q.fe=0<;>by_cases f1:x.k=4<;>simp[s17,et,eo,d1,f0,f1]
theorem dF (e:Int):(aW S).call 0 aa 18 [.ptr 0 0 0 0,.int .i64 e] [q.obj l]=some (.fm [],[(ig T q e).obj l]):=by
 have et:=λaa=>kT hT aa q
 have eo:=λaa=>wU (l:=l) aa q
 refine ax (sf:=s18) rfl rfl rfl ?_
 unfold ig
 generalize cur T q=x at *
 simp only[Tk.cells]at et
 by_cases f0:q.fe=0
 ·simp only[RQ.obj,f0]at et eo
  simp[s18,eo,et,RQ.obj,f0,cut,bf,AV.ah,AV.an,af]
 ·simp[s18,eo,f0]
theorem dV (s:List UInt8)(jH:s≠[]):(aW S).call 0 aa 21 [.ptr 0 0 0 0,.str s] [q.obj l]=some (.fm [],[(cC T q s).obj l]):=by
 have ei:=λaa=>iZ hT aa q s jH
 have ef:=λaa e=>dF hT aa q e
 have hlen:=hT.len
 refine ax (sf:=s21) rfl rfl rfl ?_
 unfold cC
 cases hi:fy T q s with
 |false=>simp[s21,ei,hi,ef]
 |true=>
  have IL:=(aV hi).2
  have hw:IntKind.i64.wrap ((q.at_:Int)+1)=((q.at_+1:Nat):Int):=by rw[wrap64]<;>omega
  simp only[RQ.obj,hi]at ei
  simp[s21,ei,RQ.obj,ay,cut,bf,AV.ah,AV.an,af,hw,AV.view]
theorem oW (s:List UInt8)(jH:s≠[]):(aW S).call 0 aa 54 [.ptr 0 0 0 0,.str s] [q.obj l]=some (.fm [],[(fL T q s).obj l]):=by
 have ei:=λaa=>iZ hT aa q s jH
 have ef:=λaa e=>dF hT aa q e
 have et:=λaa=>dV hT aa q s jH
 refine ax (sf:=s54) rfl rfl rfl ?_
 unfold fL
 cases hi:fy T q s with
 |false=>
  generalize cC T q s=r at *
  simp only[RQ.obj,hi]at ei et
  simp[s54,ei,et,RQ.obj,oO,cut,bf,AV.ah,AV.an,af,AV.view]
 |true=>
  by_cases h50:50<=q.op
  ·simp only[RQ.obj,hi]at ei ef
   simp[s54,ei,ef,RQ.obj,cut,h50,AV.view]
  ·generalize cC T q s=r at *
   simp only[RQ.obj,hi]at ei et
   simp[s54,ei,et,RQ.obj,oO,cut,h50,bf,AV.ah,AV.an,af,AV.view]
theorem ot (s:List UInt8)(jH:s≠[]):(aW S).call 0 aa 56 [.ptr 0 0 0 0,.str s] [q.obj l]=some (.fm [],[(jt T q s).obj l]):=by
 have et:=λaa=>dV hT aa q s jH
 have hw:∀n:Int,IntKind.i64.wrap (n-1)=IntKind.i64.wrap (n + -1):=λn=>by rw[Int.sub_eq_add_neg]
 refine ax (sf:=s56) rfl rfl rfl ?_
 unfold jt
 generalize cC T q s=r at *
 simp only[RQ.obj]at et
 simp[s56,et,RQ.obj,oO,cut,bf,AV.ah,AV.an,af,AV.view,hw]
theorem lG:(aW S).call 0 aa 33 [.ptr 0 0 0 0] [q.obj l]=some (.str (cQ T q).1,[(cQ T q).2.obj l]):=by
 have et:=λaa=>kT hT aa q
 have eo:=λaa=>wU (l:=l) aa q
 have ef:=λaa e=>dF hT aa q e
 have hlen:=hT.len
 refine ax (sf:=s33) rfl rfl rfl ?_
 unfold cQ
 have ef:=λaa=>ef aa 2
 generalize ig T q 2=r at *
 generalize hx:cur T q=x at *
 simp only[Tk.cells]at et
 by_cases f0:q.fe=0
 ·by_cases f1:x.k=1
  ·simp only[RQ.obj,f0]at et eo
   have IL:q.at_<T.length:=qc (by rw[hx,f1];decide)
   have hw:IntKind.i64.wrap ((q.at_:Int)+1)=((q.at_+1:Nat):Int):=by rw[wrap64]<;>omega
   simp[s33,et,eo,f0,f1,RQ.obj,ay,cut,bf,AV.ah,AV.an,af,hw,AV.view]
  ·simp[s33,et,eo,f0,f1,ef]
 ·simp[s33,et,eo,f0,ef]
end
end N7
namespace N7
open Ax Go cp V7 j4
theorem XK {T:List Tk}{k d:Nat}{q:RQ}(h:fy T q [91]=false):Du T k d q=(d,q):=by
 cases k with
 |zero=>rfl
 |succ k=>unfold Du;rw[h];rfl
section
variable {l:AV}{T:List Tk}(hT:TL l T)(aa:Nat)(q:RQ)
include hT
theorem Hr:(aW S).call 0 aa 34 [.ptr 0 0 0 0] [q.obj l]=some (.agg [.str (tY T q).1.1,.int .i64 (tY T q).1.2],[(tY T q).2.obj l]):=by
 have hlen:=hT.len
 refine ax (sf:=s34) rfl rfl rfl ?_
 generalize hF:tY T q=F
 simp[s34]
 refine bC O6.eq_1 (λx:RQ×Nat=>⟨[(0,.val (.ptr 0 0 0 0)),(2,.fp 0 0),(3,.val (.int .i64 x.2))],[[.str [],.int .i64 0],[]],[RQ.obj l x.1]⟩)
  (λx=>∃k,k+x.2=3/\Du T k x.2 x.1=Du T 3 0 q) (λx=>3-x.2) (q,0) ?_ ⟨3,rfl,rfl⟩ ?_
 ·rfl
 rintro⟨r,d⟩ ⟨k,hk,hL⟩ ih
 simp only at hk hL ih
 have ei:=λaa=>iZ hT aa r [91] (by simp)
 unfold tY at hF
 cases hi:fy T r [91] with
 |true=>
  obtain⟨i1,i2⟩:=aV hi
  by_cases h3:d=3
  ·have ef:=λaa e=>dF hT aa r e
   have uk:k=0:=by omega
   subst h3 uk
   have hL':Du T 3 0 q=(3,r):=hL.symm
   rw[hL',if_pos hi]at hF
   subst hF
   simp[ei,hi,ef]
  ·have M9:¬(d:Int)=3:=by omega
   have hw:IntKind.i64.wrap ((r.at_:Int)+1)=((r.at_+1:Nat):Int):=by rw[wrap64]<;>omega
   have Xq:IntKind.i64.wrap ((d:Int)+1)=((d+1:Nat):Int):=by rw[wrap64]<;>omega
   simp only[RQ.obj,hi]at ei
   simp[ei,M9,RQ.obj,cut,bf,AV.ah,AV.an,af,hw,Xq,AV.view]
   refine ih (ay r,d+1) ⟨k-1,by simp only;omega,?_⟩ (by simp only;omega)
   rw[<-hL]
   obtain⟨k',rfl⟩:∃k',k=k'+1:=⟨k-1,by omega⟩
   conv=>rhs;unfold Du
   rw[if_pos hi]
   rfl
 |false=>
  rw[XK hi]at hL
  rw[<-hL,if_neg (by rw[hi];simp)]at hF
  dsimp only at hF
  have en:=λaa=>lG hT aa r
  have ea:=λaa=>iZ hT aa r [105,110,116] (by simp)
  have eb:=λaa=>iZ hT aa r [98,111,111,108] (by simp)
  have et:=λaa=>kT hT aa r
  unfold Xx at hF
  cases ha:fy T r [105,110,116] with
  |true=>
   obtain⟨i1,i2⟩:=aV ha
   have hw:IntKind.i64.wrap ((r.at_:Int)+1)=((r.at_+1:Nat):Int):=by rw[wrap64]<;>omega
   simp only[RQ.obj,hi,ha]at ei ea et
   rw[ha]at hF
   simp only[Bool.true_or,if_true]at hF
   generalize hc:cur T r=c at *
   simp only[Tk.cells]at et
   simp[ei,ea,et,RQ.obj,cut,bf,AV.ah,AV.an,af,hw,AV.view]
   refine bC Ev.eq_1 (λx:Nat=>⟨[(0,.val (.ptr 0 0 0 0)),(2,.fp 0 0),(3,.val (.int .i64 d)),(4,.fp 1 0),(5,.val (.int .i64 x))],[[.str [],.int .i64 0],[.str c.t,.int .i64 d]],[RQ.obj l (oP T (ay r) [93] x)]⟩)
    (λx=>x<=d) (λx=>d-x) 0 ?_ (by simp) ?_
   ·rfl
   intro x hx ihx
   by_cases hxd:x<d
   ·have hwx:IntKind.i64.wrap ((x:Int)+1)=((x+1:Nat):Int):=by rw[wrap64]<;>omega
    have ek:=λaa=>dV hT aa (oP T (ay r) [93] x) [93] (by simp)
    have acy:(x:Int)<(d:Int):=by omega
    simp[hxd,ek,hwx]
    exact ihx (x+1) (by omega) (by omega)
   ·have:x=d:=by omega
    subst this
    subst hF
    simp
    rfl
  |false=>
   cases hb:fy T r [98,111,111,108] with
   |true=>
    obtain⟨i1,i2⟩:=aV hb
    have hw:IntKind.i64.wrap ((r.at_:Int)+1)=((r.at_+1:Nat):Int):=by rw[wrap64]<;>omega
    simp only[RQ.obj,hi,ha,hb]at ei ea eb et
    rw[ha,hb]at hF
    simp only[Bool.false_or,if_true]at hF
    generalize hc:cur T r=c at *
    simp only[Tk.cells]at et
    simp[ei,ea,eb,et,RQ.obj,cut,bf,AV.ah,AV.an,af,hw,AV.view]
    refine bC Ev.eq_1 (λx:Nat=>⟨[(0,.val (.ptr 0 0 0 0)),(2,.fp 0 0),(3,.val (.int .i64 d)),(4,.fp 1 0),(5,.val (.int .i64 x))],[[.str [],.int .i64 0],[.str c.t,.int .i64 d]],[RQ.obj l (oP T (ay r) [93] x)]⟩)
     (λx=>x<=d) (λx=>d-x) 0 ?_ (by simp) ?_
    ·rfl
    intro x hx ihx
    by_cases hxd:x<d
    ·have hwx:IntKind.i64.wrap ((x:Int)+1)=((x+1:Nat):Int):=by rw[wrap64]<;>omega
     have ek:=λaa=>dV hT aa (oP T (ay r) [93] x) [93] (by simp)
     have acy:(x:Int)<(d:Int):=by omega
     simp[hxd,ek,hwx]
     exact ihx (x+1) (by omega) (by omega)
    ·have:x=d:=by omega
     subst this
     subst hF
     simp
     rfl
   |false=>
    rw[ha,hb]at hF
    simp only[Bool.or_self,Bool.false_eq_true,if_false]at hF
    generalize cQ T r=z at *
    simp[ei,ea,eb,hi,ha,hb,en,af]
    refine bC Ev.eq_1 (λx:Nat=>⟨[(0,.val (.ptr 0 0 0 0)),(2,.fp 0 0),(3,.val (.int .i64 d)),(4,.fp 1 0),(5,.val (.int .i64 x))],[[.str [],.int .i64 0],[.str z.1,.int .i64 d]],[RQ.obj l (oP T z.2 [93] x)]⟩)
     (λx=>x<=d) (λx=>d-x) 0 ?_ (by simp) ?_
    ·rfl
    intro x hx ihx
    by_cases hxd:x<d
    ·have hwx:IntKind.i64.wrap ((x:Int)+1)=((x+1:Nat):Int):=by rw[wrap64]<;>omega
     have ek:=λaa=>dV hT aa (oP T z.2 [93] x) [93] (by simp)
     have acy:(x:Int)<(d:Int):=by omega
     simp[hxd,ek,hwx]
     exact ihx (x+1) (by omega) (by omega)
    ·have:x=d:=by omega
     subst this
     subst hF
     simp
theorem BS:(aW S).call 0 aa 20 [.ptr 0 0 0 0] [q.obj l]=some (.agg (cJ T q).1.cells,[(cJ T q).2.obj l]):=by
 have et:=λaa=>kT hT aa q
 have en:=λaa=>lG hT aa q
 have e2:=λaa=>dV hT aa (cQ T q).2 [58] (by simp)
 have e3:=λaa=>Hr hT aa (cC T (cQ T q).2 [58])
 refine ax (sf:=s20) rfl rfl rfl ?_
 unfold cJ
 generalize tY T (cC T (cQ T q).2 [58])=z3 at *
 generalize cC T (cQ T q).2 [58]=q2 at *
 generalize cQ T q=z at *
 generalize cur T q=c at *
 simp only[Tk.cells]at et
 simp[-au,-ag,s20,et,en,e2,e3,af,AV.view,AV.an,AV.ah,PD.cells]
end
theorem Hs (wl aa:Nat)(n:Nat)(hn:n<5)(c:Tk)(st:aj):(aW S).call wl aa 83 [.int .i64 n,.agg c.cells] st=some (.int .i64 (nG n c),st):=by
 refine bT (sf:=Vv) rfl rfl (by simp[Tk.cells,AV.an,AV.ah]) rfl (by simp) ?_
 unfold nG
 by_cases hk:c.k=4
 ·rw[if_pos hk]
  have w1:IntKind.i64.wrap 1=1:=rfl
  have w2:IntKind.i64.wrap 2=2:=rfl
  have w3:IntKind.i64.wrap 3=3:=rfl
  have w4:IntKind.i64.wrap 4=4:=rfl
  have acz:n=0\/n=1\/n=2\/n=3\/n=4:=by omega
  have w1:IntKind.i64.wrap 1=1:=rfl
  have w2:IntKind.i64.wrap 2=2:=rfl
  have w3:IntKind.i64.wrap 3=3:=rfl
  have w4:IntKind.i64.wrap 4=4:=rfl
  rcases acz with h|h|h|h|h
  ·subst h
   simp[Vv,Tk.cells,hk]
   refine bC xT.eq_1 (λk:Nat=>⟨[(0,.val (.int .i64 0)),(3,.fp 0 0),(5,.val (.cN 1 [[.cN 1 [[.str [124,124]]]],[.cN 1 [[.str [38,38]]]],[.cN 1 [[.str [60]],[.str [60,61]],[.str [61,61]],[.str [33,61]]]],[.cN 1 [[.str [43]],[.str [45]]]],[.cN 1 [[.str [42]],[.str [47]],[.str [37]]]]])),(6,.val (.cN 1 [[.cN 1 [[.int .i64 24]]],[.cN 1 [[.int .i64 23]]],[.cN 1 [[.int .i64 19],[.int .i64 20],[.int .i64 21],[.int .i64 22]]],[.cN 1 [[.int .i64 14],[.int .i64 15]]],[.cN 1 [[.int .i64 16],[.int .i64 17],[.int .i64 18]]]])),(7,.val (.int .i64 k))],[[.int .i64 4,.str c.t,.int .i64 c.n,.int .i64 c.a]],[]⟩)
    (λk=>k<=1/\eZ (dg 0) c.t=eZ ((dg 0).drop k) c.t) (λk=>1-k) 0 (by simp) (by simp) ?_
   intro k ⟨Nb,hf⟩ ih
   have hc:k=0\/k=1:=by omega
   rcases hc with h|h
   ·subst h
    by_cases e:[124,124]=c.t
    ·rw[hf];simp[e,aB,az,AV.view,dg,eZ]
    ·simp[e,w1,aB,az,AV.view]
     exact ih 1 ⟨by omega,by rw[hf];simp[dg,eZ,e]⟩ (by omega)
   ·subst h
    rw[hf];simp[AV.view,dg,eZ]
  ·subst h
   simp[Vv,Tk.cells,hk]
   refine bC xT.eq_1 (λk:Nat=>⟨[(0,.val (.int .i64 1)),(3,.fp 0 0),(5,.val (.cN 1 [[.cN 1 [[.str [124,124]]]],[.cN 1 [[.str [38,38]]]],[.cN 1 [[.str [60]],[.str [60,61]],[.str [61,61]],[.str [33,61]]]],[.cN 1 [[.str [43]],[.str [45]]]],[.cN 1 [[.str [42]],[.str [47]],[.str [37]]]]])),(6,.val (.cN 1 [[.cN 1 [[.int .i64 24]]],[.cN 1 [[.int .i64 23]]],[.cN 1 [[.int .i64 19],[.int .i64 20],[.int .i64 21],[.int .i64 22]]],[.cN 1 [[.int .i64 14],[.int .i64 15]]],[.cN 1 [[.int .i64 16],[.int .i64 17],[.int .i64 18]]]])),(7,.val (.int .i64 k))],[[.int .i64 4,.str c.t,.int .i64 c.n,.int .i64 c.a]],[]⟩)
    (λk=>k<=1/\eZ (dg 1) c.t=eZ ((dg 1).drop k) c.t) (λk=>1-k) 0 (by simp) (by simp) ?_
   intro k ⟨Nb,hf⟩ ih
   have hc:k=0\/k=1:=by omega
   rcases hc with h|h
   ·subst h
    by_cases e:[38,38]=c.t
    ·rw[hf];simp[e,aB,az,AV.view,dg,eZ]
    ·simp[e,w1,aB,az,AV.view]
     exact ih 1 ⟨by omega,by rw[hf];simp[dg,eZ,e]⟩ (by omega)
   ·subst h
    rw[hf];simp[AV.view,dg,eZ]
  ·subst h
   simp[Vv,Tk.cells,hk]
   refine bC xT.eq_1 (λk:Nat=>⟨[(0,.val (.int .i64 2)),(3,.fp 0 0),(5,.val (.cN 1 [[.cN 1 [[.str [124,124]]]],[.cN 1 [[.str [38,38]]]],[.cN 1 [[.str [60]],[.str [60,61]],[.str [61,61]],[.str [33,61]]]],[.cN 1 [[.str [43]],[.str [45]]]],[.cN 1 [[.str [42]],[.str [47]],[.str [37]]]]])),(6,.val (.cN 1 [[.cN 1 [[.int .i64 24]]],[.cN 1 [[.int .i64 23]]],[.cN 1 [[.int .i64 19],[.int .i64 20],[.int .i64 21],[.int .i64 22]]],[.cN 1 [[.int .i64 14],[.int .i64 15]]],[.cN 1 [[.int .i64 16],[.int .i64 17],[.int .i64 18]]]])),(7,.val (.int .i64 k))],[[.int .i64 4,.str c.t,.int .i64 c.n,.int .i64 c.a]],[]⟩)
    (λk=>k<=4/\eZ (dg 2) c.t=eZ ((dg 2).drop k) c.t) (λk=>4-k) 0 (by simp) (by simp) ?_
   intro k ⟨Nb,hf⟩ ih
   have hc:k=0\/k=1\/k=2\/k=3\/k=4:=by omega
   rcases hc with h|h|h|h|h
   ·subst h
    by_cases e:[60]=c.t
    ·rw[hf];simp[e,aB,az,AV.view,dg,eZ]
    ·simp[e,w1,aB,az,AV.view]
     exact ih 1 ⟨by omega,by rw[hf];simp[dg,eZ,e]⟩ (by omega)
   ·subst h
    by_cases e:[60,61]=c.t
    ·rw[hf];simp[e,aB,az,AV.view,dg,eZ]
    ·simp[e,w2,aB,az,AV.view]
     exact ih 2 ⟨by omega,by rw[hf];simp[dg,eZ,e]⟩ (by omega)
   ·subst h
    by_cases e:[61,61]=c.t
    ·rw[hf];simp[e,aB,az,AV.view,dg,eZ]
    ·simp[e,w3,aB,az,AV.view]
     exact ih 3 ⟨by omega,by rw[hf];simp[dg,eZ,e]⟩ (by omega)
   ·subst h
    by_cases e:[33,61]=c.t
    ·rw[hf];simp[e,aB,az,AV.view,dg,eZ]
    ·simp[e,w4,aB,az,AV.view]
     exact ih 4 ⟨by omega,by rw[hf];simp[dg,eZ,e]⟩ (by omega)
   ·subst h
    rw[hf];simp[AV.view,dg,eZ]
  ·subst h
   simp[Vv,Tk.cells,hk]
   refine bC xT.eq_1 (λk:Nat=>⟨[(0,.val (.int .i64 3)),(3,.fp 0 0),(5,.val (.cN 1 [[.cN 1 [[.str [124,124]]]],[.cN 1 [[.str [38,38]]]],[.cN 1 [[.str [60]],[.str [60,61]],[.str [61,61]],[.str [33,61]]]],[.cN 1 [[.str [43]],[.str [45]]]],[.cN 1 [[.str [42]],[.str [47]],[.str [37]]]]])),(6,.val (.cN 1 [[.cN 1 [[.int .i64 24]]],[.cN 1 [[.int .i64 23]]],[.cN 1 [[.int .i64 19],[.int .i64 20],[.int .i64 21],[.int .i64 22]]],[.cN 1 [[.int .i64 14],[.int .i64 15]]],[.cN 1 [[.int .i64 16],[.int .i64 17],[.int .i64 18]]]])),(7,.val (.int .i64 k))],[[.int .i64 4,.str c.t,.int .i64 c.n,.int .i64 c.a]],[]⟩)
    (λk=>k<=2/\eZ (dg 3) c.t=eZ ((dg 3).drop k) c.t) (λk=>2-k) 0 (by simp) (by simp) ?_
   intro k ⟨Nb,hf⟩ ih
   have hc:k=0\/k=1\/k=2:=by omega
   rcases hc with h|h|h
   ·subst h
    by_cases e:[43]=c.t
    ·rw[hf];simp[e,aB,az,AV.view,dg,eZ]
    ·simp[e,w1,aB,az,AV.view]
     exact ih 1 ⟨by omega,by rw[hf];simp[dg,eZ,e]⟩ (by omega)
   ·subst h
    by_cases e:[45]=c.t
    ·rw[hf];simp[e,aB,az,AV.view,dg,eZ]
    ·simp[e,w2,aB,az,AV.view]
     exact ih 2 ⟨by omega,by rw[hf];simp[dg,eZ,e]⟩ (by omega)
   ·subst h
    rw[hf];simp[AV.view,dg,eZ]
  ·subst h
   simp[Vv,Tk.cells,hk]
   refine bC xT.eq_1 (λk:Nat=>⟨[(0,.val (.int .i64 4)),(3,.fp 0 0),(5,.val (.cN 1 [[.cN 1 [[.str [124,124]]]],[.cN 1 [[.str [38,38]]]],[.cN 1 [[.str [60]],[.str [60,61]],[.str [61,61]],[.str [33,61]]]],[.cN 1 [[.str [43]],[.str [45]]]],[.cN 1 [[.str [42]],[.str [47]],[.str [37]]]]])),(6,.val (.cN 1 [[.cN 1 [[.int .i64 24]]],[.cN 1 [[.int .i64 23]]],[.cN 1 [[.int .i64 19],[.int .i64 20],[.int .i64 21],[.int .i64 22]]],[.cN 1 [[.int .i64 14],[.int .i64 15]]],[.cN 1 [[.int .i64 16],[.int .i64 17],[.int .i64 18]]]])),(7,.val (.int .i64 k))],[[.int .i64 4,.str c.t,.int .i64 c.n,.int .i64 c.a]],[]⟩)
    (λk=>k<=3/\eZ (dg 4) c.t=eZ ((dg 4).drop k) c.t) (λk=>3-k) 0 (by simp) (by simp) ?_
   intro k ⟨Nb,hf⟩ ih
   have hc:k=0\/k=1\/k=2\/k=3:=by omega
   rcases hc with h|h|h|h
   ·subst h
    by_cases e:[42]=c.t
    ·rw[hf];simp[e,aB,az,AV.view,dg,eZ]
    ·simp[e,w1,aB,az,AV.view]
     exact ih 1 ⟨by omega,by rw[hf];simp[dg,eZ,e]⟩ (by omega)
   ·subst h
    by_cases e:[47]=c.t
    ·rw[hf];simp[e,aB,az,AV.view,dg,eZ]
    ·simp[e,w2,aB,az,AV.view]
     exact ih 2 ⟨by omega,by rw[hf];simp[dg,eZ,e]⟩ (by omega)
   ·subst h
    by_cases e:[37]=c.t
    ·rw[hf];simp[e,aB,az,AV.view,dg,eZ]
    ·simp[e,w3,aB,az,AV.view]
     exact ih 3 ⟨by omega,by rw[hf];simp[dg,eZ,e]⟩ (by omega)
   ·subst h
    rw[hf];simp[AV.view,dg,eZ]
 ·simp[Vv,Tk.cells,hk]
end N7
namespace N7
open Ax Go cp V7 j4
theorem oX {wl aa:Nat}{l:AV}{q:RQ}{bx:aS}:aI wl aa (.load false 1 false) [.val (.ptr 0 0 0 1)] [RQ.obj l q] bx=some (.val (.int .i64 q.at_),[RQ.obj l q],bx):=by
 simp[RQ.obj,cut,AV.view]
theorem acA {wl aa:Nat}{l:AV}{q:RQ}{bx:aS}:aI wl aa (.load false 1 false) [.val (.ptr 0 0 0 2)] [RQ.obj l q] bx=some (.val (.int .i64 q.op),[RQ.obj l q],bx):=by
 simp[RQ.obj,cut,AV.view]
theorem jY {aa:Nat}{l:AV}{q:RQ}{bx:aS}:aI 0 aa (.store 1) [.val (.ptr 0 0 0 1),.val (.int .i64 ((q.at_:Int)+1))] [RQ.obj l q] bx=some (.none,[RQ.obj l (ay q)],bx):=by
 simp[RQ.obj,ay,bf,AV.ah,AV.an,af]
theorem KR {aa:Nat}{l:AV}{q:RQ}{n:Int}{bx:aS}:aI 0 aa (.store 1) [.val (.ptr 0 0 0 2),.val (.int .i64 n)] [RQ.obj l q] bx=some (.none,[RQ.obj l ⟨q.at_,n,q.fe,q.fa⟩],bx):=by
 simp[RQ.obj,bf,AV.ah,AV.an,af]
theorem acB (n:Int):IntKind.i64.wrap (n-1)=IntKind.i64.wrap (n + -1):=by rw[Int.sub_eq_add_neg]
def qe (e:E)(kv:AV):List AV:=[.int .i64 e.k,.int .i64 e.n,.str e.nm,.str e.on,.int .i64 e.od,kv,.int .i64 e.a,.int .i64 e.ty.b,.int .i64 e.ty.r,.int .i64 e.ty.d,.int .i64 e.ref]
theorem um (e:E):qe e (aT e.kids)=e.row:=(E.aE e).symm
def VA (l:AV)(T:List Tk)(f:Nat):Prop:=∀n q e r,n<=5->eO T f n q=some (e,r)->∀aa,(aW S).call 0 aa 67 [.ptr 0 0 0 0,.int .i64 (n:Nat)] [q.obj l]=some (.agg e.row,[r.obj l])
def OkU (l:AV)(T:List Tk)(f:Nat):Prop:=∀q e r,jB T f q=some (e,r)->∀aa,(aW S).call 0 aa 82 [.ptr 0 0 0 0] [q.obj l]=some (.agg e.row,[r.obj l])
def JA (l:AV)(T:List Tk)(f:Nat):Prop:=∀a q e r,eE T f a q=some (e,r)->∀kv,aG kv=true->kv.view=aT a.kids->∀aa,(aW S).call 0 aa 93 [.ptr 0 0 0 0,.agg (qe a kv)] [q.obj l]=some (.agg e.row,[r.obj l])
def uZ (l:AV)(T:List Tk)(f:Nat):Prop:=∀q e r,jR T f q=some (e,r)->∀aa,(aW S).call 0 aa 100 [.ptr 0 0 0 0] [q.obj l]=some (.agg e.row,[r.obj l])
def OkF (l:AV)(T:List Tk)(f:Nat):Prop:=∀q e r,jC T f q=some (e,r)->∃kv,aG kv=true/\kv.view=aT e.kids/\∀aa,(aW S).call 0 aa 94 [.ptr 0 0 0 0] [q.obj l]=some (.agg (qe e kv),[r.obj l])
def OkN (l:AV)(T:List Tk)(f:Nat):Prop:=∀a q e r,kB T f a q=some (e,r)->∀aa,(aW S).call 0 aa 99 [.ptr 0 0 0 0,.int .i64 a] [q.obj l]=some (.agg e.row,[r.obj l])
def OkA (l:AV)(T:List Tk)(f:Nat):Prop:=∀q e r,nL T f q=some (e,r)->∀aa,(aW S).call 0 aa 101 [.ptr 0 0 0 0] [q.obj l]=some (b8 11 (E.rows e),[r.obj l])
section
variable {l:AV}{T:List Tk}(hT:TL l T)
include hT
theorem tf (f:Nat)(hE:VA l T f):uZ l T (f+1):=by
 intro q e r h aa
 unfold jR at h
 obtain⟨⟨x1,x2⟩,h1,h2⟩:=Option.bind_eq_some_iff.1 h
 cases h2
 have eo:=λaa=>oW hT aa q [40] (by simp)
 have e1:=hE 0 _ _ _ (by omega) h1
 have ec:=λaa=>ot hT aa x2 [41] (by simp)
 generalize fL T q [40]=q1 at *
 generalize jt T x2 [41]=r1 at *
 obtain⟨k2,n2,Nc,Nd,Nf,rM,a2,BI,zA⟩:=x1
 simp only[E.row,Int.natCast_zero]at e1
 refine ax (sf:=Xl) rfl rfl rfl ?_
 simp[Xl,eo,e1,ec,E.row,af,AV.an,AV.ah,AV.view]
theorem Qe (f:Nat)(hI:uZ l T f):OkN l T (f+1):=by
 intro at_ q e r h aa
 have hlen:=hT.len
 unfold kB at h
 have ei:=λaa=>iZ hT aa q [91] (by simp)
 refine ax (sf:=s99) rfl rfl rfl ?_
 cases hi:fy T q [91] with
 |false=>
  rw[hi]at h
  simp only[Bool.false_eq_true,if_false,Option.some.injEq,Prod.mk.injEq]at h
  obtain⟨rfl,rfl⟩:=h
  have en:=λaa=>lG hT aa q
  generalize cQ T q=z at *
  simp[s99,ei,hi,en,Em,E.row,E.rows,af,AV.an,AV.ah]
 |true=>
  rw[hi]at h
  simp only[if_true]at h
  obtain⟨⟨x1,x2⟩,h1,h2⟩:=Option.bind_eq_some_iff.1 h
  cases h2
  obtain⟨i1,i2⟩:=aV hi
  have hw:IntKind.i64.wrap ((q.at_:Int)+1)=((q.at_+1:Nat):Int):=by rw[wrap64]<;>omega
  have e1:=λaa=>Hr hT aa (ay q)
  have et:=λaa=>dV hT aa (tY T (ay q)).2 [93] (by simp)
  have e3:=hI _ _ _ h1
  generalize cC T (tY T (ay q)).2 [93]=r2 at *
  generalize tY T (ay q)=o at *
  obtain⟨k2,n2,Nc,Nd,Nf,rM,a2,BI,zA⟩:=x1
  simp only[E.row]at e3
  simp[-au,-ag,s99,ei,hi,oX,jY,hw,e1,et,e3,Em,E.row,E.rows,aB,az,af,AV.an,AV.ah,AV.view]
theorem ER (f:Nat)(hE:∀g,g<=f->VA l T g):OkA l T (f+1):=by
 intro q e r h aa
 have hlen:=hT.len
 unfold nL at h
 have eo:=λaa=>oW hT aa q [40] (by simp)
 refine ax (sf:=TD) rfl rfl rfl ?_
 generalize fL T q [40]=q1 at *
 have ei:=λaa=>iZ hT aa q1 [41] (by simp)
 cases hi:fy T q1 [41] with
 |true=>
  rw[hi]at h
  simp only[if_true,Option.some.injEq,Prod.mk.injEq]at h
  obtain⟨rfl,rfl⟩:=h
  have ec:=λaa=>ot hT aa q1 [41] (by simp)
  generalize jt T q1 [41]=r1 at *
  simp[TD,eo,ei,hi,ec,E.rows,mO]
 |false=>
  rw[hi]at h
  simp only[Bool.false_eq_true,if_false]at h
  obtain⟨⟨x1,x2⟩,h1,h2⟩:=Option.bind_eq_some_iff.1 h
  have e1:=hE f (Nat.le_refl _) 0 _ _ _ (by omega) h1
  have g1:=dJ h1
  have hx:uC 11 120 .U [x1.row]=some (b8 11 (E.rows [x1])):=by
   have:=eU (sz:=11) (bytes:=120) (r:=[]) (new:=[x1.row]) (by simp[fits,E.aE]) (by simp[room])
   simpa [mO,E.rows] using this
  obtain⟨F,hF⟩:∃F,(b8 11 (E.rows e),[RQ.obj l r])=F:=⟨_,rfl⟩
  obtain⟨k2,n2,Nc,Nd,Nf,rM,a2,BI,zA⟩:=x1
  simp only[E.row,Int.natCast_zero]at e1 hx
  simp[TD,eo,ei,hi,e1,hx,AV.view]
  refine bC Kz.eq_1 (λx:RQ×List E×Nat=>⟨[(0,.val (.ptr 0 0 0 0)),(3,.val (b8 11 (E.rows x.2.1)))],[],[RQ.obj l x.1]⟩)
   (λx=>x.2.2<=f/\x.2.1.length<=x.1.at_+1/\nh T x.2.2 x.2.1 x.1=some (e,r)) (λx=>x.2.2) (x2,[E.mk k2 n2 Nc Nd Nf rM a2 BI zA],f) rfl ⟨Nat.le_refl _,by simp,h2⟩ ?_
  rintro⟨s,es,g⟩ ⟨hg,KS,hp⟩ ih
  simp only at hg KS hp ih
  have ej:=λaa=>iZ hT aa s [44] (by simp)
  cases g with
  |zero=>simp[nh]at hp
  |succ g=>
   unfold nh at hp
   cases hj:fy T s [44] with
   |true=>
    rw[hj]at hp
    simp only[if_true]at hp
    obtain⟨⟨y1,y2⟩,h3,h4⟩:=Option.bind_eq_some_iff.1 hp
    obtain⟨i1,i2⟩:=aV hj
    have rE:IntKind.i64.wrap ((s.at_:Int)+1)=((s.at_+1:Nat):Int):=by rw[wrap64]<;>omega
    have e2:=hE g (by omega) 0 _ _ _ (by omega) h3
    have g2:=(dJ h3).le
    have CN:=eU (sz:=11) (bytes:=120) (r:=E.rows es) (new:=[y1.row]) (by simp[fits,E.aE]) (by simp[room,gC];omega)
    have XL:E.rows es++[y1.row]=E.rows (es++[y1]):=by simp[gC]
    rw[XL]at CN
    have ey:=ih (y2,es++[y1],g) ⟨by simp only;omega,by simp[ay]at g2 ⊢;omega,h4⟩ (by simp only;omega)
    generalize E.rows (es++[y1])=R at *
    obtain⟨k3,n3,nm3,on3,od3,ai0,a3,ty3,akM⟩:=y1
    simp only[E.row,Int.natCast_zero]at e2 CN
    simp[-au,-ag,ej,hj,oX,jY,rE,e2,CN,AV.view]
    exact ey
   |false=>
    rw[hj]at hp
    simp only[Bool.false_eq_true,if_false,Option.some.injEq,Prod.mk.injEq]at hp
    obtain⟨rfl,rfl⟩:=hp
    have ec:=λaa=>ot hT aa s [41] (by simp)
    generalize jt T s [41]=r1 at *
    simp[ej,hj,ec]
end
end N7
namespace N7
open Ax Go cp V7 j4
section
variable {l:AV}{T:List Tk}(hT:TL l T)
include hT
theorem BU (f:Nat)(hN:OkN l T f)(hI:uZ l T f)(hA:OkA l T f):OkF l T (f+1):=by
 intro q e r h
 have hlen:=hT.len
 have et:=λaa=>kT hT aa q
 have eo:=λaa=>wU (l:=l) aa q
 have ei:=λaa s hs=>iZ hT aa q s hs
 have T5:=λs (h:fy T q s=true)=>Dw h
 have IL:(cur T q).k≠0->q.at_<T.length:=qc
 unfold jC at h
 generalize hc:cur T q=c at *
 simp only[Tk.cells]at et
 have hw:q.at_<T.length->IntKind.i64.wrap ((q.at_:Int)+1)=((q.at_+1:Nat):Int):=λh=>by rw[wrap64]<;>omega
 have Dc:∀s,fy T q s=true->IntKind.i64.wrap ((q.at_:Int)+1)=((q.at_+1:Nat):Int):=λs h=>hw (aV h).2
 by_cases c0:q.fe=0/\c.k=2
 ·rw[if_pos c0]at h
  cases h
  have hw:=hw (IL (by rw[c0.2];decide))
  refine⟨.U,rfl,by simp[Em,E.kids,nY,AV.view],λaa=>?_⟩
  refine ax (sf:=Bs) rfl rfl rfl ?_
  simp[-au,-ag,Bs,et,eo,c0.1,c0.2,oX,jY,hw,af,AV.an,AV.ah,qe,Em,E.k,E.n,E.nm,E.on,E.od,E.a,E.ty,E.ref]
 rw[if_neg c0]at h
 by_cases FD:q.fe=0
 ·have Km:¬c.k=2:=λh=>c0 ⟨FD,h⟩
  cases h1:fy T q [116,114,117,101] with
  |true=>
   rw[h1]at h
   simp only[Bool.true_or,if_true,Option.some.injEq,Prod.mk.injEq]at h
   obtain⟨rfl,rfl⟩:=h
   have hw:=Dc _ h1
   have ht:=T5 _ h1
   refine⟨.U,rfl,by simp[Em,E.kids,nY,AV.view],λaa=>?_⟩
   refine ax (sf:=Bs) rfl rfl rfl ?_
   simp[-au,-ag,Bs,et,eo,FD,Km,ei,h1,oX,jY,hw,ht,af,AV.an,AV.ah,qe,Em,E.k,E.n,E.nm,E.on,E.od,E.a,E.ty,E.ref]
  |false=>
  cases h2:fy T q [102,97,108,115,101] with
  |true=>
   rw[h1,h2]at h
   simp only[Bool.false_or,if_true,Option.some.injEq,Prod.mk.injEq]at h
   obtain⟨rfl,rfl⟩:=h
   have hw:=Dc _ h2
   have ht:=T5 _ h2
   refine⟨.U,rfl,by simp[Em,E.kids,nY,AV.view],λaa=>?_⟩
   refine ax (sf:=Bs) rfl rfl rfl ?_
   simp[-au,-ag,Bs,et,eo,FD,Km,ei,h1,h2,oX,jY,hw,ht,af,AV.an,AV.ah,qe,Em,E.k,E.n,E.nm,E.on,E.od,E.a,E.ty,E.ref]
  |false=>
  rw[h1,h2]at h
  simp only[Bool.or_self,Bool.false_eq_true,if_false]at h
  cases h3:fy T q [110,117,108,108] with
  |true=>
   rw[h3]at h
   simp only[if_true,Option.some.injEq,Prod.mk.injEq]at h
   obtain⟨rfl,rfl⟩:=h
   have hw:=Dc _ h3
   have e1:=λaa=>Hr hT aa (ay q)
   generalize tY T (ay q)=o at *
   refine⟨.U,rfl,by simp[Em,E.kids,nY,AV.view],λaa=>?_⟩
   refine ax (sf:=Bs) rfl rfl rfl ?_
   simp[-au,-ag,Bs,et,eo,FD,Km,ei,h1,h2,h3,oX,jY,hw,e1,af,AV.an,AV.ah,aB,az,qe,Em,E.k,E.n,E.nm,E.on,E.od,E.a,E.ty,E.ref]
  |false=>
  rw[h3]at h
  simp only[Bool.false_eq_true,if_false]at h
  cases h4:fy T q [110,101,119] with
  |true=>
   rw[h4]at h
   simp only[if_true]at h
   have hw:=Dc _ h4
   have e1:=hN _ _ _ _ h
   refine⟨aT e.kids,by simp,by simp,λaa=>?_⟩
   rw[um]
   obtain⟨k2,n2,Nc,Nd,Nf,rM,a2,BI,zA⟩:=e
   simp only[E.row]at e1 ⊢
   refine ax (sf:=Bs) rfl rfl rfl ?_
   simp[-au,-ag,Bs,et,eo,FD,Km,ei,h1,h2,h3,h4,oX,jY,hw,e1,af,AV.an,AV.ah]
  |false=>
  rw[h4]at h
  simp only[Bool.false_eq_true,if_false]at h
  cases h5:fy T q [108,101,110] with
  |true=>
   rw[h5]at h
   simp only[if_true]at h
   have hw:=Dc _ h5
   obtain⟨⟨x1,x2⟩,h8,h9⟩:=Option.bind_eq_some_iff.1 h
   cases h9
   have e1:=hI _ _ _ h8
   refine⟨_,by simp,bz,λaa=>?_⟩
   rw[um]
   obtain⟨k2,n2,Nc,Nd,Nf,rM,a2,BI,zA⟩:=x1
   simp only[E.row]at e1
   refine ax (sf:=Bs) rfl rfl rfl ?_
   simp[-au,-ag,Bs,et,eo,FD,Km,ei,h1,h2,h3,h4,h5,oX,jY,hw,e1,af,AV.an,AV.ah,AV.view,aB,az,Em,E.row,E.rows]
  |false=>
  rw[h5]at h
  simp only[Bool.false_eq_true,if_false]at h
  cases h6:fy T q [114,101,97,100] with
  |true=>
   rw[h6]at h
   simp only[if_true,Option.some.injEq,Prod.mk.injEq]at h
   obtain⟨rfl,rfl⟩:=h
   have hw:=Dc _ h6
   have ep:=λaa=>oW hT aa (ay q) [40] (by simp)
   have eq:=λaa=>ot hT aa (fL T (ay q) [40]) [41] (by simp)
   refine⟨.U,rfl,by simp[Em,E.kids,nY,AV.view],λaa=>?_⟩
   refine ax (sf:=Bs) rfl rfl rfl ?_
   simp[-au,-ag,Bs,et,eo,FD,Km,ei,h1,h2,h3,h4,h5,h6,oX,jY,hw,ep,eq,af,AV.an,AV.ah,qe,Em,E.k,E.n,E.nm,E.on,E.od,E.a,E.ty,E.ref]
  |false=>
  rw[h6]at h
  simp only[Bool.false_eq_true,if_false]at h
  cases h7:fy T q [40] with
  |true=>
   rw[h7]at h
   simp only[if_true]at h
   have e1:=hI _ _ _ h
   refine⟨aT e.kids,by simp,by simp,λaa=>?_⟩
   rw[um]
   obtain⟨k2,n2,Nc,Nd,Nf,rM,a2,BI,zA⟩:=e
   simp only[E.row]at e1 ⊢
   refine ax (sf:=Bs) rfl rfl rfl ?_
   simp[-au,-ag,Bs,et,eo,FD,Km,ei,h1,h2,h3,h4,h5,h6,h7,e1,af,AV.an,AV.ah]
  |false=>
   rw[h7]at h
   simp only[Bool.false_eq_true,if_false]at h
   have en:=λaa=>lG hT aa q
   generalize cQ T q=z at *
   have ez:=λaa=>iZ hT aa z.2 [40] (by simp)
   cases h8:fy T z.2 [40] with
   |false=>
    rw[h8]at h
    simp only[Bool.false_eq_true,if_false,Option.some.injEq,Prod.mk.injEq]at h
    obtain⟨rfl,rfl⟩:=h
    refine⟨.U,rfl,by simp[Em,E.kids,nY,AV.view],λaa=>?_⟩
    refine ax (sf:=Bs) rfl rfl rfl ?_
    simp[-au,-ag,Bs,et,eo,FD,Km,ei,h1,h2,h3,h4,h5,h6,h7,en,ez,h8,af,AV.an,AV.ah,qe,Em,E.k,E.n,E.nm,E.on,E.od,E.a,E.ty,E.ref]
   |true=>
    rw[h8]at h
    simp only[if_true]at h
    obtain⟨⟨x1,x2⟩,h9,Cz⟩:=Option.bind_eq_some_iff.1 h
    cases Cz
    have e1:=hA _ _ _ h9
    have hk:aG (b8 11 (E.rows x1))=true:=cV
    have hv:(b8 11 (E.rows x1)).view=aT x1:=rfl
    generalize b8 11 (E.rows x1)=kv at *
    have hkc:=bu hk
    have Zh:=cm hk
    refine⟨kv,hk,hv,λaa=>?_⟩
    refine ax (sf:=Bs) rfl rfl rfl ?_
    simp[-au,-ag,Bs,et,eo,FD,Km,ei,h1,h2,h3,h4,h5,h6,h7,en,ez,h8,e1,hk,af,AV.an,AV.ah,aB,az,qe,Em,E.k,E.n,E.nm,E.on,E.od,E.a,E.ty,E.ref]
 ·have hY:∀s,fy T q s=false:=λs=>TQ FD
  have en:=λaa=>lG hT aa q
  have hz:cQ T q=([],q):=by simp[cQ,FD,ig]
  rw[hz]at en
  simp only[hY,hz,Bool.or_self,Bool.false_eq_true,if_false,Option.some.injEq,Prod.mk.injEq]at h
  obtain⟨rfl,rfl⟩:=h
  refine⟨.U,rfl,by simp[Em,E.kids,nY,AV.view],λaa=>?_⟩
  refine ax (sf:=Bs) rfl rfl rfl ?_
  simp[-au,-ag,Bs,et,eo,FD,ei,hY,en,af,AV.an,AV.ah,qe,Em,E.k,E.n,E.nm,E.on,E.od,E.a,E.ty,E.ref]
theorem Mu (f:Nat)(hE:∀g,g<f->VA l T g):JA l T f:=by
 intro a0 q e r h kv0 uk Zk aa
 have hlen:=hT.len
 have ahj:=bu uk
 refine ax (sf:=s93) rfl rfl rfl ?_
 simp[s93,qe,ahj]
 refine bC Pu.eq_1 (λx:RQ×E×AV×Nat×List AV×List AV=>⟨[(0,.val (.ptr 0 0 0 0)),(3,.fp 0 0),(4,.fp 1 0)],
   [qe x.2.1 x.2.2.1,[.int .i64 0,.int .i64 0,.str [],.str [],.int .i64 0,.U,.int .i64 0,.int .i64 0,.int .i64 0,.int .i64 0,.int .i64 0],x.2.2.2.2.1,x.2.2.2.2.2],[RQ.obj l x.1]⟩)
  (λx=>x.2.2.2.1<=f/\aG x.2.2.1=true/\x.2.2.1.view=aT x.2.1.kids/\eE T x.2.2.2.1 x.2.1 x.1=some (e,r)) (λx=>x.2.2.2.1) (q,a0,kv0,f,[],[]) rfl ⟨Nat.le_refl _,uk,Zk,h⟩ ?_
 rintro⟨s,a,kv,g,b2,b3⟩ ⟨hg,hk,hv,hp⟩ ih
 simp only at hg hk hv hp ih
 have hkc:=bu hk
 have Zh:=cm hk
 have ed:=λaa=>iZ hT aa s [46] (by simp)
 have eb:=λaa=>iZ hT aa s [91] (by simp)
 have et:=λaa=>kT hT aa s
 have cP:E.rows [a]=[qe a (aT a.kids)]:=by rw[um];simp[E.rows]
 cases g with
 |zero=>simp[eE]at hp
 |succ g=>
  unfold eE at hp
  cases h1:fy T s [46] with
  |true=>
   rw[h1]at hp
   simp only[if_true]at hp
   obtain⟨i1,i2⟩:=aV h1
   have hw:IntKind.i64.wrap ((s.at_:Int)+1)=((s.at_+1:Nat):Int):=by rw[wrap64]<;>omega
   have en:=λaa=>lG hT aa (ay s)
   generalize cQ T (ay s)=z at *
   generalize cur T s=c at *
   simp only[Tk.cells]at et
   have ey:=λb2 b3=>ih (z.2,Em 5 0 z.1 [] 0 [a] c.a,aT [a],g,b2,b3) ⟨by simp only;omega,by simp,by simp[Em,E.kids],hp⟩ (by simp only;omega)
   simp[-au,-ag,ed,h1,et,oX,jY,hw,en,hv,af,AV.view,aB,az,qe]
   have:=ey [.int .i64 c.k,.str c.t,.int .i64 c.n,.int .i64 c.a] b3
   simp[qe,Em,E.k,E.n,E.nm,E.on,E.od,E.a,E.ty,E.ref,aT,cP]at this
   exact this
  |false=>
   rw[h1]at hp
   simp only[Bool.false_eq_true,if_false]at hp
   cases h2:fy T s [91] with
   |true=>
    rw[h2]at hp
    simp only[if_true]at hp
    obtain⟨⟨x1,x2⟩,h3,h4⟩:=Option.bind_eq_some_iff.1 hp
    have eo:=λaa=>oW hT aa s [91] (by simp)
    have e1:=hE g (by omega) 0 _ _ _ (by omega) h3
    have ec:=λaa=>ot hT aa x2 [93] (by simp)
    generalize fL T s [91]=q1 at *
    simp only at h4
    generalize jt T x2 [93]=q3 at *
    generalize cur T s=c at *
    simp only[Tk.cells]at et
    have Ht:E.rows [a,x1]=[qe a (aT a.kids),x1.row]:=by rw[um];simp[E.rows]
    have ey:=λb2 b3=>ih (q3,Em 6 0 [] [] 0 [a,x1] c.a,aT [a,x1],g,b2,b3) ⟨by simp only;omega,by simp,by simp[Em,E.kids],h4⟩ (by simp only;omega)
    obtain⟨k2,n2,Nc,Nd,Nf,rM,a2,BI,zA⟩:=x1
    simp only[E.row,Int.natCast_zero]at e1 Ht
    simp[-au,-ag,ed,eb,h1,h2,et,eo,e1,ec,hv,af,AV.view,qe]
    have:=ey [.int .i64 c.k,.str c.t,.int .i64 c.n,.int .i64 c.a] [.int .i64 k2,.int .i64 n2,.str Nc,.str Nd,.int .i64 Nf,aA 11 (E.rows rM),.int .i64 a2,.int .i64 BI.b,.int .i64 BI.r,.int .i64 BI.d,.int .i64 zA]
    simp[qe,Em,E.k,E.n,E.nm,E.on,E.od,E.a,E.ty,E.ref,aT,Ht]at this
    exact this
   |false=>
    rw[h2]at hp
    simp only[Bool.false_eq_true,if_false,Option.some.injEq,Prod.mk.injEq]at hp
    obtain⟨rfl,rfl⟩:=hp
    rw[<-um]
    simp[-au,-ag,ed,eb,h1,h2,hv,af,AV.an,AV.ah,qe]
theorem Qf (f:Nat)(hE:VA l T f)(hF:OkF l T f)(hB:JA l T f):OkU l T (f+1):=by
 intro q e r h aa
 have hlen:=hT.len
 have et:=λaa=>kT hT aa q
 have em:=λaa=>iZ hT aa q [45] (by simp)
 have en:=λaa=>iZ hT aa q [33] (by simp)
 unfold jB at h
 refine ax (sf:=s82) rfl rfl rfl ?_
 cases h1:fy T q [45] with
 |true=>
  rw[h1]at h
  simp only[Bool.true_or,if_true]at h
  obtain⟨⟨x1,x2⟩,h3,h4⟩:=Option.bind_eq_some_iff.1 h
  cases h4
  have hc:=Dw h1
  rw[hc]at h3
  have eo:=λaa=>oW hT aa q [45] (by simp)
  have e1:=hE 5 _ _ _ (by omega) h3
  generalize fL T q [45]=q1 at *
  generalize cur T q=c at *
  obtain⟨k2,n2,Nc,Nd,Nf,rM,a2,BI,zA⟩:=x1
  simp only[Tk.cells]at et
  simp only[E.row,Int.cast_ofNat_Int]at e1
  simp[-au,-ag,s82,et,em,h1,hc,eo,e1,acA,KR,oO,acB,af,AV.view,AV.an,AV.ah,Em,E.row,E.rows]
 |false=>
  cases h2:fy T q [33] with
  |true=>
   rw[h1,h2]at h
   simp only[Bool.false_or,if_true]at h
   obtain⟨⟨x1,x2⟩,h3,h4⟩:=Option.bind_eq_some_iff.1 h
   cases h4
   have hc:=Dw h2
   rw[hc]at h3
   have eo:=λaa=>oW hT aa q [33] (by simp)
   have e1:=hE 5 _ _ _ (by omega) h3
   generalize fL T q [33]=q1 at *
   generalize cur T q=c at *
   obtain⟨k2,n2,Nc,Nd,Nf,rM,a2,BI,zA⟩:=x1
   simp only[Tk.cells]at et
   simp only[E.row,Int.cast_ofNat_Int]at e1
   simp[-au,-ag,s82,et,em,en,h1,h2,hc,eo,e1,acA,KR,oO,acB,af,AV.view,AV.an,AV.ah,Em,E.row,E.rows]
  |false=>
   rw[h1,h2]at h
   simp only[Bool.or_self,Bool.false_eq_true,if_false]at h
   obtain⟨⟨x1,x2⟩,h3,h4⟩:=Option.bind_eq_some_iff.1 h
   obtain⟨kv,hk,hv,e1⟩:=hF _ _ _ h3
   have e3:=hB _ _ _ _ h4 kv hk hv
   obtain⟨k2,n2,Nc,Nd,Nf,rM,a2,BI,zA⟩:=e
   have hkc:=bu hk
   have Zh:=cm hk
   simp only[E.row]at e3 ⊢
   generalize qe x1 kv=R at *
   generalize cur T q=c at *
   simp only[Tk.cells]at et
   simp[-au,-ag,s82,et,em,en,h1,h2,e1,e3,af,AV.an,AV.ah]
theorem uo (f:Nat)(hE:∀g,g<=f->VA l T g)(hU:OkU l T f):VA l T (f+1):=by
 intro n q e r hn h aa
 have hlen:=hT.len
 unfold eO at h
 refine ax (sf:=s67) rfl rfl rfl ?_
 by_cases hn5:n=5
 ·subst hn5
  rw[if_pos rfl]at h
  have e1:=hU _ _ _ h
  obtain⟨k2,n2,Nc,Nd,Nf,rM,a2,BI,zA⟩:=e
  simp only[E.row]at e1 ⊢
  simp[-au,-ag,s67,e1,af,AV.an,AV.ah]
 ·rw[if_neg hn5]at h
  obtain⟨⟨x1,x2⟩,h1,h2⟩:=Option.bind_eq_some_iff.1 h
  have ahk:¬(n:Int)=5:=by omega
  have VB:IntKind.i64.wrap ((n:Int)+1)=((n+1:Nat):Int):=by rw[wrap64]<;>omega
  have e1:=hE f (Nat.le_refl _) (n+1) _ _ _ (by omega) h1
  have cP:∀e:E,e.row=[.int .i64 e.k,.int .i64 e.n,.str e.nm,.str e.on,.int .i64 e.od,aT e.kids,.int .i64 e.a,.int .i64 e.ty.b,.int .i64 e.ty.r,.int .i64 e.ty.d,.int .i64 e.ref]:=E.aE
  simp only[cP,Int.natCast_add,Int.cast_ofNat_Int]at e1
  simp[-au,-ag,s67,ahk,VB,e1,af]
  refine bC Pp.eq_1 (λx:RQ×E×Nat×List AV×List AV=>⟨[(0,.val (.ptr 0 0 0 0)),(1,.val (.int .i64 n)),(4,.fp 0 0),(5,.fp 1 0)],
    [[.int .i64 0,.int .i64 0,.str [],.str [],.int .i64 0,.U,.int .i64 0,.int .i64 0,.int .i64 0,.int .i64 0,.int .i64 0],
     [.int .i64 x.2.1.k,.int .i64 x.2.1.n,.str x.2.1.nm,.str x.2.1.on,.int .i64 x.2.1.od,aT x.2.1.kids,.int .i64 x.2.1.a,.int .i64 x.2.1.ty.b,.int .i64 x.2.1.ty.r,.int .i64 x.2.1.ty.d,.int .i64 x.2.1.ref],x.2.2.2.1,x.2.2.2.2],[RQ.obj l x.1]⟩)
   (λx=>x.2.2.1<=f/\iJ T x.2.2.1 n x.2.1 x.1=some (e,r)) (λx=>x.2.2.1) (x2,x1,f,[],[]) rfl ⟨Nat.le_refl _,h2⟩ ?_
  rintro⟨s,a,g,b2,b3⟩ ⟨hg,hp⟩ Mw
  simp only at hg hp Mw
  have eo:=λaa=>wU (l:=l) aa s
  have et:=λaa=>kT hT aa s
  have elp:=λwl aa=>Hs wl aa n (by omega) (cur T s) [RQ.obj l s]
  cases g with
  |zero=>simp[iJ]at hp
  |succ g=>
   unfold iJ at hp
   by_cases Sc:s.fe=0/\nG n (cur T s)≠0
   ·rw[if_pos Sc]at hp
    obtain⟨f0,z0⟩:=Sc
    obtain⟨⟨y1,y2⟩,h3,h4⟩:=Option.bind_eq_some_iff.1 hp
    have IL:=wJ z0
    have hw:IntKind.i64.wrap ((s.at_:Int)+1)=((s.at_+1:Nat):Int):=by rw[wrap64]<;>omega
    have e3:=hE g (by omega) (n+1) _ _ _ (by omega) h3
    have acD:=λwl aa st=>Hs wl aa n (by omega) (cur T s) st
    simp only[cP,Int.natCast_add,Int.cast_ofNat_Int]at e3
    have Ht:E.rows [a,y1]=[a.row,y1.row]:=by simp[E.rows]
    simp only[cP]at Ht
    generalize nG n (cur T s)=z at *
    have ey:=λb2 b3=>Mw (y2,Em z 0 [] [] 0 [a,y1] (cur T s).a,g,b2,b3) ⟨by simp only;omega,h4⟩ (by simp only;omega)
    generalize cur T s=c at *
    simp only[Tk.cells]at et elp acD
    simp[-au,-ag,eo,f0,et,acD,z0,oX,jY,hw,VB,e3,af,AV.view,aB,az]
    have:=ey [.int .i64 c.k,.str c.t,.int .i64 c.n,.int .i64 c.a] [.int .i64 y1.k,.int .i64 y1.n,.str y1.nm,.str y1.on,.int .i64 y1.od,aT y1.kids,.int .i64 y1.a,.int .i64 y1.ty.b,.int .i64 y1.ty.r,.int .i64 y1.ty.d,.int .i64 y1.ref]
    simp only[Em,E.k,E.n,E.nm,E.on,E.od,E.kids,E.a,E.ty,E.ref]at this
    simp only[show aT [a,y1]=.cN 11 (E.rows [a,y1]) from rfl,Ht]at this
    exact this
   ·rw[if_neg Sc]at hp
    simp only[Option.some.injEq,Prod.mk.injEq]at hp
    obtain⟨rfl,rfl⟩:=hp
    rw[cP]
    generalize nG n (cur T s)=z at *
    generalize cur T s=c at *
    simp only[Tk.cells]at et elp
    by_cases f0:s.fe=0
    ·have z0:z=0:=Classical.byContradiction λh=>Sc ⟨f0,h⟩
     subst z0
     simp[-au,-ag,eo,f0,et,elp,af,AV.an,AV.ah]
    ·simp[-au,-ag,eo,f0,af,AV.an,AV.ah]
theorem Qg:∀f,VA l T f/\OkU l T f/\OkF l T f/\uZ l T f/\OkN l T f/\OkA l T f:=by
 intro f
 induction f using Nat.strongRecOn with
 |_ f ih=>
  cases f with
  |zero=>
   refine⟨?_,?_,?_,?_,?_,?_⟩
   ·intro n q e r _ h;simp[eO]at h
   ·intro q e r h;simp[jB]at h
   ·intro q e r h;simp[jC]at h
   ·intro q e r h;simp[jR]at h
   ·intro a q e r h;simp[kB]at h
   ·intro q e r h;simp[nL]at h
  |succ f=>
   obtain⟨hE,hU,hF,hI,hN,hA⟩:=ih f (by omega)
   have hEl:∀g,g<=f->VA l T g:=λg h=>(ih g (by omega)).1
   exact⟨uo hT f hEl hU,Qf hT f hE hF (Mu hT f λg h=>hEl g (by omega)),BU hT f hN hI hA,tf hT f hE,Qe hT f hI,ER hT f hEl⟩
theorem gx {f n:Nat}{q r:RQ}{e:E}(hn:n<=5)(h:eO T f n q=some (e,r))(aa:Nat):(aW S).call 0 aa 67 [.ptr 0 0 0 0,.int .i64 (n:Nat)] [q.obj l]=some (.agg e.row,[r.obj l]):=(Qg hT f).1 n q e r hn h aa
end
end N7
namespace N7
open Ax Go cp V7 j4
def xC (l:AV)(T:List Tk)(f:Nat):Prop:=∀q s r,oQ T f q=some (s,r)->∀aa,(aW S).call 0 aa 55 [.ptr 0 0 0 0] [q.obj l]=some (.agg s.row,[r.obj l])
def OkK (l:AV)(T:List Tk)(f:Nat):Prop:=∀q s r,gT T f q=some (s,r)->∀aa,(aW S).call 0 aa 35 [.ptr 0 0 0 0] [q.obj l]=some (b8 9 (Sm.rows s),[r.obj l])
section
variable {l:AV}{T:List Tk}(hT:TL l T)
include hT
theorem XM {f:Nat}{q r:RQ}{e:E}(h:eO T f 0 q=some (e,r))(aa:Nat) :
  (aW S).call 0 aa 67 [.ptr 0 0 0 0,.int .i64 0] [q.obj l]=some (.agg [.int .i64 e.k,.int .i64 e.n,.str e.nm,.str e.on,.int .i64 e.od,aT e.kids,.int .i64 e.a,.int .i64 e.ty.b,.int .i64 e.ty.r,.int .i64 e.ty.d,.int .i64 e.ref],[r.obj l]):=by
 have:=gx hT (n:=0) (by omega) h aa
 rw[E.aE]at this
 exact this
theorem Qh {f:Nat}{a0:Int}{q r:RQ}{s:Sm}(h:mA T f a0 q=some (s,r))(aa:Nat) :
  (aW S).call 0 aa 68 [.ptr 0 0 0 0,.agg [.int .i64 0,.str [],.str [],.int .i64 0,.U,.U,.U,.int .i64 a0,.int .i64 0]] [q.obj l]=some (.agg s.row,[r.obj l]):=by
 have hlen:=hT.len
 unfold mA at h
 obtain⟨⟨x,r1⟩,h1,h2⟩:=Option.bind_eq_some_iff.1 h
 dsimp only at h2
 have e1:=XM hT h1
 have ei:=λaa s hs=>iZ hT aa r1 s hs
 have ef:=λaa=>dF hT aa r1 2
 have kj:E.rows [x]=[[.int .i64 x.k,.int .i64 x.n,.str x.nm,.str x.on,.int .i64 x.od,aT x.kids,.int .i64 x.a,.int .i64 x.ty.b,.int .i64 x.ty.r,.int .i64 x.ty.d,.int .i64 x.ref]]:=by simp[E.rows,E.aE]
 refine ax (sf:=Vu) rfl rfl rfl ?_
 cases h3:fy T r1 [61] with
 |false=>
  rw[h3]at h2
  simp only[Bool.false_eq_true,if_false,Option.some.injEq,Prod.mk.injEq]at h2
  obtain⟨rfl,rfl⟩:=h2
  by_cases h4:fy T r1 [59]=true/\x.k≠7
  ·rw[if_pos h4]
   obtain⟨h4,h5⟩:=h4
   have et:=λaa=>dV hT aa (ig T r1 2) [59] (by simp)
   simp[-au,-ag,Vu,e1,ei,h3,h4,h5,ef,et,af,AV.view,AV.an,AV.ah,Sm.row,aT,kj,Sm.rows]
  ·rw[if_neg h4]
   have et:=λaa=>dV hT aa r1 [59] (by simp)
   cases T7:fy T r1 [59] with
   |false=>
    simp[-au,-ag,Vu,e1,ei,h3,T7,et,af,AV.view,AV.an,AV.ah,Sm.row,aT,kj,Sm.rows]
   |true=>
    have h5:x.k=7:=Classical.byContradiction λh=>h4 ⟨T7,h⟩
    rw[h5]at e1 kj
    simp[-au,-ag,Vu,e1,ei,h3,T7,et,af,AV.view,AV.an,AV.ah,Sm.row,aT,kj,Sm.rows]
 |true=>
  rw[h3]at h2
  simp only[if_true]at h2
  obtain⟨⟨y,r2⟩,h4,h5⟩:=Option.bind_eq_some_iff.1 h2
  have e2:=XM hT h4
  have ES:=λaa=>dV hT aa r2 [59] (by simp)
  have hry:E.rows [y]=[[.int .i64 y.k,.int .i64 y.n,.str y.nm,.str y.on,.int .i64 y.od,aT y.kids,.int .i64 y.a,.int .i64 y.ty.b,.int .i64 y.ty.r,.int .i64 y.ty.d,.int .i64 y.ref]]:=by simp[E.rows,E.aE]
  have XN:E.rows [x,y]=[[.int .i64 x.k,.int .i64 x.n,.str x.nm,.str x.on,.int .i64 x.od,aT x.kids,.int .i64 x.a,.int .i64 x.ty.b,.int .i64 x.ty.r,.int .i64 x.ty.d,.int .i64 x.ref],[.int .i64 y.k,.int .i64 y.n,.str y.nm,.str y.on,.int .i64 y.od,aT y.kids,.int .i64 y.a,.int .i64 y.ty.b,.int .i64 y.ty.r,.int .i64 y.ty.d,.int .i64 y.ref]]:=by simp[E.rows,E.aE]
  by_cases c4:x.k=4
  ·rw[if_pos (.inl c4)]at e2
   have et:=λaa=>dV hT aa r1 [61] (by simp)
   simp only[if_pos c4,Option.some.injEq,Prod.mk.injEq]at h5
   obtain⟨rfl,rfl⟩:=h5
   rw[c4]at e1
   simp[-au,-ag,Vu,e1,ei,h3,et,e2,ES,af,AV.view,AV.an,AV.ah,Sm.row,aT,hry,Sm.rows]
  ·simp only[if_neg c4,Option.some.injEq,Prod.mk.injEq]at h5
   obtain⟨rfl,rfl⟩:=h5
   by_cases c5:x.k=5\/x.k=6
   ·rw[if_pos (.inr c5)]at e2
    have et:=λaa=>dV hT aa r1 [61] (by simp)
    rcases c5 with c5|c5<;>
    ·rw[c5]at e1 XN
     simp[-au,-ag,Vu,e1,ei,h3,et,e2,ES,af,AV.view,AV.an,AV.ah,Sm.row,aT,XN,Sm.rows]
   ·have c5':x.k≠5:=λh=>c5 (.inl h)
    have c6':x.k≠6:=λh=>c5 (.inr h)
    rw[if_neg (λh=>h.elim c4 c5)]at e2
    have et:=λaa=>dV hT aa (ig T r1 2) [61] (by simp)
    simp[-au,-ag,Vu,e1,ei,h3,ef,et,e2,ES,c4,c5',c6',af,AV.view,AV.an,AV.ah,Sm.row,aT,XN,Sm.rows]
theorem eP (f:Nat)(hS:∀g,g<f->xC l T g):OkK l T (f+1):=by
 intro q s r h aa
 have hlen:=hT.len
 have eo:=λaa=>oW hT aa q [123] (by simp)
 unfold gT at h
 refine ax (sf:=s35) rfl rfl rfl ?_
 generalize fL T q [123]=q1 at *
 simp[-au,-ag,s35,eo]
 refine bC O7.eq_1 (λx:RQ×List Sm×Nat=>⟨[(0,.val (.ptr 0 0 0 0)),(3,.val (b8 9 (Sm.rows x.2.1)))],[],[RQ.obj l x.1]⟩)
  (λx=>x.2.2<=f/\x.2.1.length<=T.length+1/\(x.1.fe=0->x.2.1.length<=x.1.at_/\x.2.1.length<=T.length)/\jS T x.2.2 x.2.1 x.1=some (s,r)) (λx=>x.2.2) (q1,[],f) rfl ⟨Nat.le_refl _,by simp,by simp,h⟩ ?_
 rintro⟨u,ss,g⟩ ⟨hg,KS,VC,hp⟩ ih
 simp only at hg KS VC hp ih
 have ek:=λaa=>wU (l:=l) aa u
 have ei:=λaa=>iZ hT aa u [125] (by simp)
 cases g with
 |zero=>simp[jS]at hp
 |succ g=>
  unfold jS at hp
  have ec:=λaa=>ot hT aa u [125] (by simp)
  by_cases f0:u.fe=0
  ·cases hi:fy T u [125] with
   |true=>
    rw[if_neg (by rw[hi];simp)]at hp
    simp only[Option.some.injEq,Prod.mk.injEq]at hp
    obtain⟨rfl,rfl⟩:=hp
    simp[-au,-ag,ek,f0,ei,hi,ec]
   |false=>
    rw[if_pos ⟨f0,hi⟩]at hp
    obtain⟨⟨x,r2⟩,h1,h2⟩:=Option.bind_eq_some_iff.1 hp
    have e2:=hS g (by omega) _ _ _ h1
    obtain⟨g2,w2⟩:=(kR T g).1 _ _ _ h1
    have acE:=VC f0
    have hle:=g2.le
    have CN:=eU (sz:=9) (bytes:=136) (r:=Sm.rows ss) (new:=[x.row]) (by simp[fits,Sm.aE]) (by simp[room,gi];omega)
    have XL:Sm.rows ss++[x.row]=Sm.rows (ss++[x]):=by simp[gi]
    rw[XL]at CN
    have ey:=ih (r2,ss++[x],g) ⟨by simp only;omega,by simp;omega,λf=>by
     rcases w2 with w|⟨w,v⟩
     ·exact absurd f w
     ·simp;omega,h2⟩ (by simp only;omega)
    simp only at ey
    generalize Sm.rows (ss++[x])=R at *
    rw[Sm.aE]at e2 CN
    simp[-au,-ag,ek,f0,ei,hi,e2,CN,AV.view]
    exact ey
  ·rw[if_neg (λh=>f0 h.1)]at hp
   simp only[Option.some.injEq,Prod.mk.injEq]at hp
   obtain⟨rfl,rfl⟩:=hp
   simp[-au,-ag,ek,f0,ec]
theorem rF (f:Nat)(hK:OkK l T f):xC l T (f+1):=by
 intro q s r h aa
 have hlen:=hT.len
 have et:=λaa=>kT hT aa q
 have ei:=λaa s hs=>iZ hT aa q s hs
 have T5:=λs (h:fy T q s=true)=>Dw h
 have Dc:∀s,fy T q s=true->IntKind.i64.wrap ((q.at_:Int)+1)=((q.at_+1:Nat):Int):=λs h=>by
  have:=(aV h).2
  rw[wrap64]<;>omega
 unfold oQ at h
 refine ax (sf:=Pn) rfl rfl rfl ?_
 have en:=λaa=>lG hT aa (ay q)
 have ec:=λaa=>dV hT aa (cQ T (ay q)).2 [58] (by simp)
 have eo:=λaa=>Hr hT aa (cC T (cQ T (ay q)).2 [58])
 have Rx:cJ T (ay q)=(⟨(cQ T (ay q)).1,(tY T (cC T (cQ T (ay q)).2 [58])).1.1,(tY T (cC T (cQ T (ay q)).2 [58])).1.2,(cur T (ay q)).a⟩,(tY T (cC T (cQ T (ay q)).2 [58])).2):=rfl
 rw[Rx]at h
 generalize tY T (cC T (cQ T (ay q)).2 [58])=o at *
 generalize cC T (cQ T (ay q)).2 [58]=q2 at *
 generalize cQ T (ay q)=z at *
 clear Rx
 have Nt:=λs r (h:mA T f (cur T q).a q=some (s,r))=>Qh hT h
 generalize hc:cur T q=c at *
 simp only[Tk.cells]at et
 cases h1:fy T q [118,97,114] with
 |true=>
  rw[h1]at h
  simp only[if_true,Option.some.injEq,Prod.mk.injEq]at h
  obtain⟨rfl,rfl⟩:=h
  have ht:=T5 _ h1
  have hw:=Dc _ h1
  have e4:=λaa=>dV hT aa o.2 [59] (by simp)
  simp[-au,-ag,Pn,et,ei,h1,ht,oX,jY,hw,en,ec,eo,e4,af,AV.view,AV.an,AV.ah,Sm.row,nY,Sm.rows]
 |false=>
 rw[h1]at h
 simp only[Bool.false_eq_true,if_false]at h
 cases h2:fy T q [108,101,116] with
 |true=>
  rw[h2]at h
  simp only[if_true]at h
  obtain⟨⟨x,r5⟩,h8,h9⟩:=Option.bind_eq_some_iff.1 h
  simp only[Option.some.injEq,Prod.mk.injEq]at h9
  obtain⟨rfl,rfl⟩:=h9
  have ht:=T5 _ h2
  have hw:=Dc _ h2
  have e4:=λaa=>dV hT aa o.2 [61] (by simp)
  have e5:=XM hT h8
  have e6:=λaa=>dV hT aa r5 [59] (by simp)
  have kj:E.rows [x]=[[.int .i64 x.k,.int .i64 x.n,.str x.nm,.str x.on,.int .i64 x.od,aT x.kids,.int .i64 x.a,.int .i64 x.ty.b,.int .i64 x.ty.r,.int .i64 x.ty.d,.int .i64 x.ref]]:=by simp[E.rows,E.aE]
  simp[-au,-ag,Pn,et,ei,h1,h2,ht,oX,jY,hw,en,ec,eo,e4,e5,e6,af,AV.view,AV.an,AV.ah,Sm.row,Sm.rows]
  simp[aT,kj]
 |false=>
 rw[h2]at h
 simp only[Bool.false_eq_true,if_false]at h
 cases h3:fy T q [105,102] with
 |true=>
  rw[h3]at h
  simp only[if_true]at h
  obtain⟨⟨x,r5⟩,h8,h9⟩:=Option.bind_eq_some_iff.1 h
  obtain⟨⟨y,r6⟩,Cz,z6⟩:=Option.bind_eq_some_iff.1 h9
  have hw:=Dc _ h3
  have e5:=XM hT h8
  have e6:=hK _ _ _ Cz
  have hv:aG (b8 9 (Sm.rows y))=true:=cV
  have Qi:(b8 9 (Sm.rows y)).view=aA 9 (Sm.rows y):=rfl
  have kj:E.rows [x]=[[.int .i64 x.k,.int .i64 x.n,.str x.nm,.str x.on,.int .i64 x.od,aT x.kids,.int .i64 x.a,.int .i64 x.ty.b,.int .i64 x.ty.r,.int .i64 x.ty.d,.int .i64 x.ref]]:=by simp[E.rows,E.aE]
  generalize b8 9 (Sm.rows y)=vy at *
  have CC:=bu hv
  have Mx:=cm hv
  have ej:=λaa=>iZ hT aa r6 [101,108,115,101] (by simp)
  dsimp only at z6
  cases h4:fy T r6 [101,108,115,101] with
  |false=>
   rw[h4]at z6
   simp only[Bool.false_eq_true,if_false,Option.some.injEq,Prod.mk.injEq]at z6
   obtain⟨rfl,rfl⟩:=z6
   simp[-au,-ag,Pn,et,ei,h1,h2,h3,oX,jY,hw,e5,e6,ej,h4,hv,Qi,af,AV.view,AV.an,AV.ah,Sm.row,Sm.rows]
   simp[aT,kj]
  |true=>
   rw[h4]at z6
   simp only[if_true]at z6
   obtain⟨⟨w,r8⟩,JB,Ir⟩:=Option.bind_eq_some_iff.1 z6
   simp only[Option.some.injEq,Prod.mk.injEq]at Ir
   obtain⟨rfl,rfl⟩:=Ir
   have hw6:IntKind.i64.wrap ((r6.at_:Int)+1)=((r6.at_+1:Nat):Int):=by
    have:=(aV h4).2
    rw[wrap64]<;>omega
   have e8:=hK _ _ _ JB
   have hu:aG (b8 9 (Sm.rows w))=true:=cV
   have huv:(b8 9 (Sm.rows w)).view=aA 9 (Sm.rows w):=rfl
   generalize b8 9 (Sm.rows w)=vw at *
   have huc:=bu hu
   have hup:=cm hu
   simp[-au,-ag,Pn,et,ei,h1,h2,h3,oX,jY,hw,hw6,e5,e6,ej,h4,e8,hv,Qi,hu,huv,af,AV.view,AV.an,AV.ah,Sm.row]
   simp[aT,kj]
 |false=>
 rw[h3]at h
 simp only[Bool.false_eq_true,if_false]at h
 cases h4:fy T q [119,104,105,108,101] with
 |true=>
  rw[h4]at h
  simp only[if_true]at h
  obtain⟨⟨x,r5⟩,h8,h9⟩:=Option.bind_eq_some_iff.1 h
  obtain⟨⟨y,r6⟩,Cz,z6⟩:=Option.bind_eq_some_iff.1 h9
  simp only[Option.some.injEq,Prod.mk.injEq]at z6
  obtain⟨rfl,rfl⟩:=z6
  have hw:=Dc _ h4
  have e5:=XM hT h8
  have e6:=hK _ _ _ Cz
  have hv:aG (b8 9 (Sm.rows y))=true:=cV
  have Qi:(b8 9 (Sm.rows y)).view=aA 9 (Sm.rows y):=rfl
  have kj:E.rows [x]=[[.int .i64 x.k,.int .i64 x.n,.str x.nm,.str x.on,.int .i64 x.od,aT x.kids,.int .i64 x.a,.int .i64 x.ty.b,.int .i64 x.ty.r,.int .i64 x.ty.d,.int .i64 x.ref]]:=by simp[E.rows,E.aE]
  generalize b8 9 (Sm.rows y)=vy at *
  have CC:=bu hv
  have Mx:=cm hv
  simp[-au,-ag,Pn,et,ei,h1,h2,h3,h4,oX,jY,hw,e5,e6,hv,Qi,af,AV.view,AV.an,AV.ah,Sm.row,Sm.rows]
  simp[aT,kj]
 |false=>
 rw[h4]at h
 simp only[Bool.false_eq_true,if_false]at h
 cases h5:fy T q [114,101,116,117,114,110] with
 |true=>
  rw[h5]at h
  simp only[if_true]at h
  have hw:=Dc _ h5
  have ej:=λaa=>iZ hT aa (ay q) [59] (by simp)
  cases h6:fy T (ay q) [59] with
  |true=>
   rw[h6]at h
   simp only[if_true,Option.some.injEq,Prod.mk.injEq]at h
   obtain⟨rfl,rfl⟩:=h
   have e4:=λaa=>dV hT aa (ay q) [59] (by simp)
   simp[-au,-ag,Pn,et,ei,h1,h2,h3,h4,h5,oX,jY,hw,ej,h6,e4,af,AV.view,AV.an,AV.ah,Sm.row,nY,Sm.rows]
  |false=>
   rw[h6]at h
   simp only[Bool.false_eq_true,if_false]at h
   obtain⟨⟨x,r5⟩,h8,h9⟩:=Option.bind_eq_some_iff.1 h
   simp only[Option.some.injEq,Prod.mk.injEq]at h9
   obtain⟨rfl,rfl⟩:=h9
   have e5:=XM hT h8
   have e4:=λaa=>dV hT aa r5 [59] (by simp)
   have kj:E.rows [x]=[[.int .i64 x.k,.int .i64 x.n,.str x.nm,.str x.on,.int .i64 x.od,aT x.kids,.int .i64 x.a,.int .i64 x.ty.b,.int .i64 x.ty.r,.int .i64 x.ty.d,.int .i64 x.ref]]:=by simp[E.rows,E.aE]
   simp[-au,-ag,Pn,et,ei,h1,h2,h3,h4,h5,oX,jY,hw,ej,h6,e5,e4,af,AV.view,AV.an,AV.ah,Sm.row,Sm.rows]
   simp[aT,kj]
 |false=>
 rw[h5]at h
 simp only[Bool.false_eq_true,if_false]at h
 cases h6:fy T q [112,114,105,110,116] with
 |true=>
  rw[h6]at h
  simp only[if_true]at h
  obtain⟨⟨x,r5⟩,h8,h9⟩:=Option.bind_eq_some_iff.1 h
  simp only[Option.some.injEq,Prod.mk.injEq]at h9
  obtain⟨rfl,rfl⟩:=h9
  have hw:=Dc _ h6
  have e5:=XM hT h8
  have e4:=λaa=>dV hT aa r5 [59] (by simp)
  have kj:E.rows [x]=[[.int .i64 x.k,.int .i64 x.n,.str x.nm,.str x.on,.int .i64 x.od,aT x.kids,.int .i64 x.a,.int .i64 x.ty.b,.int .i64 x.ty.r,.int .i64 x.ty.d,.int .i64 x.ref]]:=by simp[E.rows,E.aE]
  simp[-au,-ag,Pn,et,ei,h1,h2,h3,h4,h5,h6,oX,jY,hw,e5,e4,af,AV.view,AV.an,AV.ah,Sm.row,Sm.rows]
  simp[aT,kj]
 |false=>
  rw[h6]at h
  simp only[Bool.false_eq_true,if_false]at h
  have e1:=Nt _ _ h
  rw[Sm.aE]at e1 ⊢
  simp[-au,-ag,Pn,et,ei,h1,h2,h3,h4,h5,h6,e1,af,AV.view,AV.an,AV.ah]
theorem BW:∀f,xC l T f/\OkK l T f:=by
 intro f
 induction f using Nat.strongRecOn with
 |_ f ih=>
  cases f with
  |zero=>
   refine⟨?_,?_⟩
   ·intro q e r h;simp[oQ]at h
   ·intro q e r h;simp[gT]at h
  |succ f=>
   exact⟨rF hT f (ih f (by omega)).2,eP hT f λg h=>(ih g (by omega)).1⟩
theorem ET {f:Nat}{q r:RQ}{s:List Sm}(h:gT T f q=some (s,r))(aa:Nat):(aW S).call 0 aa 35 [.ptr 0 0 0 0] [q.obj l]=some (b8 9 (Sm.rows s),[r.obj l]):=(BW hT f).2 q s r h aa
end
end N7
namespace N7
open Ax Go cp V7 j4
section
variable {l:AV}{T:List Tk}(hT:TL l T)
include hT
theorem yc {f:Nat}{q rr:RQ}{rc:Rc}(h:lH T f q=some (rc,rr))(aa:Nat):(aW S).call 0 aa 19 [.ptr 0 0 0 0] [q.obj l]=some (.agg rc.row,[rr.obj l]):=by
 have hlen:=hT.len
 have et:=λaa=>kT hT aa q
 have en:=λaa=>lG hT aa q
 have e2:=λaa=>dV hT aa (cQ T q).2 [123] (by simp)
 unfold lH at h
 obtain⟨⟨fs,r0⟩,h1,h2⟩:=Option.bind_eq_some_iff.1 h
 simp only[Option.some.injEq,Prod.mk.injEq]at h2
 obtain⟨rfl,rfl⟩:=h2
 generalize cC T (cQ T q).2 [123]=q2 at *
 generalize cQ T q=z at *
 generalize cur T q=c at *
 simp only[Tk.cells]at et
 refine ax (sf:=s19) rfl rfl rfl ?_
 simp[-au,-ag,s19,et,en,e2,af,AV.view]
 refine bC OZ.eq_1 (λx:RQ×List PD×Nat=>⟨[(0,.val (.ptr 0 0 0 0)),(2,.fp 0 0),(3,.fp 1 0)],[[.str [],.U,.int .i64 0],[.str z.1,b8 4 (x.2.1.map PD.cells),.int .i64 c.a]],[RQ.obj l x.1]⟩)
  (λx=>x.2.1.length<=T.length+1/\(x.1.fe=0->x.2.1.length<=x.1.at_/\x.2.1.length<=T.length)/\iD T x.2.2 x.2.1 x.1=some (fs,r0)) (λx=>x.2.2) (q2,[],f) rfl ⟨by simp,by simp,h1⟩ ?_
 rintro⟨s,ps,g⟩ ⟨KS,VC,hp⟩ ih
 simp only at KS VC hp ih
 have ek:=λaa=>wU (l:=l) aa s
 have ei:=λaa=>iZ hT aa s [125] (by simp)
 have ec:=λaa=>dV hT aa r0 [125] (by simp)
 cases g with
 |zero=>simp[iD]at hp
 |succ g=>
  unfold iD at hp
  by_cases f0:s.fe=0
  ·cases hi:fy T s [125] with
   |true=>
    rw[if_neg (by rw[hi];simp)]at hp
    simp only[Option.some.injEq,Prod.mk.injEq]at hp
    obtain⟨rfl,rfl⟩:=hp
    simp[-au,-ag,ek,f0,ei,hi,ec,af,AV.view,AV.an,AV.ah,Rc.row,aA]
   |false=>
    rw[if_pos ⟨f0,hi⟩]at hp
    have ES:=λaa=>kT hT aa s
    have acE:=VC f0
    have e3:=λaa=>BS hT aa s
    have e4:=λaa=>dV hT aa (cJ T s).2 [59] (by simp)
    simp only[PD.cells]at e3
    have nc:=eU (sz:=4) (bytes:=48) (r:=ps.map PD.cells) (new:=[(cJ T s).1.cells]) (by simp[fits,PD.cells]) (by simp[room];omega)
    have w2:=(ry (T:=T) (q:=s)).trans (aJ (s:=[59]))
    have XO:=(gj (T:=T) (q:=s)).trans (aJ (s:=[59]))
    by_cases h8:(cur T s).k=1/\ps.length=8
    ·rw[if_pos h8]at hp
     simp only[Option.some.injEq,Prod.mk.injEq]at hp
     obtain⟨rfl,rfl⟩:=hp
     have ef:=λaa=>dF hT aa s 4
     obtain⟨h8,h9⟩:=h8
     generalize cur T s=c2 at *
     simp only[Tk.cells,h8]at ES
     simp[-au,-ag,ek,f0,ei,hi,ES,h9,ef,ec,af,AV.view,AV.an,AV.ah,Rc.row,aA]
    ·rw[if_neg h8]at hp
     have ey:=ih (cC T (cJ T s).2 [59],ps++[(cJ T s).1],g) ⟨by simp;omega,λf=>by
      have hle:=XO.le
      rcases w2 with w|⟨w,v⟩
      ·exact absurd f w
      ·simp;omega,hp⟩ (by simp only;omega)
     simp only[List.map_append,List.map_cons,List.map_nil]at ey
     generalize cC T (cJ T s).2 [59]=s4 at *
     generalize cJ T s=p at *
     generalize cur T s=c2 at *
     simp only[PD.cells]at nc ey
     simp only[Tk.cells]at ES
     by_cases hk:c2.k=1
     ·have h9:¬(ps.length:Int)=8:=λh=>h8 ⟨hk,by omega⟩
      simp[-au,-ag,ek,f0,ei,hi,ES,hk,h9,e3,e4,nc,aN,bp,af,AV.view,AV.an,AV.ah]
      exact ey
     ·simp[-au,-ag,ek,f0,ei,hi,ES,hk,e3,e4,nc,aN,bp,af,AV.view,AV.an,AV.ah]
      exact ey
  ·rw[if_neg (λh=>f0 h.1)]at hp
   simp only[Option.some.injEq,Prod.mk.injEq]at hp
   obtain⟨rfl,rfl⟩:=hp
   simp[-au,-ag,ek,f0,ec,af,AV.view,AV.an,AV.ah,Rc.row,aA]
def tl:bG->bG
 |.seq _ b=>b
 |c=>c
theorem EU {f:Nat}{q rr:RQ}{fc:Fc}(h:qB T f q=some (fc,rr))(aa:Nat):(aW S).call 0 aa 22 [.ptr 0 0 0 0] [q.obj l]=some (.agg fc.row,[rr.obj l]):=by
 have hlen:=hT.len
 have et:=λaa=>kT hT aa q
 have en:=λaa=>lG hT aa q
 have e2:=λaa=>dV hT aa (cQ T q).2 [40] (by simp)
 unfold qB at h
 obtain⟨⟨fs,r0⟩,h1,h2⟩:=Option.bind_eq_some_iff.1 h
 dsimp only at h2
 generalize cC T (cQ T q).2 [40]=q2 at *
 generalize cQ T q=z at *
 generalize cur T q=c at *
 simp only[Tk.cells]at et
 refine ax (sf:=Xh) rfl rfl rfl ?_
 simp[-au,-ag,Xh,et,en,e2,af,AV.view]
 refine bC O1.eq_1 (λx:RQ×List PD×Nat=>⟨[(0,.val (.ptr 0 0 0 0)),(2,.fp 0 0),(3,.fp 1 0)],[[.str [],.U,.bool false,.str [],.int .i64 0,.U,.int .i64 0],[.str z.1,b8 4 (x.2.1.map PD.cells),.bool false,.str [],.int .i64 0,.U,.int .i64 c.a]],[RQ.obj l x.1]⟩)
  (λx=>x.2.1.length<=T.length+1/\(x.1.fe=0->x.2.1.length<=x.1.at_/\x.2.1.length<=T.length)/\gY T x.2.2 x.2.1 x.1=some (fs,r0)) (λx=>x.2.2) (q2,[],f) rfl ⟨by simp,by simp,h1⟩ ?_
 rintro⟨s,ps,g⟩ ⟨KS,VC,hp⟩ ih
 simp only at KS VC hp ih
 have ek:=λaa=>wU (l:=l) aa s
 have ei:=λaa=>iZ hT aa s [41] (by simp)
 have out :
   W S 0 1 [.box 2 0 7 true] (Gy [.box 2 0 7 true] Ax.Mode.lq [RQ.obj l q] (.agg fc.row,[RQ.obj l rr])) [.code (tl (tl (tl (tl (tl Xh.body)))))] .normal
    ⟨[(0,.val (.ptr 0 0 0 0)),(2,.fp 0 0),(3,.fp 1 0)],[[.str [],.U,.bool false,.str [],.int .i64 0,.U,.int .i64 0],[.str z.1,b8 4 (fs.map PD.cells),.bool false,.str [],.int .i64 0,.U,.int .i64 c.a]],[RQ.obj l r0]⟩:=by
  have e4:=λaa=>dV hT aa r0 [41] (by simp)
  generalize cC T r0 [41]=r4 at *
  have e5:=λaa=>iZ hT aa r4 [58] (by simp)
  cases h5:fy T r4 [58] with
  |false=>
   rw[h5]at h2
   simp only[Bool.false_eq_true,if_false]at h2
   obtain⟨⟨b,r6⟩,h6,h7⟩:=Option.bind_eq_some_iff.1 h2
   simp only[Option.some.injEq,Prod.mk.injEq]at h7
   obtain⟨rfl,rfl⟩:=h7
   have e6:=ET hT h6
   have hv:aG (b8 9 (Sm.rows b))=true:=cV
   have Qi:(b8 9 (Sm.rows b)).view=br b:=rfl
   generalize b8 9 (Sm.rows b)=vb at *
   have CC:=bu hv
   have Mx:=cm hv
   simp[-au,-ag,Xh,tl,e4,e5,h5,e6,hv,Qi,af,AV.view,AV.an,AV.ah,Fc.row,aA]
  |true=>
   rw[h5]at h2
   simp only[if_true]at h2
   obtain⟨⟨b,r6⟩,h6,h7⟩:=Option.bind_eq_some_iff.1 h2
   simp only[Option.some.injEq,Prod.mk.injEq]at h7
   obtain⟨rfl,rfl⟩:=h7
   have i2:=(aV h5).2
   have hw:IntKind.i64.wrap ((r4.at_:Int)+1)=((r4.at_+1:Nat):Int):=by rw[wrap64]<;>omega
   have e7:=λaa=>Hr hT aa (ay r4)
   generalize tY T (ay r4)=o at *
   have e6:=ET hT h6
   have hv:aG (b8 9 (Sm.rows b))=true:=cV
   have Qi:(b8 9 (Sm.rows b)).view=br b:=rfl
   generalize b8 9 (Sm.rows b)=vb at *
   have CC:=bu hv
   have Mx:=cm hv
   simp[-au,-ag,Xh,tl,e4,e5,h5,oX,jY,hw,e7,e6,hv,Qi,af,AV.view,AV.an,AV.ah,Fc.row,aA]
 simp only[Xh,tl]at out
 cases g with
 |zero=>simp[gY]at hp
 |succ g=>
  unfold gY at hp
  by_cases f0:s.fe=0
  ·cases hi:fy T s [41] with
   |true=>
    rw[if_neg (by rw[hi];simp)]at hp
    simp only[Option.some.injEq,Prod.mk.injEq]at hp
    obtain⟨rfl,rfl⟩:=hp
    simp[-au,-ag,ek,f0,ei,hi]at out ⊢
    exact out
   |false=>
    rw[if_pos ⟨f0,hi⟩]at hp
    have ES:=λaa=>kT hT aa s
    have acE:=VC f0
    have e3:=λaa=>BS hT aa s
    simp only[PD.cells]at e3
    have nc:=eU (sz:=4) (bytes:=48) (r:=ps.map PD.cells) (new:=[(cJ T s).1.cells]) (by simp[fits,PD.cells]) (by simp[room];omega)
    have w2:=(ry (T:=T) (q:=s)).trans oT
    have XO:=(gj (T:=T) (q:=s)).trans oT
    by_cases h8:(cur T s).k=1/\ps.length=6
    ·rw[if_pos h8]at hp
     simp only[Option.some.injEq,Prod.mk.injEq]at hp
     obtain⟨rfl,rfl⟩:=hp
     have ef:=λaa=>dF hT aa s 4
     obtain⟨h8,h9⟩:=h8
     generalize cur T s=c2 at *
     simp only[Tk.cells,h8]at ES
     simp[-au,-ag,ek,f0,ei,hi,ES,h9,ef,AV.view]at out ⊢
     exact out
    ·rw[if_neg h8]at hp
     have ey:=ih (rq T (cJ T s).2,ps++[(cJ T s).1],g) ⟨by simp;omega,λf=>by
      have hle:=XO.le
      rcases w2 with w|⟨w,v⟩
      ·exact absurd f w
      ·simp;omega,hp⟩ (by simp only;omega)
     simp only[List.map_append,List.map_cons,List.map_nil]at ey
     clear XO w2 hp ih out
     generalize cJ T s=p at *
     have e9:=λaa=>iZ hT aa p.2 [41] (by simp)
     have e10:=λaa=>dV hT aa p.2 [44] (by simp)
     have e11:=λaa=>iZ hT aa (cC T p.2 [44]) [41] (by simp)
     have e12:=λaa=>dF hT aa (cC T p.2 [44]) 2
     unfold rq at ey
     generalize cC T p.2 [44]=s4 at *
     generalize cur T s=c2 at *
     simp only[PD.cells]at nc ey
     simp only[Tk.cells]at ES
     by_cases hk:c2.k=1
     ·have h9:¬(ps.length:Int)=6:=λh=>h8 ⟨hk,by omega⟩
      cases h3:fy T p.2 [41] with
      |true=>
       rw[h3,if_pos rfl]at ey
       simp[-au,-ag,ek,f0,ei,hi,ES,hk,h9,e3,e9,h3,nc,aN,bp,af,AV.view,AV.an,AV.ah]
       exact ey
      |false=>
       rw[h3,if_neg (by simp)]at ey
       cases h4:fy T s4 [41] with
       |true=>
        rw[h4,if_pos rfl]at ey
        simp[-au,-ag,ek,f0,ei,hi,ES,hk,h9,e3,e9,h3,e10,e11,h4,e12,nc,aN,bp,af,AV.view,AV.an,AV.ah]
        exact ey
       |false=>
        rw[h4,if_neg (by simp)]at ey
        simp[-au,-ag,ek,f0,ei,hi,ES,hk,h9,e3,e9,h3,e10,e11,h4,nc,aN,bp,af,AV.view,AV.an,AV.ah]
        exact ey
     ·cases h3:fy T p.2 [41] with
      |true=>
       rw[h3,if_pos rfl]at ey
       simp[-au,-ag,ek,f0,ei,hi,ES,hk,e3,e9,h3,nc,aN,bp,af,AV.view,AV.an,AV.ah]
       exact ey
      |false=>
       rw[h3,if_neg (by simp)]at ey
       cases h4:fy T s4 [41] with
       |true=>
        rw[h4,if_pos rfl]at ey
        simp[-au,-ag,ek,f0,ei,hi,ES,hk,e3,e9,h3,e10,e11,h4,e12,nc,aN,bp,af,AV.view,AV.an,AV.ah]
        exact ey
       |false=>
        rw[h4,if_neg (by simp)]at ey
        simp[-au,-ag,ek,f0,ei,hi,ES,hk,e3,e9,h3,e10,e11,h4,nc,aN,bp,af,AV.view,AV.an,AV.ah]
        exact ey
  ·rw[if_neg (λh=>f0 h.1)]at hp
   simp only[Option.some.injEq,Prod.mk.injEq]at hp
   obtain⟨rfl,rfl⟩:=hp
   simp[-au,-ag,ek,f0]at out ⊢
   exact out
end
end N7
namespace N7
open Ax Go cp V7 j4
def acF (r:List AV):Tk:=match r with | [.int _ k,.str t,.int _ n,.int _ a]=>⟨k,t,n,a⟩|_=>Xw
def l9 (rows:List (List AV)):List Tk:=rows.map acF
def lT (s:List UInt8):Pg×Int×Int:=if s.length<=6000 then match U2.Bx s with
  |(rows,none)=>(oR (l9 rows) (40*(l9 rows).length+100)).getD (zY,0,0)
  |(_,some e)=>(zY,1,e)
 else (zY,4,0)
theorem T8 (a:Nat)(l:List UInt8):(U2.lZ a l).2≠0->∃x:Tk,(U2.lZ a l).1=x.cells/\x.a=a:=by
 have mk:∀k t n,∃x:Tk,U2.rT k t n a=x.cells/\x.a=a:=λk t n=>⟨⟨k,t,n,a⟩,rfl,rfl⟩
 unfold U2.lZ
 split
 ·intro h;exact absurd rfl h
 ·split
  ·unfold U2.nX
   split
   ·exact λ_=>mk _ _ _
   ·split
    ·exact λ_=>mk _ _ _
    ·intro h;exact absurd rfl h
  ·split
   ·unfold U2.qb
    split
    ·intro h;exact absurd rfl h
    ·split
     ·intro h;exact absurd rfl h
     ·exact λ_=>mk _ _ _
   ·unfold U2.pP
    split
    ·intro h;exact absurd rfl h
    ·exact λ_=>mk _ _ _
theorem Hu:∀(n a:Nat)(l:List UInt8)(rows:List (List AV)),U2.sU n a l=(rows,none)->(∀r∈rows,∃x:Tk,r=x.cells/\0<=x.a/\x.a<=a+l.length)/\rows.length<=n
 |0,_,_,rows,h=>by
  simp only[U2.sU,Prod.mk.injEq,and_true]at h
  subst h
  exact⟨by simp,Nat.le_refl _⟩
 |n+1,a,[],rows,h=>by
  simp only[U2.sU,Prod.mk.injEq,and_true]at h
  subst h
  exact⟨by intro r hr;rw[List.mem_singleton]at hr;subst hr;exact⟨⟨0,[],0,a⟩,rfl,by simp,by simp⟩,by simp⟩
 |n+1,a,c::l,rows,h=>by
  simp only[U2.sU]at h
  have hle:=U2.KE a (c::l)
  have ha:=T8 a (c::l)
  generalize U2.lZ a (c::l)=z at *
  obtain⟨t,k⟩:=z
  cases k with
  |zero=>simp at h
  |succ k=>
   simp only at h ha hle
   generalize hy:U2.sU n _ _=y at h
   obtain⟨r2,e⟩:=y
   cases e with
   |some e=>simp at h
   |none=>
    simp only[Prod.mk.injEq,and_true]at h
    subst h
    obtain⟨h1,h2⟩:=Hu n _ _ _ hy
    refine⟨λr hr=>?_,by simp;omega⟩
    rcases List.mem_cons.1 hr with e|e
    ·subst e
     obtain⟨x,hx,hxa⟩:=ha (by omega)
     exact⟨x,hx,by omega,by simp only[List.length_cons];omega⟩
    ·obtain⟨x,h3,h4,h5⟩:=h1 r e
     have hb:=U2.wF ((c::l).drop (k+1))
     simp only[List.length_drop,List.length_cons]at h5 hb hle
     refine⟨x,h3,h4,?_⟩
     simp only[List.length_cons]
     omega
theorem EW {s:List UInt8}{rows:List (List AV)}(h:U2.Bx s=(rows,none)):(∀r∈rows,∃x:Tk,r=x.cells/\0<=x.a/\x.a<=s.length)/\rows.length<=s.length+1:=by
 unfold U2.Bx at h
 obtain⟨h1,h2⟩:=Hu _ _ _ _ h
 have hb:=U2.wF s
 refine⟨λr hr=>?_,h2⟩
 obtain⟨x,h3,h4,h5⟩:=h1 r hr
 rw[List.length_drop]at h5
 exact⟨x,h3,h4,by omega⟩
theorem Qj {rows:List (List AV)}{N:Int}(h:∀r∈rows,∃x:Tk,r=x.cells/\0<=x.a/\x.a<=N):rows=(l9 rows).map Tk.cells:=by
 unfold l9
 rw[List.map_map]
 conv=>lhs;rw[<-List.map_id rows]
 refine List.map_congr_left λr hr=>?_
 obtain⟨x,hx,_⟩:=h r hr
 subst hx
 rfl
theorem XP {rows:List (List AV)}{N:Int}(h:∀r∈rows,∃x:Tk,r=x.cells/\0<=x.a/\x.a<=N):∀x∈l9 rows,0<=x.a/\x.a<=N:=by
 intro x hx
 obtain⟨r,hr,rfl⟩:=List.mem_map.1 hx
 obtain⟨y,hy,h1,h2⟩:=h r hr
 subst hy
 exact⟨h1,h2⟩
theorem T9 (wl aa:Nat)(s:List UInt8)(st:aj):(aW S).call wl aa 9 [.str s] st=some (.fm [.agg (lT s).1.row,.agg [.int .i64 (lT s).2.1,.int .i64 (lT s).2.2]],st):=by
 have etk:=λwl aa st=>U2.Mi wl aa s st
 refine bT (sf:=s9) rfl rfl (by simp) rfl (by simp[Pg.row,AV.an,AV.ah]) ?_
 have zero:∀e a:Int,e≠0->lT s=(zY,e,a)->U2.Ez s=(.U,[.int .i64 e,.int .i64 a])->W S 0 0 s9.results (GA s9.results (.fm [.agg (lT s).1.row,.agg [.int .i64 (lT s).2.1,.int .i64 (lT s).2.2]])) [.code s9.body] .normal (oA s9 [.str s] []):=λe a he h1 h2=>by
  rw[h1]
  rw[h2]at etk
  simp[s9,etk,he,aN,bp,fA.bq,Pg.row,zY]
 by_cases hl:s.length<=6000
 ·have htv:U2.Ez s=U2.GQ (U2.Bx s):=by unfold U2.Ez;rw[U2.mP,decide_eq_true hl,if_pos rfl]
  have SG:lT s=match U2.Bx s with|(rows,none)=>(oR (l9 rows) (40*(l9 rows).length+100)).getD (zY,0,0)|(_,some e)=>(zY,1,(e:Int)):=by unfold lT;rw[if_pos hl]
  generalize htp:U2.Bx s=z at *
  obtain⟨rows,e⟩:=z
  cases e with
  |some e=>exact zero 1 e (by decide) SG htv
  |none=>
   obtain⟨iN,hlen⟩:=EW htp
   have v9:=Qj iN
   simp only[U2.GQ]at htv
   simp only at SG
   have hTl:(l9 rows).length=rows.length:=by simp[l9]
   obtain⟨x,hx⟩:=pQ (l9 rows)
   rw[hx,Option.getD_some]at SG
   clear zero
   generalize l9 rows=T at *
   have hT:TL (b8 4 rows) T:=⟨by
    have:fits 4 rows=true:=by rw[v9];simp[fits,Tk.cells]
    unfold b8
    split
    ·rfl
    ·simp[cI,this],by rw[qz];exact v9,by omega⟩
   rw[htv]at etk
   have acH:=hT.sl
   generalize b8 4 rows=l at *
   rw[SG]
   unfold oR at hx
   obtain⟨⟨p,r0⟩,h1,h2⟩:=Option.bind_eq_some_iff.1 hx
   simp only[Option.some.injEq]at h2
   subst h2
   simp[-au,-ag,s9,etk,acH,af,AV.view]
   have hTv:TL l.view T:=⟨by rw[xQ];exact hT.sz,by rw[Bi];exact hT.rows,hT.len⟩
   have ai4:=hT.len
   generalize l.view=lv at *
   refine bC Vr.eq_1 (λx:RQ×Pg×Nat=>⟨[(2,.fp 0 0),(3,.fp 1 0),(6,.val (.ptr 0 0 0 0)),(7,.fp 3 0)],
     [[.U,.U,.U],[.int .i64 0,.int .i64 0],[.int .i64 0,.int .i64 0],[b8 3 (x.2.1.bw.map Rc.row),b8 4 (x.2.1.globals.map PD.cells),b8 7 (x.2.1.funcs.map Fc.row)]],[RQ.obj lv x.1]⟩)
    (λx=>x.2.1.bw.length<=12/\x.2.1.globals.length<=8/\x.2.1.funcs.length<=16/\gb T x.2.2 x.2.1 x.1=some (p,r0)) (λx=>x.2.2) (⟨0,0,0,0⟩,zY,_) rfl ⟨by simp[zY],by simp[zY],by simp[zY],h1⟩ ?_
   rintro⟨u,⟨rs,gs,fs⟩,g⟩ ⟨b1,b2,b3,hp⟩ ih
   simp only at b1 b2 b3 hp ih
   clear h1 SG iN v9 etk acH hT hlen hTl htv htp
   have hT:=hTv
   have ek:=λaa=>wU (l:=lv) aa u
   have et:=λaa=>kT hT aa u
   have i1:=λaa=>iZ hT aa u [114,101,99,111,114,100] (by simp)
   have i2:=λaa=>iZ hT aa u [103,108,111,98,97,108] (by simp)
   have i3:=λaa=>iZ hT aa u [102,117,110,99] (by simp)
   cases g with
   |zero=>simp[gb]at hp
   |succ g=>
    unfold gb at hp
    simp only[TP,KJ,KK]at hp
    by_cases f0:u.fe=0
    ·by_cases k0:(cur T u).k=0
     ·rw[if_neg (λh=>h.2 k0)]at hp
      simp only[Option.some.injEq,Prod.mk.injEq]at hp
      obtain⟨rfl,rfl⟩:=hp
      rw[if_pos f0]
      generalize cur T u=c at *
      simp only[Tk.cells]at et
      simp[-au,-ag,ek,f0,et,k0,af,AV.view,Pg.row,aA]
     ·rw[if_pos ⟨f0,k0⟩]at hp
      have IL:=qc k0
      have hw:IntKind.i64.wrap ((u.at_:Int)+1)=((u.at_+1:Nat):Int):=by rw[wrap64]<;>omega
      have ef:=λaa e=>dF hT aa u e
      have XQ:∀s t:List UInt8,s≠t->fy T u s=true->fy T u t=false:=λs t jH h=>by
       cases h2:fy T u t with
       |false=>rfl
       |true=>exact absurd ((Dw h).symm.trans (Dw h2)) jH
      cases q1:fy T u [114,101,99,111,114,100] with
      |true=>
       have q2:=XQ _ [103,108,111,98,97,108] (by decide) q1
       have q3:=XQ _ [102,117,110,99] (by decide) q1
       simp only[q1,q2,q3,true_and,Bool.false_eq_true,false_and,or_false,if_true,if_false]at hp
       by_cases m1:rs.length=12
       ·rw[if_pos m1]at hp
        have ey:=ih (ig T u 4,⟨rs,gs,fs⟩,g) ⟨b1,b2,b3,hp⟩ (by simp only;omega)
        generalize cur T u=c at *
        simp only[Tk.cells]at et
        simp[-au,-ag,ek,f0,et,k0,i1,q1,m1,ef]
        exact ey
       ·rw[if_neg m1]at hp
        obtain⟨⟨x,r2⟩,h3,h4⟩:=Option.bind_eq_some_iff.1 hp
        have e3:=yc hT h3
        have m1':¬(rs.length:Int)=12:=by omega
        have nc:=eU (sz:=3) (bytes:=48) (r:=rs.map Rc.row) (new:=[x.row]) (by simp[fits,Rc.row]) (by simp[room];omega)
        have ey:=ih (r2,⟨rs++[x],gs,fs⟩,g) ⟨by simp;omega,b2,b3,h4⟩ (by simp only;omega)
        simp only[List.map_append,List.map_cons,List.map_nil]at ey
        simp only[Rc.row]at e3 nc ey
        generalize cur T u=c at *
        simp only[Tk.cells]at et
        simp[-au,-ag,ek,f0,et,k0,i1,q1,i2,q2,i3,q3,m1',oX,jY,hw,e3,nc,aN,bp,af,AV.view]
        exact ey
      |false=>
      cases q2:fy T u [103,108,111,98,97,108] with
      |true=>
       have q3:=XQ _ [102,117,110,99] (by decide) q2
       simp only[q1,q2,q3,true_and,Bool.false_eq_true,false_and,false_or,or_false,if_true,if_false]at hp
       by_cases m1:gs.length=8
       ·rw[if_pos m1]at hp
        have ey:=ih (ig T u 4,⟨rs,gs,fs⟩,g) ⟨b1,b2,b3,hp⟩ (by simp only;omega)
        generalize cur T u=c at *
        simp only[Tk.cells]at et
        simp[-au,-ag,ek,f0,et,k0,i1,q1,i2,q2,m1,ef]
        exact ey
       ·rw[if_neg m1]at hp
        have e3:=λaa=>BS hT aa (ay u)
        have e4:=λaa=>dV hT aa (cJ T (ay u)).2 [59] (by simp)
        have m1':¬(gs.length:Int)=8:=by omega
        have nc:=eU (sz:=4) (bytes:=48) (r:=gs.map PD.cells) (new:=[(cJ T (ay u)).1.cells]) (by simp[fits,PD.cells]) (by simp[room];omega)
        have ey:=ih (cC T (cJ T (ay u)).2 [59],⟨rs,gs++[(cJ T (ay u)).1],fs⟩,g) ⟨b1,by simp;omega,b3,hp⟩ (by simp only;omega)
        simp only[List.map_append,List.map_cons,List.map_nil]at ey
        generalize cC T (cJ T (ay u)).2 [59]=r4 at *
        generalize cJ T (ay u)=pp at *
        simp only[PD.cells]at e3 nc ey
        generalize cur T u=c at *
        simp only[Tk.cells]at et
        simp[-au,-ag,ek,f0,et,k0,i1,q1,i2,q2,i3,q3,m1',oX,jY,hw,e3,e4,nc,aN,bp,af,AV.view]
        exact ey
      |false=>
      cases q3:fy T u [102,117,110,99] with
      |true=>
       simp only[q1,q2,q3,true_and,Bool.false_eq_true,false_and,false_or,if_true,if_false]at hp
       by_cases m1:fs.length=16
       ·rw[if_pos m1]at hp
        have ey:=ih (ig T u 4,⟨rs,gs,fs⟩,g) ⟨b1,b2,b3,hp⟩ (by simp only;omega)
        generalize cur T u=c at *
        simp only[Tk.cells]at et
        simp[-au,-ag,ek,f0,et,k0,i1,q1,i2,q2,i3,q3,m1,ef]
        exact ey
       ·rw[if_neg m1]at hp
        obtain⟨⟨x,r2⟩,h3,h4⟩:=Option.bind_eq_some_iff.1 hp
        have e3:=EU hT h3
        have m1':¬(fs.length:Int)=16:=by omega
        have nc:=eU (sz:=7) (bytes:=104) (r:=fs.map Fc.row) (new:=[x.row]) (by simp[fits,Fc.row]) (by simp[room];omega)
        have ey:=ih (r2,⟨rs,gs,fs++[x]⟩,g) ⟨b1,b2,by simp;omega,h4⟩ (by simp only;omega)
        simp only[List.map_append,List.map_cons,List.map_nil]at ey
        simp only[Fc.row]at e3 nc ey
        generalize cur T u=c at *
        simp only[Tk.cells]at et
        simp[-au,-ag,ek,f0,et,k0,i1,q1,i2,q2,i3,q3,m1',oX,jY,hw,e3,nc,aN,bp,af,AV.view]
        exact ey
      |false=>
       simp only[q1,q2,q3,Bool.false_eq_true,false_and,or_self,if_false]at hp
       have ey:=ih (ig T u 2,⟨rs,gs,fs⟩,g) ⟨b1,b2,b3,hp⟩ (by simp only;omega)
       generalize cur T u=c at *
       simp only[Tk.cells]at et
       simp[-au,-ag,ek,f0,et,k0,i1,q1,i2,q2,i3,q3,ef]
       exact ey
    ·rw[if_neg (λh=>f0 h.1)]at hp
     simp only[Option.some.injEq,Prod.mk.injEq]at hp
     obtain⟨rfl,rfl⟩:=hp
     rw[if_neg f0]
     have ea:∀aa bx,aI 0 aa (.load true 2 false) [.val (.ptr 0 0 0 3)] [RQ.obj lv u] bx=some (.val (.agg [.int .i64 u.fe,.int .i64 u.fa]),[RQ.obj lv u],bx):=λaa bx=>by simp[RQ.obj,cut,AV.view]
     simp[-au,-ag,ek,f0,ea,aN,bp,fA.bq,af,AV.view,Pg.row,zY]
 ·exact zero 4 0 (by decide) (by unfold lT;rw[if_neg hl]) (by unfold U2.Ez;rw[U2.mP,decide_eq_false hl];rfl)
end N7
namespace N7
open Ax Go cp V7 j4 U7
theorem Qk (s:List UInt8):Pg.In 6000 (lT s).1/\(lT s).1.Z3:=by
 unfold lT
 split
 ·rename_i hl
  generalize htp:U2.Bx s=z
  obtain⟨rows,e⟩:=z
  cases e with
  |some e=>exact⟨EE,zZ⟩
  |none=>
   obtain⟨iN,hlen⟩:=EW htp
   obtain⟨x,hx⟩:=pQ (l9 rows)
   simp only
   rw[hx,Option.getD_some]
   exact Mm ⟨by decide,λy hy=>by
    have:=XP iN y hy
    omega⟩ hx
 ·exact⟨EE,zZ⟩
def j8 (p:Pg):GD:=⟨aA 3 (p.bw.map Rc.row),aA 4 (p.globals.map PD.cells),aA 7 (p.funcs.map Fc.row)⟩
theorem z7 {sz:Nat}{r:List (List AV)}:mz (aA sz r)=true:=by simp[aA]
theorem tg {a:Int}(h:0<=a)(h2:a<=6000):RJ a=true:=by simp only[RJ,Bool.and_eq_true,decide_eq_true_eq];omega
theorem yd {sz:Nat}{r:List (List AV)}(h:fits sz r=true):cI sz (aA sz r)=true:=by
 cases r with
 |nil=>rfl
 |cons a r=>simp[cI,h]
theorem BX {l:List PD}(h:∀p∈l,ED 6000 p):zz (aA 4 (l.map PD.cells))=true:=by
 unfold zz kz
 rw[z7,yd (by simp[fits,PD.cells]),aR]
 simp only[Bool.and_self,Bool.true_and,List.all_map,List.all_eq_true,Function.comp]
 intro p hp
 obtain⟨h1,h2,h3,h4⟩:=h p hp
 simp[KG,PD.cells,tg h1 (by omega),tg h3 h4]
theorem acJ {p:Pg}(h:Pg.In 6000 p):(j8 p).ok:=by
 refine⟨?_,BX h.g.2,?_⟩
 ·unfold yZ kz
  show (mz (aA 3 (p.bw.map Rc.row))&&cI 3 (aA 3 (p.bw.map Rc.row))&&(aP (aA 3 (p.bw.map Rc.row))).all Dr)=true
  rw[z7,yd (by simp[fits,Rc.row]),aR]
  simp only[Bool.and_self,Bool.true_and,List.all_map,List.all_eq_true,Function.comp]
  intro r hr
  have i:=h.r.2 r hr
  simp[Dr,Rc.row,BX i.f,tg i.a.1 i.a.2]
 ·unfold y7 kz
  show (mz (aA 7 (p.funcs.map Fc.row))&&cI 7 (aA 7 (p.funcs.map Fc.row))&&(aP (aA 7 (p.funcs.map Fc.row))).all Dt)=true
  rw[z7,yd (by simp[fits,Fc.row]),aR]
  simp only[Bool.and_self,Bool.true_and,List.all_map,List.all_eq_true,Function.comp]
  intro r hr
  have i:=h.f.2 r hr
  simp[Dt,Fc.row,BX i.f,tg i.a.1 i.a.2,tg i.od.1 (by have:=i.od.2;omega),br,z7]
theorem n6 (l:List PD):nF (aA 4 (l.map PD.cells))=l:=by
 simp only[nF,aR,List.map_map]
 conv=>rhs;rw[<-List.map_id l]
 exact List.map_congr_left λp _=>rfl
def Hv (r:Rc):CR:=⟨r.name,aA 4 (r.fields.map PD.cells),r.a⟩
def CO (f:Fc):FN:=⟨f.name,aA 4 (f.params.map PD.cells),f.has,f.on,f.od,br f.body,f.a⟩
theorem pV (p:Pg):de (j8 p).bw=p.bw.map Hv:=by
 simp only[j8,de,aR,List.map_map]
 exact List.map_congr_left λp _=>rfl
theorem pW (p:Pg):jh (j8 p).funcs=p.funcs.map CO:=by
 simp only[j8,jh,aR,List.map_map]
 exact List.map_congr_left λp _=>rfl
theorem EY (p:Pg):nF (j8 p).globals=p.globals:=n6 _
theorem acK {p:Pg}(h:Pg.In 6000 p):GD.sm (j8 p):=by
 refine⟨?_,?_,?_,?_,?_⟩
 ·rw[pV,List.length_map];have:=h.r.1;omega
 ·intro x hx
  rw[pV]at hx
  obtain⟨r,hr,rfl⟩:=List.mem_map.1 hx
  simp only[Hv,n6]
  have:=(h.r.2 r hr).len
  omega
 ·rw[EY];have:=h.g.1;omega
 ·rw[pW,List.length_map];have:=h.f.1;omega
 ·intro x hx
  rw[pW]at hx
  obtain⟨r,hr,rfl⟩:=List.mem_map.1 hx
  simp only[CO,n6]
  have:=(h.f.2 r hr).len
  omega
end N7
