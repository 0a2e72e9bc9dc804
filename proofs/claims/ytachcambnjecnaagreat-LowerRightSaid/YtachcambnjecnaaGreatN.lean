/-
  The reader of the document's parser: what stands at a place, and what goes over it.
-/
import Derived.Test.YtachcambnjecnaaGreatCode2
import Derived.Test.YtachcambnjecnaaGreatP
import Derived.Test.YtachcambnjecnaaGreatL
import Derived.Test.YtachcambnjecnaaGreatM

set_option maxRecDepth 100000
set_option maxHeartbeats 8000000
namespace N7
open Ax Go aT V7 lP
section
variable {l:AV}{T:List Tk}(hT:TL l T)(aa:Nat)(q:RQ)
theorem xR:(aU S).call 0 aa 12 [.ptr 0 0 0 0] [q.obj l]=some (.bool (decide (q.fe=0)),[q.obj l]):=by
 refine ay (sf:=s12) rfl rfl rfl ?_
 simp[s12,RQ.obj,cut,AV.view]
include hT
theorem lq:(aU S).call 0 aa 13 [.ptr 0 0 0 0] [q.obj l]=some (.agg (cur T q).cells,[q.obj l]):=by
 have hs:=hT.sl
 have hz:=hT.sz
 have hr:=hT.rows
 refine ay (sf:=s13) rfl rfl rfl ?_
 have h0:¬(q.at_:Int)<0:=by omega
 by_cases h1:q.at_<T.length
 ·have h2:¬(T.length:Int)<=(q.at_:Int):=by omega
  have hc:cur T q=T[q.at_]:=by simp[cur,h1]
  simp[s13,RQ.obj,cut,h0,h1,h2,hs,hz,hr,hc,Tk.cells,aA,az,AV.view]
 ·have h2:(T.length:Int)<=(q.at_:Int):=by omega
  have hc:cur T q=Tk0:=by simp[cur,List.getD,List.getElem?_eq_none (Nat.le_of_not_lt h1)]
  simp[s13,RQ.obj,cut,h0,h2,hs,hr,hc,Tk.cells,aA,az,AV.view]
theorem jk (s:List UInt8)(iQ:s≠[]):(aU S).call 0 aa 14 [.ptr 0 0 0 0,.str s] [q.obj l]=some (.bool (gf T q s),[q.obj l]):=by
 have et:=λaa=>lq hT aa q
 have eo:=λaa=>xR (l:=l) aa q
 cases s with
 |nil=>exact absurd rfl iQ
 |cons c s=>
  obtain⟨v,hv⟩:∃v,gf T q (c::s)=v:=⟨_,rfl⟩
  rw[hv]
  simp only[gf]at hv
  refine ay (sf:=s14) rfl rfl rfl ?_
  generalize cur T q=x at *
  simp only[Tk.cells]at et
  have fin:∀k:Int,wE (c::s)=k->v=(decide (q.fe=0)&&decide (x.k=k)&&decide (x.t=c::s)):=λk hk=>by rw[<-hv,hk]
  by_cases c1:97<=c.toNat
  ·have d1:(97:Int)<=(c.toNat:Int):=by omega
   by_cases c2:c.toNat<=122
   ·have d2:(c.toNat:Int)<=122:=by omega
    rw[fin 3 (by simp[wE,c1,c2])]
    by_cases f0:q.fe=0<;>by_cases f1:x.k=3<;>simp[s14,et,eo,d1,d2,f0,f1]
   ·have d2:¬(c.toNat:Int)<=122:=by omega
    rw[fin 4 (by simp[wE,c2])]
    by_cases f0:q.fe=0<;>by_cases f1:x.k=4<;>simp[s14,et,eo,d1,d2,f0,f1]
  ·have d1:¬(97:Int)<=(c.toNat:Int):=by omega
   rw[fin 4 (by simp[wE,c1])]
   by_cases f0:q.fe=0<;>by_cases f1:x.k=4<;>simp[s14,et,eo,d1,f0,f1]
theorem dQ (e:Int):(aU S).call 0 aa 15 [.ptr 0 0 0 0,.int .i64 e] [q.obj l]=some (.fz [],[(iu T q e).obj l]):=by
 have et:=λaa=>lq hT aa q
 have eo:=λaa=>xR (l:=l) aa q
 refine ay (sf:=s15) rfl rfl rfl ?_
 unfold iu
 generalize cur T q=x at *
 simp only[Tk.cells]at et
 by_cases f0:q.fe=0
 ·simp only[RQ.obj,f0]at et eo
  simp[s15,eo,et,RQ.obj,f0,cut,bp,AV.ai,AV.au,af]
 ·simp[s15,eo,f0]
theorem eA (s:List UInt8)(iQ:s≠[]):(aU S).call 0 aa 18 [.ptr 0 0 0 0,.str s] [q.obj l]=some (.fz [],[(cJ T q s).obj l]):=by
 have ei:=λaa=>jk hT aa q s iQ
 have ef:=λaa e=>dQ hT aa q e
 have hlen:=hT.len
 refine ay (sf:=s18) rfl rfl rfl ?_
 unfold cJ
 cases hi:gf T q s with
 |false=>simp[s18,ei,hi,ef]
 |true=>
  have I7:=(bg hi).2
  have hw:IntKind.i64.wrap ((q.at_:Int)+1)=((q.at_+1:Nat):Int):=by rw[wrap64]<;>omega
  simp only[RQ.obj,hi]at ei
  simp[s18,ei,RQ.obj,bE,cut,bp,AV.ai,AV.au,af,hw,AV.view]
theorem pO (s:List UInt8)(iQ:s≠[]):(aU S).call 0 aa 73 [.ptr 0 0 0 0,.str s] [q.obj l]=some (.fz [],[(iR T q s).obj l]):=by
 have ei:=λaa=>jk hT aa q s iQ
 have ef:=λaa e=>dQ hT aa q e
 have et:=λaa=>eA hT aa q s iQ
 refine ay (sf:=s73) rfl rfl rfl ?_
 unfold iR
 cases hi:gf T q s with
 |false=>
  generalize cJ T q s=r at *
  simp only[RQ.obj,hi]at ei et
  simp[s73,ei,et,RQ.obj,tY,cut,bp,AV.ai,AV.au,af,AV.view]
 |true=>
  by_cases h50:50<=q.op
  ·simp only[RQ.obj,hi]at ei ef
   simp[s73,ei,ef,RQ.obj,cut,h50,AV.view]
  ·generalize cJ T q s=r at *
   simp only[RQ.obj,hi]at ei et
   simp[s73,ei,et,RQ.obj,tY,cut,h50,bp,AV.ai,AV.au,af,AV.view]
theorem oS (s:List UInt8)(iQ:s≠[]):(aU S).call 0 aa 75 [.ptr 0 0 0 0,.str s] [q.obj l]=some (.fz [],[(kD T q s).obj l]):=by
 have et:=λaa=>eA hT aa q s iQ
 have hw:∀n:Int,IntKind.i64.wrap (n-1)=IntKind.i64.wrap (n + -1):=λn=>by rw[Int.sub_eq_add_neg]
 refine ay (sf:=s75) rfl rfl rfl ?_
 unfold kD
 generalize cJ T q s=r at *
 simp only[RQ.obj]at et
 simp[s75,et,RQ.obj,tY,cut,bp,AV.ai,AV.au,af,AV.view,hw]
theorem l8:(aU S).call 0 aa 38 [.ptr 0 0 0 0] [q.obj l]=some (.str (cY T q).1,[(cY T q).2.obj l]):=by
 have et:=λaa=>lq hT aa q
 have eo:=λaa=>xR (l:=l) aa q
 have ef:=λaa e=>dQ hT aa q e
 have hlen:=hT.len
 refine ay (sf:=s38) rfl rfl rfl ?_
 unfold cY
 have ef:=λaa=>ef aa 2
 generalize iu T q 2=r at *
 generalize hx:cur T q=x at *
 simp only[Tk.cells]at et
 by_cases f0:q.fe=0
 ·by_cases f1:x.k=1
  ·simp only[RQ.obj,f0]at et eo
   have I7:q.at_<T.length:=sA (by rw[hx,f1];decide)
   have hw:IntKind.i64.wrap ((q.at_:Int)+1)=((q.at_+1:Nat):Int):=by rw[wrap64]<;>omega
   simp[s38,et,eo,f0,f1,RQ.obj,bE,cut,bp,AV.ai,AV.au,af,hw,AV.view]
  ·simp[s38,et,eo,f0,f1,ef]
 ·simp[s38,et,eo,f0,ef]
end
end N7
namespace N7
open Ax Go aT V7 lP
theorem YC {T:List Tk}{k d:Nat}{q:RQ}(h:gf T q [91]=false):Hy T k d q=(d,q):=by
 cases k with
 |zero=>rfl
 |succ k=>unfold Hy;rw[h];rfl
section
variable {l:AV}{T:List Tk}(hT:TL l T)(aa:Nat)(q:RQ)
include hT
theorem HQ:(aU S).call 0 aa 39 [.ptr 0 0 0 0] [q.obj l]=some (.agg [.str (vQ T q).1.1,.int .i64 (vQ T q).1.2],[(vQ T q).2.obj l]):=by
 have hlen:=hT.len
 refine ay (sf:=s39) rfl rfl rfl ?_
 generalize hF:vQ T q=F
 simp[s39]
 refine bu PL.eq_1 (λx:RQ×Nat=>⟨[(0,.val (.ptr 0 0 0 0)),(2,.fp 0 0),(3,.val (.int .i64 x.2))],[[.str [],.int .i64 0],[]],[RQ.obj l x.1]⟩)
  (λx=>∃k,k+x.2=3/\Hy T k x.2 x.1=Hy T 3 0 q) (λx=>3-x.2) (q,0) ?_ ⟨3,rfl,rfl⟩ ?_
 ·rfl
 rintro⟨r,d⟩ ⟨k,hk,hL⟩ ih
 simp only at hk hL ih
 have ei:=λaa=>jk hT aa r [91] (by simp)
 unfold vQ at hF
 cases hi:gf T r [91] with
 |true=>
  obtain⟨i1,i2⟩:=bg hi
  by_cases h3:d=3
  ·have ef:=λaa e=>dQ hT aa r e
   have Wn:k=0:=by omega
   subst h3 Wn
   have hL':Hy T 3 0 q=(3,r):=hL.symm
   rw[hL',if_pos hi]at hF
   subst hF
   simp[ei,hi,ef]
  ·have C4:¬(d:Int)=3:=by omega
   have hw:IntKind.i64.wrap ((r.at_:Int)+1)=((r.at_+1:Nat):Int):=by rw[wrap64]<;>omega
   have BR:IntKind.i64.wrap ((d:Int)+1)=((d+1:Nat):Int):=by rw[wrap64]<;>omega
   simp only[RQ.obj,hi]at ei
   simp[ei,C4,RQ.obj,cut,bp,AV.ai,AV.au,af,hw,BR,AV.view]
   refine ih (bE r,d+1) ⟨k-1,by simp only;omega,?_⟩ (by simp only;omega)
   rw[<-hL]
   obtain⟨k',rfl⟩:∃k',k=k'+1:=⟨k-1,by omega⟩
   conv=>rhs;unfold Hy
   rw[if_pos hi]
   rfl
 |false=>
  rw[YC hi]at hL
  rw[<-hL,if_neg (by rw[hi];simp)]at hF
  dsimp only at hF
  have en:=λaa=>l8 hT aa r
  have ea:=λaa=>jk hT aa r [105,110,116] (by simp)
  have eb:=λaa=>jk hT aa r [98,111,111,108] (by simp)
  have et:=λaa=>lq hT aa r
  unfold ofN at hF
  cases ha:gf T r [105,110,116] with
  |true=>
   obtain⟨i1,i2⟩:=bg ha
   have hw:IntKind.i64.wrap ((r.at_:Int)+1)=((r.at_+1:Nat):Int):=by rw[wrap64]<;>omega
   simp only[RQ.obj,hi,ha]at ei ea et
   rw[ha]at hF
   simp only[Bool.true_or,if_true]at hF
   generalize hc:cur T r=c at *
   simp only[Tk.cells]at et
   simp[ei,ea,et,RQ.obj,cut,bp,AV.ai,AV.au,af,hw,AV.view]
   refine bu EP.eq_1 (λx:Nat=>⟨[(0,.val (.ptr 0 0 0 0)),(2,.fp 0 0),(3,.val (.int .i64 d)),(4,.fp 1 0),(5,.val (.int .i64 x))],[[.str [],.int .i64 0],[.str c.t,.int .i64 d]],[RQ.obj l (sw T (bE r) [93] x)]⟩)
    (λx=>x<=d) (λx=>d-x) 0 ?_ (by simp) ?_
   ·rfl
   intro x hx ihx
   by_cases hxd:x<d
   ·have hwx:IntKind.i64.wrap ((x:Int)+1)=((x+1:Nat):Int):=by rw[wrap64]<;>omega
    have ek:=λaa=>eA hT aa (sw T (bE r) [93] x) [93] (by simp)
    have adi:(x:Int)<(d:Int):=by omega
    simp[hxd,ek,hwx]
    exact ihx (x+1) (by omega) (by omega)
   ·have:x=d:=by omega
    subst this
    subst hF
    simp
    rfl
  |false=>
   cases hb:gf T r [98,111,111,108] with
   |true=>
    obtain⟨i1,i2⟩:=bg hb
    have hw:IntKind.i64.wrap ((r.at_:Int)+1)=((r.at_+1:Nat):Int):=by rw[wrap64]<;>omega
    simp only[RQ.obj,hi,ha,hb]at ei ea eb et
    rw[ha,hb]at hF
    simp only[Bool.false_or,if_true]at hF
    generalize hc:cur T r=c at *
    simp only[Tk.cells]at et
    simp[ei,ea,eb,et,RQ.obj,cut,bp,AV.ai,AV.au,af,hw,AV.view]
    refine bu EP.eq_1 (λx:Nat=>⟨[(0,.val (.ptr 0 0 0 0)),(2,.fp 0 0),(3,.val (.int .i64 d)),(4,.fp 1 0),(5,.val (.int .i64 x))],[[.str [],.int .i64 0],[.str c.t,.int .i64 d]],[RQ.obj l (sw T (bE r) [93] x)]⟩)
     (λx=>x<=d) (λx=>d-x) 0 ?_ (by simp) ?_
    ·rfl
    intro x hx ihx
    by_cases hxd:x<d
    ·have hwx:IntKind.i64.wrap ((x:Int)+1)=((x+1:Nat):Int):=by rw[wrap64]<;>omega
     have ek:=λaa=>eA hT aa (sw T (bE r) [93] x) [93] (by simp)
     have adi:(x:Int)<(d:Int):=by omega
     simp[hxd,ek,hwx]
     exact ihx (x+1) (by omega) (by omega)
    ·have:x=d:=by omega
     subst this
     subst hF
     simp
     rfl
   |false=>
    rw[ha,hb]at hF
    simp only[Bool.or_self,Bool.false_eq_true,if_false]at hF
    generalize cY T r=z at *
    simp[ei,ea,eb,hi,ha,hb,en,af]
    refine bu EP.eq_1 (λx:Nat=>⟨[(0,.val (.ptr 0 0 0 0)),(2,.fp 0 0),(3,.val (.int .i64 d)),(4,.fp 1 0),(5,.val (.int .i64 x))],[[.str [],.int .i64 0],[.str z.1,.int .i64 d]],[RQ.obj l (sw T z.2 [93] x)]⟩)
     (λx=>x<=d) (λx=>d-x) 0 ?_ (by simp) ?_
    ·rfl
    intro x hx ihx
    by_cases hxd:x<d
    ·have hwx:IntKind.i64.wrap ((x:Int)+1)=((x+1:Nat):Int):=by rw[wrap64]<;>omega
     have ek:=λaa=>eA hT aa (sw T z.2 [93] x) [93] (by simp)
     have adi:(x:Int)<(d:Int):=by omega
     simp[hxd,ek,hwx]
     exact ihx (x+1) (by omega) (by omega)
    ·have:x=d:=by omega
     subst this
     subst hF
     simp
theorem Cc:(aU S).call 0 aa 17 [.ptr 0 0 0 0] [q.obj l]=some (.agg (cZ T q).1.cells,[(cZ T q).2.obj l]):=by
 have et:=λaa=>lq hT aa q
 have en:=λaa=>l8 hT aa q
 have e2:=λaa=>eA hT aa (cY T q).2 [58] (by simp)
 have e3:=λaa=>HQ hT aa (cJ T (cY T q).2 [58])
 refine ay (sf:=s17) rfl rfl rfl ?_
 unfold cZ
 generalize vQ T (cJ T (cY T q).2 [58])=z3 at *
 generalize cJ T (cY T q).2 [58]=q2 at *
 generalize cY T q=z at *
 generalize cur T q=c at *
 simp only[Tk.cells]at et
 simp[-ax,-ah,s17,et,en,e2,e3,af,AV.view,AV.au,AV.ai,PD.cells]
end
theorem HR (wl aa:Nat)(n:Nat)(hn:n<5)(c:Tk)(st:an):(aU S).call wl aa 116 [.int .i64 n,.agg c.cells] st=some (.int .i64 (sx n c),st):=by
 refine bf (sf:=Hp) rfl rfl (by simp[Tk.cells,AV.au,AV.ai]) rfl (by simp) ?_
 unfold sx
 by_cases hk:c.k=4
 ·rw[if_pos hk]
  have w1:IntKind.i64.wrap 1=1:=rfl
  have w2:IntKind.i64.wrap 2=2:=rfl
  have w3:IntKind.i64.wrap 3=3:=rfl
  have w4:IntKind.i64.wrap 4=4:=rfl
  have adj:n=0\/n=1\/n=2\/n=3\/n=4:=by omega
  have w1:IntKind.i64.wrap 1=1:=rfl
  have w2:IntKind.i64.wrap 2=2:=rfl
  have w3:IntKind.i64.wrap 3=3:=rfl
  have w4:IntKind.i64.wrap 4=4:=rfl
  rcases adj with h|h|h|h|h
  ·subst h
   simp[Hp,Tk.cells,hk]
   refine bu uT.eq_1 (λk:Nat=>⟨[(0,.val (.int .i64 0)),(3,.fp 0 0),(5,.val (.cU 1 [[.cU 1 [[.str [124,124]]]],[.cU 1 [[.str [38,38]]]],[.cU 1 [[.str [60]],[.str [60,61]],[.str [61,61]],[.str [33,61]]]],[.cU 1 [[.str [43]],[.str [45]]]],[.cU 1 [[.str [42]],[.str [47]],[.str [37]]]]])),(6,.val (.cU 1 [[.cU 1 [[.int .i64 24]]],[.cU 1 [[.int .i64 23]]],[.cU 1 [[.int .i64 19],[.int .i64 20],[.int .i64 21],[.int .i64 22]]],[.cU 1 [[.int .i64 14],[.int .i64 15]]],[.cU 1 [[.int .i64 16],[.int .i64 17],[.int .i64 18]]]])),(7,.val (.int .i64 k))],[[.int .i64 4,.str c.t,.int .i64 c.n,.int .i64 c.a]],[]⟩)
    (λk=>k<=1/\fI (dA 0) c.t=fI ((dA 0).drop k) c.t) (λk=>1-k) 0 (by simp) (by simp) ?_
   intro k ⟨JN,hf⟩ ih
   have hc:k=0\/k=1:=by omega
   rcases hc with h|h
   ·subst h
    by_cases e:[124,124]=c.t
    ·rw[hf];simp[e,aA,az,AV.view,dA,fI]
    ·simp[e,w1,aA,az,AV.view]
     exact ih 1 ⟨by omega,by rw[hf];simp[dA,fI,e]⟩ (by omega)
   ·subst h
    rw[hf];simp[AV.view,dA,fI]
  ·subst h
   simp[Hp,Tk.cells,hk]
   refine bu uT.eq_1 (λk:Nat=>⟨[(0,.val (.int .i64 1)),(3,.fp 0 0),(5,.val (.cU 1 [[.cU 1 [[.str [124,124]]]],[.cU 1 [[.str [38,38]]]],[.cU 1 [[.str [60]],[.str [60,61]],[.str [61,61]],[.str [33,61]]]],[.cU 1 [[.str [43]],[.str [45]]]],[.cU 1 [[.str [42]],[.str [47]],[.str [37]]]]])),(6,.val (.cU 1 [[.cU 1 [[.int .i64 24]]],[.cU 1 [[.int .i64 23]]],[.cU 1 [[.int .i64 19],[.int .i64 20],[.int .i64 21],[.int .i64 22]]],[.cU 1 [[.int .i64 14],[.int .i64 15]]],[.cU 1 [[.int .i64 16],[.int .i64 17],[.int .i64 18]]]])),(7,.val (.int .i64 k))],[[.int .i64 4,.str c.t,.int .i64 c.n,.int .i64 c.a]],[]⟩)
    (λk=>k<=1/\fI (dA 1) c.t=fI ((dA 1).drop k) c.t) (λk=>1-k) 0 (by simp) (by simp) ?_
   intro k ⟨JN,hf⟩ ih
   have hc:k=0\/k=1:=by omega
   rcases hc with h|h
   ·subst h
    by_cases e:[38,38]=c.t
    ·rw[hf];simp[e,aA,az,AV.view,dA,fI]
    ·simp[e,w1,aA,az,AV.view]
     exact ih 1 ⟨by omega,by rw[hf];simp[dA,fI,e]⟩ (by omega)
   ·subst h
    rw[hf];simp[AV.view,dA,fI]
  ·subst h
   simp[Hp,Tk.cells,hk]
   refine bu uT.eq_1 (λk:Nat=>⟨[(0,.val (.int .i64 2)),(3,.fp 0 0),(5,.val (.cU 1 [[.cU 1 [[.str [124,124]]]],[.cU 1 [[.str [38,38]]]],[.cU 1 [[.str [60]],[.str [60,61]],[.str [61,61]],[.str [33,61]]]],[.cU 1 [[.str [43]],[.str [45]]]],[.cU 1 [[.str [42]],[.str [47]],[.str [37]]]]])),(6,.val (.cU 1 [[.cU 1 [[.int .i64 24]]],[.cU 1 [[.int .i64 23]]],[.cU 1 [[.int .i64 19],[.int .i64 20],[.int .i64 21],[.int .i64 22]]],[.cU 1 [[.int .i64 14],[.int .i64 15]]],[.cU 1 [[.int .i64 16],[.int .i64 17],[.int .i64 18]]]])),(7,.val (.int .i64 k))],[[.int .i64 4,.str c.t,.int .i64 c.n,.int .i64 c.a]],[]⟩)
    (λk=>k<=4/\fI (dA 2) c.t=fI ((dA 2).drop k) c.t) (λk=>4-k) 0 (by simp) (by simp) ?_
   intro k ⟨JN,hf⟩ ih
   have hc:k=0\/k=1\/k=2\/k=3\/k=4:=by omega
   rcases hc with h|h|h|h|h
   ·subst h
    by_cases e:[60]=c.t
    ·rw[hf];simp[e,aA,az,AV.view,dA,fI]
    ·simp[e,w1,aA,az,AV.view]
     exact ih 1 ⟨by omega,by rw[hf];simp[dA,fI,e]⟩ (by omega)
   ·subst h
    by_cases e:[60,61]=c.t
    ·rw[hf];simp[e,aA,az,AV.view,dA,fI]
    ·simp[e,w2,aA,az,AV.view]
     exact ih 2 ⟨by omega,by rw[hf];simp[dA,fI,e]⟩ (by omega)
   ·subst h
    by_cases e:[61,61]=c.t
    ·rw[hf];simp[e,aA,az,AV.view,dA,fI]
    ·simp[e,w3,aA,az,AV.view]
     exact ih 3 ⟨by omega,by rw[hf];simp[dA,fI,e]⟩ (by omega)
   ·subst h
    by_cases e:[33,61]=c.t
    ·rw[hf];simp[e,aA,az,AV.view,dA,fI]
    ·simp[e,w4,aA,az,AV.view]
     exact ih 4 ⟨by omega,by rw[hf];simp[dA,fI,e]⟩ (by omega)
   ·subst h
    rw[hf];simp[AV.view,dA,fI]
  ·subst h
   simp[Hp,Tk.cells,hk]
   refine bu uT.eq_1 (λk:Nat=>⟨[(0,.val (.int .i64 3)),(3,.fp 0 0),(5,.val (.cU 1 [[.cU 1 [[.str [124,124]]]],[.cU 1 [[.str [38,38]]]],[.cU 1 [[.str [60]],[.str [60,61]],[.str [61,61]],[.str [33,61]]]],[.cU 1 [[.str [43]],[.str [45]]]],[.cU 1 [[.str [42]],[.str [47]],[.str [37]]]]])),(6,.val (.cU 1 [[.cU 1 [[.int .i64 24]]],[.cU 1 [[.int .i64 23]]],[.cU 1 [[.int .i64 19],[.int .i64 20],[.int .i64 21],[.int .i64 22]]],[.cU 1 [[.int .i64 14],[.int .i64 15]]],[.cU 1 [[.int .i64 16],[.int .i64 17],[.int .i64 18]]]])),(7,.val (.int .i64 k))],[[.int .i64 4,.str c.t,.int .i64 c.n,.int .i64 c.a]],[]⟩)
    (λk=>k<=2/\fI (dA 3) c.t=fI ((dA 3).drop k) c.t) (λk=>2-k) 0 (by simp) (by simp) ?_
   intro k ⟨JN,hf⟩ ih
   have hc:k=0\/k=1\/k=2:=by omega
   rcases hc with h|h|h
   ·subst h
    by_cases e:[43]=c.t
    ·rw[hf];simp[e,aA,az,AV.view,dA,fI]
    ·simp[e,w1,aA,az,AV.view]
     exact ih 1 ⟨by omega,by rw[hf];simp[dA,fI,e]⟩ (by omega)
   ·subst h
    by_cases e:[45]=c.t
    ·rw[hf];simp[e,aA,az,AV.view,dA,fI]
    ·simp[e,w2,aA,az,AV.view]
     exact ih 2 ⟨by omega,by rw[hf];simp[dA,fI,e]⟩ (by omega)
   ·subst h
    rw[hf];simp[AV.view,dA,fI]
  ·subst h
   simp[Hp,Tk.cells,hk]
   refine bu uT.eq_1 (λk:Nat=>⟨[(0,.val (.int .i64 4)),(3,.fp 0 0),(5,.val (.cU 1 [[.cU 1 [[.str [124,124]]]],[.cU 1 [[.str [38,38]]]],[.cU 1 [[.str [60]],[.str [60,61]],[.str [61,61]],[.str [33,61]]]],[.cU 1 [[.str [43]],[.str [45]]]],[.cU 1 [[.str [42]],[.str [47]],[.str [37]]]]])),(6,.val (.cU 1 [[.cU 1 [[.int .i64 24]]],[.cU 1 [[.int .i64 23]]],[.cU 1 [[.int .i64 19],[.int .i64 20],[.int .i64 21],[.int .i64 22]]],[.cU 1 [[.int .i64 14],[.int .i64 15]]],[.cU 1 [[.int .i64 16],[.int .i64 17],[.int .i64 18]]]])),(7,.val (.int .i64 k))],[[.int .i64 4,.str c.t,.int .i64 c.n,.int .i64 c.a]],[]⟩)
    (λk=>k<=3/\fI (dA 4) c.t=fI ((dA 4).drop k) c.t) (λk=>3-k) 0 (by simp) (by simp) ?_
   intro k ⟨JN,hf⟩ ih
   have hc:k=0\/k=1\/k=2\/k=3:=by omega
   rcases hc with h|h|h|h
   ·subst h
    by_cases e:[42]=c.t
    ·rw[hf];simp[e,aA,az,AV.view,dA,fI]
    ·simp[e,w1,aA,az,AV.view]
     exact ih 1 ⟨by omega,by rw[hf];simp[dA,fI,e]⟩ (by omega)
   ·subst h
    by_cases e:[47]=c.t
    ·rw[hf];simp[e,aA,az,AV.view,dA,fI]
    ·simp[e,w2,aA,az,AV.view]
     exact ih 2 ⟨by omega,by rw[hf];simp[dA,fI,e]⟩ (by omega)
   ·subst h
    by_cases e:[37]=c.t
    ·rw[hf];simp[e,aA,az,AV.view,dA,fI]
    ·simp[e,w3,aA,az,AV.view]
     exact ih 3 ⟨by omega,by rw[hf];simp[dA,fI,e]⟩ (by omega)
   ·subst h
    rw[hf];simp[AV.view,dA,fI]
 ·simp[Hp,Tk.cells,hk]
end N7
namespace N7
open Ax Go aT V7 lP
theorem pP {wl aa:Nat}{l:AV}{q:RQ}{bx:aX}:aL wl aa (.load false 1 false) [.val (.ptr 0 0 0 1)] [RQ.obj l q] bx=some (.val (.int .i64 q.at_),[RQ.obj l q],bx):=by
 simp[RQ.obj,cut,AV.view]
theorem adk {wl aa:Nat}{l:AV}{q:RQ}{bx:aX}:aL wl aa (.load false 1 false) [.val (.ptr 0 0 0 2)] [RQ.obj l q] bx=some (.val (.int .i64 q.op),[RQ.obj l q],bx):=by
 simp[RQ.obj,cut,AV.view]
theorem ko {aa:Nat}{l:AV}{q:RQ}{bx:aX}:aL 0 aa (.store 1) [.val (.ptr 0 0 0 1),.val (.int .i64 ((q.at_:Int)+1))] [RQ.obj l q] bx=some (.none,[RQ.obj l (bE q)],bx):=by
 simp[RQ.obj,bE,bp,AV.ai,AV.au,af]
theorem Lc {aa:Nat}{l:AV}{q:RQ}{n:Int}{bx:aX}:aL 0 aa (.store 1) [.val (.ptr 0 0 0 2),.val (.int .i64 n)] [RQ.obj l q] bx=some (.none,[RQ.obj l ⟨q.at_,n,q.fe,q.fa⟩],bx):=by
 simp[RQ.obj,bp,AV.ai,AV.au,af]
theorem adl (n:Int):IntKind.i64.wrap (n-1)=IntKind.i64.wrap (n + -1):=by rw[Int.sub_eq_add_neg]
def qE (e:E)(kv:AV):List AV:=[.int .i64 e.k,.int .i64 e.n,.str e.nm,.str e.on,.int .i64 e.od,kv,.int .i64 e.a,.int .i64 e.ty.b,.int .i64 e.ty.r,.int .i64 e.ty.d,.int .i64 e.ref]
theorem u0 (e:E):qE e (aY e.kids)=e.row:=(E.aH e).symm
def Wo (l:AV)(T:List Tk)(f:Nat):Prop:=∀n q e r,n<=5->iw T f n q=some (e,r)->∀aa,(aU S).call 0 aa 96 [.ptr 0 0 0 0,.int .i64 (n:Nat)] [q.obj l]=some (.agg e.row,[r.obj l])
def OkU (l:AV)(T:List Tk)(f:Nat):Prop:=∀q e r,nZ T f q=some (e,r)->∀aa,(aU S).call 0 aa 115 [.ptr 0 0 0 0] [q.obj l]=some (.agg e.row,[r.obj l])
def JO (l:AV)(T:List Tk)(f:Nat):Prop:=∀a q e r,jC T f a q=some (e,r)->∀kv,aG kv=true->kv.view=aY a.kids->∀aa,(aU S).call 0 aa 133 [.ptr 0 0 0 0,.agg (qE a kv)] [q.obj l]=some (.agg e.row,[r.obj l])
def sI (l:AV)(T:List Tk)(f:Nat):Prop:=∀q e r,l9 T f q=some (e,r)->∀aa,(aU S).call 0 aa 146 [.ptr 0 0 0 0] [q.obj l]=some (.agg e.row,[r.obj l])
def OkF (l:AV)(T:List Tk)(f:Nat):Prop:=∀q e r,n5 T f q=some (e,r)->∃kv,aG kv=true/\kv.view=aY e.kids/\∀aa,(aU S).call 0 aa 134 [.ptr 0 0 0 0] [q.obj l]=some (.agg (qE e kv),[r.obj l])
def OkN (l:AV)(T:List Tk)(f:Nat):Prop:=∀a q e r,n6 T f a q=some (e,r)->∀aa,(aU S).call 0 aa 145 [.ptr 0 0 0 0,.int .i64 a] [q.obj l]=some (.agg e.row,[r.obj l])
def OkA (l:AV)(T:List Tk)(f:Nat):Prop:=∀q e r,sS T f q=some (e,r)->∀aa,(aU S).call 0 aa 147 [.ptr 0 0 0 0] [q.obj l]=some (cp 11 (E.rows e),[r.obj l])
section
variable {l:AV}{T:List Tk}(hT:TL l T)
include hT
theorem QM (f:Nat)(hE:Wo l T f):sI l T (f+1):=by
 intro q e r h aa
 unfold l9 at h
 obtain⟨⟨x1,x2⟩,h1,h2⟩:=Option.bind_eq_some_iff.1 h
 cases h2
 have eo:=λaa=>pO hT aa q [40] (by simp)
 have e1:=hE 0 _ _ _ (by omega) h1
 have ec:=λaa=>oS hT aa x2 [41] (by simp)
 generalize iR T q [40]=q1 at *
 generalize kD T x2 [41]=r1 at *
 obtain⟨k2,n2,NH,NI,NJ,sX,a2,C7,zV⟩:=x1
 simp only[E.row,Int.natCast_zero]at e1
 refine ay (sf:=Yg) rfl rfl rfl ?_
 simp[Yg,eo,e1,ec,E.row,af,AV.au,AV.ai,AV.view]
theorem QN (f:Nat)(hI:sI l T f):OkN l T (f+1):=by
 intro at_ q e r h aa
 have hlen:=hT.len
 unfold n6 at h
 have ei:=λaa=>jk hT aa q [91] (by simp)
 refine ay (sf:=Uq) rfl rfl rfl ?_
 cases hi:gf T q [91] with
 |false=>
  rw[hi]at h
  simp only[Bool.false_eq_true,if_false,Option.some.injEq,Prod.mk.injEq]at h
  obtain⟨rfl,rfl⟩:=h
  have en:=λaa=>l8 hT aa q
  generalize cY T q=z at *
  simp[Uq,ei,hi,en,Em,E.row,E.rows,af,AV.au,AV.ai]
 |true=>
  rw[hi]at h
  simp only[if_true]at h
  obtain⟨⟨x1,x2⟩,h1,h2⟩:=Option.bind_eq_some_iff.1 h
  cases h2
  obtain⟨i1,i2⟩:=bg hi
  have hw:IntKind.i64.wrap ((q.at_:Int)+1)=((q.at_+1:Nat):Int):=by rw[wrap64]<;>omega
  have e1:=λaa=>HQ hT aa (bE q)
  have et:=λaa=>eA hT aa (vQ T (bE q)).2 [93] (by simp)
  have e3:=hI _ _ _ h1
  generalize cJ T (vQ T (bE q)).2 [93]=r2 at *
  generalize vQ T (bE q)=o at *
  obtain⟨k2,n2,NH,NI,NJ,sX,a2,C7,zV⟩:=x1
  simp only[E.row]at e3
  simp[-ax,-ah,Uq,ei,hi,pP,ko,hw,e1,et,e3,Em,E.row,E.rows,aA,az,af,AV.au,AV.ai,AV.view]
theorem UQ (f:Nat)(hE:∀g,g<=f->Wo l T g):OkA l T (f+1):=by
 intro q e r h aa
 have hlen:=hT.len
 unfold sS at h
 have eo:=λaa=>pO hT aa q [40] (by simp)
 refine ay (sf:=Ur) rfl rfl rfl ?_
 generalize iR T q [40]=q1 at *
 have ei:=λaa=>jk hT aa q1 [41] (by simp)
 cases hi:gf T q1 [41] with
 |true=>
  rw[hi]at h
  simp only[if_true,Option.some.injEq,Prod.mk.injEq]at h
  obtain⟨rfl,rfl⟩:=h
  have ec:=λaa=>oS hT aa q1 [41] (by simp)
  generalize kD T q1 [41]=r1 at *
  simp[Ur,eo,ei,hi,ec,E.rows,nk]
 |false=>
  rw[hi]at h
  simp only[Bool.false_eq_true,if_false]at h
  obtain⟨⟨x1,x2⟩,h1,h2⟩:=Option.bind_eq_some_iff.1 h
  have e1:=hE f (Nat.le_refl _) 0 _ _ _ (by omega) h1
  have g1:=gT h1
  have hx:vv 11 120 .U [x1.row]=some (cp 11 (E.rows [x1])):=by
   have:=fL (sz:=11) (bytes:=120) (r:=[]) (new:=[x1.row]) (by simp[fits,E.aH]) (by simp[room])
   simpa [nk,E.rows] using this
  obtain⟨F,hF⟩:∃F,(cp 11 (E.rows e),[RQ.obj l r])=F:=⟨_,rfl⟩
  obtain⟨k2,n2,NH,NI,NJ,sX,a2,C7,zV⟩:=x1
  simp only[E.row,Int.natCast_zero]at e1 hx
  simp[Ur,eo,ei,hi,e1,hx,AV.view]
  refine bu KT.eq_1 (λx:RQ×List E×Nat=>⟨[(0,.val (.ptr 0 0 0 0)),(3,.val (cp 11 (E.rows x.2.1)))],[],[RQ.obj l x.1]⟩)
   (λx=>x.2.2<=f/\x.2.1.length<=x.1.at_+1/\ri T x.2.2 x.2.1 x.1=some (e,r)) (λx=>x.2.2) (x2,[E.mk k2 n2 NH NI NJ sX a2 C7 zV],f) rfl ⟨Nat.le_refl _,by simp,h2⟩ ?_
  rintro⟨s,es,g⟩ ⟨hg,MU,hp⟩ ih
  simp only at hg MU hp ih
  have ej:=λaa=>jk hT aa s [44] (by simp)
  cases g with
  |zero=>simp[ri]at hp
  |succ g=>
   unfold ri at hp
   cases hj:gf T s [44] with
   |true=>
    rw[hj]at hp
    simp only[if_true]at hp
    obtain⟨⟨y1,y2⟩,h3,h4⟩:=Option.bind_eq_some_iff.1 hp
    obtain⟨i1,i2⟩:=bg hj
    have vA:IntKind.i64.wrap ((s.at_:Int)+1)=((s.at_+1:Nat):Int):=by rw[wrap64]<;>omega
    have e2:=hE g (by omega) 0 _ _ _ (by omega) h3
    have g2:=(gT h3).le
    have C9:=fL (sz:=11) (bytes:=120) (r:=E.rows es) (new:=[y1.row]) (by simp[fits,E.aH]) (by simp[room,gQ];omega)
    have YD:E.rows es++[y1.row]=E.rows (es++[y1]):=by simp[gQ]
    rw[YD]at C9
    have fD:=ih (y2,es++[y1],g) ⟨by simp only;omega,by simp[bE]at g2 ⊢;omega,h4⟩ (by simp only;omega)
    generalize E.rows (es++[y1])=R at *
    obtain⟨k3,n3,nm3,on3,od3,ajx,a3,ty3,ak7⟩:=y1
    simp only[E.row,Int.natCast_zero]at e2 C9
    simp[-ax,-ah,ej,hj,pP,ko,vA,e2,C9,AV.view]
    exact fD
   |false=>
    rw[hj]at hp
    simp only[Bool.false_eq_true,if_false,Option.some.injEq,Prod.mk.injEq]at hp
    obtain⟨rfl,rfl⟩:=hp
    have ec:=λaa=>oS hT aa s [41] (by simp)
    generalize kD T s [41]=r1 at *
    simp[ej,hj,ec]
end
end N7
namespace N7
open Ax Go aT V7 lP
section
variable {l:AV}{T:List Tk}(hT:TL l T)
include hT
theorem QO (f:Nat)(hN:OkN l T f)(hI:sI l T f)(hA:OkA l T f):OkF l T (f+1):=by
 intro q e r h
 have hlen:=hT.len
 have et:=λaa=>lq hT aa q
 have eo:=λaa=>xR (l:=l) aa q
 have ei:=λaa s hs=>jk hT aa q s hs
 have UO:=λs (h:gf T q s=true)=>DS h
 have I7:(cur T q).k≠0->q.at_<T.length:=sA
 unfold n5 at h
 generalize hc:cur T q=c at *
 simp only[Tk.cells]at et
 have hw:q.at_<T.length->IntKind.i64.wrap ((q.at_:Int)+1)=((q.at_+1:Nat):Int):=λh=>by rw[wrap64]<;>omega
 have DC:∀s,gf T q s=true->IntKind.i64.wrap ((q.at_:Int)+1)=((q.at_+1:Nat):Int):=λs h=>hw (bg h).2
 by_cases c0:q.fe=0/\c.k=2
 ·rw[if_pos c0]at h
  cases h
  have hw:=hw (I7 (by rw[c0.2];decide))
  refine⟨.U,rfl,by simp[Em,E.kids,oA,AV.view],λaa=>?_⟩
  refine ay (sf:=pE) rfl rfl rfl ?_
  simp[-ax,-ah,pE,et,eo,c0.1,c0.2,pP,ko,hw,af,AV.au,AV.ai,qE,Em,E.k,E.n,E.nm,E.on,E.od,E.a,E.ty,E.ref]
 rw[if_neg c0]at h
 by_cases F7:q.fe=0
 ·have NC:¬c.k=2:=λh=>c0 ⟨F7,h⟩
  cases h1:gf T q [116,114,117,101] with
  |true=>
   rw[h1]at h
   simp only[Bool.true_or,if_true,Option.some.injEq,Prod.mk.injEq]at h
   obtain⟨rfl,rfl⟩:=h
   have hw:=DC _ h1
   have ht:=UO _ h1
   refine⟨.U,rfl,by simp[Em,E.kids,oA,AV.view],λaa=>?_⟩
   refine ay (sf:=pE) rfl rfl rfl ?_
   simp[-ax,-ah,pE,et,eo,F7,NC,ei,h1,pP,ko,hw,ht,af,AV.au,AV.ai,qE,Em,E.k,E.n,E.nm,E.on,E.od,E.a,E.ty,E.ref]
  |false=>
  cases h2:gf T q [102,97,108,115,101] with
  |true=>
   rw[h1,h2]at h
   simp only[Bool.false_or,if_true,Option.some.injEq,Prod.mk.injEq]at h
   obtain⟨rfl,rfl⟩:=h
   have hw:=DC _ h2
   have ht:=UO _ h2
   refine⟨.U,rfl,by simp[Em,E.kids,oA,AV.view],λaa=>?_⟩
   refine ay (sf:=pE) rfl rfl rfl ?_
   simp[-ax,-ah,pE,et,eo,F7,NC,ei,h1,h2,pP,ko,hw,ht,af,AV.au,AV.ai,qE,Em,E.k,E.n,E.nm,E.on,E.od,E.a,E.ty,E.ref]
  |false=>
  rw[h1,h2]at h
  simp only[Bool.or_self,Bool.false_eq_true,if_false]at h
  cases h3:gf T q [110,117,108,108] with
  |true=>
   rw[h3]at h
   simp only[if_true,Option.some.injEq,Prod.mk.injEq]at h
   obtain⟨rfl,rfl⟩:=h
   have hw:=DC _ h3
   have e1:=λaa=>HQ hT aa (bE q)
   generalize vQ T (bE q)=o at *
   refine⟨.U,rfl,by simp[Em,E.kids,oA,AV.view],λaa=>?_⟩
   refine ay (sf:=pE) rfl rfl rfl ?_
   simp[-ax,-ah,pE,et,eo,F7,NC,ei,h1,h2,h3,pP,ko,hw,e1,af,AV.au,AV.ai,aA,az,qE,Em,E.k,E.n,E.nm,E.on,E.od,E.a,E.ty,E.ref]
  |false=>
  rw[h3]at h
  simp only[Bool.false_eq_true,if_false]at h
  cases h4:gf T q [110,101,119] with
  |true=>
   rw[h4]at h
   simp only[if_true]at h
   have hw:=DC _ h4
   have e1:=hN _ _ _ _ h
   refine⟨aY e.kids,by simp,by simp,λaa=>?_⟩
   rw[u0]
   obtain⟨k2,n2,NH,NI,NJ,sX,a2,C7,zV⟩:=e
   simp only[E.row]at e1 ⊢
   refine ay (sf:=pE) rfl rfl rfl ?_
   simp[-ax,-ah,pE,et,eo,F7,NC,ei,h1,h2,h3,h4,pP,ko,hw,e1,af,AV.au,AV.ai]
  |false=>
  rw[h4]at h
  simp only[Bool.false_eq_true,if_false]at h
  cases h5:gf T q [108,101,110] with
  |true=>
   rw[h5]at h
   simp only[if_true]at h
   have hw:=DC _ h5
   obtain⟨⟨x1,x2⟩,h8,h9⟩:=Option.bind_eq_some_iff.1 h
   cases h9
   have e1:=hI _ _ _ h8
   refine⟨_,by simp,bF,λaa=>?_⟩
   rw[u0]
   obtain⟨k2,n2,NH,NI,NJ,sX,a2,C7,zV⟩:=x1
   simp only[E.row]at e1
   refine ay (sf:=pE) rfl rfl rfl ?_
   simp[-ax,-ah,pE,et,eo,F7,NC,ei,h1,h2,h3,h4,h5,pP,ko,hw,e1,af,AV.au,AV.ai,AV.view,aA,az,Em,E.row,E.rows]
  |false=>
  rw[h5]at h
  simp only[Bool.false_eq_true,if_false]at h
  cases h6:gf T q [114,101,97,100] with
  |true=>
   rw[h6]at h
   simp only[if_true,Option.some.injEq,Prod.mk.injEq]at h
   obtain⟨rfl,rfl⟩:=h
   have hw:=DC _ h6
   have ep:=λaa=>pO hT aa (bE q) [40] (by simp)
   have eq:=λaa=>oS hT aa (iR T (bE q) [40]) [41] (by simp)
   refine⟨.U,rfl,by simp[Em,E.kids,oA,AV.view],λaa=>?_⟩
   refine ay (sf:=pE) rfl rfl rfl ?_
   simp[-ax,-ah,pE,et,eo,F7,NC,ei,h1,h2,h3,h4,h5,h6,pP,ko,hw,ep,eq,af,AV.au,AV.ai,qE,Em,E.k,E.n,E.nm,E.on,E.od,E.a,E.ty,E.ref]
  |false=>
  rw[h6]at h
  simp only[Bool.false_eq_true,if_false]at h
  cases h7:gf T q [40] with
  |true=>
   rw[h7]at h
   simp only[if_true]at h
   have e1:=hI _ _ _ h
   refine⟨aY e.kids,by simp,by simp,λaa=>?_⟩
   rw[u0]
   obtain⟨k2,n2,NH,NI,NJ,sX,a2,C7,zV⟩:=e
   simp only[E.row]at e1 ⊢
   refine ay (sf:=pE) rfl rfl rfl ?_
   simp[-ax,-ah,pE,et,eo,F7,NC,ei,h1,h2,h3,h4,h5,h6,h7,e1,af,AV.au,AV.ai]
  |false=>
   rw[h7]at h
   simp only[Bool.false_eq_true,if_false]at h
   have en:=λaa=>l8 hT aa q
   generalize cY T q=z at *
   have ez:=λaa=>jk hT aa z.2 [40] (by simp)
   cases h8:gf T z.2 [40] with
   |false=>
    rw[h8]at h
    simp only[Bool.false_eq_true,if_false,Option.some.injEq,Prod.mk.injEq]at h
    obtain⟨rfl,rfl⟩:=h
    refine⟨.U,rfl,by simp[Em,E.kids,oA,AV.view],λaa=>?_⟩
    refine ay (sf:=pE) rfl rfl rfl ?_
    simp[-ax,-ah,pE,et,eo,F7,NC,ei,h1,h2,h3,h4,h5,h6,h7,en,ez,h8,af,AV.au,AV.ai,qE,Em,E.k,E.n,E.nm,E.on,E.od,E.a,E.ty,E.ref]
   |true=>
    rw[h8]at h
    simp only[if_true]at h
    obtain⟨⟨x1,x2⟩,h9,wW⟩:=Option.bind_eq_some_iff.1 h
    cases wW
    have e1:=hA _ _ _ h9
    have hk:aG (cp 11 (E.rows x1))=true:=dm
    have hv:(cp 11 (E.rows x1)).view=aY x1:=rfl
    generalize cp 11 (E.rows x1)=kv at *
    have Sy:=bD hk
    have Z7:=bC hk
    refine⟨kv,hk,hv,λaa=>?_⟩
    refine ay (sf:=pE) rfl rfl rfl ?_
    simp[-ax,-ah,pE,et,eo,F7,NC,ei,h1,h2,h3,h4,h5,h6,h7,en,ez,h8,e1,hk,af,AV.au,AV.ai,aA,az,qE,Em,E.k,E.n,E.nm,E.on,E.od,E.a,E.ty,E.ref]
 ·have iY:∀s,gf T q s=false:=λs=>UC F7
  have en:=λaa=>l8 hT aa q
  have hz:cY T q=([],q):=by simp[cY,F7,iu]
  rw[hz]at en
  simp only[iY,hz,Bool.or_self,Bool.false_eq_true,if_false,Option.some.injEq,Prod.mk.injEq]at h
  obtain⟨rfl,rfl⟩:=h
  refine⟨.U,rfl,by simp[Em,E.kids,oA,AV.view],λaa=>?_⟩
  refine ay (sf:=pE) rfl rfl rfl ?_
  simp[-ax,-ah,pE,et,eo,F7,ei,iY,en,af,AV.au,AV.ai,qE,Em,E.k,E.n,E.nm,E.on,E.od,E.a,E.ty,E.ref]
theorem MW (f:Nat)(hE:∀g,g<f->Wo l T g):JO l T f:=by
 intro a0 q e r h kv0 Wn hv0 aa
 have hlen:=hT.len
 have ahW:=bD Wn
 refine ay (sf:=Yc) rfl rfl rfl ?_
 simp[Yc,qE,ahW]
 refine bu KS.eq_1 (λx:RQ×E×AV×Nat×List AV×List AV=>⟨[(0,.val (.ptr 0 0 0 0)),(3,.fp 0 0),(4,.fp 1 0)],
   [qE x.2.1 x.2.2.1,[.int .i64 0,.int .i64 0,.str [],.str [],.int .i64 0,.U,.int .i64 0,.int .i64 0,.int .i64 0,.int .i64 0,.int .i64 0],x.2.2.2.2.1,x.2.2.2.2.2],[RQ.obj l x.1]⟩)
  (λx=>x.2.2.2.1<=f/\aG x.2.2.1=true/\x.2.2.1.view=aY x.2.1.kids/\jC T x.2.2.2.1 x.2.1 x.1=some (e,r)) (λx=>x.2.2.2.1) (q,a0,kv0,f,[],[]) rfl ⟨Nat.le_refl _,Wn,hv0,h⟩ ?_
 rintro⟨s,a,kv,g,b2,b3⟩ ⟨hg,hk,hv,hp⟩ ih
 simp only at hg hk hv hp ih
 have Sy:=bD hk
 have Z7:=bC hk
 have ed:=λaa=>jk hT aa s [46] (by simp)
 have eb:=λaa=>jk hT aa s [91] (by simp)
 have et:=λaa=>lq hT aa s
 have cR:E.rows [a]=[qE a (aY a.kids)]:=by rw[u0];simp[E.rows]
 cases g with
 |zero=>simp[jC]at hp
 |succ g=>
  unfold jC at hp
  cases h1:gf T s [46] with
  |true=>
   rw[h1]at hp
   simp only[if_true]at hp
   obtain⟨i1,i2⟩:=bg h1
   have hw:IntKind.i64.wrap ((s.at_:Int)+1)=((s.at_+1:Nat):Int):=by rw[wrap64]<;>omega
   have en:=λaa=>l8 hT aa (bE s)
   generalize cY T (bE s)=z at *
   generalize cur T s=c at *
   simp only[Tk.cells]at et
   have fD:=λb2 b3=>ih (z.2,Em 5 0 z.1 [] 0 [a] c.a,aY [a],g,b2,b3) ⟨by simp only;omega,by simp,by simp[Em,E.kids],hp⟩ (by simp only;omega)
   simp[-ax,-ah,ed,h1,et,pP,ko,hw,en,hv,af,AV.view,aA,az,qE]
   have:=fD [.int .i64 c.k,.str c.t,.int .i64 c.n,.int .i64 c.a] b3
   simp[qE,Em,E.k,E.n,E.nm,E.on,E.od,E.a,E.ty,E.ref,aY,cR]at this
   exact this
  |false=>
   rw[h1]at hp
   simp only[Bool.false_eq_true,if_false]at hp
   cases h2:gf T s [91] with
   |true=>
    rw[h2]at hp
    simp only[if_true]at hp
    obtain⟨⟨x1,x2⟩,h3,h4⟩:=Option.bind_eq_some_iff.1 hp
    have eo:=λaa=>pO hT aa s [91] (by simp)
    have e1:=hE g (by omega) 0 _ _ _ (by omega) h3
    have ec:=λaa=>oS hT aa x2 [93] (by simp)
    generalize iR T s [91]=q1 at *
    simp only at h4
    generalize kD T x2 [93]=q3 at *
    generalize cur T s=c at *
    simp only[Tk.cells]at et
    have HT:E.rows [a,x1]=[qE a (aY a.kids),x1.row]:=by rw[u0];simp[E.rows]
    have fD:=λb2 b3=>ih (q3,Em 6 0 [] [] 0 [a,x1] c.a,aY [a,x1],g,b2,b3) ⟨by simp only;omega,by simp,by simp[Em,E.kids],h4⟩ (by simp only;omega)
    obtain⟨k2,n2,NH,NI,NJ,sX,a2,C7,zV⟩:=x1
    simp only[E.row,Int.natCast_zero]at e1 HT
    simp[-ax,-ah,ed,eb,h1,h2,et,eo,e1,ec,hv,af,AV.view,qE]
    have:=fD [.int .i64 c.k,.str c.t,.int .i64 c.n,.int .i64 c.a] [.int .i64 k2,.int .i64 n2,.str NH,.str NI,.int .i64 NJ,aD 11 (E.rows sX),.int .i64 a2,.int .i64 C7.b,.int .i64 C7.r,.int .i64 C7.d,.int .i64 zV]
    simp[qE,Em,E.k,E.n,E.nm,E.on,E.od,E.a,E.ty,E.ref,aY,HT]at this
    exact this
   |false=>
    rw[h2]at hp
    simp only[Bool.false_eq_true,if_false,Option.some.injEq,Prod.mk.injEq]at hp
    obtain⟨rfl,rfl⟩:=hp
    rw[<-u0]
    simp[-ax,-ah,ed,eb,h1,h2,hv,af,AV.au,AV.ai,qE]
theorem QS (f:Nat)(hE:Wo l T f)(hF:OkF l T f)(hB:JO l T f):OkU l T (f+1):=by
 intro q e r h aa
 have hlen:=hT.len
 have et:=λaa=>lq hT aa q
 have em:=λaa=>jk hT aa q [45] (by simp)
 have en:=λaa=>jk hT aa q [33] (by simp)
 unfold nZ at h
 refine ay (sf:=Qb) rfl rfl rfl ?_
 cases h1:gf T q [45] with
 |true=>
  rw[h1]at h
  simp only[Bool.true_or,if_true]at h
  obtain⟨⟨x1,x2⟩,h3,h4⟩:=Option.bind_eq_some_iff.1 h
  cases h4
  have hc:=DS h1
  rw[hc]at h3
  have eo:=λaa=>pO hT aa q [45] (by simp)
  have e1:=hE 5 _ _ _ (by omega) h3
  generalize iR T q [45]=q1 at *
  generalize cur T q=c at *
  obtain⟨k2,n2,NH,NI,NJ,sX,a2,C7,zV⟩:=x1
  simp only[Tk.cells]at et
  simp only[E.row,Int.cast_ofNat_Int]at e1
  simp[-ax,-ah,Qb,et,em,h1,hc,eo,e1,adk,Lc,tY,adl,af,AV.view,AV.au,AV.ai,Em,E.row,E.rows]
 |false=>
  cases h2:gf T q [33] with
  |true=>
   rw[h1,h2]at h
   simp only[Bool.false_or,if_true]at h
   obtain⟨⟨x1,x2⟩,h3,h4⟩:=Option.bind_eq_some_iff.1 h
   cases h4
   have hc:=DS h2
   rw[hc]at h3
   have eo:=λaa=>pO hT aa q [33] (by simp)
   have e1:=hE 5 _ _ _ (by omega) h3
   generalize iR T q [33]=q1 at *
   generalize cur T q=c at *
   obtain⟨k2,n2,NH,NI,NJ,sX,a2,C7,zV⟩:=x1
   simp only[Tk.cells]at et
   simp only[E.row,Int.cast_ofNat_Int]at e1
   simp[-ax,-ah,Qb,et,em,en,h1,h2,hc,eo,e1,adk,Lc,tY,adl,af,AV.view,AV.au,AV.ai,Em,E.row,E.rows]
  |false=>
   rw[h1,h2]at h
   simp only[Bool.or_self,Bool.false_eq_true,if_false]at h
   obtain⟨⟨x1,x2⟩,h3,h4⟩:=Option.bind_eq_some_iff.1 h
   obtain⟨kv,hk,hv,e1⟩:=hF _ _ _ h3
   have e3:=hB _ _ _ _ h4 kv hk hv
   obtain⟨k2,n2,NH,NI,NJ,sX,a2,C7,zV⟩:=e
   have Sy:=bD hk
   have Z7:=bC hk
   simp only[E.row]at e3 ⊢
   generalize qE x1 kv=R at *
   generalize cur T q=c at *
   simp only[Tk.cells]at et
   simp[-ax,-ah,Qb,et,em,en,h1,h2,e1,e3,af,AV.au,AV.ai]
theorem MX (f:Nat)(hE:∀g,g<=f->Wo l T g)(hU:OkU l T f):Wo l T (f+1):=by
 intro n q e r hn h aa
 have hlen:=hT.len
 unfold iw at h
 refine ay (sf:=s96) rfl rfl rfl ?_
 by_cases hn5:n=5
 ·subst hn5
  rw[if_pos rfl]at h
  have e1:=hU _ _ _ h
  obtain⟨k2,n2,NH,NI,NJ,sX,a2,C7,zV⟩:=e
  simp only[E.row]at e1 ⊢
  simp[-ax,-ah,s96,e1,af,AV.au,AV.ai]
 ·rw[if_neg hn5]at h
  obtain⟨⟨x1,x2⟩,h1,h2⟩:=Option.bind_eq_some_iff.1 h
  have ahX:¬(n:Int)=5:=by omega
  have Wp:IntKind.i64.wrap ((n:Int)+1)=((n+1:Nat):Int):=by rw[wrap64]<;>omega
  have e1:=hE f (Nat.le_refl _) (n+1) _ _ _ (by omega) h1
  have cR:∀e:E,e.row=[.int .i64 e.k,.int .i64 e.n,.str e.nm,.str e.on,.int .i64 e.od,aY e.kids,.int .i64 e.a,.int .i64 e.ty.b,.int .i64 e.ty.r,.int .i64 e.ty.d,.int .i64 e.ref]:=E.aH
  simp only[cR,Int.natCast_add,Int.cast_ofNat_Int]at e1
  simp[-ax,-ah,s96,ahX,Wp,e1,af]
  refine bu Qa.eq_1 (λx:RQ×E×Nat×List AV×List AV=>⟨[(0,.val (.ptr 0 0 0 0)),(1,.val (.int .i64 n)),(4,.fp 0 0),(5,.fp 1 0)],
    [[.int .i64 0,.int .i64 0,.str [],.str [],.int .i64 0,.U,.int .i64 0,.int .i64 0,.int .i64 0,.int .i64 0,.int .i64 0],
     [.int .i64 x.2.1.k,.int .i64 x.2.1.n,.str x.2.1.nm,.str x.2.1.on,.int .i64 x.2.1.od,aY x.2.1.kids,.int .i64 x.2.1.a,.int .i64 x.2.1.ty.b,.int .i64 x.2.1.ty.r,.int .i64 x.2.1.ty.d,.int .i64 x.2.1.ref],x.2.2.2.1,x.2.2.2.2],[RQ.obj l x.1]⟩)
   (λx=>x.2.2.1<=f/\mR T x.2.2.1 n x.2.1 x.1=some (e,r)) (λx=>x.2.2.1) (x2,x1,f,[],[]) rfl ⟨Nat.le_refl _,h2⟩ ?_
  rintro⟨s,a,g,b2,b3⟩ ⟨hg,hp⟩ MY
  simp only at hg hp MY
  have eo:=λaa=>xR (l:=l) aa s
  have et:=λaa=>lq hT aa s
  have elp:=λwl aa=>HR wl aa n (by omega) (cur T s) [RQ.obj l s]
  cases g with
  |zero=>simp[mR]at hp
  |succ g=>
   unfold mR at hp
   by_cases S1:s.fe=0/\sx n (cur T s)≠0
   ·rw[if_pos S1]at hp
    obtain⟨f0,z0⟩:=S1
    obtain⟨⟨y1,y2⟩,h3,h4⟩:=Option.bind_eq_some_iff.1 hp
    have I7:=xF z0
    have hw:IntKind.i64.wrap ((s.at_:Int)+1)=((s.at_+1:Nat):Int):=by rw[wrap64]<;>omega
    have e3:=hE g (by omega) (n+1) _ _ _ (by omega) h3
    have adm:=λwl aa st=>HR wl aa n (by omega) (cur T s) st
    simp only[cR,Int.natCast_add,Int.cast_ofNat_Int]at e3
    have HT:E.rows [a,y1]=[a.row,y1.row]:=by simp[E.rows]
    simp only[cR]at HT
    generalize sx n (cur T s)=z at *
    have fD:=λb2 b3=>MY (y2,Em z 0 [] [] 0 [a,y1] (cur T s).a,g,b2,b3) ⟨by simp only;omega,h4⟩ (by simp only;omega)
    generalize cur T s=c at *
    simp only[Tk.cells]at et elp adm
    simp[-ax,-ah,eo,f0,et,adm,z0,pP,ko,hw,Wp,e3,af,AV.view,aA,az]
    have:=fD [.int .i64 c.k,.str c.t,.int .i64 c.n,.int .i64 c.a] [.int .i64 y1.k,.int .i64 y1.n,.str y1.nm,.str y1.on,.int .i64 y1.od,aY y1.kids,.int .i64 y1.a,.int .i64 y1.ty.b,.int .i64 y1.ty.r,.int .i64 y1.ty.d,.int .i64 y1.ref]
    simp only[Em,E.k,E.n,E.nm,E.on,E.od,E.kids,E.a,E.ty,E.ref]at this
    simp only[show aY [a,y1]=.cU 11 (E.rows [a,y1]) from rfl,HT]at this
    exact this
   ·rw[if_neg S1]at hp
    simp only[Option.some.injEq,Prod.mk.injEq]at hp
    obtain⟨rfl,rfl⟩:=hp
    rw[cR]
    generalize sx n (cur T s)=z at *
    generalize cur T s=c at *
    simp only[Tk.cells]at et elp
    by_cases f0:s.fe=0
    ·have z0:z=0:=Classical.byContradiction λh=>S1 ⟨f0,h⟩
     subst z0
     simp[-ax,-ah,eo,f0,et,elp,af,AV.au,AV.ai]
    ·simp[-ax,-ah,eo,f0,af,AV.au,AV.ai]
theorem QT:∀f,Wo l T f/\OkU l T f/\OkF l T f/\sI l T f/\OkN l T f/\OkA l T f:=by
 intro f
 induction f using Nat.strongRecOn with
 |_ f ih=>
  cases f with
  |zero=>
   refine⟨?_,?_,?_,?_,?_,?_⟩
   ·intro n q e r _ h;simp[iw]at h
   ·intro q e r h;simp[nZ]at h
   ·intro q e r h;simp[n5]at h
   ·intro q e r h;simp[l9]at h
   ·intro a q e r h;simp[n6]at h
   ·intro q e r h;simp[sS]at h
  |succ f=>
   obtain⟨hE,hU,hF,hI,hN,hA⟩:=ih f (by omega)
   have hEl:∀g,g<=f->Wo l T g:=λg h=>(ih g (by omega)).1
   exact⟨MX hT f hEl hU,QS hT f hE hF (MW hT f λg h=>hEl g (by omega)),QO hT f hN hI hA,QM hT f hE,QN hT f hI,UQ hT f hEl⟩
theorem gG {f n:Nat}{q r:RQ}{e:E}(hn:n<=5)(h:iw T f n q=some (e,r))(aa:Nat):(aU S).call 0 aa 96 [.ptr 0 0 0 0,.int .i64 (n:Nat)] [q.obj l]=some (.agg e.row,[r.obj l]):=(QT hT f).1 n q e r hn h aa
end
end N7
namespace N7
open Ax Go aT V7 lP
def ya (l:AV)(T:List Tk)(f:Nat):Prop:=∀q s r,sU T f q=some (s,r)->∀aa,(aU S).call 0 aa 74 [.ptr 0 0 0 0] [q.obj l]=some (.agg s.row,[r.obj l])
def OkK (l:AV)(T:List Tk)(f:Nat):Prop:=∀q s r,ji T f q=some (s,r)->∀aa,(aU S).call 0 aa 40 [.ptr 0 0 0 0] [q.obj l]=some (cp 9 (Sm.rows s),[r.obj l])
section
variable {l:AV}{T:List Tk}(hT:TL l T)
include hT
theorem YE {f:Nat}{q r:RQ}{e:E}(h:iw T f 0 q=some (e,r))(aa:Nat) :
  (aU S).call 0 aa 96 [.ptr 0 0 0 0,.int .i64 0] [q.obj l]=some (.agg [.int .i64 e.k,.int .i64 e.n,.str e.nm,.str e.on,.int .i64 e.od,aY e.kids,.int .i64 e.a,.int .i64 e.ty.b,.int .i64 e.ty.r,.int .i64 e.ty.d,.int .i64 e.ref],[r.obj l]):=by
 have:=gG hT (n:=0) (by omega) h aa
 rw[E.aH]at this
 exact this
theorem QU {f:Nat}{a0:Int}{q r:RQ}{s:Sm}(h:qD T f a0 q=some (s,r))(aa:Nat) :
  (aU S).call 0 aa 97 [.ptr 0 0 0 0,.agg [.int .i64 0,.str [],.str [],.int .i64 0,.U,.U,.U,.int .i64 a0,.int .i64 0]] [q.obj l]=some (.agg s.row,[r.obj l]):=by
 have hlen:=hT.len
 unfold qD at h
 obtain⟨⟨x,r1⟩,h1,h2⟩:=Option.bind_eq_some_iff.1 h
 dsimp only at h2
 have e1:=YE hT h1
 have ei:=λaa s hs=>jk hT aa r1 s hs
 have ef:=λaa=>dQ hT aa r1 2
 have kN:E.rows [x]=[[.int .i64 x.k,.int .i64 x.n,.str x.nm,.str x.on,.int .i64 x.od,aY x.kids,.int .i64 x.a,.int .i64 x.ty.b,.int .i64 x.ty.r,.int .i64 x.ty.d,.int .i64 x.ref]]:=by simp[E.rows,E.aH]
 refine ay (sf:=Wg) rfl rfl rfl ?_
 cases h3:gf T r1 [61] with
 |false=>
  rw[h3]at h2
  simp only[Bool.false_eq_true,if_false,Option.some.injEq,Prod.mk.injEq]at h2
  obtain⟨rfl,rfl⟩:=h2
  by_cases h4:gf T r1 [59]=true/\x.k≠7
  ·rw[if_pos h4]
   obtain⟨h4,h5⟩:=h4
   have et:=λaa=>eA hT aa (iu T r1 2) [59] (by simp)
   simp[-ax,-ah,Wg,e1,ei,h3,h4,h5,ef,et,af,AV.view,AV.au,AV.ai,Sm.row,aY,kN,Sm.rows]
  ·rw[if_neg h4]
   have et:=λaa=>eA hT aa r1 [59] (by simp)
   cases UR:gf T r1 [59] with
   |false=>
    simp[-ax,-ah,Wg,e1,ei,h3,UR,et,af,AV.view,AV.au,AV.ai,Sm.row,aY,kN,Sm.rows]
   |true=>
    have h5:x.k=7:=Classical.byContradiction λh=>h4 ⟨UR,h⟩
    rw[h5]at e1 kN
    simp[-ax,-ah,Wg,e1,ei,h3,UR,et,af,AV.view,AV.au,AV.ai,Sm.row,aY,kN,Sm.rows]
 |true=>
  rw[h3]at h2
  simp only[if_true]at h2
  obtain⟨⟨y,r2⟩,h4,h5⟩:=Option.bind_eq_some_iff.1 h2
  have e2:=YE hT h4
  have Fj:=λaa=>eA hT aa r2 [59] (by simp)
  have hry:E.rows [y]=[[.int .i64 y.k,.int .i64 y.n,.str y.nm,.str y.on,.int .i64 y.od,aY y.kids,.int .i64 y.a,.int .i64 y.ty.b,.int .i64 y.ty.r,.int .i64 y.ty.d,.int .i64 y.ref]]:=by simp[E.rows,E.aH]
  have YF:E.rows [x,y]=[[.int .i64 x.k,.int .i64 x.n,.str x.nm,.str x.on,.int .i64 x.od,aY x.kids,.int .i64 x.a,.int .i64 x.ty.b,.int .i64 x.ty.r,.int .i64 x.ty.d,.int .i64 x.ref],[.int .i64 y.k,.int .i64 y.n,.str y.nm,.str y.on,.int .i64 y.od,aY y.kids,.int .i64 y.a,.int .i64 y.ty.b,.int .i64 y.ty.r,.int .i64 y.ty.d,.int .i64 y.ref]]:=by simp[E.rows,E.aH]
  by_cases c4:x.k=4
  ·rw[if_pos (.inl c4)]at e2
   have et:=λaa=>eA hT aa r1 [61] (by simp)
   simp only[if_pos c4,Option.some.injEq,Prod.mk.injEq]at h5
   obtain⟨rfl,rfl⟩:=h5
   rw[c4]at e1
   simp[-ax,-ah,Wg,e1,ei,h3,et,e2,Fj,af,AV.view,AV.au,AV.ai,Sm.row,aY,hry,Sm.rows]
  ·simp only[if_neg c4,Option.some.injEq,Prod.mk.injEq]at h5
   obtain⟨rfl,rfl⟩:=h5
   by_cases c5:x.k=5\/x.k=6
   ·rw[if_pos (.inr c5)]at e2
    have et:=λaa=>eA hT aa r1 [61] (by simp)
    rcases c5 with c5|c5<;>
    ·rw[c5]at e1 YF
     simp[-ax,-ah,Wg,e1,ei,h3,et,e2,Fj,af,AV.view,AV.au,AV.ai,Sm.row,aY,YF,Sm.rows]
   ·have c5':x.k≠5:=λh=>c5 (.inl h)
    have c6':x.k≠6:=λh=>c5 (.inr h)
    rw[if_neg (λh=>h.elim c4 c5)]at e2
    have et:=λaa=>eA hT aa (iu T r1 2) [61] (by simp)
    simp[-ax,-ah,Wg,e1,ei,h3,ef,et,e2,Fj,c4,c5',c6',af,AV.view,AV.au,AV.ai,Sm.row,aY,YF,Sm.rows]
theorem iO (f:Nat)(hS:∀g,g<f->ya l T g):OkK l T (f+1):=by
 intro q s r h aa
 have hlen:=hT.len
 have eo:=λaa=>pO hT aa q [123] (by simp)
 unfold ji at h
 refine ay (sf:=s40) rfl rfl rfl ?_
 generalize iR T q [123]=q1 at *
 simp[-ax,-ah,s40,eo]
 refine bu PM.eq_1 (λx:RQ×List Sm×Nat=>⟨[(0,.val (.ptr 0 0 0 0)),(3,.val (cp 9 (Sm.rows x.2.1)))],[],[RQ.obj l x.1]⟩)
  (λx=>x.2.2<=f/\x.2.1.length<=T.length+1/\(x.1.fe=0->x.2.1.length<=x.1.at_/\x.2.1.length<=T.length)/\mS T x.2.2 x.2.1 x.1=some (s,r)) (λx=>x.2.2) (q1,[],f) rfl ⟨Nat.le_refl _,by simp,by simp,h⟩ ?_
 rintro⟨u,ss,g⟩ ⟨hg,MU,Wq,hp⟩ ih
 simp only at hg MU Wq hp ih
 have ek:=λaa=>xR (l:=l) aa u
 have ei:=λaa=>jk hT aa u [125] (by simp)
 cases g with
 |zero=>simp[mS]at hp
 |succ g=>
  unfold mS at hp
  have ec:=λaa=>oS hT aa u [125] (by simp)
  by_cases f0:u.fe=0
  ·cases hi:gf T u [125] with
   |true=>
    rw[if_neg (by rw[hi];simp)]at hp
    simp only[Option.some.injEq,Prod.mk.injEq]at hp
    obtain⟨rfl,rfl⟩:=hp
    simp[-ax,-ah,ek,f0,ei,hi,ec]
   |false=>
    rw[if_pos ⟨f0,hi⟩]at hp
    obtain⟨⟨x,r2⟩,h1,h2⟩:=Option.bind_eq_some_iff.1 hp
    have e2:=hS g (by omega) _ _ _ h1
    obtain⟨g2,w2⟩:=(pH T g).1 _ _ _ h1
    have adn:=Wq f0
    have hle:=g2.le
    have C9:=fL (sz:=9) (bytes:=136) (r:=Sm.rows ss) (new:=[x.row]) (by simp[fits,Sm.aH]) (by simp[room,gr];omega)
    have YD:Sm.rows ss++[x.row]=Sm.rows (ss++[x]):=by simp[gr]
    rw[YD]at C9
    have fD:=ih (r2,ss++[x],g) ⟨by simp only;omega,by simp;omega,λf=>by
     rcases w2 with w|⟨w,v⟩
     ·exact absurd f w
     ·simp;omega,h2⟩ (by simp only;omega)
    simp only at fD
    generalize Sm.rows (ss++[x])=R at *
    rw[Sm.aH]at e2 C9
    simp[-ax,-ah,ek,f0,ei,hi,e2,C9,AV.view]
    exact fD
  ·rw[if_neg (λh=>f0 h.1)]at hp
   simp only[Option.some.injEq,Prod.mk.injEq]at hp
   obtain⟨rfl,rfl⟩:=hp
   simp[-ax,-ah,ek,f0,ec]
theorem sJ (f:Nat)(hK:OkK l T f):ya l T (f+1):=by
 intro q s r h aa
 have hlen:=hT.len
 have et:=λaa=>lq hT aa q
 have ei:=λaa s hs=>jk hT aa q s hs
 have UO:=λs (h:gf T q s=true)=>DS h
 have DC:∀s,gf T q s=true->IntKind.i64.wrap ((q.at_:Int)+1)=((q.at_+1:Nat):Int):=λs h=>by
  have:=(bg h).2
  rw[wrap64]<;>omega
 unfold sU at h
 refine ay (sf:=P1) rfl rfl rfl ?_
 have en:=λaa=>l8 hT aa (bE q)
 have ec:=λaa=>eA hT aa (cY T (bE q)).2 [58] (by simp)
 have eo:=λaa=>HQ hT aa (cJ T (cY T (bE q)).2 [58])
 have Sl:cZ T (bE q)=(⟨(cY T (bE q)).1,(vQ T (cJ T (cY T (bE q)).2 [58])).1.1,(vQ T (cJ T (cY T (bE q)).2 [58])).1.2,(cur T (bE q)).a⟩,(vQ T (cJ T (cY T (bE q)).2 [58])).2):=rfl
 rw[Sl]at h
 generalize vQ T (cJ T (cY T (bE q)).2 [58])=o at *
 generalize cJ T (cY T (bE q)).2 [58]=q2 at *
 generalize cY T (bE q)=z at *
 clear Sl
 have LX:=λs r (h:qD T f (cur T q).a q=some (s,r))=>QU hT h
 generalize hc:cur T q=c at *
 simp only[Tk.cells]at et
 cases h1:gf T q [118,97,114] with
 |true=>
  rw[h1]at h
  simp only[if_true,Option.some.injEq,Prod.mk.injEq]at h
  obtain⟨rfl,rfl⟩:=h
  have ht:=UO _ h1
  have hw:=DC _ h1
  have e4:=λaa=>eA hT aa o.2 [59] (by simp)
  simp[-ax,-ah,P1,et,ei,h1,ht,pP,ko,hw,en,ec,eo,e4,af,AV.view,AV.au,AV.ai,Sm.row,oA,Sm.rows]
 |false=>
 rw[h1]at h
 simp only[Bool.false_eq_true,if_false]at h
 cases h2:gf T q [108,101,116] with
 |true=>
  rw[h2]at h
  simp only[if_true]at h
  obtain⟨⟨x,r5⟩,h8,h9⟩:=Option.bind_eq_some_iff.1 h
  simp only[Option.some.injEq,Prod.mk.injEq]at h9
  obtain⟨rfl,rfl⟩:=h9
  have ht:=UO _ h2
  have hw:=DC _ h2
  have e4:=λaa=>eA hT aa o.2 [61] (by simp)
  have e5:=YE hT h8
  have e6:=λaa=>eA hT aa r5 [59] (by simp)
  have kN:E.rows [x]=[[.int .i64 x.k,.int .i64 x.n,.str x.nm,.str x.on,.int .i64 x.od,aY x.kids,.int .i64 x.a,.int .i64 x.ty.b,.int .i64 x.ty.r,.int .i64 x.ty.d,.int .i64 x.ref]]:=by simp[E.rows,E.aH]
  simp[-ax,-ah,P1,et,ei,h1,h2,ht,pP,ko,hw,en,ec,eo,e4,e5,e6,af,AV.view,AV.au,AV.ai,Sm.row,Sm.rows]
  simp[aY,kN]
 |false=>
 rw[h2]at h
 simp only[Bool.false_eq_true,if_false]at h
 cases h3:gf T q [105,102] with
 |true=>
  rw[h3]at h
  simp only[if_true]at h
  obtain⟨⟨x,r5⟩,h8,h9⟩:=Option.bind_eq_some_iff.1 h
  obtain⟨⟨y,r6⟩,wW,vV⟩:=Option.bind_eq_some_iff.1 h9
  have hw:=DC _ h3
  have e5:=YE hT h8
  have e6:=hK _ _ _ wW
  have hv:aG (cp 9 (Sm.rows y))=true:=dm
  have QV:(cp 9 (Sm.rows y)).view=aD 9 (Sm.rows y):=rfl
  have kN:E.rows [x]=[[.int .i64 x.k,.int .i64 x.n,.str x.nm,.str x.on,.int .i64 x.od,aY x.kids,.int .i64 x.a,.int .i64 x.ty.b,.int .i64 x.ty.r,.int .i64 x.ty.d,.int .i64 x.ref]]:=by simp[E.rows,E.aH]
  generalize cp 9 (Sm.rows y)=vy at *
  have CX:=bD hv
  have MZ:=bC hv
  have ej:=λaa=>jk hT aa r6 [101,108,115,101] (by simp)
  dsimp only at vV
  cases h4:gf T r6 [101,108,115,101] with
  |false=>
   rw[h4]at vV
   simp only[Bool.false_eq_true,if_false,Option.some.injEq,Prod.mk.injEq]at vV
   obtain⟨rfl,rfl⟩:=vV
   simp[-ax,-ah,P1,et,ei,h1,h2,h3,pP,ko,hw,e5,e6,ej,h4,hv,QV,af,AV.view,AV.au,AV.ai,Sm.row,Sm.rows]
   simp[aY,kN]
  |true=>
   rw[h4]at vV
   simp only[if_true]at vV
   obtain⟨⟨w,r8⟩,CO,Ap⟩:=Option.bind_eq_some_iff.1 vV
   simp only[Option.some.injEq,Prod.mk.injEq]at Ap
   obtain⟨rfl,rfl⟩:=Ap
   have hw6:IntKind.i64.wrap ((r6.at_:Int)+1)=((r6.at_+1:Nat):Int):=by
    have:=(bg h4).2
    rw[wrap64]<;>omega
   have e8:=hK _ _ _ CO
   have hu:aG (cp 9 (Sm.rows w))=true:=dm
   have huv:(cp 9 (Sm.rows w)).view=aD 9 (Sm.rows w):=rfl
   generalize cp 9 (Sm.rows w)=vw at *
   have huc:=bD hu
   have hup:=bC hu
   simp[-ax,-ah,P1,et,ei,h1,h2,h3,pP,ko,hw,hw6,e5,e6,ej,h4,e8,hv,QV,hu,huv,af,AV.view,AV.au,AV.ai,Sm.row]
   simp[aY,kN]
 |false=>
 rw[h3]at h
 simp only[Bool.false_eq_true,if_false]at h
 cases h4:gf T q [119,104,105,108,101] with
 |true=>
  rw[h4]at h
  simp only[if_true]at h
  obtain⟨⟨x,r5⟩,h8,h9⟩:=Option.bind_eq_some_iff.1 h
  obtain⟨⟨y,r6⟩,wW,vV⟩:=Option.bind_eq_some_iff.1 h9
  simp only[Option.some.injEq,Prod.mk.injEq]at vV
  obtain⟨rfl,rfl⟩:=vV
  have hw:=DC _ h4
  have e5:=YE hT h8
  have e6:=hK _ _ _ wW
  have hv:aG (cp 9 (Sm.rows y))=true:=dm
  have QV:(cp 9 (Sm.rows y)).view=aD 9 (Sm.rows y):=rfl
  have kN:E.rows [x]=[[.int .i64 x.k,.int .i64 x.n,.str x.nm,.str x.on,.int .i64 x.od,aY x.kids,.int .i64 x.a,.int .i64 x.ty.b,.int .i64 x.ty.r,.int .i64 x.ty.d,.int .i64 x.ref]]:=by simp[E.rows,E.aH]
  generalize cp 9 (Sm.rows y)=vy at *
  have CX:=bD hv
  have MZ:=bC hv
  simp[-ax,-ah,P1,et,ei,h1,h2,h3,h4,pP,ko,hw,e5,e6,hv,QV,af,AV.view,AV.au,AV.ai,Sm.row,Sm.rows]
  simp[aY,kN]
 |false=>
 rw[h4]at h
 simp only[Bool.false_eq_true,if_false]at h
 cases h5:gf T q [114,101,116,117,114,110] with
 |true=>
  rw[h5]at h
  simp only[if_true]at h
  have hw:=DC _ h5
  have ej:=λaa=>jk hT aa (bE q) [59] (by simp)
  cases h6:gf T (bE q) [59] with
  |true=>
   rw[h6]at h
   simp only[if_true,Option.some.injEq,Prod.mk.injEq]at h
   obtain⟨rfl,rfl⟩:=h
   have e4:=λaa=>eA hT aa (bE q) [59] (by simp)
   simp[-ax,-ah,P1,et,ei,h1,h2,h3,h4,h5,pP,ko,hw,ej,h6,e4,af,AV.view,AV.au,AV.ai,Sm.row,oA,Sm.rows]
  |false=>
   rw[h6]at h
   simp only[Bool.false_eq_true,if_false]at h
   obtain⟨⟨x,r5⟩,h8,h9⟩:=Option.bind_eq_some_iff.1 h
   simp only[Option.some.injEq,Prod.mk.injEq]at h9
   obtain⟨rfl,rfl⟩:=h9
   have e5:=YE hT h8
   have e4:=λaa=>eA hT aa r5 [59] (by simp)
   have kN:E.rows [x]=[[.int .i64 x.k,.int .i64 x.n,.str x.nm,.str x.on,.int .i64 x.od,aY x.kids,.int .i64 x.a,.int .i64 x.ty.b,.int .i64 x.ty.r,.int .i64 x.ty.d,.int .i64 x.ref]]:=by simp[E.rows,E.aH]
   simp[-ax,-ah,P1,et,ei,h1,h2,h3,h4,h5,pP,ko,hw,ej,h6,e5,e4,af,AV.view,AV.au,AV.ai,Sm.row,Sm.rows]
   simp[aY,kN]
 |false=>
 rw[h5]at h
 simp only[Bool.false_eq_true,if_false]at h
 cases h6:gf T q [112,114,105,110,116] with
 |true=>
  rw[h6]at h
  simp only[if_true]at h
  obtain⟨⟨x,r5⟩,h8,h9⟩:=Option.bind_eq_some_iff.1 h
  simp only[Option.some.injEq,Prod.mk.injEq]at h9
  obtain⟨rfl,rfl⟩:=h9
  have hw:=DC _ h6
  have e5:=YE hT h8
  have e4:=λaa=>eA hT aa r5 [59] (by simp)
  have kN:E.rows [x]=[[.int .i64 x.k,.int .i64 x.n,.str x.nm,.str x.on,.int .i64 x.od,aY x.kids,.int .i64 x.a,.int .i64 x.ty.b,.int .i64 x.ty.r,.int .i64 x.ty.d,.int .i64 x.ref]]:=by simp[E.rows,E.aH]
  simp[-ax,-ah,P1,et,ei,h1,h2,h3,h4,h5,h6,pP,ko,hw,e5,e4,af,AV.view,AV.au,AV.ai,Sm.row,Sm.rows]
  simp[aY,kN]
 |false=>
  rw[h6]at h
  simp only[Bool.false_eq_true,if_false]at h
  have e1:=LX _ _ h
  rw[Sm.aH]at e1 ⊢
  simp[-ax,-ah,P1,et,ei,h1,h2,h3,h4,h5,h6,e1,af,AV.view,AV.au,AV.ai]
theorem QW:∀f,ya l T f/\OkK l T f:=by
 intro f
 induction f using Nat.strongRecOn with
 |_ f ih=>
  cases f with
  |zero=>
   refine⟨?_,?_⟩
   ·intro q e r h;simp[sU]at h
   ·intro q e r h;simp[ji]at h
  |succ f=>
   exact⟨sJ hT f (ih f (by omega)).2,iO hT f λg h=>(ih g (by omega)).1⟩
theorem Fk {f:Nat}{q r:RQ}{s:List Sm}(h:ji T f q=some (s,r))(aa:Nat):(aU S).call 0 aa 40 [.ptr 0 0 0 0] [q.obj l]=some (cp 9 (Sm.rows s),[r.obj l]):=(QW hT f).2 q s r h aa
end
end N7
namespace N7
open Ax Go aT V7 lP
section
variable {l:AV}{T:List Tk}(hT:TL l T)
include hT
theorem M0 {f:Nat}{q rr:RQ}{rc:Rc}(h:oB T f q=some (rc,rr))(aa:Nat):(aU S).call 0 aa 16 [.ptr 0 0 0 0] [q.obj l]=some (.agg rc.row,[rr.obj l]):=by
 have hlen:=hT.len
 have et:=λaa=>lq hT aa q
 have en:=λaa=>l8 hT aa q
 have e2:=λaa=>eA hT aa (cY T q).2 [123] (by simp)
 unfold oB at h
 obtain⟨⟨fs,r0⟩,h1,h2⟩:=Option.bind_eq_some_iff.1 h
 simp only[Option.some.injEq,Prod.mk.injEq]at h2
 obtain⟨rfl,rfl⟩:=h2
 generalize cJ T (cY T q).2 [123]=q2 at *
 generalize cY T q=z at *
 generalize cur T q=c at *
 simp only[Tk.cells]at et
 refine ay (sf:=s16) rfl rfl rfl ?_
 simp[-ax,-ah,s16,et,en,e2,af,AV.view]
 refine bu Pr.eq_1 (λx:RQ×List PD×Nat=>⟨[(0,.val (.ptr 0 0 0 0)),(2,.fp 0 0),(3,.fp 1 0)],[[.str [],.U,.int .i64 0],[.str z.1,cp 4 (x.2.1.map PD.cells),.int .i64 c.a]],[RQ.obj l x.1]⟩)
  (λx=>x.2.1.length<=T.length+1/\(x.1.fe=0->x.2.1.length<=x.1.at_/\x.2.1.length<=T.length)/\kE T x.2.2 x.2.1 x.1=some (fs,r0)) (λx=>x.2.2) (q2,[],f) rfl ⟨by simp,by simp,h1⟩ ?_
 rintro⟨s,ps,g⟩ ⟨MU,Wq,hp⟩ ih
 simp only at MU Wq hp ih
 have ek:=λaa=>xR (l:=l) aa s
 have ei:=λaa=>jk hT aa s [125] (by simp)
 have ec:=λaa=>eA hT aa r0 [125] (by simp)
 cases g with
 |zero=>simp[kE]at hp
 |succ g=>
  unfold kE at hp
  by_cases f0:s.fe=0
  ·cases hi:gf T s [125] with
   |true=>
    rw[if_neg (by rw[hi];simp)]at hp
    simp only[Option.some.injEq,Prod.mk.injEq]at hp
    obtain⟨rfl,rfl⟩:=hp
    simp[-ax,-ah,ek,f0,ei,hi,ec,af,AV.view,AV.au,AV.ai,Rc.row,aD]
   |false=>
    rw[if_pos ⟨f0,hi⟩]at hp
    have Fj:=λaa=>lq hT aa s
    have adn:=Wq f0
    have e3:=λaa=>Cc hT aa s
    have e4:=λaa=>eA hT aa (cZ T s).2 [59] (by simp)
    simp only[PD.cells]at e3
    have oz:=fL (sz:=4) (bytes:=48) (r:=ps.map PD.cells) (new:=[(cZ T s).1.cells]) (by simp[fits,PD.cells]) (by simp[room];omega)
    have w2:=(sC (T:=T) (q:=s)).trans (aW (s:=[59]))
    have YG:=(g9 (T:=T) (q:=s)).trans (aW (s:=[59]))
    by_cases h8:(cur T s).k=1/\ps.length=8
    ·rw[if_pos h8]at hp
     simp only[Option.some.injEq,Prod.mk.injEq]at hp
     obtain⟨rfl,rfl⟩:=hp
     have ef:=λaa=>dQ hT aa s 4
     obtain⟨h8,h9⟩:=h8
     generalize cur T s=c2 at *
     simp only[Tk.cells,h8]at Fj
     simp[-ax,-ah,ek,f0,ei,hi,Fj,h9,ef,ec,af,AV.view,AV.au,AV.ai,Rc.row,aD]
    ·rw[if_neg h8]at hp
     have fD:=ih (cJ T (cZ T s).2 [59],ps++[(cZ T s).1],g) ⟨by simp;omega,λf=>by
      have hle:=YG.le
      rcases w2 with w|⟨w,v⟩
      ·exact absurd f w
      ·simp;omega,hp⟩ (by simp only;omega)
     simp only[List.map_append,List.map_cons,List.map_nil]at fD
     generalize cJ T (cZ T s).2 [59]=s4 at *
     generalize cZ T s=p at *
     generalize cur T s=c2 at *
     simp only[PD.cells]at oz fD
     simp only[Tk.cells]at Fj
     by_cases hk:c2.k=1
     ·have h9:¬(ps.length:Int)=8:=λh=>h8 ⟨hk,by omega⟩
      simp[-ax,-ah,ek,f0,ei,hi,Fj,hk,h9,e3,e4,oz,aB,aI,af,AV.view,AV.au,AV.ai]
      exact fD
     ·simp[-ax,-ah,ek,f0,ei,hi,Fj,hk,e3,e4,oz,aB,aI,af,AV.view,AV.au,AV.ai]
      exact fD
  ·rw[if_neg (λh=>f0 h.1)]at hp
   simp only[Option.some.injEq,Prod.mk.injEq]at hp
   obtain⟨rfl,rfl⟩:=hp
   simp[-ax,-ah,ek,f0,ec,af,AV.view,AV.au,AV.ai,Rc.row,aD]
def tl:bG->bG
 |.seq _ b=>b
 |c=>c
theorem US {f:Nat}{q rr:RQ}{fc:Fc}(h:tZ T f q=some (fc,rr))(aa:Nat):(aU S).call 0 aa 19 [.ptr 0 0 0 0] [q.obj l]=some (.agg fc.row,[rr.obj l]):=by
 have hlen:=hT.len
 have et:=λaa=>lq hT aa q
 have en:=λaa=>l8 hT aa q
 have e2:=λaa=>eA hT aa (cY T q).2 [40] (by simp)
 unfold tZ at h
 obtain⟨⟨fs,r0⟩,h1,h2⟩:=Option.bind_eq_some_iff.1 h
 dsimp only at h2
 generalize cJ T (cY T q).2 [40]=q2 at *
 generalize cY T q=z at *
 generalize cur T q=c at *
 simp only[Tk.cells]at et
 refine ay (sf:=X2) rfl rfl rfl ?_
 simp[-ax,-ah,X2,et,en,e2,af,AV.view]
 refine bu Pu.eq_1 (λx:RQ×List PD×Nat=>⟨[(0,.val (.ptr 0 0 0 0)),(2,.fp 0 0),(3,.fp 1 0)],[[.str [],.U,.bool false,.str [],.int .i64 0,.U,.int .i64 0],[.str z.1,cp 4 (x.2.1.map PD.cells),.bool false,.str [],.int .i64 0,.U,.int .i64 c.a]],[RQ.obj l x.1]⟩)
  (λx=>x.2.1.length<=T.length+1/\(x.1.fe=0->x.2.1.length<=x.1.at_/\x.2.1.length<=T.length)/\kF T x.2.2 x.2.1 x.1=some (fs,r0)) (λx=>x.2.2) (q2,[],f) rfl ⟨by simp,by simp,h1⟩ ?_
 rintro⟨s,ps,g⟩ ⟨MU,Wq,hp⟩ ih
 simp only at MU Wq hp ih
 have ek:=λaa=>xR (l:=l) aa s
 have ei:=λaa=>jk hT aa s [41] (by simp)
 have out :
   W S 0 1 [.box 2 0 7 true] (G6 [.box 2 0 7 true] Ax.Mode.lS [RQ.obj l q] (.agg fc.row,[RQ.obj l rr])) [.code (tl (tl (tl (tl (tl X2.body)))))] .normal
    ⟨[(0,.val (.ptr 0 0 0 0)),(2,.fp 0 0),(3,.fp 1 0)],[[.str [],.U,.bool false,.str [],.int .i64 0,.U,.int .i64 0],[.str z.1,cp 4 (fs.map PD.cells),.bool false,.str [],.int .i64 0,.U,.int .i64 c.a]],[RQ.obj l r0]⟩:=by
  have e4:=λaa=>eA hT aa r0 [41] (by simp)
  generalize cJ T r0 [41]=r4 at *
  have e5:=λaa=>jk hT aa r4 [58] (by simp)
  cases h5:gf T r4 [58] with
  |false=>
   rw[h5]at h2
   simp only[Bool.false_eq_true,if_false]at h2
   obtain⟨⟨b,r6⟩,h6,h7⟩:=Option.bind_eq_some_iff.1 h2
   simp only[Option.some.injEq,Prod.mk.injEq]at h7
   obtain⟨rfl,rfl⟩:=h7
   have e6:=Fk hT h6
   have hv:aG (cp 9 (Sm.rows b))=true:=dm
   have QV:(cp 9 (Sm.rows b)).view=bz b:=rfl
   generalize cp 9 (Sm.rows b)=vb at *
   have CX:=bD hv
   have MZ:=bC hv
   simp[-ax,-ah,X2,tl,e4,e5,h5,e6,hv,QV,af,AV.view,AV.au,AV.ai,Fc.row,aD]
  |true=>
   rw[h5]at h2
   simp only[if_true]at h2
   obtain⟨⟨b,r6⟩,h6,h7⟩:=Option.bind_eq_some_iff.1 h2
   simp only[Option.some.injEq,Prod.mk.injEq]at h7
   obtain⟨rfl,rfl⟩:=h7
   have i2:=(bg h5).2
   have hw:IntKind.i64.wrap ((r4.at_:Int)+1)=((r4.at_+1:Nat):Int):=by rw[wrap64]<;>omega
   have e7:=λaa=>HQ hT aa (bE r4)
   generalize vQ T (bE r4)=o at *
   have e6:=Fk hT h6
   have hv:aG (cp 9 (Sm.rows b))=true:=dm
   have QV:(cp 9 (Sm.rows b)).view=bz b:=rfl
   generalize cp 9 (Sm.rows b)=vb at *
   have CX:=bD hv
   have MZ:=bC hv
   simp[-ax,-ah,X2,tl,e4,e5,h5,pP,ko,hw,e7,e6,hv,QV,af,AV.view,AV.au,AV.ai,Fc.row,aD]
 simp only[X2,tl]at out
 cases g with
 |zero=>simp[kF]at hp
 |succ g=>
  unfold kF at hp
  by_cases f0:s.fe=0
  ·cases hi:gf T s [41] with
   |true=>
    rw[if_neg (by rw[hi];simp)]at hp
    simp only[Option.some.injEq,Prod.mk.injEq]at hp
    obtain⟨rfl,rfl⟩:=hp
    simp[-ax,-ah,ek,f0,ei,hi]at out ⊢
    exact out
   |false=>
    rw[if_pos ⟨f0,hi⟩]at hp
    have Fj:=λaa=>lq hT aa s
    have adn:=Wq f0
    have e3:=λaa=>Cc hT aa s
    simp only[PD.cells]at e3
    have oz:=fL (sz:=4) (bytes:=48) (r:=ps.map PD.cells) (new:=[(cZ T s).1.cells]) (by simp[fits,PD.cells]) (by simp[room];omega)
    have w2:=(sC (T:=T) (q:=s)).trans pI
    have YG:=(g9 (T:=T) (q:=s)).trans pI
    by_cases h8:(cur T s).k=1/\ps.length=6
    ·rw[if_pos h8]at hp
     simp only[Option.some.injEq,Prod.mk.injEq]at hp
     obtain⟨rfl,rfl⟩:=hp
     have ef:=λaa=>dQ hT aa s 4
     obtain⟨h8,h9⟩:=h8
     generalize cur T s=c2 at *
     simp only[Tk.cells,h8]at Fj
     simp[-ax,-ah,ek,f0,ei,hi,Fj,h9,ef,AV.view]at out ⊢
     exact out
    ·rw[if_neg h8]at hp
     have fD:=ih (B0 T (cZ T s).2,ps++[(cZ T s).1],g) ⟨by simp;omega,λf=>by
      have hle:=YG.le
      rcases w2 with w|⟨w,v⟩
      ·exact absurd f w
      ·simp;omega,hp⟩ (by simp only;omega)
     simp only[List.map_append,List.map_cons,List.map_nil]at fD
     clear YG w2 hp ih out
     generalize cZ T s=p at *
     have e9:=λaa=>jk hT aa p.2 [41] (by simp)
     have e10:=λaa=>eA hT aa p.2 [44] (by simp)
     have e11:=λaa=>jk hT aa (cJ T p.2 [44]) [41] (by simp)
     have e12:=λaa=>dQ hT aa (cJ T p.2 [44]) 2
     unfold B0 at fD
     generalize cJ T p.2 [44]=s4 at *
     generalize cur T s=c2 at *
     simp only[PD.cells]at oz fD
     simp only[Tk.cells]at Fj
     by_cases hk:c2.k=1
     ·have h9:¬(ps.length:Int)=6:=λh=>h8 ⟨hk,by omega⟩
      cases h3:gf T p.2 [41] with
      |true=>
       rw[h3,if_pos rfl]at fD
       simp[-ax,-ah,ek,f0,ei,hi,Fj,hk,h9,e3,e9,h3,oz,aB,aI,af,AV.view,AV.au,AV.ai]
       exact fD
      |false=>
       rw[h3,if_neg (by simp)]at fD
       cases h4:gf T s4 [41] with
       |true=>
        rw[h4,if_pos rfl]at fD
        simp[-ax,-ah,ek,f0,ei,hi,Fj,hk,h9,e3,e9,h3,e10,e11,h4,e12,oz,aB,aI,af,AV.view,AV.au,AV.ai]
        exact fD
       |false=>
        rw[h4,if_neg (by simp)]at fD
        simp[-ax,-ah,ek,f0,ei,hi,Fj,hk,h9,e3,e9,h3,e10,e11,h4,oz,aB,aI,af,AV.view,AV.au,AV.ai]
        exact fD
     ·cases h3:gf T p.2 [41] with
      |true=>
       rw[h3,if_pos rfl]at fD
       simp[-ax,-ah,ek,f0,ei,hi,Fj,hk,e3,e9,h3,oz,aB,aI,af,AV.view,AV.au,AV.ai]
       exact fD
      |false=>
       rw[h3,if_neg (by simp)]at fD
       cases h4:gf T s4 [41] with
       |true=>
        rw[h4,if_pos rfl]at fD
        simp[-ax,-ah,ek,f0,ei,hi,Fj,hk,e3,e9,h3,e10,e11,h4,e12,oz,aB,aI,af,AV.view,AV.au,AV.ai]
        exact fD
       |false=>
        rw[h4,if_neg (by simp)]at fD
        simp[-ax,-ah,ek,f0,ei,hi,Fj,hk,e3,e9,h3,e10,e11,h4,oz,aB,aI,af,AV.view,AV.au,AV.ai]
        exact fD
  ·rw[if_neg (λh=>f0 h.1)]at hp
   simp only[Option.some.injEq,Prod.mk.injEq]at hp
   obtain⟨rfl,rfl⟩:=hp
   simp[-ax,-ah,ek,f0]at out ⊢
   exact out
end
end N7
namespace N7
open Ax Go aT V7 lP
def ah1 (r:List AV):Tk:=match r with | [.int _ k,.str t,.int _ n,.int _ a]=>⟨k,t,n,a⟩|_=>Tk0
def pQ (rows:List (List AV)):List Tk:=rows.map ah1
def mw (s:List UInt8):Pg×Int×Int:=if s.length<=6000 then match U2.C6 s with
  |(rows,none)=>(sy (pQ rows) (40*(pQ rows).length+100)).getD (Al,0,0)
  |(_,some e)=>(Al,1,e)
 else (Al,4,0)
theorem UT (a:Nat)(l:List UInt8):(U2.qC a l).2≠0->∃x:Tk,(U2.qC a l).1=x.cells/\x.a=a:=by
 have mk:∀k t n,∃x:Tk,U2.tc k t n a=x.cells/\x.a=a:=λk t n=>⟨⟨k,t,n,a⟩,rfl,rfl⟩
 unfold U2.qC
 split
 ·intro h;exact absurd rfl h
 ·split
  ·unfold U2.qj
   split
   ·exact λ_=>mk _ _ _
   ·split
    ·exact λ_=>mk _ _ _
    ·intro h;exact absurd rfl h
  ·split
   ·unfold U2.sj
    split
    ·intro h;exact absurd rfl h
    ·split
     ·intro h;exact absurd rfl h
     ·exact λ_=>mk _ _ _
   ·unfold U2.sq
    split
    ·intro h;exact absurd rfl h
    ·exact λ_=>mk _ _ _
theorem HU:∀(n a:Nat)(l:List UInt8)(rows:List (List AV)),U2.wD n a l=(rows,none)->(∀r∈rows,∃x:Tk,r=x.cells/\0<=x.a/\x.a<=a+l.length)/\rows.length<=n
 |0,_,_,rows,h=>by
  simp only[U2.wD,Prod.mk.injEq,and_true]at h
  subst h
  exact⟨by simp,Nat.le_refl _⟩
 |n+1,a,[],rows,h=>by
  simp only[U2.wD,Prod.mk.injEq,and_true]at h
  subst h
  exact⟨by intro r hr;rw[List.mem_singleton]at hr;subst hr;exact⟨⟨0,[],0,a⟩,rfl,by simp,by simp⟩,by simp⟩
 |n+1,a,c::l,rows,h=>by
  simp only[U2.wD]at h
  have hle:=U2.K0 a (c::l)
  have ha:=UT a (c::l)
  generalize U2.qC a (c::l)=z at *
  obtain⟨t,k⟩:=z
  cases k with
  |zero=>simp at h
  |succ k=>
   simp only at h ha hle
   generalize hy:U2.wD n _ _=y at h
   obtain⟨r2,e⟩:=y
   cases e with
   |some e=>simp at h
   |none=>
    simp only[Prod.mk.injEq,and_true]at h
    subst h
    obtain⟨h1,h2⟩:=HU n _ _ _ hy
    refine⟨λr hr=>?_,by simp;omega⟩
    rcases List.mem_cons.1 hr with e|e
    ·subst e
     obtain⟨x,hx,hxa⟩:=ha (by omega)
     exact⟨x,hx,by omega,by simp only[List.length_cons];omega⟩
    ·obtain⟨x,h3,h4,h5⟩:=h1 r e
     have hb:=U2.xC ((c::l).drop (k+1))
     simp only[List.length_drop,List.length_cons]at h5 hb hle
     refine⟨x,h3,h4,?_⟩
     simp only[List.length_cons]
     omega
theorem Fl {s:List UInt8}{rows:List (List AV)}(h:U2.C6 s=(rows,none)):(∀r∈rows,∃x:Tk,r=x.cells/\0<=x.a/\x.a<=s.length)/\rows.length<=s.length+1:=by
 unfold U2.C6 at h
 obtain⟨h1,h2⟩:=HU _ _ _ _ h
 have hb:=U2.xC s
 refine⟨λr hr=>?_,h2⟩
 obtain⟨x,h3,h4,h5⟩:=h1 r hr
 rw[List.length_drop]at h5
 exact⟨x,h3,h4,by omega⟩
theorem QX {rows:List (List AV)}{N:Int}(h:∀r∈rows,∃x:Tk,r=x.cells/\0<=x.a/\x.a<=N):rows=(pQ rows).map Tk.cells:=by
 unfold pQ
 rw[List.map_map]
 conv=>lhs;rw[<-List.map_id rows]
 refine List.map_congr_left λr hr=>?_
 obtain⟨x,hx,_⟩:=h r hr
 subst hx
 rfl
theorem YH {rows:List (List AV)}{N:Int}(h:∀r∈rows,∃x:Tk,r=x.cells/\0<=x.a/\x.a<=N):∀x∈pQ rows,0<=x.a/\x.a<=N:=by
 intro x hx
 obtain⟨r,hr,rfl⟩:=List.mem_map.1 hx
 obtain⟨y,hy,h1,h2⟩:=h r hr
 subst hy
 exact⟨h1,h2⟩
theorem UU (wl aa:Nat)(s:List UInt8)(st:an):(aU S).call wl aa 5 [.str s] st=some (.fz [.agg (mw s).1.row,.agg [.int .i64 (mw s).2.1,.int .i64 (mw s).2.2]],st):=by
 have etk:=λwl aa st=>U2.MD wl aa s st
 refine bf (sf:=s5) rfl rfl (by simp) rfl (by simp[Pg.row,AV.au,AV.ai]) ?_
 have zero:∀e a:Int,e≠0->mw s=(Al,e,a)->U2.EY s=(.U,[.int .i64 e,.int .i64 a])->W S 0 0 s5.results (G8 s5.results (.fz [.agg (mw s).1.row,.agg [.int .i64 (mw s).2.1,.int .i64 (mw s).2.2]])) [.code s5.body] .normal (oY s5 [.str s] []):=λe a he h1 h2=>by
  rw[h1]
  rw[h2]at etk
  simp[s5,etk,he,aB,aI,cL.aF,Pg.row,Al]
 by_cases hl:s.length<=6000
 ·have htv:U2.EY s=U2.Hv (U2.C6 s):=by unfold U2.EY;rw[U2.nq,decide_eq_true hl,if_pos rfl]
  have Ts:mw s=match U2.C6 s with|(rows,none)=>(sy (pQ rows) (40*(pQ rows).length+100)).getD (Al,0,0)|(_,some e)=>(Al,1,(e:Int)):=by unfold mw;rw[if_pos hl]
  generalize htp:U2.C6 s=z at *
  obtain⟨rows,e⟩:=z
  cases e with
  |some e=>exact zero 1 e (by decide) Ts htv
  |none=>
   obtain⟨iU,hlen⟩:=Fl htp
   have w7:=QX iU
   simp only[U2.Hv]at htv
   simp only at Ts
   have Ld:(pQ rows).length=rows.length:=by simp[pQ]
   obtain⟨x,hx⟩:=uc (pQ rows)
   rw[hx,Option.getD_some]at Ts
   clear zero
   generalize pQ rows=T at *
   have hT:TL (cp 4 rows) T:=⟨by
    have:fits 4 rows=true:=by rw[w7];simp[fits,Tk.cells]
    unfold cp
    split
    ·rfl
    ·simp[cD,this],by rw[tU];exact w7,by omega⟩
   rw[htv]at etk
   have adp:=hT.sl
   generalize cp 4 rows=l at *
   rw[Ts]
   unfold sy at hx
   obtain⟨⟨p,r0⟩,h1,h2⟩:=Option.bind_eq_some_iff.1 hx
   simp only[Option.some.injEq]at h2
   subst h2
   simp[-ax,-ah,s5,etk,adp,af,AV.view]
   have HV:TL l.view T:=⟨by rw[yx];exact hT.sz,by rw[BD];exact hT.rows,hT.len⟩
   have ajA:=hT.len
   generalize l.view=lv at *
   refine bu Wb.eq_1 (λx:RQ×Pg×Nat=>⟨[(2,.fp 0 0),(3,.fp 1 0),(6,.val (.ptr 0 0 0 0)),(7,.fp 3 0)],
     [[.U,.U,.U],[.int .i64 0,.int .i64 0],[.int .i64 0,.int .i64 0],[cp 3 (x.2.1.aQ.map Rc.row),cp 4 (x.2.1.globals.map PD.cells),cp 7 (x.2.1.funcs.map Fc.row)]],[RQ.obj lv x.1]⟩)
    (λx=>x.2.1.aQ.length<=12/\x.2.1.globals.length<=8/\x.2.1.funcs.length<=16/\nH T x.2.2 x.2.1 x.1=some (p,r0)) (λx=>x.2.2) (⟨0,0,0,0⟩,Al,_) rfl ⟨by simp[Al],by simp[Al],by simp[Al],h1⟩ ?_
   rintro⟨u,⟨rs,gs,fs⟩,g⟩ ⟨b1,b2,b3,hp⟩ ih
   simp only at b1 b2 b3 hp ih
   clear h1 Ts iU w7 etk adp hT hlen Ld htv htp
   have hT:=HV
   have ek:=λaa=>xR (l:=lv) aa u
   have et:=λaa=>lq hT aa u
   have i1:=λaa=>jk hT aa u [114,101,99,111,114,100] (by simp)
   have i2:=λaa=>jk hT aa u [103,108,111,98,97,108] (by simp)
   have i3:=λaa=>jk hT aa u [102,117,110,99] (by simp)
   cases g with
   |zero=>simp[nH]at hp
   |succ g=>
    unfold nH at hp
    simp only[Yq,Qy,Qz]at hp
    by_cases f0:u.fe=0
    ·by_cases k0:(cur T u).k=0
     ·rw[if_neg (λh=>h.2 k0)]at hp
      simp only[Option.some.injEq,Prod.mk.injEq]at hp
      obtain⟨rfl,rfl⟩:=hp
      rw[if_pos f0]
      generalize cur T u=c at *
      simp only[Tk.cells]at et
      simp[-ax,-ah,ek,f0,et,k0,af,AV.view,Pg.row,aD]
     ·rw[if_pos ⟨f0,k0⟩]at hp
      have I7:=sA k0
      have hw:IntKind.i64.wrap ((u.at_:Int)+1)=((u.at_+1:Nat):Int):=by rw[wrap64]<;>omega
      have ef:=λaa e=>dQ hT aa u e
      have YI:∀s t:List UInt8,s≠t->gf T u s=true->gf T u t=false:=λs t iQ h=>by
       cases h2:gf T u t with
       |false=>rfl
       |true=>exact absurd ((DS h).symm.trans (DS h2)) iQ
      cases q1:gf T u [114,101,99,111,114,100] with
      |true=>
       have q2:=YI _ [103,108,111,98,97,108] (by decide) q1
       have q3:=YI _ [102,117,110,99] (by decide) q1
       simp only[q1,q2,q3,true_and,Bool.false_eq_true,false_and,or_false,if_true,if_false]at hp
       by_cases m1:rs.length=12
       ·rw[if_pos m1]at hp
        have fD:=ih (iu T u 4,⟨rs,gs,fs⟩,g) ⟨b1,b2,b3,hp⟩ (by simp only;omega)
        generalize cur T u=c at *
        simp only[Tk.cells]at et
        simp[-ax,-ah,ek,f0,et,k0,i1,q1,m1,ef]
        exact fD
       ·rw[if_neg m1]at hp
        obtain⟨⟨x,r2⟩,h3,h4⟩:=Option.bind_eq_some_iff.1 hp
        have e3:=M0 hT h3
        have m1':¬(rs.length:Int)=12:=by omega
        have oz:=fL (sz:=3) (bytes:=48) (r:=rs.map Rc.row) (new:=[x.row]) (by simp[fits,Rc.row]) (by simp[room];omega)
        have fD:=ih (r2,⟨rs++[x],gs,fs⟩,g) ⟨by simp;omega,b2,b3,h4⟩ (by simp only;omega)
        simp only[List.map_append,List.map_cons,List.map_nil]at fD
        simp only[Rc.row]at e3 oz fD
        generalize cur T u=c at *
        simp only[Tk.cells]at et
        simp[-ax,-ah,ek,f0,et,k0,i1,q1,i2,q2,i3,q3,m1',pP,ko,hw,e3,oz,aB,aI,af,AV.view]
        exact fD
      |false=>
      cases q2:gf T u [103,108,111,98,97,108] with
      |true=>
       have q3:=YI _ [102,117,110,99] (by decide) q2
       simp only[q1,q2,q3,true_and,Bool.false_eq_true,false_and,false_or,or_false,if_true,if_false]at hp
       by_cases m1:gs.length=8
       ·rw[if_pos m1]at hp
        have fD:=ih (iu T u 4,⟨rs,gs,fs⟩,g) ⟨b1,b2,b3,hp⟩ (by simp only;omega)
        generalize cur T u=c at *
        simp only[Tk.cells]at et
        simp[-ax,-ah,ek,f0,et,k0,i1,q1,i2,q2,m1,ef]
        exact fD
       ·rw[if_neg m1]at hp
        have e3:=λaa=>Cc hT aa (bE u)
        have e4:=λaa=>eA hT aa (cZ T (bE u)).2 [59] (by simp)
        have m1':¬(gs.length:Int)=8:=by omega
        have oz:=fL (sz:=4) (bytes:=48) (r:=gs.map PD.cells) (new:=[(cZ T (bE u)).1.cells]) (by simp[fits,PD.cells]) (by simp[room];omega)
        have fD:=ih (cJ T (cZ T (bE u)).2 [59],⟨rs,gs++[(cZ T (bE u)).1],fs⟩,g) ⟨b1,by simp;omega,b3,hp⟩ (by simp only;omega)
        simp only[List.map_append,List.map_cons,List.map_nil]at fD
        generalize cJ T (cZ T (bE u)).2 [59]=r4 at *
        generalize cZ T (bE u)=pp at *
        simp only[PD.cells]at e3 oz fD
        generalize cur T u=c at *
        simp only[Tk.cells]at et
        simp[-ax,-ah,ek,f0,et,k0,i1,q1,i2,q2,i3,q3,m1',pP,ko,hw,e3,e4,oz,aB,aI,af,AV.view]
        exact fD
      |false=>
      cases q3:gf T u [102,117,110,99] with
      |true=>
       simp only[q1,q2,q3,true_and,Bool.false_eq_true,false_and,false_or,if_true,if_false]at hp
       by_cases m1:fs.length=16
       ·rw[if_pos m1]at hp
        have fD:=ih (iu T u 4,⟨rs,gs,fs⟩,g) ⟨b1,b2,b3,hp⟩ (by simp only;omega)
        generalize cur T u=c at *
        simp only[Tk.cells]at et
        simp[-ax,-ah,ek,f0,et,k0,i1,q1,i2,q2,i3,q3,m1,ef]
        exact fD
       ·rw[if_neg m1]at hp
        obtain⟨⟨x,r2⟩,h3,h4⟩:=Option.bind_eq_some_iff.1 hp
        have e3:=US hT h3
        have m1':¬(fs.length:Int)=16:=by omega
        have oz:=fL (sz:=7) (bytes:=104) (r:=fs.map Fc.row) (new:=[x.row]) (by simp[fits,Fc.row]) (by simp[room];omega)
        have fD:=ih (r2,⟨rs,gs,fs++[x]⟩,g) ⟨b1,b2,by simp;omega,h4⟩ (by simp only;omega)
        simp only[List.map_append,List.map_cons,List.map_nil]at fD
        simp only[Fc.row]at e3 oz fD
        generalize cur T u=c at *
        simp only[Tk.cells]at et
        simp[-ax,-ah,ek,f0,et,k0,i1,q1,i2,q2,i3,q3,m1',pP,ko,hw,e3,oz,aB,aI,af,AV.view]
        exact fD
      |false=>
       simp only[q1,q2,q3,Bool.false_eq_true,false_and,or_self,if_false]at hp
       have fD:=ih (iu T u 2,⟨rs,gs,fs⟩,g) ⟨b1,b2,b3,hp⟩ (by simp only;omega)
       generalize cur T u=c at *
       simp only[Tk.cells]at et
       simp[-ax,-ah,ek,f0,et,k0,i1,q1,i2,q2,i3,q3,ef]
       exact fD
    ·rw[if_neg (λh=>f0 h.1)]at hp
     simp only[Option.some.injEq,Prod.mk.injEq]at hp
     obtain⟨rfl,rfl⟩:=hp
     rw[if_neg f0]
     have ea:∀aa bx,aL 0 aa (.load true 2 false) [.val (.ptr 0 0 0 3)] [RQ.obj lv u] bx=some (.val (.agg [.int .i64 u.fe,.int .i64 u.fa]),[RQ.obj lv u],bx):=λaa bx=>by simp[RQ.obj,cut,AV.view]
     simp[-ax,-ah,ek,f0,ea,aB,aI,cL.aF,af,AV.view,Pg.row,Al]
 ·exact zero 4 0 (by decide) (by unfold mw;rw[if_neg hl]) (by unfold U2.EY;rw[U2.nq,decide_eq_false hl];rfl)
end N7
namespace N7
open Ax Go aT V7 lP U7
theorem QY (s:List UInt8):Pg.In 6000 (mw s).1/\(mw s).1.Wj:=by
 unfold mw
 split
 ·rename_i hl
  generalize htp:U2.C6 s=z
  obtain⟨rows,e⟩:=z
  cases e with
  |some e=>exact⟨E4,Am⟩
  |none=>
   obtain⟨iU,hlen⟩:=Fl htp
   obtain⟨x,hx⟩:=uc (pQ rows)
   simp only
   rw[hx,Option.getD_some]
   exact MJ ⟨by decide,λy hy=>by
    have:=YH iU y hy
    omega⟩ hx
 ·exact⟨E4,Am⟩
def jZ (p:Pg):GD:=⟨aD 3 (p.aQ.map Rc.row),aD 4 (p.globals.map PD.cells),aD 7 (p.funcs.map Fc.row)⟩
theorem Aq {sz:Nat}{r:List (List AV)}:gp (aD sz r)=true:=by simp[aD]
theorem uo {a:Int}(h:0<=a)(h2:a<=6000):nG a=true:=by simp only[nG,Bool.and_eq_true,decide_eq_true_eq];omega
theorem yG {sz:Nat}{r:List (List AV)}(h:fits sz r=true):cD sz (aD sz r)=true:=by
 cases r with
 |nil=>rfl
 |cons a r=>simp[cD,h]
theorem Ce {l:List PD}(h:∀p∈l,E3 6000 p):zT (aD 4 (l.map PD.cells))=true:=by
 unfold zT eJ
 rw[Aq,yG (by simp[fits,PD.cells]),aO]
 simp only[Bool.and_self,Bool.true_and,List.all_map,List.all_eq_true,Function.comp]
 intro p hp
 obtain⟨h1,h2,h3,h4⟩:=h p hp
 simp[K2,PD.cells,uo h1 (by omega),uo h3 h4]
theorem adr {p:Pg}(h:Pg.In 6000 p):(jZ p).ok:=by
 refine⟨?_,Ce h.g.2,?_⟩
 ·unfold zn eJ
  show (gp (aD 3 (p.aQ.map Rc.row))&&cD 3 (aD 3 (p.aQ.map Rc.row))&&(aP (aD 3 (p.aQ.map Rc.row))).all DP)=true
  rw[Aq,yG (by simp[fits,Rc.row]),aO]
  simp only[Bool.and_self,Bool.true_and,List.all_map,List.all_eq_true,Function.comp]
  intro r hr
  have i:=h.r.2 r hr
  simp[DP,Rc.row,Ce i.f,uo i.a.1 i.a.2]
 ·unfold zo eJ
  show (gp (aD 7 (p.funcs.map Fc.row))&&cD 7 (aD 7 (p.funcs.map Fc.row))&&(aP (aD 7 (p.funcs.map Fc.row))).all DR)=true
  rw[Aq,yG (by simp[fits,Fc.row]),aO]
  simp only[Bool.and_self,Bool.true_and,List.all_map,List.all_eq_true,Function.comp]
  intro r hr
  have i:=h.f.2 r hr
  simp[DR,Fc.row,Ce i.f,uo i.a.1 i.a.2,uo i.od.1 (by have:=i.od.2;omega),bz,Aq]
theorem nw (l:List PD):nY (aD 4 (l.map PD.cells))=l:=by
 simp only[nY,aO,List.map_map]
 conv=>rhs;rw[<-List.map_id l]
 exact List.map_congr_left λp _=>rfl
def HW (r:Rc):CR:=⟨r.name,aD 4 (r.fields.map PD.cells),r.a⟩
def zW (f:Fc):FN:=⟨f.name,aD 4 (f.params.map PD.cells),f.has,f.on,f.od,bz f.body,f.a⟩
theorem qo (p:Pg):dn (jZ p).aQ=p.aQ.map HW:=by
 simp only[jZ,dn,aO,List.map_map]
 exact List.map_congr_left λp _=>rfl
theorem oH (p:Pg):jr (jZ p).funcs=p.funcs.map zW:=by
 simp only[jZ,jr,aO,List.map_map]
 exact List.map_congr_left λp _=>rfl
theorem Fm (p:Pg):nY (jZ p).globals=p.globals:=nw _
theorem ads {p:Pg}(h:Pg.In 6000 p):GD.sm (jZ p):=by
 refine⟨?_,?_,?_,?_,?_⟩
 ·rw[qo,List.length_map];have:=h.r.1;omega
 ·intro x hx
  rw[qo]at hx
  obtain⟨r,hr,rfl⟩:=List.mem_map.1 hx
  simp only[HW,nw]
  have:=(h.r.2 r hr).len
  omega
 ·rw[Fm];have:=h.g.1;omega
 ·rw[oH,List.length_map];have:=h.f.1;omega
 ·intro x hx
  rw[oH]at hx
  obtain⟨r,hr,rfl⟩:=List.mem_map.1 hx
  simp only[zW,nw]
  have:=(h.f.2 r hr).len
  omega
end N7
