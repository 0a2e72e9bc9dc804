/-
  The reader of the document's parser: what stands at a place, and what goes over it.
-/
import Derived.Test.YtachcambnjecnaaCode2
import Derived.Test.YtachcambnjecnaaP
import Derived.Test.YtachcambnjecnaaL
import Derived.Test.YtachcambnjecnaaM

set_option maxRecDepth 100000
set_option maxHeartbeats 8000000
namespace N7
open Ax Go cz V7 kL
section
variable {l:AV}{T:List Tk}(hT:TL l T)(aa:Nat)(q:RQ)
theorem x5:(bg S).call 0 aa 15 [.ptr 0 0 0 0] [q.bC l]=some (.bool (decide (q.fe=0)),[q.bC l]):=by
 refine ax (sf:=s15) rfl rfl rfl ?_
 simp[s15,RQ.bC,cut,AV.view]
include hT
theorem lJ:(bg S).call 0 aa 16 [.ptr 0 0 0 0] [q.bC l]=some (.agg (ey T q).cells,[q.bC l]):=by
 have hs:=hT.sl
 have hz:=hT.sz
 have hr:=hT.rows
 refine ax (sf:=s16) rfl rfl rfl ?_
 have h0:¬(q.at_:Int)<0:=by omega
 by_cases h1:q.at_<T.length
 ·have h2:¬(T.length:Int)<=(q.at_:Int):=by omega
  have hc:ey T q=T[q.at_]:=by simp[ey,h1]
  simp[s16,RQ.bC,cut,h0,h1,h2,hs,hz,hr,hc,Tk.cells,aC,aA,AV.view]
 ·have h2:(T.length:Int)<=(q.at_:Int):=by omega
  have hc:ey T q=Rg:=by simp[ey,List.getD,List.getElem?_eq_none (Nat.le_of_not_lt h1)]
  simp[s16,RQ.bC,cut,h0,h2,hs,hr,hc,Tk.cells,aC,aA,AV.view]
theorem jy(s:List UInt8)(ku:s≠[]):(bg S).call 0 aa 17 [.ptr 0 0 0 0,.str s] [q.bC l]=some (.bool (fP T q s),[q.bC l]):=by
 have et:=λaa=>lJ hT aa q
 have eo:=λaa=>x5 (l:=l) aa q
 cases s with
 |nil=>exact absurd rfl ku
 |cons c s=>
  obtain⟨v,hv⟩:∃v,fP T q (c::s)=v:=⟨_,rfl⟩
  rw[hv]
  simp only[fP]at hv
  refine ax (sf:=s17) rfl rfl rfl ?_
  generalize ey T q=x at *
  simp only[Tk.cells]at et
  have kJ:∀k:Int,kZ (c::s)=k->v=(decide (q.fe=0)&&decide (x.k=k)&&decide (x.t=c::s)):=λk hk=>by rw[<-hv,hk]
  by_cases c1:97<=c.toNat
  ·have d1:(97:Int)<=(c.toNat:Int):=by omega
   by_cases c2:c.toNat<=122
   ·have d2:(c.toNat:Int)<=122:=by omega
    rw[kJ 3 (by simp[kZ,c1,c2])]
    by_cases f0:q.fe=0<;>by_cases f1:x.k=3<;>simp[s17,et,eo,d1,d2,f0,f1]
   ·have d2:¬(c.toNat:Int)<=122:=by omega
    rw[kJ 4 (by simp[kZ,c2])]
    by_cases f0:q.fe=0<;>by_cases f1:x.k=4<;>simp[s17,et,eo,d1,d2,f0,f1]
  ·have d1:¬(97:Int)<=(c.toNat:Int):=by omega
   rw[kJ 4 (by simp[kZ,c1])]
   by_cases f0:q.fe=0<;>by_cases f1:x.k=4<;>simp[s17,et,eo,d1,f0,f1]
theorem eu(e:Int):(bg S).call 0 aa 18 [.ptr 0 0 0 0,.int .i64 e] [q.bC l]=some (.fK [],[(iN T q e).bC l]):=by
 have et:=λaa=>lJ hT aa q
 have eo:=λaa=>x5 (l:=l) aa q
 refine ax (sf:=s18) rfl rfl rfl ?_
 unfold iN
 generalize ey T q=x at *
 simp only[Tk.cells]at et
 by_cases f0:q.fe=0
 ·simp only[RQ.bC,f0]at et eo
  simp[s18,eo,et,RQ.bC,f0,cut,bh,AV.ah,AV.an,af]
 ·simp[s18,eo,f0]
theorem eM(s:List UInt8)(ku:s≠[]):(bg S).call 0 aa 21 [.ptr 0 0 0 0,.str s] [q.bC l]=some (.fK [],[(cR T q s).bC l]):=by
 have ei:=λaa=>jy hT aa q s ku
 have ef:=λaa e=>eu hT aa q e
 have hlen:=hT.len
 refine ax (sf:=s21) rfl rfl rfl ?_
 unfold cR
 cases hi:fP T q s with
 |false=>simp[s21,ei,hi,ef]
 |true=>
  have JL:=(bf hi).2
  have hw:IntKind.i64.wrap ((q.at_:Int)+1)=((q.at_+1:Nat):Int):=by rw[aY]<;>omega
  simp only[RQ.bC,hi]at ei
  simp[s21,ei,RQ.bC,ay,cut,bh,AV.ah,AV.an,af,hw,AV.view]
theorem p8(s:List UInt8)(ku:s≠[]):(bg S).call 0 aa 54 [.ptr 0 0 0 0,.str s] [q.bC l]=some (.fK [],[(gj T q s).bC l]):=by
 have ei:=λaa=>jy hT aa q s ku
 have ef:=λaa e=>eu hT aa q e
 have et:=λaa=>eM hT aa q s ku
 refine ax (sf:=s54) rfl rfl rfl ?_
 unfold gj
 cases hi:fP T q s with
 |false=>
  generalize cR T q s=r at *
  simp only[RQ.bC,hi]at ei et
  simp[s54,ei,et,RQ.bC,pS,cut,bh,AV.ah,AV.an,af,AV.view]
 |true=>
  by_cases h50:50<=q.op
  ·simp only[RQ.bC,hi]at ei ef
   simp[s54,ei,ef,RQ.bC,cut,h50,AV.view]
  ·generalize cR T q s=r at *
   simp only[RQ.bC,hi]at ei et
   simp[s54,ei,et,RQ.bC,pS,cut,h50,bh,AV.ah,AV.an,af,AV.view]
theorem o9(s:List UInt8)(ku:s≠[]):(bg S).call 0 aa 56 [.ptr 0 0 0 0,.str s] [q.bC l]=some (.fK [],[(jO T q s).bC l]):=by
 have et:=λaa=>eM hT aa q s ku
 have hw:∀n:Int,IntKind.i64.wrap (n-1)=IntKind.i64.wrap (n + -1):=λn=>by rw[Int.sub_eq_add_neg]
 refine ax (sf:=s56) rfl rfl rfl ?_
 unfold jO
 generalize cR T q s=r at *
 simp only[RQ.bC]at et
 simp[s56,et,RQ.bC,pS,cut,bh,AV.ah,AV.an,af,AV.view,hw]
theorem mz:(bg S).call 0 aa 33 [.ptr 0 0 0 0] [q.bC l]=some (.str (di T q).1,[(di T q).2.bC l]):=by
 have et:=λaa=>lJ hT aa q
 have eo:=λaa=>x5 (l:=l) aa q
 have ef:=λaa e=>eu hT aa q e
 have hlen:=hT.len
 refine ax (sf:=s33) rfl rfl rfl ?_
 unfold di
 have ef:=λaa=>ef aa 2
 generalize iN T q 2=r at *
 generalize hx:ey T q=x at *
 simp only[Tk.cells]at et
 by_cases f0:q.fe=0
 ·by_cases f1:x.k=1
  ·simp only[RQ.bC,f0]at et eo
   have JL:q.at_<T.length:=sH (by rw[hx,f1];decide)
   have hw:IntKind.i64.wrap ((q.at_:Int)+1)=((q.at_+1:Nat):Int):=by rw[aY]<;>omega
   simp[s33,et,eo,f0,f1,RQ.bC,ay,cut,bh,AV.ah,AV.an,af,hw,AV.view]
  ·simp[s33,et,eo,f0,f1,ef]
 ·simp[s33,et,eo,f0,ef]
end
end N7
namespace N7
open Ax Go cz V7 kL
theorem Zj{T:List Tk}{k d:Nat}{q:RQ}(h:fP T q [91]=false):Eu T k d q=(d,q):=by
 cases k with
 |zero=>rfl
 |succ k=>unfold Eu;rw[h];rfl
section
variable {l:AV}{T:List Tk}(hT:TL l T)(aa:Nat)(q:RQ)
include hT
theorem IA:(bg S).call 0 aa 34 [.ptr 0 0 0 0] [q.bC l]=some (.agg [.str (vg T q).1.1,.int .i64 (vg T q).1.2],[(vg T q).2.bC l]):=by
 have hlen:=hT.len
 refine ax (sf:=s34) rfl rfl rfl ?_
 generalize hF:vg T q=F
 simp[s34]
 refine bM QA.eq_1 (λx:RQ×Nat=>⟨[(0,.val (.ptr 0 0 0 0)),(2,.fp 0 0),(3,.val (.int .i64 x.2))],[[.str [],.int .i64 0],[]],[RQ.bC l x.1]⟩)
  (λx=>∃k,k+x.2=3/\Eu T k x.2 x.1=Eu T 3 0 q) (λx=>3-x.2) (q,0) ?_ ⟨3,rfl,rfl⟩ ?_
 ·rfl
 rintro⟨r,d⟩ ⟨k,hk,hL⟩ ih
 simp only at hk hL ih
 have ei:=λaa=>jy hT aa r [91] (by simp)
 unfold vg at hF
 cases hi:fP T r [91] with
 |true=>
  obtain⟨i1,i2⟩:=bf hi
  by_cases h3:d=3
  ·have ef:=λaa e=>eu hT aa r e
   have uv:k=0:=by omega
   subst h3 uv
   have hL':Eu T 3 0 q=(3,r):=hL.symm
   rw[hL',if_pos hi]at hF
   subst hF
   simp[ei,hi,ef]
  ·have Oz:¬(d:Int)=3:=by omega
   have hw:IntKind.i64.wrap ((r.at_:Int)+1)=((r.at_+1:Nat):Int):=by rw[aY]<;>omega
   have Q0:IntKind.i64.wrap ((d:Int)+1)=((d+1:Nat):Int):=by rw[aY]<;>omega
   simp only[RQ.bC,hi]at ei
   simp[ei,Oz,RQ.bC,cut,bh,AV.ah,AV.an,af,hw,Q0,AV.view]
   refine ih (ay r,d+1) ⟨k-1,by simp only;omega,?_⟩ (by simp only;omega)
   rw[<-hL]
   obtain⟨k',rfl⟩:∃k',k=k'+1:=⟨k-1,by omega⟩
   conv=>rhs;unfold Eu
   rw[if_pos hi]
   rfl
 |false=>
  rw[Zj hi]at hL
  rw[<-hL,if_neg (by rw[hi];simp)]at hF
  dsimp only at hF
  have en:=λaa=>mz hT aa r
  have ea:=λaa=>jy hT aa r [105,110,116] (by simp)
  have eb:=λaa=>jy hT aa r [98,111,111,108] (by simp)
  have et:=λaa=>lJ hT aa r
  unfold Y6 at hF
  cases ha:fP T r [105,110,116] with
  |true=>
   obtain⟨i1,i2⟩:=bf ha
   have hw:IntKind.i64.wrap ((r.at_:Int)+1)=((r.at_+1:Nat):Int):=by rw[aY]<;>omega
   simp only[RQ.bC,hi,ha]at ei ea et
   rw[ha]at hF
   simp only[Bool.true_or,if_true]at hF
   generalize hc:ey T r=c at *
   simp only[Tk.cells]at et
   simp[ei,ea,et,RQ.bC,cut,bh,AV.ah,AV.an,af,hw,AV.view]
   refine bM FA.eq_1 (λx:Nat=>⟨[(0,.val (.ptr 0 0 0 0)),(2,.fp 0 0),(3,.val (.int .i64 d)),(4,.fp 1 0),(5,.val (.int .i64 x))],[[.str [],.int .i64 0],[.str c.t,.int .i64 d]],[RQ.bC l (pU T (ay r) [93] x)]⟩)
    (λx=>x<=d) (λx=>d-x) 0 ?_ (by simp) ?_
   ·rfl
   intro x hx ihx
   by_cases hxd:x<d
   ·have hwx:IntKind.i64.wrap ((x:Int)+1)=((x+1:Nat):Int):=by rw[aY]<;>omega
    have ek:=λaa=>eM hT aa (pU T (ay r) [93] x) [93] (by simp)
    have ad9:(x:Int)<(d:Int):=by omega
    simp[hxd,ek,hwx]
    exact ihx (x+1) (by omega) (by omega)
   ·have:x=d:=by omega
    subst this
    subst hF
    simp
    rfl
  |false=>
   cases hb:fP T r [98,111,111,108] with
   |true=>
    obtain⟨i1,i2⟩:=bf hb
    have hw:IntKind.i64.wrap ((r.at_:Int)+1)=((r.at_+1:Nat):Int):=by rw[aY]<;>omega
    simp only[RQ.bC,hi,ha,hb]at ei ea eb et
    rw[ha,hb]at hF
    simp only[Bool.false_or,if_true]at hF
    generalize hc:ey T r=c at *
    simp only[Tk.cells]at et
    simp[ei,ea,eb,et,RQ.bC,cut,bh,AV.ah,AV.an,af,hw,AV.view]
    refine bM FA.eq_1 (λx:Nat=>⟨[(0,.val (.ptr 0 0 0 0)),(2,.fp 0 0),(3,.val (.int .i64 d)),(4,.fp 1 0),(5,.val (.int .i64 x))],[[.str [],.int .i64 0],[.str c.t,.int .i64 d]],[RQ.bC l (pU T (ay r) [93] x)]⟩)
     (λx=>x<=d) (λx=>d-x) 0 ?_ (by simp) ?_
    ·rfl
    intro x hx ihx
    by_cases hxd:x<d
    ·have hwx:IntKind.i64.wrap ((x:Int)+1)=((x+1:Nat):Int):=by rw[aY]<;>omega
     have ek:=λaa=>eM hT aa (pU T (ay r) [93] x) [93] (by simp)
     have ad9:(x:Int)<(d:Int):=by omega
     simp[hxd,ek,hwx]
     exact ihx (x+1) (by omega) (by omega)
    ·have:x=d:=by omega
     subst this
     subst hF
     simp
     rfl
   |false=>
    rw[ha,hb]at hF
    simp only[Bool.or_self,Bool.false_eq_true,if_false]at hF
    generalize di T r=z at *
    simp[ei,ea,eb,hi,ha,hb,en,af]
    refine bM FA.eq_1 (λx:Nat=>⟨[(0,.val (.ptr 0 0 0 0)),(2,.fp 0 0),(3,.val (.int .i64 d)),(4,.fp 1 0),(5,.val (.int .i64 x))],[[.str [],.int .i64 0],[.str z.1,.int .i64 d]],[RQ.bC l (pU T z.2 [93] x)]⟩)
     (λx=>x<=d) (λx=>d-x) 0 ?_ (by simp) ?_
    ·rfl
    intro x hx ihx
    by_cases hxd:x<d
    ·have hwx:IntKind.i64.wrap ((x:Int)+1)=((x+1:Nat):Int):=by rw[aY]<;>omega
     have ek:=λaa=>eM hT aa (pU T z.2 [93] x) [93] (by simp)
     have ad9:(x:Int)<(d:Int):=by omega
     simp[hxd,ek,hwx]
     exact ihx (x+1) (by omega) (by omega)
    ·have:x=d:=by omega
     subst this
     subst hF
     simp
theorem CN:(bg S).call 0 aa 20 [.ptr 0 0 0 0] [q.bC l]=some (.agg (cY T q).1.cells,[(cY T q).2.bC l]):=by
 have et:=λaa=>lJ hT aa q
 have en:=λaa=>mz hT aa q
 have e2:=λaa=>eM hT aa (di T q).2 [58] (by simp)
 have e3:=λaa=>IA hT aa (cR T (di T q).2 [58])
 refine ax (sf:=s20) rfl rfl rfl ?_
 unfold cY
 generalize vg T (cR T (di T q).2 [58])=z3 at *
 generalize cR T (di T q).2 [58]=q2 at *
 generalize di T q=z at *
 generalize ey T q=c at *
 simp only[Tk.cells]at et
 simp[-au,-ag,s20,et,en,e2,e3,af,AV.view,AV.an,AV.ah,PD.cells]
end
theorem IB(wl aa:Nat)(n:Nat)(hn:n<5)(c:Tk)(st:aj):(bg S).call wl aa 83 [.int .i64 n,.agg c.cells] st=some (.int .i64 (ot n c),st):=by
 refine b8 (sf:=W5) rfl rfl (by simp[Tk.cells,AV.an,AV.ah]) rfl (by simp) ?_
 unfold ot
 by_cases hk:c.k=4
 ·rw[if_pos hk]
  have w1:IntKind.i64.wrap 1=1:=rfl
  have w2:IntKind.i64.wrap 2=2:=rfl
  have w3:IntKind.i64.wrap 3=3:=rfl
  have w4:IntKind.i64.wrap 4=4:=rfl
  have aea:n=0\/n=1\/n=2\/n=3\/n=4:=by omega
  have w1:IntKind.i64.wrap 1=1:=rfl
  have w2:IntKind.i64.wrap 2=2:=rfl
  have w3:IntKind.i64.wrap 3=3:=rfl
  have w4:IntKind.i64.wrap 4=4:=rfl
  rcases aea with h|h|h|h|h
  ·subst h
   simp[W5,Tk.cells,hk]
   refine bM yR.eq_1 (λk:Nat=>⟨[(0,.val (.int .i64 0)),(3,.fp 0 0),(5,.val (.dj 1 [[.dj 1 [[.str [124,124]]]],[.dj 1 [[.str [38,38]]]],[.dj 1 [[.str [60]],[.str [60,61]],[.str [61,61]],[.str [33,61]]]],[.dj 1 [[.str [43]],[.str [45]]]],[.dj 1 [[.str [42]],[.str [47]],[.str [37]]]]])),(6,.val (.dj 1 [[.dj 1 [[.int .i64 24]]],[.dj 1 [[.int .i64 23]]],[.dj 1 [[.int .i64 19],[.int .i64 20],[.int .i64 21],[.int .i64 22]]],[.dj 1 [[.int .i64 14],[.int .i64 15]]],[.dj 1 [[.int .i64 16],[.int .i64 17],[.int .i64 18]]]])),(7,.val (.int .i64 k))],[[.int .i64 4,.str c.t,.int .i64 c.n,.int .i64 c.a]],[]⟩)
    (λk=>k<=1/\fI (dD 0) c.t=fI ((dD 0).drop k) c.t) (λk=>1-k) 0 (by simp) (by simp) ?_
   intro k ⟨Xa,hf⟩ ih
   have hc:k=0\/k=1:=by omega
   rcases hc with h|h
   ·subst h
    by_cases e:[124,124]=c.t
    ·rw[hf];simp[e,aC,aA,AV.view,dD,fI]
    ·simp[e,w1,aC,aA,AV.view]
     exact ih 1 ⟨by omega,by rw[hf];simp[dD,fI,e]⟩ (by omega)
   ·subst h
    rw[hf];simp[AV.view,dD,fI]
  ·subst h
   simp[W5,Tk.cells,hk]
   refine bM yR.eq_1 (λk:Nat=>⟨[(0,.val (.int .i64 1)),(3,.fp 0 0),(5,.val (.dj 1 [[.dj 1 [[.str [124,124]]]],[.dj 1 [[.str [38,38]]]],[.dj 1 [[.str [60]],[.str [60,61]],[.str [61,61]],[.str [33,61]]]],[.dj 1 [[.str [43]],[.str [45]]]],[.dj 1 [[.str [42]],[.str [47]],[.str [37]]]]])),(6,.val (.dj 1 [[.dj 1 [[.int .i64 24]]],[.dj 1 [[.int .i64 23]]],[.dj 1 [[.int .i64 19],[.int .i64 20],[.int .i64 21],[.int .i64 22]]],[.dj 1 [[.int .i64 14],[.int .i64 15]]],[.dj 1 [[.int .i64 16],[.int .i64 17],[.int .i64 18]]]])),(7,.val (.int .i64 k))],[[.int .i64 4,.str c.t,.int .i64 c.n,.int .i64 c.a]],[]⟩)
    (λk=>k<=1/\fI (dD 1) c.t=fI ((dD 1).drop k) c.t) (λk=>1-k) 0 (by simp) (by simp) ?_
   intro k ⟨Xa,hf⟩ ih
   have hc:k=0\/k=1:=by omega
   rcases hc with h|h
   ·subst h
    by_cases e:[38,38]=c.t
    ·rw[hf];simp[e,aC,aA,AV.view,dD,fI]
    ·simp[e,w1,aC,aA,AV.view]
     exact ih 1 ⟨by omega,by rw[hf];simp[dD,fI,e]⟩ (by omega)
   ·subst h
    rw[hf];simp[AV.view,dD,fI]
  ·subst h
   simp[W5,Tk.cells,hk]
   refine bM yR.eq_1 (λk:Nat=>⟨[(0,.val (.int .i64 2)),(3,.fp 0 0),(5,.val (.dj 1 [[.dj 1 [[.str [124,124]]]],[.dj 1 [[.str [38,38]]]],[.dj 1 [[.str [60]],[.str [60,61]],[.str [61,61]],[.str [33,61]]]],[.dj 1 [[.str [43]],[.str [45]]]],[.dj 1 [[.str [42]],[.str [47]],[.str [37]]]]])),(6,.val (.dj 1 [[.dj 1 [[.int .i64 24]]],[.dj 1 [[.int .i64 23]]],[.dj 1 [[.int .i64 19],[.int .i64 20],[.int .i64 21],[.int .i64 22]]],[.dj 1 [[.int .i64 14],[.int .i64 15]]],[.dj 1 [[.int .i64 16],[.int .i64 17],[.int .i64 18]]]])),(7,.val (.int .i64 k))],[[.int .i64 4,.str c.t,.int .i64 c.n,.int .i64 c.a]],[]⟩)
    (λk=>k<=4/\fI (dD 2) c.t=fI ((dD 2).drop k) c.t) (λk=>4-k) 0 (by simp) (by simp) ?_
   intro k ⟨Xa,hf⟩ ih
   have hc:k=0\/k=1\/k=2\/k=3\/k=4:=by omega
   rcases hc with h|h|h|h|h
   ·subst h
    by_cases e:[60]=c.t
    ·rw[hf];simp[e,aC,aA,AV.view,dD,fI]
    ·simp[e,w1,aC,aA,AV.view]
     exact ih 1 ⟨by omega,by rw[hf];simp[dD,fI,e]⟩ (by omega)
   ·subst h
    by_cases e:[60,61]=c.t
    ·rw[hf];simp[e,aC,aA,AV.view,dD,fI]
    ·simp[e,w2,aC,aA,AV.view]
     exact ih 2 ⟨by omega,by rw[hf];simp[dD,fI,e]⟩ (by omega)
   ·subst h
    by_cases e:[61,61]=c.t
    ·rw[hf];simp[e,aC,aA,AV.view,dD,fI]
    ·simp[e,w3,aC,aA,AV.view]
     exact ih 3 ⟨by omega,by rw[hf];simp[dD,fI,e]⟩ (by omega)
   ·subst h
    by_cases e:[33,61]=c.t
    ·rw[hf];simp[e,aC,aA,AV.view,dD,fI]
    ·simp[e,w4,aC,aA,AV.view]
     exact ih 4 ⟨by omega,by rw[hf];simp[dD,fI,e]⟩ (by omega)
   ·subst h
    rw[hf];simp[AV.view,dD,fI]
  ·subst h
   simp[W5,Tk.cells,hk]
   refine bM yR.eq_1 (λk:Nat=>⟨[(0,.val (.int .i64 3)),(3,.fp 0 0),(5,.val (.dj 1 [[.dj 1 [[.str [124,124]]]],[.dj 1 [[.str [38,38]]]],[.dj 1 [[.str [60]],[.str [60,61]],[.str [61,61]],[.str [33,61]]]],[.dj 1 [[.str [43]],[.str [45]]]],[.dj 1 [[.str [42]],[.str [47]],[.str [37]]]]])),(6,.val (.dj 1 [[.dj 1 [[.int .i64 24]]],[.dj 1 [[.int .i64 23]]],[.dj 1 [[.int .i64 19],[.int .i64 20],[.int .i64 21],[.int .i64 22]]],[.dj 1 [[.int .i64 14],[.int .i64 15]]],[.dj 1 [[.int .i64 16],[.int .i64 17],[.int .i64 18]]]])),(7,.val (.int .i64 k))],[[.int .i64 4,.str c.t,.int .i64 c.n,.int .i64 c.a]],[]⟩)
    (λk=>k<=2/\fI (dD 3) c.t=fI ((dD 3).drop k) c.t) (λk=>2-k) 0 (by simp) (by simp) ?_
   intro k ⟨Xa,hf⟩ ih
   have hc:k=0\/k=1\/k=2:=by omega
   rcases hc with h|h|h
   ·subst h
    by_cases e:[43]=c.t
    ·rw[hf];simp[e,aC,aA,AV.view,dD,fI]
    ·simp[e,w1,aC,aA,AV.view]
     exact ih 1 ⟨by omega,by rw[hf];simp[dD,fI,e]⟩ (by omega)
   ·subst h
    by_cases e:[45]=c.t
    ·rw[hf];simp[e,aC,aA,AV.view,dD,fI]
    ·simp[e,w2,aC,aA,AV.view]
     exact ih 2 ⟨by omega,by rw[hf];simp[dD,fI,e]⟩ (by omega)
   ·subst h
    rw[hf];simp[AV.view,dD,fI]
  ·subst h
   simp[W5,Tk.cells,hk]
   refine bM yR.eq_1 (λk:Nat=>⟨[(0,.val (.int .i64 4)),(3,.fp 0 0),(5,.val (.dj 1 [[.dj 1 [[.str [124,124]]]],[.dj 1 [[.str [38,38]]]],[.dj 1 [[.str [60]],[.str [60,61]],[.str [61,61]],[.str [33,61]]]],[.dj 1 [[.str [43]],[.str [45]]]],[.dj 1 [[.str [42]],[.str [47]],[.str [37]]]]])),(6,.val (.dj 1 [[.dj 1 [[.int .i64 24]]],[.dj 1 [[.int .i64 23]]],[.dj 1 [[.int .i64 19],[.int .i64 20],[.int .i64 21],[.int .i64 22]]],[.dj 1 [[.int .i64 14],[.int .i64 15]]],[.dj 1 [[.int .i64 16],[.int .i64 17],[.int .i64 18]]]])),(7,.val (.int .i64 k))],[[.int .i64 4,.str c.t,.int .i64 c.n,.int .i64 c.a]],[]⟩)
    (λk=>k<=3/\fI (dD 4) c.t=fI ((dD 4).drop k) c.t) (λk=>3-k) 0 (by simp) (by simp) ?_
   intro k ⟨Xa,hf⟩ ih
   have hc:k=0\/k=1\/k=2\/k=3:=by omega
   rcases hc with h|h|h|h
   ·subst h
    by_cases e:[42]=c.t
    ·rw[hf];simp[e,aC,aA,AV.view,dD,fI]
    ·simp[e,w1,aC,aA,AV.view]
     exact ih 1 ⟨by omega,by rw[hf];simp[dD,fI,e]⟩ (by omega)
   ·subst h
    by_cases e:[47]=c.t
    ·rw[hf];simp[e,aC,aA,AV.view,dD,fI]
    ·simp[e,w2,aC,aA,AV.view]
     exact ih 2 ⟨by omega,by rw[hf];simp[dD,fI,e]⟩ (by omega)
   ·subst h
    by_cases e:[37]=c.t
    ·rw[hf];simp[e,aC,aA,AV.view,dD,fI]
    ·simp[e,w3,aC,aA,AV.view]
     exact ih 3 ⟨by omega,by rw[hf];simp[dD,fI,e]⟩ (by omega)
   ·subst h
    rw[hf];simp[AV.view,dD,fI]
 ·simp[W5,Tk.cells,hk]
end N7
namespace N7
open Ax Go cz V7 kL
theorem p9{wl aa:Nat}{l:AV}{q:RQ}{bx:aU}:aL wl aa (.load false 1 false) [.val (.ptr 0 0 0 1)] [RQ.bC l q] bx=some (.val (.int .i64 q.at_),[RQ.bC l q],bx):=by
 simp[RQ.bC,cut,AV.view]
theorem aeb{wl aa:Nat}{l:AV}{q:RQ}{bx:aU}:aL wl aa (.load false 1 false) [.val (.ptr 0 0 0 2)] [RQ.bC l q] bx=some (.val (.int .i64 q.op),[RQ.bC l q],bx):=by
 simp[RQ.bC,cut,AV.view]
theorem kH{aa:Nat}{l:AV}{q:RQ}{bx:aU}:aL 0 aa (.store 1) [.val (.ptr 0 0 0 1),.val (.int .i64 ((q.at_:Int)+1))] [RQ.bC l q] bx=some (.none,[RQ.bC l (ay q)],bx):=by
 simp[RQ.bC,ay,bh,AV.ah,AV.an,af]
theorem Md{aa:Nat}{l:AV}{q:RQ}{n:Int}{bx:aU}:aL 0 aa (.store 1) [.val (.ptr 0 0 0 2),.val (.int .i64 n)] [RQ.bC l q] bx=some (.none,[RQ.bC l ⟨q.at_,n,q.fe,q.fa⟩],bx):=by
 simp[RQ.bC,bh,AV.ah,AV.an,af]
theorem aec(n:Int):IntKind.i64.wrap (n-1)=IntKind.i64.wrap (n + -1):=by rw[Int.sub_eq_add_neg]
def qW(e:E)(kv:AV):List AV:=[.int .i64 e.k,.int .i64 e.n,.str e.nm,.str e.on,.int .i64 e.od,kv,.int .i64 e.a,.int .i64 e.ty.b,.int .i64 e.ty.r,.int .i64 e.ty.d,.int .i64 e.cN]
theorem vA(e:E):qW e (aW e.az)=e.row:=(E.aG e).symm
def Xb(l:AV)(T:List Tk)(f:Nat):Prop:=∀n q e r,n<=5->fA T f n q=some (e,r)->∀aa,(bg S).call 0 aa 67 [.ptr 0 0 0 0,.int .i64 (n:Nat)] [q.bC l]=some (.agg e.row,[r.bC l])
def OkU(l:AV)(T:List Tk)(f:Nat):Prop:=∀q e r,jW T f q=some (e,r)->∀aa,(bg S).call 0 aa 82 [.ptr 0 0 0 0] [q.bC l]=some (.agg e.row,[r.bC l])
def Kz(l:AV)(T:List Tk)(f:Nat):Prop:=∀a q e r,eZ T f a q=some (e,r)->∀kv,aJ kv=true->kv.view=aW a.az->∀aa,(bg S).call 0 aa 93 [.ptr 0 0 0 0,.agg (qW a kv)] [q.bC l]=some (.agg e.row,[r.bC l])
def wm(l:AV)(T:List Tk)(f:Nat):Prop:=∀q e r,kB T f q=some (e,r)->∀aa,(bg S).call 0 aa 100 [.ptr 0 0 0 0] [q.bC l]=some (.agg e.row,[r.bC l])
def OkF(l:AV)(T:List Tk)(f:Nat):Prop:=∀q e r,jX T f q=some (e,r)->∃kv,aJ kv=true/\kv.view=aW e.az/\∀aa,(bg S).call 0 aa 94 [.ptr 0 0 0 0] [q.bC l]=some (.agg (qW e kv),[r.bC l])
def OkN(l:AV)(T:List Tk)(f:Nat):Prop:=∀a q e r,k6 T f a q=some (e,r)->∀aa,(bg S).call 0 aa 99 [.ptr 0 0 0 0,.int .i64 a] [q.bC l]=some (.agg e.row,[r.bC l])
def OkA(l:AV)(T:List Tk)(f:Nat):Prop:=∀q e r,oA T f q=some (e,r)->∀aa,(bg S).call 0 aa 101 [.ptr 0 0 0 0] [q.bC l]=some (cD 11 (E.rows e),[r.bC l])
section
variable {l:AV}{T:List Tk}(hT:TL l T)
include hT
theorem uw(f:Nat)(hE:Xb l T f):wm l T (f+1):=by
 intro q e r h aa
 unfold kB at h
 obtain⟨⟨x1,x2⟩,h1,h2⟩:=Option.bind_eq_some_iff.1 h
 cases h2
 have eo:=λaa=>p8 hT aa q [40] (by simp)
 have e1:=hE 0 _ _ _ (by omega) h1
 have ec:=λaa=>o9 hT aa x2 [41] (by simp)
 generalize gj T q [40]=q1 at *
 generalize jO T x2 [41]=r1 at *
 obtain⟨k2,n2,OB,NJ,NK,tc,a2,CD,Ay⟩:=x1
 simp only[E.row,Int.natCast_zero]at e1
 refine ax (sf:=YW) rfl rfl rfl ?_
 simp[YW,eo,e1,ec,E.row,af,AV.an,AV.ah,AV.view]
theorem Rv(f:Nat)(hI:wm l T f):OkN l T (f+1):=by
 intro at_ q e r h aa
 have hlen:=hT.len
 unfold k6 at h
 have ei:=λaa=>jy hT aa q [91] (by simp)
 refine ax (sf:=s99) rfl rfl rfl ?_
 cases hi:fP T q [91] with
 |false=>
  rw[hi]at h
  simp only[Bool.false_eq_true,if_false,Option.some.injEq,Prod.mk.injEq]at h
  obtain⟨rfl,rfl⟩:=h
  have en:=λaa=>mz hT aa q
  generalize di T q=z at *
  simp[s99,ei,hi,en,Em,E.row,E.rows,af,AV.an,AV.ah]
 |true=>
  rw[hi]at h
  simp only[if_true]at h
  obtain⟨⟨x1,x2⟩,h1,h2⟩:=Option.bind_eq_some_iff.1 h
  cases h2
  obtain⟨i1,i2⟩:=bf hi
  have hw:IntKind.i64.wrap ((q.at_:Int)+1)=((q.at_+1:Nat):Int):=by rw[aY]<;>omega
  have e1:=λaa=>IA hT aa (ay q)
  have et:=λaa=>eM hT aa (vg T (ay q)).2 [93] (by simp)
  have e3:=hI _ _ _ h1
  generalize cR T (vg T (ay q)).2 [93]=r2 at *
  generalize vg T (ay q)=o at *
  obtain⟨k2,n2,OB,NJ,NK,tc,a2,CD,Ay⟩:=x1
  simp only[E.row]at e3
  simp[-au,-ag,s99,ei,hi,p9,kH,hw,e1,et,e3,Em,E.row,E.rows,aC,aA,af,AV.an,AV.ah,AV.view]
theorem F0(f:Nat)(hE:∀g,g<=f->Xb l T g):OkA l T (f+1):=by
 intro q e r h aa
 have hlen:=hT.len
 unfold oA at h
 have eo:=λaa=>p8 hT aa q [40] (by simp)
 refine ax (sf:=U6) rfl rfl rfl ?_
 generalize gj T q [40]=q1 at *
 have ei:=λaa=>jy hT aa q1 [41] (by simp)
 cases hi:fP T q1 [41] with
 |true=>
  rw[hi]at h
  simp only[if_true,Option.some.injEq,Prod.mk.injEq]at h
  obtain⟨rfl,rfl⟩:=h
  have ec:=λaa=>o9 hT aa q1 [41] (by simp)
  generalize jO T q1 [41]=r1 at *
  simp[U6,eo,ei,hi,ec,E.rows,nE]
 |false=>
  rw[hi]at h
  simp only[Bool.false_eq_true,if_false]at h
  obtain⟨⟨x1,x2⟩,h1,h2⟩:=Option.bind_eq_some_iff.1 h
  have e1:=hE f (Nat.le_refl _) 0 _ _ _ (by omega) h1
  have g1:=eF h1
  have hx:vN 11 120 .U [x1.row]=some (cD 11 (E.rows [x1])):=by
   have:=fW (sz:=11) (bytes:=120) (r:=[]) (new:=[x1.row]) (by simp[bU,E.aG]) (by simp[dQ])
   simpa [nE,E.rows] using this
  obtain⟨F,hF⟩:∃F,(cD 11 (E.rows e),[RQ.bC l r])=F:=⟨_,rfl⟩
  obtain⟨k2,n2,OB,NJ,NK,tc,a2,CD,Ay⟩:=x1
  simp only[E.row,Int.natCast_zero]at e1 hx
  simp[U6,eo,ei,hi,e1,hx,AV.view]
  refine bM LU.eq_1 (λx:RQ×List E×Nat=>⟨[(0,.val (.ptr 0 0 0 0)),(3,.val (cD 11 (E.rows x.2.1)))],[],[RQ.bC l x.1]⟩)
   (λx=>x.2.2<=f/\x.2.1.length<=x.1.at_+1/\nU T x.2.2 x.2.1 x.1=some (e,r)) (λx=>x.2.2) (x2,[E.mk k2 n2 OB NJ NK tc a2 CD Ay],f) rfl ⟨Nat.le_refl _,by simp,h2⟩ ?_
  rintro⟨s,es,g⟩ ⟨hg,NL,hp⟩ ih
  simp only at hg NL hp ih
  have ej:=λaa=>jy hT aa s [44] (by simp)
  cases g with
  |zero=>simp[nU]at hp
  |succ g=>
   unfold nU at hp
   cases hj:fP T s [44] with
   |true=>
    rw[hj]at hp
    simp only[if_true]at hp
    obtain⟨⟨y1,y2⟩,h3,h4⟩:=Option.bind_eq_some_iff.1 hp
    obtain⟨i1,i2⟩:=bf hj
    have tE:IntKind.i64.wrap ((s.at_:Int)+1)=((s.at_+1:Nat):Int):=by rw[aY]<;>omega
    have e2:=hE g (by omega) 0 _ _ _ (by omega) h3
    have g2:=(eF h3).le
    have DH:=fW (sz:=11) (bytes:=120) (r:=E.rows es) (new:=[y1.row]) (by simp[bU,E.aG]) (by simp[dQ,iu];omega)
    have Zk:E.rows es++[y1.row]=E.rows (es++[y1]):=by simp[iu]
    rw[Zk]at DH
    have eU:=ih (y2,es++[y1],g) ⟨by simp only;omega,by simp[ay]at g2 ⊢;omega,h4⟩ (by simp only;omega)
    generalize E.rows (es++[y1])=R at *
    obtain⟨k3,n3,nm3,on3,od3,akV,a3,ty3,amL⟩:=y1
    simp only[E.row,Int.natCast_zero]at e2 DH
    simp[-au,-ag,ej,hj,p9,kH,tE,e2,DH,AV.view]
    exact eU
   |false=>
    rw[hj]at hp
    simp only[Bool.false_eq_true,if_false,Option.some.injEq,Prod.mk.injEq]at hp
    obtain⟨rfl,rfl⟩:=hp
    have ec:=λaa=>o9 hT aa s [41] (by simp)
    generalize jO T s [41]=r1 at *
    simp[ej,hj,ec]
end
end N7
namespace N7
open Ax Go cz V7 kL
section
variable {l:AV}{T:List Tk}(hT:TL l T)
include hT
theorem CO(f:Nat)(hN:OkN l T f)(hI:wm l T f)(hA:OkA l T f):OkF l T (f+1):=by
 intro q e r h
 have hlen:=hT.len
 have et:=λaa=>lJ hT aa q
 have eo:=λaa=>x5 (l:=l) aa q
 have ei:=λaa s hs=>jy hT aa q s hs
 have Vu:=λs (h:fP T q s=true)=>Ew h
 have JL:(ey T q).k≠0->q.at_<T.length:=sH
 unfold jX at h
 generalize hc:ey T q=c at *
 simp only[Tk.cells]at et
 have hw:q.at_<T.length->IntKind.i64.wrap ((q.at_:Int)+1)=((q.at_+1:Nat):Int):=λh=>by rw[aY]<;>omega
 have Eb:∀s,fP T q s=true->IntKind.i64.wrap ((q.at_:Int)+1)=((q.at_+1:Nat):Int):=λs h=>hw (bf h).2
 by_cases c0:q.fe=0/\c.k=2
 ·rw[if_pos c0]at h
  cases h
  have hw:=hw (JL (by rw[c0.2];decide))
  refine⟨.U,rfl,by simp[Em,E.az,oN,AV.view],λaa=>?_⟩
  refine ax (sf:=Co) rfl rfl rfl ?_
  simp[-au,-ag,Co,et,eo,c0.1,c0.2,p9,kH,hw,af,AV.an,AV.ah,qW,Em,E.k,E.n,E.nm,E.on,E.od,E.a,E.ty,E.cN]
 rw[if_neg c0]at h
 by_cases GM:q.fe=0
 ·have LD:¬c.k=2:=λh=>c0 ⟨GM,h⟩
  cases h1:fP T q [116,114,117,101] with
  |true=>
   rw[h1]at h
   simp only[Bool.true_or,if_true,Option.some.injEq,Prod.mk.injEq]at h
   obtain⟨rfl,rfl⟩:=h
   have hw:=Eb _ h1
   have ht:=Vu _ h1
   refine⟨.U,rfl,by simp[Em,E.az,oN,AV.view],λaa=>?_⟩
   refine ax (sf:=Co) rfl rfl rfl ?_
   simp[-au,-ag,Co,et,eo,GM,LD,ei,h1,p9,kH,hw,ht,af,AV.an,AV.ah,qW,Em,E.k,E.n,E.nm,E.on,E.od,E.a,E.ty,E.cN]
  |false=>
  cases h2:fP T q [102,97,108,115,101] with
  |true=>
   rw[h1,h2]at h
   simp only[Bool.false_or,if_true,Option.some.injEq,Prod.mk.injEq]at h
   obtain⟨rfl,rfl⟩:=h
   have hw:=Eb _ h2
   have ht:=Vu _ h2
   refine⟨.U,rfl,by simp[Em,E.az,oN,AV.view],λaa=>?_⟩
   refine ax (sf:=Co) rfl rfl rfl ?_
   simp[-au,-ag,Co,et,eo,GM,LD,ei,h1,h2,p9,kH,hw,ht,af,AV.an,AV.ah,qW,Em,E.k,E.n,E.nm,E.on,E.od,E.a,E.ty,E.cN]
  |false=>
  rw[h1,h2]at h
  simp only[Bool.or_self,Bool.false_eq_true,if_false]at h
  cases h3:fP T q [110,117,108,108] with
  |true=>
   rw[h3]at h
   simp only[if_true,Option.some.injEq,Prod.mk.injEq]at h
   obtain⟨rfl,rfl⟩:=h
   have hw:=Eb _ h3
   have e1:=λaa=>IA hT aa (ay q)
   generalize vg T (ay q)=o at *
   refine⟨.U,rfl,by simp[Em,E.az,oN,AV.view],λaa=>?_⟩
   refine ax (sf:=Co) rfl rfl rfl ?_
   simp[-au,-ag,Co,et,eo,GM,LD,ei,h1,h2,h3,p9,kH,hw,e1,af,AV.an,AV.ah,aC,aA,qW,Em,E.k,E.n,E.nm,E.on,E.od,E.a,E.ty,E.cN]
  |false=>
  rw[h3]at h
  simp only[Bool.false_eq_true,if_false]at h
  cases h4:fP T q [110,101,119] with
  |true=>
   rw[h4]at h
   simp only[if_true]at h
   have hw:=Eb _ h4
   have e1:=hN _ _ _ _ h
   refine⟨aW e.az,by simp,by simp,λaa=>?_⟩
   rw[vA]
   obtain⟨k2,n2,OB,NJ,NK,tc,a2,CD,Ay⟩:=e
   simp only[E.row]at e1 ⊢
   refine ax (sf:=Co) rfl rfl rfl ?_
   simp[-au,-ag,Co,et,eo,GM,LD,ei,h1,h2,h3,h4,p9,kH,hw,e1,af,AV.an,AV.ah]
  |false=>
  rw[h4]at h
  simp only[Bool.false_eq_true,if_false]at h
  cases h5:fP T q [108,101,110] with
  |true=>
   rw[h5]at h
   simp only[if_true]at h
   have hw:=Eb _ h5
   obtain⟨⟨x1,x2⟩,h8,h9⟩:=Option.bind_eq_some_iff.1 h
   cases h9
   have e1:=hI _ _ _ h8
   refine⟨_,by simp,bF,λaa=>?_⟩
   rw[vA]
   obtain⟨k2,n2,OB,NJ,NK,tc,a2,CD,Ay⟩:=x1
   simp only[E.row]at e1
   refine ax (sf:=Co) rfl rfl rfl ?_
   simp[-au,-ag,Co,et,eo,GM,LD,ei,h1,h2,h3,h4,h5,p9,kH,hw,e1,af,AV.an,AV.ah,AV.view,aC,aA,Em,E.row,E.rows]
  |false=>
  rw[h5]at h
  simp only[Bool.false_eq_true,if_false]at h
  cases h6:fP T q [114,101,97,100] with
  |true=>
   rw[h6]at h
   simp only[if_true,Option.some.injEq,Prod.mk.injEq]at h
   obtain⟨rfl,rfl⟩:=h
   have hw:=Eb _ h6
   have ep:=λaa=>p8 hT aa (ay q) [40] (by simp)
   have eq:=λaa=>o9 hT aa (gj T (ay q) [40]) [41] (by simp)
   refine⟨.U,rfl,by simp[Em,E.az,oN,AV.view],λaa=>?_⟩
   refine ax (sf:=Co) rfl rfl rfl ?_
   simp[-au,-ag,Co,et,eo,GM,LD,ei,h1,h2,h3,h4,h5,h6,p9,kH,hw,ep,eq,af,AV.an,AV.ah,qW,Em,E.k,E.n,E.nm,E.on,E.od,E.a,E.ty,E.cN]
  |false=>
  rw[h6]at h
  simp only[Bool.false_eq_true,if_false]at h
  cases h7:fP T q [40] with
  |true=>
   rw[h7]at h
   simp only[if_true]at h
   have e1:=hI _ _ _ h
   refine⟨aW e.az,by simp,by simp,λaa=>?_⟩
   rw[vA]
   obtain⟨k2,n2,OB,NJ,NK,tc,a2,CD,Ay⟩:=e
   simp only[E.row]at e1 ⊢
   refine ax (sf:=Co) rfl rfl rfl ?_
   simp[-au,-ag,Co,et,eo,GM,LD,ei,h1,h2,h3,h4,h5,h6,h7,e1,af,AV.an,AV.ah]
  |false=>
   rw[h7]at h
   simp only[Bool.false_eq_true,if_false]at h
   have en:=λaa=>mz hT aa q
   generalize di T q=z at *
   have ez:=λaa=>jy hT aa z.2 [40] (by simp)
   cases h8:fP T z.2 [40] with
   |false=>
    rw[h8]at h
    simp only[Bool.false_eq_true,if_false,Option.some.injEq,Prod.mk.injEq]at h
    obtain⟨rfl,rfl⟩:=h
    refine⟨.U,rfl,by simp[Em,E.az,oN,AV.view],λaa=>?_⟩
    refine ax (sf:=Co) rfl rfl rfl ?_
    simp[-au,-ag,Co,et,eo,GM,LD,ei,h1,h2,h3,h4,h5,h6,h7,en,ez,h8,af,AV.an,AV.ah,qW,Em,E.k,E.n,E.nm,E.on,E.od,E.a,E.ty,E.cN]
   |true=>
    rw[h8]at h
    simp only[if_true]at h
    obtain⟨⟨x1,x2⟩,h9,Bv⟩:=Option.bind_eq_some_iff.1 h
    cases Bv
    have e1:=hA _ _ _ h9
    have hk:aJ (cD 11 (E.rows x1))=true:=dz
    have hv:(cD 11 (E.rows x1)).view=aW x1:=rfl
    generalize cD 11 (E.rows x1)=kv at *
    have hkc:=bE hk
    have hkp:=cC hk
    refine⟨kv,hk,hv,λaa=>?_⟩
    refine ax (sf:=Co) rfl rfl rfl ?_
    simp[-au,-ag,Co,et,eo,GM,LD,ei,h1,h2,h3,h4,h5,h6,h7,en,ez,h8,e1,hk,af,AV.an,AV.ah,aC,aA,qW,Em,E.k,E.n,E.nm,E.on,E.od,E.a,E.ty,E.cN]
 ·have iP:∀s,fP T q s=false:=λs=>Vk GM
  have en:=λaa=>mz hT aa q
  have hz:di T q=([],q):=by simp[di,GM,iN]
  rw[hz]at en
  simp only[iP,hz,Bool.or_self,Bool.false_eq_true,if_false,Option.some.injEq,Prod.mk.injEq]at h
  obtain⟨rfl,rfl⟩:=h
  refine⟨.U,rfl,by simp[Em,E.az,oN,AV.view],λaa=>?_⟩
  refine ax (sf:=Co) rfl rfl rfl ?_
  simp[-au,-ag,Co,et,eo,GM,ei,iP,en,af,AV.an,AV.ah,qW,Em,E.k,E.n,E.nm,E.on,E.od,E.a,E.ty,E.cN]
theorem NM(f:Nat)(hE:∀g,g<f->Xb l T g):Kz l T f:=by
 intro a0 q e r h kv0 uv hv0 aa
 have hlen:=hT.len
 have aja:=bE uv
 refine ax (sf:=s93) rfl rfl rfl ?_
 simp[s93,qW,aja]
 refine bM QW.eq_1 (λx:RQ×E×AV×Nat×List AV×List AV=>⟨[(0,.val (.ptr 0 0 0 0)),(3,.fp 0 0),(4,.fp 1 0)],
   [qW x.2.1 x.2.2.1,[.int .i64 0,.int .i64 0,.str [],.str [],.int .i64 0,.U,.int .i64 0,.int .i64 0,.int .i64 0,.int .i64 0,.int .i64 0],x.2.2.2.2.1,x.2.2.2.2.2],[RQ.bC l x.1]⟩)
  (λx=>x.2.2.2.1<=f/\aJ x.2.2.1=true/\x.2.2.1.view=aW x.2.1.az/\eZ T x.2.2.2.1 x.2.1 x.1=some (e,r)) (λx=>x.2.2.2.1) (q,a0,kv0,f,[],[]) rfl ⟨Nat.le_refl _,uv,hv0,h⟩ ?_
 rintro⟨s,a,kv,g,b2,b3⟩ ⟨hg,hk,hv,hp⟩ ih
 simp only at hg hk hv hp ih
 have hkc:=bE hk
 have hkp:=cC hk
 have ed:=λaa=>jy hT aa s [46] (by simp)
 have eb:=λaa=>jy hT aa s [91] (by simp)
 have et:=λaa=>lJ hT aa s
 have dg:E.rows [a]=[qW a (aW a.az)]:=by rw[vA];simp[E.rows]
 cases g with
 |zero=>simp[eZ]at hp
 |succ g=>
  unfold eZ at hp
  cases h1:fP T s [46] with
  |true=>
   rw[h1]at hp
   simp only[if_true]at hp
   obtain⟨i1,i2⟩:=bf h1
   have hw:IntKind.i64.wrap ((s.at_:Int)+1)=((s.at_+1:Nat):Int):=by rw[aY]<;>omega
   have en:=λaa=>mz hT aa (ay s)
   generalize di T (ay s)=z at *
   generalize ey T s=c at *
   simp only[Tk.cells]at et
   have eU:=λb2 b3=>ih (z.2,Em 5 0 z.1 [] 0 [a] c.a,aW [a],g,b2,b3) ⟨by simp only;omega,by simp,by simp[Em,E.az],hp⟩ (by simp only;omega)
   simp[-au,-ag,ed,h1,et,p9,kH,hw,en,hv,af,AV.view,aC,aA,qW]
   have:=eU [.int .i64 c.k,.str c.t,.int .i64 c.n,.int .i64 c.a] b3
   simp[qW,Em,E.k,E.n,E.nm,E.on,E.od,E.a,E.ty,E.cN,aW,dg]at this
   exact this
  |false=>
   rw[h1]at hp
   simp only[Bool.false_eq_true,if_false]at hp
   cases h2:fP T s [91] with
   |true=>
    rw[h2]at hp
    simp only[if_true]at hp
    obtain⟨⟨x1,x2⟩,h3,h4⟩:=Option.bind_eq_some_iff.1 hp
    have eo:=λaa=>p8 hT aa s [91] (by simp)
    have e1:=hE g (by omega) 0 _ _ _ (by omega) h3
    have ec:=λaa=>o9 hT aa x2 [93] (by simp)
    generalize gj T s [91]=q1 at *
    simp only at h4
    generalize jO T x2 [93]=q3 at *
    generalize ey T s=c at *
    simp only[Tk.cells]at et
    have IC:E.rows [a,x1]=[qW a (aW a.az),x1.row]:=by rw[vA];simp[E.rows]
    have eU:=λb2 b3=>ih (q3,Em 6 0 [] [] 0 [a,x1] c.a,aW [a,x1],g,b2,b3) ⟨by simp only;omega,by simp,by simp[Em,E.az],h4⟩ (by simp only;omega)
    obtain⟨k2,n2,OB,NJ,NK,tc,a2,CD,Ay⟩:=x1
    simp only[E.row,Int.natCast_zero]at e1 IC
    simp[-au,-ag,ed,eb,h1,h2,et,eo,e1,ec,hv,af,AV.view,qW]
    have:=eU [.int .i64 c.k,.str c.t,.int .i64 c.n,.int .i64 c.a] [.int .i64 k2,.int .i64 n2,.str OB,.str NJ,.int .i64 NK,aB 11 (E.rows tc),.int .i64 a2,.int .i64 CD.b,.int .i64 CD.r,.int .i64 CD.d,.int .i64 Ay]
    simp[qW,Em,E.k,E.n,E.nm,E.on,E.od,E.a,E.ty,E.cN,aW,IC]at this
    exact this
   |false=>
    rw[h2]at hp
    simp only[Bool.false_eq_true,if_false,Option.some.injEq,Prod.mk.injEq]at hp
    obtain⟨rfl,rfl⟩:=hp
    rw[<-vA]
    simp[-au,-ag,ed,eb,h1,h2,hv,af,AV.an,AV.ah,qW]
theorem Rw(f:Nat)(hE:Xb l T f)(hF:OkF l T f)(hB:Kz l T f):OkU l T (f+1):=by
 intro q e r h aa
 have hlen:=hT.len
 have et:=λaa=>lJ hT aa q
 have em:=λaa=>jy hT aa q [45] (by simp)
 have en:=λaa=>jy hT aa q [33] (by simp)
 unfold jW at h
 refine ax (sf:=s82) rfl rfl rfl ?_
 cases h1:fP T q [45] with
 |true=>
  rw[h1]at h
  simp only[Bool.true_or,if_true]at h
  obtain⟨⟨x1,x2⟩,h3,h4⟩:=Option.bind_eq_some_iff.1 h
  cases h4
  have hc:=Ew h1
  rw[hc]at h3
  have eo:=λaa=>p8 hT aa q [45] (by simp)
  have e1:=hE 5 _ _ _ (by omega) h3
  generalize gj T q [45]=q1 at *
  generalize ey T q=c at *
  obtain⟨k2,n2,OB,NJ,NK,tc,a2,CD,Ay⟩:=x1
  simp only[Tk.cells]at et
  simp only[E.row,Int.cast_ofNat_Int]at e1
  simp[-au,-ag,s82,et,em,h1,hc,eo,e1,aeb,Md,pS,aec,af,AV.view,AV.an,AV.ah,Em,E.row,E.rows]
 |false=>
  cases h2:fP T q [33] with
  |true=>
   rw[h1,h2]at h
   simp only[Bool.false_or,if_true]at h
   obtain⟨⟨x1,x2⟩,h3,h4⟩:=Option.bind_eq_some_iff.1 h
   cases h4
   have hc:=Ew h2
   rw[hc]at h3
   have eo:=λaa=>p8 hT aa q [33] (by simp)
   have e1:=hE 5 _ _ _ (by omega) h3
   generalize gj T q [33]=q1 at *
   generalize ey T q=c at *
   obtain⟨k2,n2,OB,NJ,NK,tc,a2,CD,Ay⟩:=x1
   simp only[Tk.cells]at et
   simp only[E.row,Int.cast_ofNat_Int]at e1
   simp[-au,-ag,s82,et,em,en,h1,h2,hc,eo,e1,aeb,Md,pS,aec,af,AV.view,AV.an,AV.ah,Em,E.row,E.rows]
  |false=>
   rw[h1,h2]at h
   simp only[Bool.or_self,Bool.false_eq_true,if_false]at h
   obtain⟨⟨x1,x2⟩,h3,h4⟩:=Option.bind_eq_some_iff.1 h
   obtain⟨kv,hk,hv,e1⟩:=hF _ _ _ h3
   have e3:=hB _ _ _ _ h4 kv hk hv
   obtain⟨k2,n2,OB,NJ,NK,tc,a2,CD,Ay⟩:=e
   have hkc:=bE hk
   have hkp:=cC hk
   simp only[E.row]at e3 ⊢
   generalize qW x1 kv=R at *
   generalize ey T q=c at *
   simp only[Tk.cells]at et
   simp[-au,-ag,s82,et,em,en,h1,h2,e1,e3,af,AV.an,AV.ah]
theorem vC(f:Nat)(hE:∀g,g<=f->Xb l T g)(hU:OkU l T f):Xb l T (f+1):=by
 intro n q e r hn h aa
 have hlen:=hT.len
 unfold fA at h
 refine ax (sf:=s67) rfl rfl rfl ?_
 by_cases hn5:n=5
 ·subst hn5
  rw[if_pos rfl]at h
  have e1:=hU _ _ _ h
  obtain⟨k2,n2,OB,NJ,NK,tc,a2,CD,Ay⟩:=e
  simp only[E.row]at e1 ⊢
  simp[-au,-ag,s67,e1,af,AV.an,AV.ah]
 ·rw[if_neg hn5]at h
  obtain⟨⟨x1,x2⟩,h1,h2⟩:=Option.bind_eq_some_iff.1 h
  have ajb:¬(n:Int)=5:=by omega
  have Xc:IntKind.i64.wrap ((n:Int)+1)=((n+1:Nat):Int):=by rw[aY]<;>omega
  have e1:=hE f (Nat.le_refl _) (n+1) _ _ _ (by omega) h1
  have dg:∀e:E,e.row=[.int .i64 e.k,.int .i64 e.n,.str e.nm,.str e.on,.int .i64 e.od,aW e.az,.int .i64 e.a,.int .i64 e.ty.b,.int .i64 e.ty.r,.int .i64 e.ty.d,.int .i64 e.cN]:=E.aG
  simp only[dg,Int.natCast_add,Int.cast_ofNat_Int]at e1
  simp[-au,-ag,s67,ajb,Xc,e1,af]
  refine bM QT.eq_1 (λx:RQ×E×Nat×List AV×List AV=>⟨[(0,.val (.ptr 0 0 0 0)),(1,.val (.int .i64 n)),(4,.fp 0 0),(5,.fp 1 0)],
    [[.int .i64 0,.int .i64 0,.str [],.str [],.int .i64 0,.U,.int .i64 0,.int .i64 0,.int .i64 0,.int .i64 0,.int .i64 0],
     [.int .i64 x.2.1.k,.int .i64 x.2.1.n,.str x.2.1.nm,.str x.2.1.on,.int .i64 x.2.1.od,aW x.2.1.az,.int .i64 x.2.1.a,.int .i64 x.2.1.ty.b,.int .i64 x.2.1.ty.r,.int .i64 x.2.1.ty.d,.int .i64 x.2.1.cN],x.2.2.2.1,x.2.2.2.2],[RQ.bC l x.1]⟩)
   (λx=>x.2.2.1<=f/\jg T x.2.2.1 n x.2.1 x.1=some (e,r)) (λx=>x.2.2.1) (x2,x1,f,[],[]) rfl ⟨Nat.le_refl _,h2⟩ ?_
  rintro⟨s,a,g,b2,b3⟩ ⟨hg,hp⟩ NN
  simp only at hg hp NN
  have eo:=λaa=>x5 (l:=l) aa s
  have et:=λaa=>lJ hT aa s
  have elp:=λwl aa=>IB wl aa n (by omega) (ey T s) [RQ.bC l s]
  cases g with
  |zero=>simp[jg]at hp
  |succ g=>
   unfold jg at hp
   by_cases TJ:s.fe=0/\ot n (ey T s)≠0
   ·rw[if_pos TJ]at hp
    obtain⟨f0,z0⟩:=TJ
    obtain⟨⟨y1,y2⟩,h3,h4⟩:=Option.bind_eq_some_iff.1 hp
    have JL:=xP z0
    have hw:IntKind.i64.wrap ((s.at_:Int)+1)=((s.at_+1:Nat):Int):=by rw[aY]<;>omega
    have e3:=hE g (by omega) (n+1) _ _ _ (by omega) h3
    have aee:=λwl aa st=>IB wl aa n (by omega) (ey T s) st
    simp only[dg,Int.natCast_add,Int.cast_ofNat_Int]at e3
    have IC:E.rows [a,y1]=[a.row,y1.row]:=by simp[E.rows]
    simp only[dg]at IC
    generalize ot n (ey T s)=z at *
    have eU:=λb2 b3=>NN (y2,Em z 0 [] [] 0 [a,y1] (ey T s).a,g,b2,b3) ⟨by simp only;omega,h4⟩ (by simp only;omega)
    generalize ey T s=c at *
    simp only[Tk.cells]at et elp aee
    simp[-au,-ag,eo,f0,et,aee,z0,p9,kH,hw,Xc,e3,af,AV.view,aC,aA]
    have:=eU [.int .i64 c.k,.str c.t,.int .i64 c.n,.int .i64 c.a] [.int .i64 y1.k,.int .i64 y1.n,.str y1.nm,.str y1.on,.int .i64 y1.od,aW y1.az,.int .i64 y1.a,.int .i64 y1.ty.b,.int .i64 y1.ty.r,.int .i64 y1.ty.d,.int .i64 y1.cN]
    simp only[Em,E.k,E.n,E.nm,E.on,E.od,E.az,E.a,E.ty,E.cN]at this
    simp only[show aW [a,y1]=.dj 11 (E.rows [a,y1]) from rfl,IC]at this
    exact this
   ·rw[if_neg TJ]at hp
    simp only[Option.some.injEq,Prod.mk.injEq]at hp
    obtain⟨rfl,rfl⟩:=hp
    rw[dg]
    generalize ot n (ey T s)=z at *
    generalize ey T s=c at *
    simp only[Tk.cells]at et elp
    by_cases f0:s.fe=0
    ·have z0:z=0:=Classical.byContradiction λh=>TJ ⟨f0,h⟩
     subst z0
     simp[-au,-ag,eo,f0,et,elp,af,AV.an,AV.ah]
    ·simp[-au,-ag,eo,f0,af,AV.an,AV.ah]
theorem Rx:∀f,Xb l T f/\OkU l T f/\OkF l T f/\wm l T f/\OkN l T f/\OkA l T f:=by
 intro f
 induction f using Nat.strongRecOn with
 |_ f ih=>
  cases f with
  |zero=>
   refine⟨?_,?_,?_,?_,?_,?_⟩
   ·intro n q e r _ h;simp[fA]at h
   ·intro q e r h;simp[jW]at h
   ·intro q e r h;simp[jX]at h
   ·intro q e r h;simp[kB]at h
   ·intro a q e r h;simp[k6]at h
   ·intro q e r h;simp[oA]at h
  |succ f=>
   obtain⟨hE,hU,hF,hI,hN,hA⟩:=ih f (by omega)
   have hEl:∀g,g<=f->Xb l T g:=λg h=>(ih g (by omega)).1
   exact⟨vC hT f hEl hU,Rw hT f hE hF (NM hT f λg h=>hEl g (by omega)),CO hT f hN hI hA,uw hT f hE,Rv hT f hI,F0 hT f hEl⟩
theorem ig{f n:Nat}{q r:RQ}{e:E}(hn:n<=5)(h:fA T f n q=some (e,r))(aa:Nat):(bg S).call 0 aa 67 [.ptr 0 0 0 0,.int .i64 (n:Nat)] [q.bC l]=some (.agg e.row,[r.bC l]):=(Rx hT f).1 n q e r hn h aa
end
end N7
namespace N7
open Ax Go cz V7 kL
def yz(l:AV)(T:List Tk)(f:Nat):Prop:=∀q s r,pV T f q=some (s,r)->∀aa,(bg S).call 0 aa 55 [.ptr 0 0 0 0] [q.bC l]=some (.agg s.row,[r.bC l])
def OkK(l:AV)(T:List Tk)(f:Nat):Prop:=∀q s r,iD T f q=some (s,r)->∀aa,(bg S).call 0 aa 35 [.ptr 0 0 0 0] [q.bC l]=some (cD 9 (Sm.rows s),[r.bC l])
section
variable {l:AV}{T:List Tk}(hT:TL l T)
include hT
theorem Zl{f:Nat}{q r:RQ}{e:E}(h:fA T f 0 q=some (e,r))(aa:Nat) :
  (bg S).call 0 aa 67 [.ptr 0 0 0 0,.int .i64 0] [q.bC l]=some (.agg [.int .i64 e.k,.int .i64 e.n,.str e.nm,.str e.on,.int .i64 e.od,aW e.az,.int .i64 e.a,.int .i64 e.ty.b,.int .i64 e.ty.r,.int .i64 e.ty.d,.int .i64 e.cN],[r.bC l]):=by
 have:=ig hT (n:=0) (by omega) h aa
 rw[E.aG]at this
 exact this
theorem Ry{f:Nat}{a0:Int}{q r:RQ}{s:Sm}(h:nh T f a0 q=some (s,r))(aa:Nat) :
  (bg S).call 0 aa 68 [.ptr 0 0 0 0,.agg [.int .i64 0,.str [],.str [],.int .i64 0,.U,.U,.U,.int .i64 a0,.int .i64 0]] [q.bC l]=some (.agg s.row,[r.bC l]):=by
 have hlen:=hT.len
 unfold nh at h
 obtain⟨⟨x,r1⟩,h1,h2⟩:=Option.bind_eq_some_iff.1 h
 dsimp only at h2
 have e1:=Zl hT h1
 have ei:=λaa s hs=>jy hT aa r1 s hs
 have ef:=λaa=>eu hT aa r1 2
 have kT:E.rows [x]=[[.int .i64 x.k,.int .i64 x.n,.str x.nm,.str x.on,.int .i64 x.od,aW x.az,.int .i64 x.a,.int .i64 x.ty.b,.int .i64 x.ty.r,.int .i64 x.ty.d,.int .i64 x.cN]]:=by simp[E.rows,E.aG]
 refine ax (sf:=W4) rfl rfl rfl ?_
 cases h3:fP T r1 [61] with
 |false=>
  rw[h3]at h2
  simp only[Bool.false_eq_true,if_false,Option.some.injEq,Prod.mk.injEq]at h2
  obtain⟨rfl,rfl⟩:=h2
  by_cases h4:fP T r1 [59]=true/\x.k≠7
  ·rw[if_pos h4]
   obtain⟨h4,h5⟩:=h4
   have et:=λaa=>eM hT aa (iN T r1 2) [59] (by simp)
   simp[-au,-ag,W4,e1,ei,h3,h4,h5,ef,et,af,AV.view,AV.an,AV.ah,Sm.row,aW,kT,Sm.rows]
  ·rw[if_neg h4]
   have et:=λaa=>eM hT aa r1 [59] (by simp)
   cases Vw:fP T r1 [59] with
   |false=>
    simp[-au,-ag,W4,e1,ei,h3,Vw,et,af,AV.view,AV.an,AV.ah,Sm.row,aW,kT,Sm.rows]
   |true=>
    have h5:x.k=7:=Classical.byContradiction λh=>h4 ⟨Vw,h⟩
    rw[h5]at e1 kT
    simp[-au,-ag,W4,e1,ei,h3,Vw,et,af,AV.view,AV.an,AV.ah,Sm.row,aW,kT,Sm.rows]
 |true=>
  rw[h3]at h2
  simp only[if_true]at h2
  obtain⟨⟨y,r2⟩,h4,h5⟩:=Option.bind_eq_some_iff.1 h2
  have e2:=Zl hT h4
  have F1:=λaa=>eM hT aa r2 [59] (by simp)
  have hry:E.rows [y]=[[.int .i64 y.k,.int .i64 y.n,.str y.nm,.str y.on,.int .i64 y.od,aW y.az,.int .i64 y.a,.int .i64 y.ty.b,.int .i64 y.ty.r,.int .i64 y.ty.d,.int .i64 y.cN]]:=by simp[E.rows,E.aG]
  have Zm:E.rows [x,y]=[[.int .i64 x.k,.int .i64 x.n,.str x.nm,.str x.on,.int .i64 x.od,aW x.az,.int .i64 x.a,.int .i64 x.ty.b,.int .i64 x.ty.r,.int .i64 x.ty.d,.int .i64 x.cN],[.int .i64 y.k,.int .i64 y.n,.str y.nm,.str y.on,.int .i64 y.od,aW y.az,.int .i64 y.a,.int .i64 y.ty.b,.int .i64 y.ty.r,.int .i64 y.ty.d,.int .i64 y.cN]]:=by simp[E.rows,E.aG]
  by_cases c4:x.k=4
  ·rw[if_pos (.inl c4)]at e2
   have et:=λaa=>eM hT aa r1 [61] (by simp)
   simp only[if_pos c4,Option.some.injEq,Prod.mk.injEq]at h5
   obtain⟨rfl,rfl⟩:=h5
   rw[c4]at e1
   simp[-au,-ag,W4,e1,ei,h3,et,e2,F1,af,AV.view,AV.an,AV.ah,Sm.row,aW,hry,Sm.rows]
  ·simp only[if_neg c4,Option.some.injEq,Prod.mk.injEq]at h5
   obtain⟨rfl,rfl⟩:=h5
   by_cases c5:x.k=5\/x.k=6
   ·rw[if_pos (.inr c5)]at e2
    have et:=λaa=>eM hT aa r1 [61] (by simp)
    rcases c5 with c5|c5<;>
    ·rw[c5]at e1 Zm
     simp[-au,-ag,W4,e1,ei,h3,et,e2,F1,af,AV.view,AV.an,AV.ah,Sm.row,aW,Zm,Sm.rows]
   ·have c5':x.k≠5:=λh=>c5 (.inl h)
    have c6':x.k≠6:=λh=>c5 (.inr h)
    rw[if_neg (λh=>h.elim c4 c5)]at e2
    have et:=λaa=>eM hT aa (iN T r1 2) [61] (by simp)
    simp[-au,-ag,W4,e1,ei,h3,ef,et,e2,F1,c4,c5',c6',af,AV.view,AV.an,AV.ah,Sm.row,aW,Zm,Sm.rows]
theorem fB(f:Nat)(hS:∀g,g<f->yz l T g):OkK l T (f+1):=by
 intro q s r h aa
 have hlen:=hT.len
 have eo:=λaa=>p8 hT aa q [123] (by simp)
 unfold iD at h
 refine ax (sf:=s35) rfl rfl rfl ?_
 generalize gj T q [123]=q1 at *
 simp[-au,-ag,s35,eo]
 refine bM QB.eq_1 (λx:RQ×List Sm×Nat=>⟨[(0,.val (.ptr 0 0 0 0)),(3,.val (cD 9 (Sm.rows x.2.1)))],[],[RQ.bC l x.1]⟩)
  (λx=>x.2.2<=f/\x.2.1.length<=T.length+1/\(x.1.fe=0->x.2.1.length<=x.1.at_/\x.2.1.length<=T.length)/\kC T x.2.2 x.2.1 x.1=some (s,r)) (λx=>x.2.2) (q1,[],f) rfl ⟨Nat.le_refl _,by simp,by simp,h⟩ ?_
 rintro⟨u,ss,g⟩ ⟨hg,NL,Xd,hp⟩ ih
 simp only at hg NL Xd hp ih
 have ek:=λaa=>x5 (l:=l) aa u
 have ei:=λaa=>jy hT aa u [125] (by simp)
 cases g with
 |zero=>simp[kC]at hp
 |succ g=>
  unfold kC at hp
  have ec:=λaa=>o9 hT aa u [125] (by simp)
  by_cases f0:u.fe=0
  ·cases hi:fP T u [125] with
   |true=>
    rw[if_neg (by rw[hi];simp)]at hp
    simp only[Option.some.injEq,Prod.mk.injEq]at hp
    obtain⟨rfl,rfl⟩:=hp
    simp[-au,-ag,ek,f0,ei,hi,ec]
   |false=>
    rw[if_pos ⟨f0,hi⟩]at hp
    obtain⟨⟨x,r2⟩,h1,h2⟩:=Option.bind_eq_some_iff.1 hp
    have e2:=hS g (by omega) _ _ _ h1
    obtain⟨g2,w2⟩:=(lH T g).1 _ _ _ h1
    have aef:=Xd f0
    have hle:=g2.le
    have DH:=fW (sz:=9) (bytes:=136) (r:=Sm.rows ss) (new:=[x.row]) (by simp[bU,Sm.aG]) (by simp[dQ,gH];omega)
    have Zk:Sm.rows ss++[x.row]=Sm.rows (ss++[x]):=by simp[gH]
    rw[Zk]at DH
    have eU:=ih (r2,ss++[x],g) ⟨by simp only;omega,by simp;omega,λf=>by
     rcases w2 with w|⟨w,v⟩
     ·exact absurd f w
     ·simp;omega,h2⟩ (by simp only;omega)
    simp only at eU
    generalize Sm.rows (ss++[x])=R at *
    rw[Sm.aG]at e2 DH
    simp[-au,-ag,ek,f0,ei,hi,e2,DH,AV.view]
    exact eU
  ·rw[if_neg (λh=>f0 h.1)]at hp
   simp only[Option.some.injEq,Prod.mk.injEq]at hp
   obtain⟨rfl,rfl⟩:=hp
   simp[-au,-ag,ek,f0,ec]
theorem sP(f:Nat)(hK:OkK l T f):yz l T (f+1):=by
 intro q s r h aa
 have hlen:=hT.len
 have et:=λaa=>lJ hT aa q
 have ei:=λaa s hs=>jy hT aa q s hs
 have Vu:=λs (h:fP T q s=true)=>Ew h
 have Eb:∀s,fP T q s=true->IntKind.i64.wrap ((q.at_:Int)+1)=((q.at_+1:Nat):Int):=λs h=>by
  have:=(bf h).2
  rw[aY]<;>omega
 unfold pV at h
 refine ax (sf:=QO) rfl rfl rfl ?_
 have en:=λaa=>mz hT aa (ay q)
 have ec:=λaa=>eM hT aa (di T (ay q)).2 [58] (by simp)
 have eo:=λaa=>IA hT aa (cR T (di T (ay q)).2 [58])
 have S6:cY T (ay q)=(⟨(di T (ay q)).1,(vg T (cR T (di T (ay q)).2 [58])).1.1,(vg T (cR T (di T (ay q)).2 [58])).1.2,(ey T (ay q)).a⟩,(vg T (cR T (di T (ay q)).2 [58])).2):=rfl
 rw[S6]at h
 generalize vg T (cR T (di T (ay q)).2 [58])=o at *
 generalize cR T (di T (ay q)).2 [58]=q2 at *
 generalize di T (ay q)=z at *
 clear S6
 have OT:=λs r (h:nh T f (ey T q).a q=some (s,r))=>Ry hT h
 generalize hc:ey T q=c at *
 simp only[Tk.cells]at et
 cases h1:fP T q [118,97,114] with
 |true=>
  rw[h1]at h
  simp only[if_true,Option.some.injEq,Prod.mk.injEq]at h
  obtain⟨rfl,rfl⟩:=h
  have ht:=Vu _ h1
  have hw:=Eb _ h1
  have e4:=λaa=>eM hT aa o.2 [59] (by simp)
  simp[-au,-ag,QO,et,ei,h1,ht,p9,kH,hw,en,ec,eo,e4,af,AV.view,AV.an,AV.ah,Sm.row,oN,Sm.rows]
 |false=>
 rw[h1]at h
 simp only[Bool.false_eq_true,if_false]at h
 cases h2:fP T q [108,101,116] with
 |true=>
  rw[h2]at h
  simp only[if_true]at h
  obtain⟨⟨x,r5⟩,h8,h9⟩:=Option.bind_eq_some_iff.1 h
  simp only[Option.some.injEq,Prod.mk.injEq]at h9
  obtain⟨rfl,rfl⟩:=h9
  have ht:=Vu _ h2
  have hw:=Eb _ h2
  have e4:=λaa=>eM hT aa o.2 [61] (by simp)
  have e5:=Zl hT h8
  have e6:=λaa=>eM hT aa r5 [59] (by simp)
  have kT:E.rows [x]=[[.int .i64 x.k,.int .i64 x.n,.str x.nm,.str x.on,.int .i64 x.od,aW x.az,.int .i64 x.a,.int .i64 x.ty.b,.int .i64 x.ty.r,.int .i64 x.ty.d,.int .i64 x.cN]]:=by simp[E.rows,E.aG]
  simp[-au,-ag,QO,et,ei,h1,h2,ht,p9,kH,hw,en,ec,eo,e4,e5,e6,af,AV.view,AV.an,AV.ah,Sm.row,Sm.rows]
  simp[aW,kT]
 |false=>
 rw[h2]at h
 simp only[Bool.false_eq_true,if_false]at h
 cases h3:fP T q [105,102] with
 |true=>
  rw[h3]at h
  simp only[if_true]at h
  obtain⟨⟨x,r5⟩,h8,h9⟩:=Option.bind_eq_some_iff.1 h
  obtain⟨⟨y,r6⟩,Bv,AY⟩:=Option.bind_eq_some_iff.1 h9
  have hw:=Eb _ h3
  have e5:=Zl hT h8
  have e6:=hK _ _ _ Bv
  have hv:aJ (cD 9 (Sm.rows y))=true:=dz
  have Rz:(cD 9 (Sm.rows y)).view=aB 9 (Sm.rows y):=rfl
  have kT:E.rows [x]=[[.int .i64 x.k,.int .i64 x.n,.str x.nm,.str x.on,.int .i64 x.od,aW x.az,.int .i64 x.a,.int .i64 x.ty.b,.int .i64 x.ty.r,.int .i64 x.ty.d,.int .i64 x.cN]]:=by simp[E.rows,E.aG]
  generalize cD 9 (Sm.rows y)=vy at *
  have Dy:=bE hv
  have NO:=cC hv
  have ej:=λaa=>jy hT aa r6 [101,108,115,101] (by simp)
  dsimp only at AY
  cases h4:fP T r6 [101,108,115,101] with
  |false=>
   rw[h4]at AY
   simp only[Bool.false_eq_true,if_false,Option.some.injEq,Prod.mk.injEq]at AY
   obtain⟨rfl,rfl⟩:=AY
   simp[-au,-ag,QO,et,ei,h1,h2,h3,p9,kH,hw,e5,e6,ej,h4,hv,Rz,af,AV.view,AV.an,AV.ah,Sm.row,Sm.rows]
   simp[aW,kT]
  |true=>
   rw[h4]at AY
   simp only[if_true]at AY
   obtain⟨⟨w,r8⟩,KA,Jr⟩:=Option.bind_eq_some_iff.1 AY
   simp only[Option.some.injEq,Prod.mk.injEq]at Jr
   obtain⟨rfl,rfl⟩:=Jr
   have hw6:IntKind.i64.wrap ((r6.at_:Int)+1)=((r6.at_+1:Nat):Int):=by
    have:=(bf h4).2
    rw[aY]<;>omega
   have e8:=hK _ _ _ KA
   have hu:aJ (cD 9 (Sm.rows w))=true:=dz
   have huv:(cD 9 (Sm.rows w)).view=aB 9 (Sm.rows w):=rfl
   generalize cD 9 (Sm.rows w)=vw at *
   have huc:=bE hu
   have hup:=cC hu
   simp[-au,-ag,QO,et,ei,h1,h2,h3,p9,kH,hw,hw6,e5,e6,ej,h4,e8,hv,Rz,hu,huv,af,AV.view,AV.an,AV.ah,Sm.row]
   simp[aW,kT]
 |false=>
 rw[h3]at h
 simp only[Bool.false_eq_true,if_false]at h
 cases h4:fP T q [119,104,105,108,101] with
 |true=>
  rw[h4]at h
  simp only[if_true]at h
  obtain⟨⟨x,r5⟩,h8,h9⟩:=Option.bind_eq_some_iff.1 h
  obtain⟨⟨y,r6⟩,Bv,AY⟩:=Option.bind_eq_some_iff.1 h9
  simp only[Option.some.injEq,Prod.mk.injEq]at AY
  obtain⟨rfl,rfl⟩:=AY
  have hw:=Eb _ h4
  have e5:=Zl hT h8
  have e6:=hK _ _ _ Bv
  have hv:aJ (cD 9 (Sm.rows y))=true:=dz
  have Rz:(cD 9 (Sm.rows y)).view=aB 9 (Sm.rows y):=rfl
  have kT:E.rows [x]=[[.int .i64 x.k,.int .i64 x.n,.str x.nm,.str x.on,.int .i64 x.od,aW x.az,.int .i64 x.a,.int .i64 x.ty.b,.int .i64 x.ty.r,.int .i64 x.ty.d,.int .i64 x.cN]]:=by simp[E.rows,E.aG]
  generalize cD 9 (Sm.rows y)=vy at *
  have Dy:=bE hv
  have NO:=cC hv
  simp[-au,-ag,QO,et,ei,h1,h2,h3,h4,p9,kH,hw,e5,e6,hv,Rz,af,AV.view,AV.an,AV.ah,Sm.row,Sm.rows]
  simp[aW,kT]
 |false=>
 rw[h4]at h
 simp only[Bool.false_eq_true,if_false]at h
 cases h5:fP T q [114,101,116,117,114,110] with
 |true=>
  rw[h5]at h
  simp only[if_true]at h
  have hw:=Eb _ h5
  have ej:=λaa=>jy hT aa (ay q) [59] (by simp)
  cases h6:fP T (ay q) [59] with
  |true=>
   rw[h6]at h
   simp only[if_true,Option.some.injEq,Prod.mk.injEq]at h
   obtain⟨rfl,rfl⟩:=h
   have e4:=λaa=>eM hT aa (ay q) [59] (by simp)
   simp[-au,-ag,QO,et,ei,h1,h2,h3,h4,h5,p9,kH,hw,ej,h6,e4,af,AV.view,AV.an,AV.ah,Sm.row,oN,Sm.rows]
  |false=>
   rw[h6]at h
   simp only[Bool.false_eq_true,if_false]at h
   obtain⟨⟨x,r5⟩,h8,h9⟩:=Option.bind_eq_some_iff.1 h
   simp only[Option.some.injEq,Prod.mk.injEq]at h9
   obtain⟨rfl,rfl⟩:=h9
   have e5:=Zl hT h8
   have e4:=λaa=>eM hT aa r5 [59] (by simp)
   have kT:E.rows [x]=[[.int .i64 x.k,.int .i64 x.n,.str x.nm,.str x.on,.int .i64 x.od,aW x.az,.int .i64 x.a,.int .i64 x.ty.b,.int .i64 x.ty.r,.int .i64 x.ty.d,.int .i64 x.cN]]:=by simp[E.rows,E.aG]
   simp[-au,-ag,QO,et,ei,h1,h2,h3,h4,h5,p9,kH,hw,ej,h6,e5,e4,af,AV.view,AV.an,AV.ah,Sm.row,Sm.rows]
   simp[aW,kT]
 |false=>
 rw[h5]at h
 simp only[Bool.false_eq_true,if_false]at h
 cases h6:fP T q [112,114,105,110,116] with
 |true=>
  rw[h6]at h
  simp only[if_true]at h
  obtain⟨⟨x,r5⟩,h8,h9⟩:=Option.bind_eq_some_iff.1 h
  simp only[Option.some.injEq,Prod.mk.injEq]at h9
  obtain⟨rfl,rfl⟩:=h9
  have hw:=Eb _ h6
  have e5:=Zl hT h8
  have e4:=λaa=>eM hT aa r5 [59] (by simp)
  have kT:E.rows [x]=[[.int .i64 x.k,.int .i64 x.n,.str x.nm,.str x.on,.int .i64 x.od,aW x.az,.int .i64 x.a,.int .i64 x.ty.b,.int .i64 x.ty.r,.int .i64 x.ty.d,.int .i64 x.cN]]:=by simp[E.rows,E.aG]
  simp[-au,-ag,QO,et,ei,h1,h2,h3,h4,h5,h6,p9,kH,hw,e5,e4,af,AV.view,AV.an,AV.ah,Sm.row,Sm.rows]
  simp[aW,kT]
 |false=>
  rw[h6]at h
  simp only[Bool.false_eq_true,if_false]at h
  have e1:=OT _ _ h
  rw[Sm.aG]at e1 ⊢
  simp[-au,-ag,QO,et,ei,h1,h2,h3,h4,h5,h6,e1,af,AV.view,AV.an,AV.ah]
theorem CP:∀f,yz l T f/\OkK l T f:=by
 intro f
 induction f using Nat.strongRecOn with
 |_ f ih=>
  cases f with
  |zero=>
   refine⟨?_,?_⟩
   ·intro q e r h;simp[pV]at h
   ·intro q e r h;simp[iD]at h
  |succ f=>
   exact⟨sP hT f (ih f (by omega)).2,fB hT f λg h=>(ih g (by omega)).1⟩
theorem F2{f:Nat}{q r:RQ}{s:List Sm}(h:iD T f q=some (s,r))(aa:Nat):(bg S).call 0 aa 35 [.ptr 0 0 0 0] [q.bC l]=some (cD 9 (Sm.rows s),[r.bC l]):=(CP hT f).2 q s r h aa
end
end N7
namespace N7
open Ax Go cz V7 kL
section
variable {l:AV}{T:List Tk}(hT:TL l T)
include hT
theorem za{f:Nat}{q rr:RQ}{rc:Rc}(h:mA T f q=some (rc,rr))(aa:Nat):(bg S).call 0 aa 19 [.ptr 0 0 0 0] [q.bC l]=some (.agg rc.row,[rr.bC l]):=by
 have hlen:=hT.len
 have et:=λaa=>lJ hT aa q
 have en:=λaa=>mz hT aa q
 have e2:=λaa=>eM hT aa (di T q).2 [123] (by simp)
 unfold mA at h
 obtain⟨⟨fs,r0⟩,h1,h2⟩:=Option.bind_eq_some_iff.1 h
 simp only[Option.some.injEq,Prod.mk.injEq]at h2
 obtain⟨rfl,rfl⟩:=h2
 generalize cR T (di T q).2 [123]=q2 at *
 generalize di T q=z at *
 generalize ey T q=c at *
 simp only[Tk.cells]at et
 refine ax (sf:=s19) rfl rfl rfl ?_
 simp[-au,-ag,s19,et,en,e2,af,AV.view]
 refine bM Qu.eq_1 (λx:RQ×List PD×Nat=>⟨[(0,.val (.ptr 0 0 0 0)),(2,.fp 0 0),(3,.fp 1 0)],[[.str [],.U,.int .i64 0],[.str z.1,cD 4 (x.2.1.map PD.cells),.int .i64 c.a]],[RQ.bC l x.1]⟩)
  (λx=>x.2.1.length<=T.length+1/\(x.1.fe=0->x.2.1.length<=x.1.at_/\x.2.1.length<=T.length)/\iX T x.2.2 x.2.1 x.1=some (fs,r0)) (λx=>x.2.2) (q2,[],f) rfl ⟨by simp,by simp,h1⟩ ?_
 rintro⟨s,ps,g⟩ ⟨NL,Xd,hp⟩ ih
 simp only at NL Xd hp ih
 have ek:=λaa=>x5 (l:=l) aa s
 have ei:=λaa=>jy hT aa s [125] (by simp)
 have ec:=λaa=>eM hT aa r0 [125] (by simp)
 cases g with
 |zero=>simp[iX]at hp
 |succ g=>
  unfold iX at hp
  by_cases f0:s.fe=0
  ·cases hi:fP T s [125] with
   |true=>
    rw[if_neg (by rw[hi];simp)]at hp
    simp only[Option.some.injEq,Prod.mk.injEq]at hp
    obtain⟨rfl,rfl⟩:=hp
    simp[-au,-ag,ek,f0,ei,hi,ec,af,AV.view,AV.an,AV.ah,Rc.row,aB]
   |false=>
    rw[if_pos ⟨f0,hi⟩]at hp
    have F1:=λaa=>lJ hT aa s
    have aef:=Xd f0
    have e3:=λaa=>CN hT aa s
    have e4:=λaa=>eM hT aa (cY T s).2 [59] (by simp)
    simp only[PD.cells]at e3
    have oM:=fW (sz:=4) (bytes:=48) (r:=ps.map PD.cells) (new:=[(cY T s).1.cells]) (by simp[bU,PD.cells]) (by simp[dQ];omega)
    have w2:=(sJ (T:=T) (q:=s)).trans (aN (s:=[59]))
    have Zn:=(iE (T:=T) (q:=s)).trans (aN (s:=[59]))
    by_cases h8:(ey T s).k=1/\ps.length=8
    ·rw[if_pos h8]at hp
     simp only[Option.some.injEq,Prod.mk.injEq]at hp
     obtain⟨rfl,rfl⟩:=hp
     have ef:=λaa=>eu hT aa s 4
     obtain⟨h8,h9⟩:=h8
     generalize ey T s=c2 at *
     simp only[Tk.cells,h8]at F1
     simp[-au,-ag,ek,f0,ei,hi,F1,h9,ef,ec,af,AV.view,AV.an,AV.ah,Rc.row,aB]
    ·rw[if_neg h8]at hp
     have eU:=ih (cR T (cY T s).2 [59],ps++[(cY T s).1],g) ⟨by simp;omega,λf=>by
      have hle:=Zn.le
      rcases w2 with w|⟨w,v⟩
      ·exact absurd f w
      ·simp;omega,hp⟩ (by simp only;omega)
     simp only[List.map_append,List.map_cons,List.map_nil]at eU
     generalize cR T (cY T s).2 [59]=s4 at *
     generalize cY T s=p at *
     generalize ey T s=c2 at *
     simp only[PD.cells]at oM eU
     simp only[Tk.cells]at F1
     by_cases hk:c2.k=1
     ·have h9:¬(ps.length:Int)=8:=λh=>h8 ⟨hk,by omega⟩
      simp[-au,-ag,ek,f0,ei,hi,F1,hk,h9,e3,e4,oM,aQ,bw,af,AV.view,AV.an,AV.ah]
      exact eU
     ·simp[-au,-ag,ek,f0,ei,hi,F1,hk,e3,e4,oM,aQ,bw,af,AV.view,AV.an,AV.ah]
      exact eU
  ·rw[if_neg (λh=>f0 h.1)]at hp
   simp only[Option.some.injEq,Prod.mk.injEq]at hp
   obtain⟨rfl,rfl⟩:=hp
   simp[-au,-ag,ek,f0,ec,af,AV.view,AV.an,AV.ah,Rc.row,aB]
def tl:bQ->bQ
 |.seq _ b=>b
 |c=>c
theorem F3{f:Nat}{q rr:RQ}{fc:Fc}(h:pW T f q=some (fc,rr))(aa:Nat):(bg S).call 0 aa 22 [.ptr 0 0 0 0] [q.bC l]=some (.agg fc.row,[rr.bC l]):=by
 have hlen:=hT.len
 have et:=λaa=>lJ hT aa q
 have en:=λaa=>mz hT aa q
 have e2:=λaa=>eM hT aa (di T q).2 [40] (by simp)
 unfold pW at h
 obtain⟨⟨fs,r0⟩,h1,h2⟩:=Option.bind_eq_some_iff.1 h
 dsimp only at h2
 generalize cR T (di T q).2 [40]=q2 at *
 generalize di T q=z at *
 generalize ey T q=c at *
 simp only[Tk.cells]at et
 refine ax (sf:=YR) rfl rfl rfl ?_
 simp[-au,-ag,YR,et,en,e2,af,AV.view]
 refine bM Qv.eq_1 (λx:RQ×List PD×Nat=>⟨[(0,.val (.ptr 0 0 0 0)),(2,.fp 0 0),(3,.fp 1 0)],[[.str [],.U,.bool false,.str [],.int .i64 0,.U,.int .i64 0],[.str z.1,cD 4 (x.2.1.map PD.cells),.bool false,.str [],.int .i64 0,.U,.int .i64 c.a]],[RQ.bC l x.1]⟩)
  (λx=>x.2.1.length<=T.length+1/\(x.1.fe=0->x.2.1.length<=x.1.at_/\x.2.1.length<=T.length)/\iI T x.2.2 x.2.1 x.1=some (fs,r0)) (λx=>x.2.2) (q2,[],f) rfl ⟨by simp,by simp,h1⟩ ?_
 rintro⟨s,ps,g⟩ ⟨NL,Xd,hp⟩ ih
 simp only at NL Xd hp ih
 have ek:=λaa=>x5 (l:=l) aa s
 have ei:=λaa=>jy hT aa s [41] (by simp)
 have out :
   W S 0 1 [.box 2 0 7 true] (HQ [.box 2 0 7 true] Ax.Mode.l9 [RQ.bC l q] (.agg fc.row,[RQ.bC l rr])) [.code (tl (tl (tl (tl (tl YR.body)))))] .normal
    ⟨[(0,.val (.ptr 0 0 0 0)),(2,.fp 0 0),(3,.fp 1 0)],[[.str [],.U,.bool false,.str [],.int .i64 0,.U,.int .i64 0],[.str z.1,cD 4 (fs.map PD.cells),.bool false,.str [],.int .i64 0,.U,.int .i64 c.a]],[RQ.bC l r0]⟩:=by
  have e4:=λaa=>eM hT aa r0 [41] (by simp)
  generalize cR T r0 [41]=r4 at *
  have e5:=λaa=>jy hT aa r4 [58] (by simp)
  cases h5:fP T r4 [58] with
  |false=>
   rw[h5]at h2
   simp only[Bool.false_eq_true,if_false]at h2
   obtain⟨⟨b,r6⟩,h6,h7⟩:=Option.bind_eq_some_iff.1 h2
   simp only[Option.some.injEq,Prod.mk.injEq]at h7
   obtain⟨rfl,rfl⟩:=h7
   have e6:=F2 hT h6
   have hv:aJ (cD 9 (Sm.rows b))=true:=dz
   have Rz:(cD 9 (Sm.rows b)).view=bD b:=rfl
   generalize cD 9 (Sm.rows b)=vb at *
   have Dy:=bE hv
   have NO:=cC hv
   simp[-au,-ag,YR,tl,e4,e5,h5,e6,hv,Rz,af,AV.view,AV.an,AV.ah,Fc.row,aB]
  |true=>
   rw[h5]at h2
   simp only[if_true]at h2
   obtain⟨⟨b,r6⟩,h6,h7⟩:=Option.bind_eq_some_iff.1 h2
   simp only[Option.some.injEq,Prod.mk.injEq]at h7
   obtain⟨rfl,rfl⟩:=h7
   have i2:=(bf h5).2
   have hw:IntKind.i64.wrap ((r4.at_:Int)+1)=((r4.at_+1:Nat):Int):=by rw[aY]<;>omega
   have e7:=λaa=>IA hT aa (ay r4)
   generalize vg T (ay r4)=o at *
   have e6:=F2 hT h6
   have hv:aJ (cD 9 (Sm.rows b))=true:=dz
   have Rz:(cD 9 (Sm.rows b)).view=bD b:=rfl
   generalize cD 9 (Sm.rows b)=vb at *
   have Dy:=bE hv
   have NO:=cC hv
   simp[-au,-ag,YR,tl,e4,e5,h5,p9,kH,hw,e7,e6,hv,Rz,af,AV.view,AV.an,AV.ah,Fc.row,aB]
 simp only[YR,tl]at out
 cases g with
 |zero=>simp[iI]at hp
 |succ g=>
  unfold iI at hp
  by_cases f0:s.fe=0
  ·cases hi:fP T s [41] with
   |true=>
    rw[if_neg (by rw[hi];simp)]at hp
    simp only[Option.some.injEq,Prod.mk.injEq]at hp
    obtain⟨rfl,rfl⟩:=hp
    simp[-au,-ag,ek,f0,ei,hi]at out ⊢
    exact out
   |false=>
    rw[if_pos ⟨f0,hi⟩]at hp
    have F1:=λaa=>lJ hT aa s
    have aef:=Xd f0
    have e3:=λaa=>CN hT aa s
    simp only[PD.cells]at e3
    have oM:=fW (sz:=4) (bytes:=48) (r:=ps.map PD.cells) (new:=[(cY T s).1.cells]) (by simp[bU,PD.cells]) (by simp[dQ];omega)
    have w2:=(sJ (T:=T) (q:=s)).trans pZ
    have Zn:=(iE (T:=T) (q:=s)).trans pZ
    by_cases h8:(ey T s).k=1/\ps.length=6
    ·rw[if_pos h8]at hp
     simp only[Option.some.injEq,Prod.mk.injEq]at hp
     obtain⟨rfl,rfl⟩:=hp
     have ef:=λaa=>eu hT aa s 4
     obtain⟨h8,h9⟩:=h8
     generalize ey T s=c2 at *
     simp only[Tk.cells,h8]at F1
     simp[-au,-ag,ek,f0,ei,hi,F1,h9,ef,AV.view]at out ⊢
     exact out
    ·rw[if_neg h8]at hp
     have eU:=ih (sG T (cY T s).2,ps++[(cY T s).1],g) ⟨by simp;omega,λf=>by
      have hle:=Zn.le
      rcases w2 with w|⟨w,v⟩
      ·exact absurd f w
      ·simp;omega,hp⟩ (by simp only;omega)
     simp only[List.map_append,List.map_cons,List.map_nil]at eU
     clear Zn w2 hp ih out
     generalize cY T s=p at *
     have e9:=λaa=>jy hT aa p.2 [41] (by simp)
     have e10:=λaa=>eM hT aa p.2 [44] (by simp)
     have e11:=λaa=>jy hT aa (cR T p.2 [44]) [41] (by simp)
     have e12:=λaa=>eu hT aa (cR T p.2 [44]) 2
     unfold sG at eU
     generalize cR T p.2 [44]=s4 at *
     generalize ey T s=c2 at *
     simp only[PD.cells]at oM eU
     simp only[Tk.cells]at F1
     by_cases hk:c2.k=1
     ·have h9:¬(ps.length:Int)=6:=λh=>h8 ⟨hk,by omega⟩
      cases h3:fP T p.2 [41] with
      |true=>
       rw[h3,if_pos rfl]at eU
       simp[-au,-ag,ek,f0,ei,hi,F1,hk,h9,e3,e9,h3,oM,aQ,bw,af,AV.view,AV.an,AV.ah]
       exact eU
      |false=>
       rw[h3,if_neg (by simp)]at eU
       cases h4:fP T s4 [41] with
       |true=>
        rw[h4,if_pos rfl]at eU
        simp[-au,-ag,ek,f0,ei,hi,F1,hk,h9,e3,e9,h3,e10,e11,h4,e12,oM,aQ,bw,af,AV.view,AV.an,AV.ah]
        exact eU
       |false=>
        rw[h4,if_neg (by simp)]at eU
        simp[-au,-ag,ek,f0,ei,hi,F1,hk,h9,e3,e9,h3,e10,e11,h4,oM,aQ,bw,af,AV.view,AV.an,AV.ah]
        exact eU
     ·cases h3:fP T p.2 [41] with
      |true=>
       rw[h3,if_pos rfl]at eU
       simp[-au,-ag,ek,f0,ei,hi,F1,hk,e3,e9,h3,oM,aQ,bw,af,AV.view,AV.an,AV.ah]
       exact eU
      |false=>
       rw[h3,if_neg (by simp)]at eU
       cases h4:fP T s4 [41] with
       |true=>
        rw[h4,if_pos rfl]at eU
        simp[-au,-ag,ek,f0,ei,hi,F1,hk,e3,e9,h3,e10,e11,h4,e12,oM,aQ,bw,af,AV.view,AV.an,AV.ah]
        exact eU
       |false=>
        rw[h4,if_neg (by simp)]at eU
        simp[-au,-ag,ek,f0,ei,hi,F1,hk,e3,e9,h3,e10,e11,h4,oM,aQ,bw,af,AV.view,AV.an,AV.ah]
        exact eU
  ·rw[if_neg (λh=>f0 h.1)]at hp
   simp only[Option.some.injEq,Prod.mk.injEq]at hp
   obtain⟨rfl,rfl⟩:=hp
   simp[-au,-ag,ek,f0]at out ⊢
   exact out
end
end N7
namespace N7
open Ax Go cz V7 kL
def RA(r:List AV):Tk:=match r with | [.int _ k,.str t,.int _ n,.int _ a]=>⟨k,t,n,a⟩|_=>Rg
def lS(rows:List (List AV)):List Tk:=rows.map RA
def mU(s:List UInt8):Pg×Int×Int:=if s.length<=6000 then match U2.Ct s with
  |(rows,none)=>(pX (lS rows) (40*(lS rows).length+100)).getD (AU,0,0)
  |(_,some e)=>(AU,1,e)
 else (AU,4,0)
theorem Me(a:Nat)(l:List UInt8):(U2.lg a l).2≠0->∃x:Tk,(U2.lg a l).1=x.cells/\x.a=a:=by
 have mk:∀k t n,∃x:Tk,U2.tn k t n a=x.cells/\x.a=a:=λk t n=>⟨⟨k,t,n,a⟩,rfl,rfl⟩
 unfold U2.lg
 split
 ·intro h;exact absurd rfl h
 ·split
  ·unfold U2.oL
   split
   ·exact λ_=>mk _ _ _
   ·split
    ·exact λ_=>mk _ _ _
    ·intro h;exact absurd rfl h
  ·split
   ·unfold U2.qT
    split
    ·intro h;exact absurd rfl h
    ·split
     ·intro h;exact absurd rfl h
     ·exact λ_=>mk _ _ _
   ·unfold U2.qC
    split
    ·intro h;exact absurd rfl h
    ·exact λ_=>mk _ _ _
theorem ID:∀(n a:Nat)(l:List UInt8)(rows:List (List AV)),U2.tq n a l=(rows,none)->(∀r∈rows,∃x:Tk,r=x.cells/\0<=x.a/\x.a<=a+l.length)/\rows.length<=n
 |0,_,_,rows,h=>by
  simp only[U2.tq,Prod.mk.injEq,and_true]at h
  subst h
  exact⟨by simp,Nat.le_refl _⟩
 |n+1,a,[],rows,h=>by
  simp only[U2.tq,Prod.mk.injEq,and_true]at h
  subst h
  exact⟨by intro r hr;rw[List.mem_singleton]at hr;subst hr;exact⟨⟨0,[],0,a⟩,rfl,by simp,by simp⟩,by simp⟩
 |n+1,a,c::l,rows,h=>by
  simp only[U2.tq]at h
  have hle:=U2.L0 a (c::l)
  have ha:=Me a (c::l)
  generalize U2.lg a (c::l)=z at *
  obtain⟨t,k⟩:=z
  cases k with
  |zero=>simp at h
  |succ k=>
   simp only at h ha hle
   generalize hy:U2.tq n _ _=y at h
   obtain⟨r2,e⟩:=y
   cases e with
   |some e=>simp at h
   |none=>
    simp only[Prod.mk.injEq,and_true]at h
    subst h
    obtain⟨h1,h2⟩:=ID n _ _ _ hy
    refine⟨λr hr=>?_,by simp;omega⟩
    rcases List.mem_cons.1 hr with e|e
    ·subst e
     obtain⟨x,hx,hxa⟩:=ha (by omega)
     exact⟨x,hx,by omega,by simp only[List.length_cons];omega⟩
    ·obtain⟨x,h3,h4,h5⟩:=h1 r e
     have hb:=U2.xK ((c::l).drop (k+1))
     simp only[List.length_drop,List.length_cons]at h5 hb hle
     refine⟨x,h3,h4,?_⟩
     simp only[List.length_cons]
     omega
theorem F4{s:List UInt8}{rows:List (List AV)}(h:U2.Ct s=(rows,none)):(∀r∈rows,∃x:Tk,r=x.cells/\0<=x.a/\x.a<=s.length)/\rows.length<=s.length+1:=by
 unfold U2.Ct at h
 obtain⟨h1,h2⟩:=ID _ _ _ _ h
 have hb:=U2.xK s
 refine⟨λr hr=>?_,h2⟩
 obtain⟨x,h3,h4,h5⟩:=h1 r hr
 rw[List.length_drop]at h5
 exact⟨x,h3,h4,by omega⟩
theorem RB{rows:List (List AV)}{N:Int}(h:∀r∈rows,∃x:Tk,r=x.cells/\0<=x.a/\x.a<=N):rows=(lS rows).map Tk.cells:=by
 unfold lS
 rw[List.map_map]
 conv=>lhs;rw[<-List.map_id rows]
 refine List.map_congr_left λr hr=>?_
 obtain⟨x,hx,_⟩:=h r hr
 subst hx
 rfl
theorem Zo{rows:List (List AV)}{N:Int}(h:∀r∈rows,∃x:Tk,r=x.cells/\0<=x.a/\x.a<=N):∀x∈lS rows,0<=x.a/\x.a<=N:=by
 intro x hx
 obtain⟨r,hr,rfl⟩:=List.mem_map.1 hx
 obtain⟨y,hy,h1,h2⟩:=h r hr
 subst hy
 exact⟨h1,h2⟩
theorem Vx(wl aa:Nat)(s:List UInt8)(st:aj):(bg S).call wl aa 9 [.str s] st=some (.fK [.agg (mU s).1.row,.agg [.int .i64 (mU s).2.1,.int .i64 (mU s).2.2]],st):=by
 have etk:=λwl aa st=>U2.Nw wl aa s st
 refine b8 (sf:=s9) rfl rfl (by simp) rfl (by simp[Pg.row,AV.an,AV.ah]) ?_
 have zero:∀e a:Int,e≠0->mU s=(AU,e,a)->U2.FD s=(.U,[.int .i64 e,.int .i64 a])->W S 0 0 s9.results (HT s9.results (.fK [.agg (mU s).1.row,.agg [.int .i64 (mU s).2.1,.int .i64 (mU s).2.2]])) [.code s9.body] .normal (pD s9 [.str s] []):=λe a he h1 h2=>by
  rw[h1]
  rw[h2]at etk
  simp[s9,etk,he,aQ,bw,fQ.bz,Pg.row,AU]
 by_cases hl:s.length<=6000
 ·have htv:U2.FD s=U2.Ib (U2.Ct s):=by unfold U2.FD;rw[U2.nH,decide_eq_true hl,if_pos rfl]
  have Uf:mU s=match U2.Ct s with|(rows,none)=>(pX (lS rows) (40*(lS rows).length+100)).getD (AU,0,0)|(_,some e)=>(AU,1,(e:Int)):=by unfold mU;rw[if_pos hl]
  generalize htp:U2.Ct s=z at *
  obtain⟨rows,e⟩:=z
  cases e with
  |some e=>exact zero 1 e (by decide) Uf htv
  |none=>
   obtain⟨ji,hlen⟩:=F4 htp
   have xu:=RB ji
   simp only[U2.Ib]at htv
   simp only at Uf
   have hTl:(lS rows).length=rows.length:=by simp[lS]
   obtain⟨x,hx⟩:=qD (lS rows)
   rw[hx,Option.getD_some]at Uf
   clear zero
   generalize lS rows=T at *
   have hT:TL (cD 4 rows) T:=⟨by
    have:bU 4 rows=true:=by rw[xu];simp[bU,Tk.cells]
    unfold cD
    split
    ·rfl
    ·simp[dc,this],by rw[uf];exact xu,by omega⟩
   rw[htv]at etk
   have aeh:=hT.sl
   generalize cD 4 rows=l at *
   rw[Uf]
   unfold pX at hx
   obtain⟨⟨p,r0⟩,h1,h2⟩:=Option.bind_eq_some_iff.1 hx
   simp only[Option.some.injEq]at h2
   subst h2
   simp[-au,-ag,s9,etk,aeh,af,AV.view]
   have hTv:TL l.view T:=⟨by rw[yO];exact hT.sz,by rw[Cf];exact hT.rows,hT.len⟩
   have akZ:=hT.len
   generalize l.view=lv at *
   refine bM WZ.eq_1 (λx:RQ×Pg×Nat=>⟨[(2,.fp 0 0),(3,.fp 1 0),(6,.val (.ptr 0 0 0 0)),(7,.fp 3 0)],
     [[.U,.U,.U],[.int .i64 0,.int .i64 0],[.int .i64 0,.int .i64 0],[cD 3 (x.2.1.bG.map Rc.row),cD 4 (x.2.1.globals.map PD.cells),cD 7 (x.2.1.funcs.map Fc.row)]],[RQ.bC lv x.1]⟩)
    (λx=>x.2.1.bG.length<=12/\x.2.1.globals.length<=8/\x.2.1.funcs.length<=16/\jv T x.2.2 x.2.1 x.1=some (p,r0)) (λx=>x.2.2) (⟨0,0,0,0⟩,AU,_) rfl ⟨by simp[AU],by simp[AU],by simp[AU],h1⟩ ?_
   rintro⟨u,⟨rs,gs,fs⟩,g⟩ ⟨b1,b2,b3,hp⟩ ih
   simp only at b1 b2 b3 hp ih
   clear h1 Uf ji xu etk aeh hT hlen hTl htv htp
   have hT:=hTv
   have ek:=λaa=>x5 (l:=lv) aa u
   have et:=λaa=>lJ hT aa u
   have i1:=λaa=>jy hT aa u [114,101,99,111,114,100] (by simp)
   have i2:=λaa=>jy hT aa u [103,108,111,98,97,108] (by simp)
   have i3:=λaa=>jy hT aa u [102,117,110,99] (by simp)
   cases g with
   |zero=>simp[jv]at hp
   |succ g=>
    unfold jv at hp
    simp only[Vj,L5,L6]at hp
    by_cases f0:u.fe=0
    ·by_cases k0:(ey T u).k=0
     ·rw[if_neg (λh=>h.2 k0)]at hp
      simp only[Option.some.injEq,Prod.mk.injEq]at hp
      obtain⟨rfl,rfl⟩:=hp
      rw[if_pos f0]
      generalize ey T u=c at *
      simp only[Tk.cells]at et
      simp[-au,-ag,ek,f0,et,k0,af,AV.view,Pg.row,aB]
     ·rw[if_pos ⟨f0,k0⟩]at hp
      have JL:=sH k0
      have hw:IntKind.i64.wrap ((u.at_:Int)+1)=((u.at_+1:Nat):Int):=by rw[aY]<;>omega
      have ef:=λaa e=>eu hT aa u e
      have Zp:∀s t:List UInt8,s≠t->fP T u s=true->fP T u t=false:=λs t ku h=>by
       cases h2:fP T u t with
       |false=>rfl
       |true=>exact absurd ((Ew h).symm.trans (Ew h2)) ku
      cases q1:fP T u [114,101,99,111,114,100] with
      |true=>
       have q2:=Zp _ [103,108,111,98,97,108] (by decide) q1
       have q3:=Zp _ [102,117,110,99] (by decide) q1
       simp only[q1,q2,q3,true_and,Bool.false_eq_true,false_and,or_false,if_true,if_false]at hp
       by_cases m1:rs.length=12
       ·rw[if_pos m1]at hp
        have eU:=ih (iN T u 4,⟨rs,gs,fs⟩,g) ⟨b1,b2,b3,hp⟩ (by simp only;omega)
        generalize ey T u=c at *
        simp only[Tk.cells]at et
        simp[-au,-ag,ek,f0,et,k0,i1,q1,m1,ef]
        exact eU
       ·rw[if_neg m1]at hp
        obtain⟨⟨x,r2⟩,h3,h4⟩:=Option.bind_eq_some_iff.1 hp
        have e3:=za hT h3
        have m1':¬(rs.length:Int)=12:=by omega
        have oM:=fW (sz:=3) (bytes:=48) (r:=rs.map Rc.row) (new:=[x.row]) (by simp[bU,Rc.row]) (by simp[dQ];omega)
        have eU:=ih (r2,⟨rs++[x],gs,fs⟩,g) ⟨by simp;omega,b2,b3,h4⟩ (by simp only;omega)
        simp only[List.map_append,List.map_cons,List.map_nil]at eU
        simp only[Rc.row]at e3 oM eU
        generalize ey T u=c at *
        simp only[Tk.cells]at et
        simp[-au,-ag,ek,f0,et,k0,i1,q1,i2,q2,i3,q3,m1',p9,kH,hw,e3,oM,aQ,bw,af,AV.view]
        exact eU
      |false=>
      cases q2:fP T u [103,108,111,98,97,108] with
      |true=>
       have q3:=Zp _ [102,117,110,99] (by decide) q2
       simp only[q1,q2,q3,true_and,Bool.false_eq_true,false_and,false_or,or_false,if_true,if_false]at hp
       by_cases m1:gs.length=8
       ·rw[if_pos m1]at hp
        have eU:=ih (iN T u 4,⟨rs,gs,fs⟩,g) ⟨b1,b2,b3,hp⟩ (by simp only;omega)
        generalize ey T u=c at *
        simp only[Tk.cells]at et
        simp[-au,-ag,ek,f0,et,k0,i1,q1,i2,q2,m1,ef]
        exact eU
       ·rw[if_neg m1]at hp
        have e3:=λaa=>CN hT aa (ay u)
        have e4:=λaa=>eM hT aa (cY T (ay u)).2 [59] (by simp)
        have m1':¬(gs.length:Int)=8:=by omega
        have oM:=fW (sz:=4) (bytes:=48) (r:=gs.map PD.cells) (new:=[(cY T (ay u)).1.cells]) (by simp[bU,PD.cells]) (by simp[dQ];omega)
        have eU:=ih (cR T (cY T (ay u)).2 [59],⟨rs,gs++[(cY T (ay u)).1],fs⟩,g) ⟨b1,by simp;omega,b3,hp⟩ (by simp only;omega)
        simp only[List.map_append,List.map_cons,List.map_nil]at eU
        generalize cR T (cY T (ay u)).2 [59]=r4 at *
        generalize cY T (ay u)=pp at *
        simp only[PD.cells]at e3 oM eU
        generalize ey T u=c at *
        simp only[Tk.cells]at et
        simp[-au,-ag,ek,f0,et,k0,i1,q1,i2,q2,i3,q3,m1',p9,kH,hw,e3,e4,oM,aQ,bw,af,AV.view]
        exact eU
      |false=>
      cases q3:fP T u [102,117,110,99] with
      |true=>
       simp only[q1,q2,q3,true_and,Bool.false_eq_true,false_and,false_or,if_true,if_false]at hp
       by_cases m1:fs.length=16
       ·rw[if_pos m1]at hp
        have eU:=ih (iN T u 4,⟨rs,gs,fs⟩,g) ⟨b1,b2,b3,hp⟩ (by simp only;omega)
        generalize ey T u=c at *
        simp only[Tk.cells]at et
        simp[-au,-ag,ek,f0,et,k0,i1,q1,i2,q2,i3,q3,m1,ef]
        exact eU
       ·rw[if_neg m1]at hp
        obtain⟨⟨x,r2⟩,h3,h4⟩:=Option.bind_eq_some_iff.1 hp
        have e3:=F3 hT h3
        have m1':¬(fs.length:Int)=16:=by omega
        have oM:=fW (sz:=7) (bytes:=104) (r:=fs.map Fc.row) (new:=[x.row]) (by simp[bU,Fc.row]) (by simp[dQ];omega)
        have eU:=ih (r2,⟨rs,gs,fs++[x]⟩,g) ⟨b1,b2,by simp;omega,h4⟩ (by simp only;omega)
        simp only[List.map_append,List.map_cons,List.map_nil]at eU
        simp only[Fc.row]at e3 oM eU
        generalize ey T u=c at *
        simp only[Tk.cells]at et
        simp[-au,-ag,ek,f0,et,k0,i1,q1,i2,q2,i3,q3,m1',p9,kH,hw,e3,oM,aQ,bw,af,AV.view]
        exact eU
      |false=>
       simp only[q1,q2,q3,Bool.false_eq_true,false_and,or_self,if_false]at hp
       have eU:=ih (iN T u 2,⟨rs,gs,fs⟩,g) ⟨b1,b2,b3,hp⟩ (by simp only;omega)
       generalize ey T u=c at *
       simp only[Tk.cells]at et
       simp[-au,-ag,ek,f0,et,k0,i1,q1,i2,q2,i3,q3,ef]
       exact eU
    ·rw[if_neg (λh=>f0 h.1)]at hp
     simp only[Option.some.injEq,Prod.mk.injEq]at hp
     obtain⟨rfl,rfl⟩:=hp
     rw[if_neg f0]
     have ea:∀aa bx,aL 0 aa (.load true 2 false) [.val (.ptr 0 0 0 3)] [RQ.bC lv u] bx=some (.val (.agg [.int .i64 u.fe,.int .i64 u.fa]),[RQ.bC lv u],bx):=λaa bx=>by simp[RQ.bC,cut,AV.view]
     simp[-au,-ag,ek,f0,ea,aQ,bw,fQ.bz,af,AV.view,Pg.row,AU]
 ·exact zero 4 0 (by decide) (by unfold mU;rw[if_neg hl]) (by unfold U2.FD;rw[U2.nH,decide_eq_false hl];rfl)
end N7
namespace N7
open Ax Go cz V7 kL U7
theorem RC(s:List UInt8):Pg.In 6000 (mU s).1/\(mU s).1.few:=by
 unfold mU
 split
 ·rename_i hl
  generalize htp:U2.Ct s=z
  obtain⟨rows,e⟩:=z
  cases e with
  |some e=>exact⟨FI,AW⟩
  |none=>
   obtain⟨ji,hlen⟩:=F4 htp
   obtain⟨x,hx⟩:=qD (lS rows)
   simp only
   rw[hx,Option.getD_some]
   exact NA ⟨by decide,λy hy=>by
    have:=Zo ji y hy
    omega⟩ hx
 ·exact⟨FI,AW⟩
def kO(p:Pg):GD:=⟨aB 3 (p.bG.map Rc.row),aB 4 (p.globals.map PD.cells),aB 7 (p.funcs.map Fc.row)⟩
theorem AZ{sz:Nat}{r:List (List AV)}:qU (aB sz r)=true:=by simp[aB]
theorem ux{a:Int}(h:0<=a)(h2:a<=6000):Tj a=true:=by simp only[Tj,Bool.and_eq_true,decide_eq_true_eq];omega
theorem zb{sz:Nat}{r:List (List AV)}(h:bU sz r=true):dc sz (aB sz r)=true:=by
 cases r with
 |nil=>rfl
 |cons a r=>simp[dc,h]
theorem CQ{l:List PD}(h:∀p∈l,FH 6000 p):Aw (aB 4 (l.map PD.cells))=true:=by
 unfold Aw kY
 rw[AZ,zb (by simp[bU,PD.cells]),aT]
 simp only[Bool.and_self,Bool.true_and,List.all_map,List.all_eq_true,Function.comp]
 intro p hp
 obtain⟨h1,h2,h3,h4⟩:=h p hp
 simp[L2,PD.cells,ux h1 (by omega),ux h3 h4]
theorem aej{p:Pg}(h:Pg.In 6000 p):(kO p).ok:=by
 refine⟨?_,CQ h.g.2,?_⟩
 ·unfold zW kY
  show (qU (aB 3 (p.bG.map Rc.row))&&dc 3 (aB 3 (p.bG.map Rc.row))&&(aZ (aB 3 (p.bG.map Rc.row))).all Er)=true
  rw[AZ,zb (by simp[bU,Rc.row]),aT]
  simp only[Bool.and_self,Bool.true_and,List.all_map,List.all_eq_true,Function.comp]
  intro r hr
  have i:=h.r.2 r hr
  simp[Er,Rc.row,CQ i.f,ux i.a.1 i.a.2]
 ·unfold zX kY
  show (qU (aB 7 (p.funcs.map Fc.row))&&dc 7 (aB 7 (p.funcs.map Fc.row))&&(aZ (aB 7 (p.funcs.map Fc.row))).all Et)=true
  rw[AZ,zb (by simp[bU,Fc.row]),aT]
  simp only[Bool.and_self,Bool.true_and,List.all_map,List.all_eq_true,Function.comp]
  intro r hr
  have i:=h.f.2 r hr
  simp[Et,Fc.row,CQ i.f,ux i.a.1 i.a.2,ux i.od.1 (by have:=i.od.2;omega),bD,AZ]
theorem oR(l:List PD):oq (aB 4 (l.map PD.cells))=l:=by
 simp only[oq,aT,List.map_map]
 conv=>rhs;rw[<-List.map_id l]
 exact List.map_congr_left λp _=>rfl
def IE(r:Rc):CR:=⟨r.name,aB 4 (r.cq.map PD.cells),r.a⟩
def DI(f:Fc):FN:=⟨f.name,aB 4 (f.params.map PD.cells),f.bO,f.on,f.od,bD f.body,f.a⟩
theorem qG(p:Pg):dA (kO p).bG=p.bG.map IE:=by
 simp only[kO,dA,aT,List.map_map]
 exact List.map_congr_left λp _=>rfl
theorem qH(p:Pg):jE (kO p).funcs=p.funcs.map DI:=by
 simp only[kO,jE,aT,List.map_map]
 exact List.map_congr_left λp _=>rfl
theorem F5(p:Pg):oq (kO p).globals=p.globals:=oR _
theorem aek{p:Pg}(h:Pg.In 6000 p):GD.sm (kO p):=by
 refine⟨?_,?_,?_,?_,?_⟩
 ·rw[qG,List.length_map];have:=h.r.1;omega
 ·intro x hx
  rw[qG]at hx
  obtain⟨r,hr,rfl⟩:=List.mem_map.1 hx
  simp only[IE,oR]
  have:=(h.r.2 r hr).len
  omega
 ·rw[F5];have:=h.g.1;omega
 ·rw[qH,List.length_map];have:=h.f.1;omega
 ·intro x hx
  rw[qH]at hx
  obtain⟨r,hr,rfl⟩:=List.mem_map.1 hx
  simp only[DI,oR]
  have:=(h.f.2 r hr).len
  omega
end N7
