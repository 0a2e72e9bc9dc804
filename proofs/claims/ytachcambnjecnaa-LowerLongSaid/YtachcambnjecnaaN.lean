/-
  The reader of the document's parser: what stands at a place, and what goes over it.
-/
import Derived.Test.YtachcambnjecnaaCode2
import Derived.Test.YtachcambnjecnaaP
import Derived.Test.YtachcambnjecnaaL
import Derived.Test.YtachcambnjecnaaM

set_option maxRecDepth 100000
set_option maxHeartbeats 8000000
namespace N7
open Ax Go Code13 V7 Par
section
variable {l:AV}{T:List Tk}(hT:TL l T)(lim:Nat)(q:RQ)
theorem ok_ok:(orcL S).call 0 lim 15 [.ptr 0 0 0 0] [q.obj l]=some (.bool (decide (q.fe=0)),[q.obj l]):=by
 refine call_run (sf:=s15) rfl rfl rfl ?_
 simp[s15,RQ.obj,cut,AV.view]
include hT
theorem tok_ok:(orcL S).call 0 lim 16 [.ptr 0 0 0 0] [q.obj l]=some (.agg (cur T q).cells,[q.obj l]):=by
 have hs:=hT.sl
 have hz:=hT.sz
 have hr:=hT.rows
 refine call_run (sf:=s16) rfl rfl rfl ?_
 have h0:¬(q.at_:Int)<0:=by omega
 by_cases h1:q.at_<T.length
 ·have h2:¬(T.length:Int)<=(q.at_:Int):=by omega
  have hc:cur T q=T[q.at_]:=by simp[cur,h1]
  simp[s16,RQ.obj,cut,h0,h1,h2,hs,hz,hr,hc,Tk.cells,W_draw0,noBoxes,AV.view]
 ·have h2:(T.length:Int)<=(q.at_:Int):=by omega
  have hc:cur T q=Tk0:=by simp[cur,List.getD,List.getElem?_eq_none (Nat.le_of_not_lt h1)]
  simp[s16,RQ.obj,cut,h0,h2,hs,hr,hc,Tk.cells,W_draw0,noBoxes,AV.view]
theorem is_ok (s:List UInt8)(hne:s≠[]):(orcL S).call 0 lim 17 [.ptr 0 0 0 0,.str s] [q.obj l]=some (.bool (isQ T q s),[q.obj l]):=by
 have et:=fun lim=>tok_ok hT lim q
 have eo:=fun lim=>ok_ok (l:=l) lim q
 cases s with
 |nil=>exact absurd rfl hne
 |cons c s=>
  obtain⟨v,hv⟩:∃v,isQ T q (c::s)=v:=⟨_,rfl⟩
  rw[hv]
  simp only[isQ]at hv
  refine call_run (sf:=s17) rfl rfl rfl ?_
  generalize cur T q=x at *
  simp only[Tk.cells]at et
  have fin:∀k:Int,kindOf (c::s)=k->v=(decide (q.fe=0)&&decide (x.k=k)&&decide (x.t=c::s)):=fun k hk=>by rw[<-hv,hk]
  by_cases c1:97<=c.toNat
  ·have d1:(97:Int)<=(c.toNat:Int):=by omega
   by_cases c2:c.toNat<=122
   ·have d2:(c.toNat:Int)<=122:=by omega
    rw[fin 3 (by simp[kindOf,c1,c2])]
    by_cases f0:q.fe=0<;>by_cases f1:x.k=3<;>simp[s17,et,eo,d1,d2,f0,f1]
   ·have d2:¬(c.toNat:Int)<=122:=by omega
    rw[fin 4 (by simp[kindOf,c2])]
    by_cases f0:q.fe=0<;>by_cases f1:x.k=4<;>simp[s17,et,eo,d1,d2,f0,f1]
  ·have d1:¬(97:Int)<=(c.toNat:Int):=by omega
   rw[fin 4 (by simp[kindOf,c1])]
   by_cases f0:q.fe=0<;>by_cases f1:x.k=4<;>simp[s17,et,eo,d1,f0,f1]
theorem fail_ok (e:Int):(orcL S).call 0 lim 18 [.ptr 0 0 0 0,.int .i64 e] [q.obj l]=some (.tup [],[(failQ T q e).obj l]):=by
 have et:=fun lim=>tok_ok hT lim q
 have eo:=fun lim=>ok_ok (l:=l) lim q
 refine call_run (sf:=s18) rfl rfl rfl ?_
 unfold failQ
 generalize cur T q=x at *
 simp only[Tk.cells]at et
 by_cases f0:q.fe=0
 ·simp only[RQ.obj,f0]at et eo
  simp[s18,eo,et,RQ.obj,f0,cut,mayWrite,AV.allPure,AV.isPure,paste]
 ·simp[s18,eo,f0]
theorem take_ok (s:List UInt8)(hne:s≠[]):(orcL S).call 0 lim 21 [.ptr 0 0 0 0,.str s] [q.obj l]=some (.tup [],[(takeQ T q s).obj l]):=by
 have ei:=fun lim=>is_ok hT lim q s hne
 have ef:=fun lim e=>fail_ok hT lim q e
 have hlen:=hT.len
 refine call_run (sf:=s21) rfl rfl rfl ?_
 unfold takeQ
 cases hi:isQ T q s with
 |false=>simp[s21,ei,hi,ef]
 |true=>
  have hin:=(isQ_in hi).2
  have hw:IntKind.i64.wrap ((q.at_:Int)+1)=((q.at_+1:Nat):Int):=by rw[wrap64]<;>omega
  simp only[RQ.obj,hi]at ei
  simp[s21,ei,RQ.obj,stepQ,cut,mayWrite,AV.allPure,AV.isPure,paste,hw,AV.view]
theorem opens_ok (s:List UInt8)(hne:s≠[]):(orcL S).call 0 lim 54 [.ptr 0 0 0 0,.str s] [q.obj l]=some (.tup [],[(opensQ T q s).obj l]):=by
 have ei:=fun lim=>is_ok hT lim q s hne
 have ef:=fun lim e=>fail_ok hT lim q e
 have et:=fun lim=>take_ok hT lim q s hne
 refine call_run (sf:=s54) rfl rfl rfl ?_
 unfold opensQ
 cases hi:isQ T q s with
 |false=>
  generalize takeQ T q s=r at *
  simp only[RQ.obj,hi]at ei et
  simp[s54,ei,et,RQ.obj,bumpQ,cut,mayWrite,AV.allPure,AV.isPure,paste,AV.view]
 |true=>
  by_cases h50:50<=q.op
  ·simp only[RQ.obj,hi]at ei ef
   simp[s54,ei,ef,RQ.obj,cut,h50,AV.view]
  ·generalize takeQ T q s=r at *
   simp only[RQ.obj,hi]at ei et
   simp[s54,ei,et,RQ.obj,bumpQ,cut,h50,mayWrite,AV.allPure,AV.isPure,paste,AV.view]
theorem closes_ok (s:List UInt8)(hne:s≠[]):(orcL S).call 0 lim 56 [.ptr 0 0 0 0,.str s] [q.obj l]=some (.tup [],[(closesQ T q s).obj l]):=by
 have et:=fun lim=>take_ok hT lim q s hne
 have hw:∀n:Int,IntKind.i64.wrap (n-1)=IntKind.i64.wrap (n + -1):=fun n=>by rw[Int.sub_eq_add_neg]
 refine call_run (sf:=s56) rfl rfl rfl ?_
 unfold closesQ
 generalize takeQ T q s=r at *
 simp only[RQ.obj]at et
 simp[s56,et,RQ.obj,bumpQ,cut,mayWrite,AV.allPure,AV.isPure,paste,AV.view,hw]
theorem name_ok:(orcL S).call 0 lim 33 [.ptr 0 0 0 0] [q.obj l]=some (.str (nameQ T q).1,[(nameQ T q).2.obj l]):=by
 have et:=fun lim=>tok_ok hT lim q
 have eo:=fun lim=>ok_ok (l:=l) lim q
 have ef:=fun lim e=>fail_ok hT lim q e
 have hlen:=hT.len
 refine call_run (sf:=s33) rfl rfl rfl ?_
 unfold nameQ
 have ef:=fun lim=>ef lim 2
 generalize failQ T q 2=r at *
 generalize hx:cur T q=x at *
 simp only[Tk.cells]at et
 by_cases f0:q.fe=0
 ·by_cases f1:x.k=1
  ·simp only[RQ.obj,f0]at et eo
   have hin:q.at_<T.length:=cur_in (by rw[hx,f1];decide)
   have hw:IntKind.i64.wrap ((q.at_:Int)+1)=((q.at_+1:Nat):Int):=by rw[wrap64]<;>omega
   simp[s33,et,eo,f0,f1,RQ.obj,stepQ,cut,mayWrite,AV.allPure,AV.isPure,paste,hw,AV.view]
  ·simp[s33,et,eo,f0,f1,ef]
 ·simp[s33,et,eo,f0,ef]
end
end N7
namespace N7
open Ax Go Code13 V7 Par
theorem ofL_no {T:List Tk}{k d:Nat}{q:RQ}(h:isQ T q [91]=false):ofL T k d q=(d,q):=by
 cases k with
 |zero=>rfl
 |succ k=>unfold ofL;rw[h];rfl
section
variable {l:AV}{T:List Tk}(hT:TL l T)(lim:Nat)(q:RQ)
include hT
theorem of_ok:(orcL S).call 0 lim 34 [.ptr 0 0 0 0] [q.obj l]=some (.agg [.str (ofQ T q).1.1,.int .i64 (ofQ T q).1.2],[(ofQ T q).2.obj l]):=by
 have hlen:=hT.len
 refine call_run (sf:=s34) rfl rfl rfl ?_
 generalize hF:ofQ T q=F
 simp[s34]
 refine W_loopI s34_l0.eq_1 (fun x:RQ×Nat=>⟨[(0,.val (.ptr 0 0 0 0)),(2,.fp 0 0),(3,.val (.int .i64 x.2))],[[.str [],.int .i64 0],[]],[RQ.obj l x.1]⟩)
  (fun x=>∃k,k+x.2=3/\ofL T k x.2 x.1=ofL T 3 0 q) (fun x=>3-x.2) (q,0) ?_ ⟨3,rfl,rfl⟩ ?_
 ·rfl
 rintro⟨r,d⟩ ⟨k,hk,hL⟩ ih
 simp only at hk hL ih
 have ei:=fun lim=>is_ok hT lim r [91] (by simp)
 unfold ofQ at hF
 cases hi:isQ T r [91] with
 |true=>
  obtain⟨i1,i2⟩:=isQ_in hi
  by_cases h3:d=3
  ·have ef:=fun lim e=>fail_ok hT lim r e
   have hk0:k=0:=by omega
   subst h3 hk0
   have hL':ofL T 3 0 q=(3,r):=hL.symm
   rw[hL',if_pos hi]at hF
   subst hF
   simp[ei,hi,ef]
  ·have h3':¬(d:Int)=3:=by omega
   have hw:IntKind.i64.wrap ((r.at_:Int)+1)=((r.at_+1:Nat):Int):=by rw[wrap64]<;>omega
   have hw2:IntKind.i64.wrap ((d:Int)+1)=((d+1:Nat):Int):=by rw[wrap64]<;>omega
   simp only[RQ.obj,hi]at ei
   simp[ei,h3',RQ.obj,cut,mayWrite,AV.allPure,AV.isPure,paste,hw,hw2,AV.view]
   refine ih (stepQ r,d+1) ⟨k-1,by simp only;omega,?_⟩ (by simp only;omega)
   rw[<-hL]
   obtain⟨k',rfl⟩:∃k',k=k'+1:=⟨k-1,by omega⟩
   conv=>rhs;unfold ofL
   rw[if_pos hi]
   rfl
 |false=>
  rw[ofL_no hi]at hL
  rw[<-hL,if_neg (by rw[hi];simp)]at hF
  dsimp only at hF
  have en:=fun lim=>name_ok hT lim r
  have ea:=fun lim=>is_ok hT lim r [105,110,116] (by simp)
  have eb:=fun lim=>is_ok hT lim r [98,111,111,108] (by simp)
  have et:=fun lim=>tok_ok hT lim r
  unfold ofN at hF
  cases ha:isQ T r [105,110,116] with
  |true=>
   obtain⟨i1,i2⟩:=isQ_in ha
   have hw:IntKind.i64.wrap ((r.at_:Int)+1)=((r.at_+1:Nat):Int):=by rw[wrap64]<;>omega
   simp only[RQ.obj,hi,ha]at ei ea et
   rw[ha]at hF
   simp only[Bool.true_or,if_true]at hF
   generalize hc:cur T r=c at *
   simp only[Tk.cells]at et
   simp[ei,ea,et,RQ.obj,cut,mayWrite,AV.allPure,AV.isPure,paste,hw,AV.view]
   refine W_loopI s34_l1.eq_1 (fun x:Nat=>⟨[(0,.val (.ptr 0 0 0 0)),(2,.fp 0 0),(3,.val (.int .i64 d)),(4,.fp 1 0),(5,.val (.int .i64 x))],[[.str [],.int .i64 0],[.str c.t,.int .i64 d]],[RQ.obj l (takesQ T (stepQ r) [93] x)]⟩)
    (fun x=>x<=d) (fun x=>d-x) 0 ?_ (by simp) ?_
   ·rfl
   intro x hx ihx
   by_cases hxd:x<d
   ·have hwx:IntKind.i64.wrap ((x:Int)+1)=((x+1:Nat):Int):=by rw[wrap64]<;>omega
    have ek:=fun lim=>take_ok hT lim (takesQ T (stepQ r) [93] x) [93] (by simp)
    have hxd':(x:Int)<(d:Int):=by omega
    simp[hxd,ek,hwx]
    exact ihx (x+1) (by omega) (by omega)
   ·have:x=d:=by omega
    subst this
    subst hF
    simp
    rfl
  |false=>
   cases hb:isQ T r [98,111,111,108] with
   |true=>
    obtain⟨i1,i2⟩:=isQ_in hb
    have hw:IntKind.i64.wrap ((r.at_:Int)+1)=((r.at_+1:Nat):Int):=by rw[wrap64]<;>omega
    simp only[RQ.obj,hi,ha,hb]at ei ea eb et
    rw[ha,hb]at hF
    simp only[Bool.false_or,if_true]at hF
    generalize hc:cur T r=c at *
    simp only[Tk.cells]at et
    simp[ei,ea,eb,et,RQ.obj,cut,mayWrite,AV.allPure,AV.isPure,paste,hw,AV.view]
    refine W_loopI s34_l1.eq_1 (fun x:Nat=>⟨[(0,.val (.ptr 0 0 0 0)),(2,.fp 0 0),(3,.val (.int .i64 d)),(4,.fp 1 0),(5,.val (.int .i64 x))],[[.str [],.int .i64 0],[.str c.t,.int .i64 d]],[RQ.obj l (takesQ T (stepQ r) [93] x)]⟩)
     (fun x=>x<=d) (fun x=>d-x) 0 ?_ (by simp) ?_
    ·rfl
    intro x hx ihx
    by_cases hxd:x<d
    ·have hwx:IntKind.i64.wrap ((x:Int)+1)=((x+1:Nat):Int):=by rw[wrap64]<;>omega
     have ek:=fun lim=>take_ok hT lim (takesQ T (stepQ r) [93] x) [93] (by simp)
     have hxd':(x:Int)<(d:Int):=by omega
     simp[hxd,ek,hwx]
     exact ihx (x+1) (by omega) (by omega)
    ·have:x=d:=by omega
     subst this
     subst hF
     simp
     rfl
   |false=>
    rw[ha,hb]at hF
    simp only[Bool.or_self,Bool.false_eq_true,if_false]at hF
    generalize nameQ T r=z at *
    simp[ei,ea,eb,hi,ha,hb,en,paste]
    refine W_loopI s34_l1.eq_1 (fun x:Nat=>⟨[(0,.val (.ptr 0 0 0 0)),(2,.fp 0 0),(3,.val (.int .i64 d)),(4,.fp 1 0),(5,.val (.int .i64 x))],[[.str [],.int .i64 0],[.str z.1,.int .i64 d]],[RQ.obj l (takesQ T z.2 [93] x)]⟩)
     (fun x=>x<=d) (fun x=>d-x) 0 ?_ (by simp) ?_
    ·rfl
    intro x hx ihx
    by_cases hxd:x<d
    ·have hwx:IntKind.i64.wrap ((x:Int)+1)=((x+1:Nat):Int):=by rw[wrap64]<;>omega
     have ek:=fun lim=>take_ok hT lim (takesQ T z.2 [93] x) [93] (by simp)
     have hxd':(x:Int)<(d:Int):=by omega
     simp[hxd,ek,hwx]
     exact ihx (x+1) (by omega) (by omega)
    ·have:x=d:=by omega
     subst this
     subst hF
     simp
end
theorem level_ok (wl lim:Nat)(n:Nat)(hn:n<5)(c:Tk)(st:Store):(orcL S).call wl lim 83 [.int .i64 n,.agg c.cells] st=some (.int .i64 (levelT n c),st):=by
 refine call_pure (sf:=s83) rfl rfl (by simp[Tk.cells,AV.isPure,AV.allPure]) rfl (by simp) ?_
 unfold levelT
 by_cases hk:c.k=4
 ·rw[if_pos hk]
  have w1:IntKind.i64.wrap 1=1:=rfl
  have w2:IntKind.i64.wrap 2=2:=rfl
  have w3:IntKind.i64.wrap 3=3:=rfl
  have w4:IntKind.i64.wrap 4=4:=rfl
  have hcase:n=0\/n=1\/n=2\/n=3\/n=4:=by omega
  have w1:IntKind.i64.wrap 1=1:=rfl
  have w2:IntKind.i64.wrap 2=2:=rfl
  have w3:IntKind.i64.wrap 3=3:=rfl
  have w4:IntKind.i64.wrap 4=4:=rfl
  rcases hcase with h|h|h|h|h
  ·subst h
   simp[s83,Tk.cells,hk]
   refine W_loopI s83_l0.eq_1 (fun k:Nat=>⟨[(0,.val (.int .i64 0)),(3,.fp 0 0),(5,.val (.lst 1 [[.lst 1 [[.str [124,124]]]],[.lst 1 [[.str [38,38]]]],[.lst 1 [[.str [60]],[.str [60,61]],[.str [61,61]],[.str [33,61]]]],[.lst 1 [[.str [43]],[.str [45]]]],[.lst 1 [[.str [42]],[.str [47]],[.str [37]]]]])),(6,.val (.lst 1 [[.lst 1 [[.int .i64 24]]],[.lst 1 [[.int .i64 23]]],[.lst 1 [[.int .i64 19],[.int .i64 20],[.int .i64 21],[.int .i64 22]]],[.lst 1 [[.int .i64 14],[.int .i64 15]]],[.lst 1 [[.int .i64 16],[.int .i64 17],[.int .i64 18]]]])),(7,.val (.int .i64 k))],[[.int .i64 4,.str c.t,.int .i64 c.n,.int .i64 c.a]],[]⟩)
    (fun k=>k<=1/\findT (signsT 0) c.t=findT ((signsT 0).drop k) c.t) (fun k=>1-k) 0 (by simp) (by simp) ?_
   intro k ⟨hkk,hf⟩ ih
   have hc:k=0\/k=1:=by omega
   rcases hc with h|h
   ·subst h
    by_cases e:[124,124]=c.t
    ·rw[hf];simp[e,W_draw0,noBoxes,AV.view,signsT,findT]
    ·simp[e,w1,W_draw0,noBoxes,AV.view]
     exact ih 1 ⟨by omega,by rw[hf];simp[signsT,findT,e]⟩ (by omega)
   ·subst h
    rw[hf];simp[AV.view,signsT,findT]
  ·subst h
   simp[s83,Tk.cells,hk]
   refine W_loopI s83_l0.eq_1 (fun k:Nat=>⟨[(0,.val (.int .i64 1)),(3,.fp 0 0),(5,.val (.lst 1 [[.lst 1 [[.str [124,124]]]],[.lst 1 [[.str [38,38]]]],[.lst 1 [[.str [60]],[.str [60,61]],[.str [61,61]],[.str [33,61]]]],[.lst 1 [[.str [43]],[.str [45]]]],[.lst 1 [[.str [42]],[.str [47]],[.str [37]]]]])),(6,.val (.lst 1 [[.lst 1 [[.int .i64 24]]],[.lst 1 [[.int .i64 23]]],[.lst 1 [[.int .i64 19],[.int .i64 20],[.int .i64 21],[.int .i64 22]]],[.lst 1 [[.int .i64 14],[.int .i64 15]]],[.lst 1 [[.int .i64 16],[.int .i64 17],[.int .i64 18]]]])),(7,.val (.int .i64 k))],[[.int .i64 4,.str c.t,.int .i64 c.n,.int .i64 c.a]],[]⟩)
    (fun k=>k<=1/\findT (signsT 1) c.t=findT ((signsT 1).drop k) c.t) (fun k=>1-k) 0 (by simp) (by simp) ?_
   intro k ⟨hkk,hf⟩ ih
   have hc:k=0\/k=1:=by omega
   rcases hc with h|h
   ·subst h
    by_cases e:[38,38]=c.t
    ·rw[hf];simp[e,W_draw0,noBoxes,AV.view,signsT,findT]
    ·simp[e,w1,W_draw0,noBoxes,AV.view]
     exact ih 1 ⟨by omega,by rw[hf];simp[signsT,findT,e]⟩ (by omega)
   ·subst h
    rw[hf];simp[AV.view,signsT,findT]
  ·subst h
   simp[s83,Tk.cells,hk]
   refine W_loopI s83_l0.eq_1 (fun k:Nat=>⟨[(0,.val (.int .i64 2)),(3,.fp 0 0),(5,.val (.lst 1 [[.lst 1 [[.str [124,124]]]],[.lst 1 [[.str [38,38]]]],[.lst 1 [[.str [60]],[.str [60,61]],[.str [61,61]],[.str [33,61]]]],[.lst 1 [[.str [43]],[.str [45]]]],[.lst 1 [[.str [42]],[.str [47]],[.str [37]]]]])),(6,.val (.lst 1 [[.lst 1 [[.int .i64 24]]],[.lst 1 [[.int .i64 23]]],[.lst 1 [[.int .i64 19],[.int .i64 20],[.int .i64 21],[.int .i64 22]]],[.lst 1 [[.int .i64 14],[.int .i64 15]]],[.lst 1 [[.int .i64 16],[.int .i64 17],[.int .i64 18]]]])),(7,.val (.int .i64 k))],[[.int .i64 4,.str c.t,.int .i64 c.n,.int .i64 c.a]],[]⟩)
    (fun k=>k<=4/\findT (signsT 2) c.t=findT ((signsT 2).drop k) c.t) (fun k=>4-k) 0 (by simp) (by simp) ?_
   intro k ⟨hkk,hf⟩ ih
   have hc:k=0\/k=1\/k=2\/k=3\/k=4:=by omega
   rcases hc with h|h|h|h|h
   ·subst h
    by_cases e:[60]=c.t
    ·rw[hf];simp[e,W_draw0,noBoxes,AV.view,signsT,findT]
    ·simp[e,w1,W_draw0,noBoxes,AV.view]
     exact ih 1 ⟨by omega,by rw[hf];simp[signsT,findT,e]⟩ (by omega)
   ·subst h
    by_cases e:[60,61]=c.t
    ·rw[hf];simp[e,W_draw0,noBoxes,AV.view,signsT,findT]
    ·simp[e,w2,W_draw0,noBoxes,AV.view]
     exact ih 2 ⟨by omega,by rw[hf];simp[signsT,findT,e]⟩ (by omega)
   ·subst h
    by_cases e:[61,61]=c.t
    ·rw[hf];simp[e,W_draw0,noBoxes,AV.view,signsT,findT]
    ·simp[e,w3,W_draw0,noBoxes,AV.view]
     exact ih 3 ⟨by omega,by rw[hf];simp[signsT,findT,e]⟩ (by omega)
   ·subst h
    by_cases e:[33,61]=c.t
    ·rw[hf];simp[e,W_draw0,noBoxes,AV.view,signsT,findT]
    ·simp[e,w4,W_draw0,noBoxes,AV.view]
     exact ih 4 ⟨by omega,by rw[hf];simp[signsT,findT,e]⟩ (by omega)
   ·subst h
    rw[hf];simp[AV.view,signsT,findT]
  ·subst h
   simp[s83,Tk.cells,hk]
   refine W_loopI s83_l0.eq_1 (fun k:Nat=>⟨[(0,.val (.int .i64 3)),(3,.fp 0 0),(5,.val (.lst 1 [[.lst 1 [[.str [124,124]]]],[.lst 1 [[.str [38,38]]]],[.lst 1 [[.str [60]],[.str [60,61]],[.str [61,61]],[.str [33,61]]]],[.lst 1 [[.str [43]],[.str [45]]]],[.lst 1 [[.str [42]],[.str [47]],[.str [37]]]]])),(6,.val (.lst 1 [[.lst 1 [[.int .i64 24]]],[.lst 1 [[.int .i64 23]]],[.lst 1 [[.int .i64 19],[.int .i64 20],[.int .i64 21],[.int .i64 22]]],[.lst 1 [[.int .i64 14],[.int .i64 15]]],[.lst 1 [[.int .i64 16],[.int .i64 17],[.int .i64 18]]]])),(7,.val (.int .i64 k))],[[.int .i64 4,.str c.t,.int .i64 c.n,.int .i64 c.a]],[]⟩)
    (fun k=>k<=2/\findT (signsT 3) c.t=findT ((signsT 3).drop k) c.t) (fun k=>2-k) 0 (by simp) (by simp) ?_
   intro k ⟨hkk,hf⟩ ih
   have hc:k=0\/k=1\/k=2:=by omega
   rcases hc with h|h|h
   ·subst h
    by_cases e:[43]=c.t
    ·rw[hf];simp[e,W_draw0,noBoxes,AV.view,signsT,findT]
    ·simp[e,w1,W_draw0,noBoxes,AV.view]
     exact ih 1 ⟨by omega,by rw[hf];simp[signsT,findT,e]⟩ (by omega)
   ·subst h
    by_cases e:[45]=c.t
    ·rw[hf];simp[e,W_draw0,noBoxes,AV.view,signsT,findT]
    ·simp[e,w2,W_draw0,noBoxes,AV.view]
     exact ih 2 ⟨by omega,by rw[hf];simp[signsT,findT,e]⟩ (by omega)
   ·subst h
    rw[hf];simp[AV.view,signsT,findT]
  ·subst h
   simp[s83,Tk.cells,hk]
   refine W_loopI s83_l0.eq_1 (fun k:Nat=>⟨[(0,.val (.int .i64 4)),(3,.fp 0 0),(5,.val (.lst 1 [[.lst 1 [[.str [124,124]]]],[.lst 1 [[.str [38,38]]]],[.lst 1 [[.str [60]],[.str [60,61]],[.str [61,61]],[.str [33,61]]]],[.lst 1 [[.str [43]],[.str [45]]]],[.lst 1 [[.str [42]],[.str [47]],[.str [37]]]]])),(6,.val (.lst 1 [[.lst 1 [[.int .i64 24]]],[.lst 1 [[.int .i64 23]]],[.lst 1 [[.int .i64 19],[.int .i64 20],[.int .i64 21],[.int .i64 22]]],[.lst 1 [[.int .i64 14],[.int .i64 15]]],[.lst 1 [[.int .i64 16],[.int .i64 17],[.int .i64 18]]]])),(7,.val (.int .i64 k))],[[.int .i64 4,.str c.t,.int .i64 c.n,.int .i64 c.a]],[]⟩)
    (fun k=>k<=3/\findT (signsT 4) c.t=findT ((signsT 4).drop k) c.t) (fun k=>3-k) 0 (by simp) (by simp) ?_
   intro k ⟨hkk,hf⟩ ih
   have hc:k=0\/k=1\/k=2\/k=3:=by omega
   rcases hc with h|h|h|h
   ·subst h
    by_cases e:[42]=c.t
    ·rw[hf];simp[e,W_draw0,noBoxes,AV.view,signsT,findT]
    ·simp[e,w1,W_draw0,noBoxes,AV.view]
     exact ih 1 ⟨by omega,by rw[hf];simp[signsT,findT,e]⟩ (by omega)
   ·subst h
    by_cases e:[47]=c.t
    ·rw[hf];simp[e,W_draw0,noBoxes,AV.view,signsT,findT]
    ·simp[e,w2,W_draw0,noBoxes,AV.view]
     exact ih 2 ⟨by omega,by rw[hf];simp[signsT,findT,e]⟩ (by omega)
   ·subst h
    by_cases e:[37]=c.t
    ·rw[hf];simp[e,W_draw0,noBoxes,AV.view,signsT,findT]
    ·simp[e,w3,W_draw0,noBoxes,AV.view]
     exact ih 3 ⟨by omega,by rw[hf];simp[signsT,findT,e]⟩ (by omega)
   ·subst h
    rw[hf];simp[AV.view,signsT,findT]
 ·simp[s83,Tk.cells,hk]
end N7
namespace N7
open Ax Go Code13 V7 Par
theorem a_at {wl lim:Nat}{l:AV}{q:RQ}{bx:Boxes}:act0 wl lim (.load false 1 false) [.val (.ptr 0 0 0 1)] [RQ.obj l q] bx=some (.val (.int .i64 q.at_),[RQ.obj l q],bx):=by
 simp[RQ.obj,cut,AV.view]
theorem a_op {wl lim:Nat}{l:AV}{q:RQ}{bx:Boxes}:act0 wl lim (.load false 1 false) [.val (.ptr 0 0 0 2)] [RQ.obj l q] bx=some (.val (.int .i64 q.op),[RQ.obj l q],bx):=by
 simp[RQ.obj,cut,AV.view]
theorem a_set {lim:Nat}{l:AV}{q:RQ}{bx:Boxes}:act0 0 lim (.store 1) [.val (.ptr 0 0 0 1),.val (.int .i64 ((q.at_:Int)+1))] [RQ.obj l q] bx=some (.none,[RQ.obj l (stepQ q)],bx):=by
 simp[RQ.obj,stepQ,mayWrite,AV.allPure,AV.isPure,paste]
theorem a_setop {lim:Nat}{l:AV}{q:RQ}{n:Int}{bx:Boxes}:act0 0 lim (.store 1) [.val (.ptr 0 0 0 2),.val (.int .i64 n)] [RQ.obj l q] bx=some (.none,[RQ.obj l ⟨q.at_,n,q.fe,q.fa⟩],bx):=by
 simp[RQ.obj,mayWrite,AV.allPure,AV.isPure,paste]
theorem sub1 (n:Int):IntKind.i64.wrap (n-1)=IntKind.i64.wrap (n + -1):=by rw[Int.sub_eq_add_neg]
def rowK (e:E)(kv:AV):List AV:=[.int .i64 e.k,.int .i64 e.n,.str e.nm,.str e.on,.int .i64 e.od,kv,.int .i64 e.a,.int .i64 e.ty.b,.int .i64 e.ty.r,.int .i64 e.ty.d,.int .i64 e.ref]
theorem rowK_eq (e:E):rowK e (esV e.kids)=e.row:=(E.row_eq e).symm
def OkE (l:AV)(T:List Tk)(f:Nat):Prop:=∀n q e r,n<=5->pExpr T f n q=some (e,r)->∀lim,(orcL S).call 0 lim 67 [.ptr 0 0 0 0,.int .i64 (n:Nat)] [q.obj l]=some (.agg e.row,[r.obj l])
def OkU (l:AV)(T:List Tk)(f:Nat):Prop:=∀q e r,pUnary T f q=some (e,r)->∀lim,(orcL S).call 0 lim 82 [.ptr 0 0 0 0] [q.obj l]=some (.agg e.row,[r.obj l])
def OkB (l:AV)(T:List Tk)(f:Nat):Prop:=∀a q e r,pBehind T f a q=some (e,r)->∀kv,isSl kv=true->kv.view=esV a.kids->∀lim,(orcL S).call 0 lim 93 [.ptr 0 0 0 0,.agg (rowK a kv)] [q.obj l]=some (.agg e.row,[r.obj l])
def OkI (l:AV)(T:List Tk)(f:Nat):Prop:=∀q e r,pInner T f q=some (e,r)->∀lim,(orcL S).call 0 lim 100 [.ptr 0 0 0 0] [q.obj l]=some (.agg e.row,[r.obj l])
def OkF (l:AV)(T:List Tk)(f:Nat):Prop:=∀q e r,pFirst T f q=some (e,r)->∃kv,isSl kv=true/\kv.view=esV e.kids/\∀lim,(orcL S).call 0 lim 94 [.ptr 0 0 0 0] [q.obj l]=some (.agg (rowK e kv),[r.obj l])
def OkN (l:AV)(T:List Tk)(f:Nat):Prop:=∀a q e r,pFresh T f a q=some (e,r)->∀lim,(orcL S).call 0 lim 99 [.ptr 0 0 0 0,.int .i64 a] [q.obj l]=some (.agg e.row,[r.obj l])
def OkA (l:AV)(T:List Tk)(f:Nat):Prop:=∀q e r,pArgs T f q=some (e,r)->∀lim,(orcL S).call 0 lim 101 [.ptr 0 0 0 0] [q.obj l]=some (mkL 11 (E.rows e),[r.obj l])
section
variable {l:AV}{T:List Tk}(hT:TL l T)
include hT
theorem inner_ok (f:Nat)(hE:OkE l T f):OkI l T (f+1):=by
 intro q e r h lim
 unfold pInner at h
 obtain⟨⟨x1,x2⟩,h1,h2⟩:=Option.bind_eq_some_iff.1 h
 cases h2
 have eo:=fun lim=>opens_ok hT lim q [40] (by simp)
 have e1:=hE 0 _ _ _ (by omega) h1
 have ec:=fun lim=>closes_ok hT lim x2 [41] (by simp)
 generalize opensQ T q [40]=q1 at *
 generalize closesQ T x2 [41]=r1 at *
 obtain⟨k2,n2,nm2,on2,od2,kids2,a2,ty2,ref2⟩:=x1
 simp only[E.row,Int.natCast_zero]at e1
 refine call_run (sf:=s100) rfl rfl rfl ?_
 simp[s100,eo,e1,ec,E.row,paste,AV.isPure,AV.allPure,AV.view]
theorem fresh_ok (f:Nat)(hI:OkI l T f):OkN l T (f+1):=by
 intro at_ q e r h lim
 have hlen:=hT.len
 unfold pFresh at h
 have ei:=fun lim=>is_ok hT lim q [91] (by simp)
 refine call_run (sf:=s99) rfl rfl rfl ?_
 cases hi:isQ T q [91] with
 |false=>
  rw[hi]at h
  simp only[Bool.false_eq_true,if_false,Option.some.injEq,Prod.mk.injEq]at h
  obtain⟨rfl,rfl⟩:=h
  have en:=fun lim=>name_ok hT lim q
  generalize nameQ T q=z at *
  simp[s99,ei,hi,en,Em,E.row,E.rows,paste,AV.isPure,AV.allPure]
 |true=>
  rw[hi]at h
  simp only[if_true]at h
  obtain⟨⟨x1,x2⟩,h1,h2⟩:=Option.bind_eq_some_iff.1 h
  cases h2
  obtain⟨i1,i2⟩:=isQ_in hi
  have hw:IntKind.i64.wrap ((q.at_:Int)+1)=((q.at_+1:Nat):Int):=by rw[wrap64]<;>omega
  have e1:=fun lim=>of_ok hT lim (stepQ q)
  have et:=fun lim=>take_ok hT lim (ofQ T (stepQ q)).2 [93] (by simp)
  have e3:=hI _ _ _ h1
  generalize takeQ T (ofQ T (stepQ q)).2 [93]=r2 at *
  generalize ofQ T (stepQ q)=o at *
  obtain⟨k2,n2,nm2,on2,od2,kids2,a2,ty2,ref2⟩:=x1
  simp only[E.row]at e3
  simp[-a_load,-a_store,s99,ei,hi,a_at,a_set,hw,e1,et,e3,Em,E.row,E.rows,W_draw0,noBoxes,paste,AV.isPure,AV.allPure,AV.view]
theorem args_ok (f:Nat)(hE:∀g,g<=f->OkE l T g):OkA l T (f+1):=by
 intro q e r h lim
 have hlen:=hT.len
 unfold pArgs at h
 have eo:=fun lim=>opens_ok hT lim q [40] (by simp)
 refine call_run (sf:=s101) rfl rfl rfl ?_
 generalize opensQ T q [40]=q1 at *
 have ei:=fun lim=>is_ok hT lim q1 [41] (by simp)
 cases hi:isQ T q1 [41] with
 |true=>
  rw[hi]at h
  simp only[if_true,Option.some.injEq,Prod.mk.injEq]at h
  obtain⟨rfl,rfl⟩:=h
  have ec:=fun lim=>closes_ok hT lim q1 [41] (by simp)
  generalize closesQ T q1 [41]=r1 at *
  simp[s101,eo,ei,hi,ec,E.rows,mkL_nil]
 |false=>
  rw[hi]at h
  simp only[Bool.false_eq_true,if_false]at h
  obtain⟨⟨x1,x2⟩,h1,h2⟩:=Option.bind_eq_some_iff.1 h
  have e1:=hE f (Nat.le_refl _) 0 _ _ _ (by omega) h1
  have g1:=good_expr h1
  have hx:appV 11 120 .nilSl [x1.row]=some (mkL 11 (E.rows [x1])):=by
   have:=appV_mk (sz:=11) (bytes:=120) (r:=[]) (new:=[x1.row]) (by simp[fits,E.row_eq]) (by simp[room])
   simpa [mkL_nil,E.rows] using this
  obtain⟨F,hF⟩:∃F,(mkL 11 (E.rows e),[RQ.obj l r])=F:=⟨_,rfl⟩
  obtain⟨k2,n2,nm2,on2,od2,kids2,a2,ty2,ref2⟩:=x1
  simp only[E.row,Int.natCast_zero]at e1 hx
  simp[s101,eo,ei,hi,e1,hx,AV.view]
  refine W_loopI s101_l0.eq_1 (fun x:RQ×List E×Nat=>⟨[(0,.val (.ptr 0 0 0 0)),(3,.val (mkL 11 (E.rows x.2.1)))],[],[RQ.obj l x.1]⟩)
   (fun x=>x.2.2<=f/\x.2.1.length<=x.1.at_+1/\pMore T x.2.2 x.2.1 x.1=some (e,r)) (fun x=>x.2.2) (x2,[E.mk k2 n2 nm2 on2 od2 kids2 a2 ty2 ref2],f) rfl ⟨Nat.le_refl _,by simp,h2⟩ ?_
  rintro⟨s,es,g⟩ ⟨hg,hln,hp⟩ ih
  simp only at hg hln hp ih
  have ej:=fun lim=>is_ok hT lim s [44] (by simp)
  cases g with
  |zero=>simp[pMore]at hp
  |succ g=>
   unfold pMore at hp
   cases hj:isQ T s [44] with
   |true=>
    rw[hj]at hp
    simp only[if_true]at hp
    obtain⟨⟨y1,y2⟩,h3,h4⟩:=Option.bind_eq_some_iff.1 hp
    obtain⟨i1,i2⟩:=isQ_in hj
    have hwr:IntKind.i64.wrap ((s.at_:Int)+1)=((s.at_+1:Nat):Int):=by rw[wrap64]<;>omega
    have e2:=hE g (by omega) 0 _ _ _ (by omega) h3
    have g2:=(good_expr h3).le
    have hap2:=appV_mk (sz:=11) (bytes:=120) (r:=E.rows es) (new:=[y1.row]) (by simp[fits,E.row_eq]) (by simp[room,Erows_map];omega)
    have hrw:E.rows es++[y1.row]=E.rows (es++[y1]):=by simp[Erows_map]
    rw[hrw]at hap2
    have ih':=ih (y2,es++[y1],g) ⟨by simp only;omega,by simp[stepQ]at g2 ⊢;omega,h4⟩ (by simp only;omega)
    generalize E.rows (es++[y1])=R at *
    obtain⟨k3,n3,nm3,on3,od3,kids3,a3,ty3,ref3⟩:=y1
    simp only[E.row,Int.natCast_zero]at e2 hap2
    simp[-a_load,-a_store,ej,hj,a_at,a_set,hwr,e2,hap2,AV.view]
    exact ih'
   |false=>
    rw[hj]at hp
    simp only[Bool.false_eq_true,if_false,Option.some.injEq,Prod.mk.injEq]at hp
    obtain⟨rfl,rfl⟩:=hp
    have ec:=fun lim=>closes_ok hT lim s [41] (by simp)
    generalize closesQ T s [41]=r1 at *
    simp[ej,hj,ec]
end
end N7
namespace N7
open Ax Go Code13 V7 Par
section
variable {l:AV}{T:List Tk}(hT:TL l T)
include hT
theorem first_ok (f:Nat)(hN:OkN l T f)(hI:OkI l T f)(hA:OkA l T f):OkF l T (f+1):=by
 intro q e r h
 have hlen:=hT.len
 have et:=fun lim=>tok_ok hT lim q
 have eo:=fun lim=>ok_ok (l:=l) lim q
 have ei:=fun lim s hs=>is_ok hT lim q s hs
 have hct:=fun s (h:isQ T q s=true)=>isQ_t h
 have hin:(cur T q).k≠0->q.at_<T.length:=cur_in
 unfold pFirst at h
 generalize hc:cur T q=c at *
 simp only[Tk.cells]at et
 have hw:q.at_<T.length->IntKind.i64.wrap ((q.at_:Int)+1)=((q.at_+1:Nat):Int):=fun h=>by rw[wrap64]<;>omega
 have hw':∀s,isQ T q s=true->IntKind.i64.wrap ((q.at_:Int)+1)=((q.at_+1:Nat):Int):=fun s h=>hw (isQ_in h).2
 by_cases c0:q.fe=0/\c.k=2
 ·rw[if_pos c0]at h
  cases h
  have hw:=hw (hin (by rw[c0.2];decide))
  refine⟨.nilSl,rfl,by simp[Em,E.kids,esV_nil,AV.view],fun lim=>?_⟩
  refine call_run (sf:=s94) rfl rfl rfl ?_
  simp[-a_load,-a_store,s94,et,eo,c0.1,c0.2,a_at,a_set,hw,paste,AV.isPure,AV.allPure,rowK,Em,E.k,E.n,E.nm,E.on,E.od,E.a,E.ty,E.ref]
 rw[if_neg c0]at h
 by_cases hfe:q.fe=0
 ·have hk2:¬c.k=2:=fun h=>c0 ⟨hfe,h⟩
  cases h1:isQ T q [116,114,117,101] with
  |true=>
   rw[h1]at h
   simp only[Bool.true_or,if_true,Option.some.injEq,Prod.mk.injEq]at h
   obtain⟨rfl,rfl⟩:=h
   have hw:=hw' _ h1
   have ht:=hct _ h1
   refine⟨.nilSl,rfl,by simp[Em,E.kids,esV_nil,AV.view],fun lim=>?_⟩
   refine call_run (sf:=s94) rfl rfl rfl ?_
   simp[-a_load,-a_store,s94,et,eo,hfe,hk2,ei,h1,a_at,a_set,hw,ht,paste,AV.isPure,AV.allPure,rowK,Em,E.k,E.n,E.nm,E.on,E.od,E.a,E.ty,E.ref]
  |false=>
  cases h2:isQ T q [102,97,108,115,101] with
  |true=>
   rw[h1,h2]at h
   simp only[Bool.false_or,if_true,Option.some.injEq,Prod.mk.injEq]at h
   obtain⟨rfl,rfl⟩:=h
   have hw:=hw' _ h2
   have ht:=hct _ h2
   refine⟨.nilSl,rfl,by simp[Em,E.kids,esV_nil,AV.view],fun lim=>?_⟩
   refine call_run (sf:=s94) rfl rfl rfl ?_
   simp[-a_load,-a_store,s94,et,eo,hfe,hk2,ei,h1,h2,a_at,a_set,hw,ht,paste,AV.isPure,AV.allPure,rowK,Em,E.k,E.n,E.nm,E.on,E.od,E.a,E.ty,E.ref]
  |false=>
  rw[h1,h2]at h
  simp only[Bool.or_self,Bool.false_eq_true,if_false]at h
  cases h3:isQ T q [110,117,108,108] with
  |true=>
   rw[h3]at h
   simp only[if_true,Option.some.injEq,Prod.mk.injEq]at h
   obtain⟨rfl,rfl⟩:=h
   have hw:=hw' _ h3
   have e1:=fun lim=>of_ok hT lim (stepQ q)
   generalize ofQ T (stepQ q)=o at *
   refine⟨.nilSl,rfl,by simp[Em,E.kids,esV_nil,AV.view],fun lim=>?_⟩
   refine call_run (sf:=s94) rfl rfl rfl ?_
   simp[-a_load,-a_store,s94,et,eo,hfe,hk2,ei,h1,h2,h3,a_at,a_set,hw,e1,paste,AV.isPure,AV.allPure,W_draw0,noBoxes,rowK,Em,E.k,E.n,E.nm,E.on,E.od,E.a,E.ty,E.ref]
  |false=>
  rw[h3]at h
  simp only[Bool.false_eq_true,if_false]at h
  cases h4:isQ T q [110,101,119] with
  |true=>
   rw[h4]at h
   simp only[if_true]at h
   have hw:=hw' _ h4
   have e1:=hN _ _ _ _ h
   refine⟨esV e.kids,by simp,by simp,fun lim=>?_⟩
   rw[rowK_eq]
   obtain⟨k2,n2,nm2,on2,od2,kids2,a2,ty2,ref2⟩:=e
   simp only[E.row]at e1 ⊢
   refine call_run (sf:=s94) rfl rfl rfl ?_
   simp[-a_load,-a_store,s94,et,eo,hfe,hk2,ei,h1,h2,h3,h4,a_at,a_set,hw,e1,paste,AV.isPure,AV.allPure]
  |false=>
  rw[h4]at h
  simp only[Bool.false_eq_true,if_false]at h
  cases h5:isQ T q [108,101,110] with
  |true=>
   rw[h5]at h
   simp only[if_true]at h
   have hw:=hw' _ h5
   obtain⟨⟨x1,x2⟩,h8,h9⟩:=Option.bind_eq_some_iff.1 h
   cases h9
   have e1:=hI _ _ _ h8
   refine⟨_,by simp,view_esV,fun lim=>?_⟩
   rw[rowK_eq]
   obtain⟨k2,n2,nm2,on2,od2,kids2,a2,ty2,ref2⟩:=x1
   simp only[E.row]at e1
   refine call_run (sf:=s94) rfl rfl rfl ?_
   simp[-a_load,-a_store,s94,et,eo,hfe,hk2,ei,h1,h2,h3,h4,h5,a_at,a_set,hw,e1,paste,AV.isPure,AV.allPure,AV.view,W_draw0,noBoxes,Em,E.row,E.rows]
  |false=>
  rw[h5]at h
  simp only[Bool.false_eq_true,if_false]at h
  cases h6:isQ T q [114,101,97,100] with
  |true=>
   rw[h6]at h
   simp only[if_true,Option.some.injEq,Prod.mk.injEq]at h
   obtain⟨rfl,rfl⟩:=h
   have hw:=hw' _ h6
   have ep:=fun lim=>opens_ok hT lim (stepQ q) [40] (by simp)
   have eq:=fun lim=>closes_ok hT lim (opensQ T (stepQ q) [40]) [41] (by simp)
   refine⟨.nilSl,rfl,by simp[Em,E.kids,esV_nil,AV.view],fun lim=>?_⟩
   refine call_run (sf:=s94) rfl rfl rfl ?_
   simp[-a_load,-a_store,s94,et,eo,hfe,hk2,ei,h1,h2,h3,h4,h5,h6,a_at,a_set,hw,ep,eq,paste,AV.isPure,AV.allPure,rowK,Em,E.k,E.n,E.nm,E.on,E.od,E.a,E.ty,E.ref]
  |false=>
  rw[h6]at h
  simp only[Bool.false_eq_true,if_false]at h
  cases h7:isQ T q [40] with
  |true=>
   rw[h7]at h
   simp only[if_true]at h
   have e1:=hI _ _ _ h
   refine⟨esV e.kids,by simp,by simp,fun lim=>?_⟩
   rw[rowK_eq]
   obtain⟨k2,n2,nm2,on2,od2,kids2,a2,ty2,ref2⟩:=e
   simp only[E.row]at e1 ⊢
   refine call_run (sf:=s94) rfl rfl rfl ?_
   simp[-a_load,-a_store,s94,et,eo,hfe,hk2,ei,h1,h2,h3,h4,h5,h6,h7,e1,paste,AV.isPure,AV.allPure]
  |false=>
   rw[h7]at h
   simp only[Bool.false_eq_true,if_false]at h
   have en:=fun lim=>name_ok hT lim q
   generalize nameQ T q=z at *
   have ez:=fun lim=>is_ok hT lim z.2 [40] (by simp)
   cases h8:isQ T z.2 [40] with
   |false=>
    rw[h8]at h
    simp only[Bool.false_eq_true,if_false,Option.some.injEq,Prod.mk.injEq]at h
    obtain⟨rfl,rfl⟩:=h
    refine⟨.nilSl,rfl,by simp[Em,E.kids,esV_nil,AV.view],fun lim=>?_⟩
    refine call_run (sf:=s94) rfl rfl rfl ?_
    simp[-a_load,-a_store,s94,et,eo,hfe,hk2,ei,h1,h2,h3,h4,h5,h6,h7,en,ez,h8,paste,AV.isPure,AV.allPure,rowK,Em,E.k,E.n,E.nm,E.on,E.od,E.a,E.ty,E.ref]
   |true=>
    rw[h8]at h
    simp only[if_true]at h
    obtain⟨⟨x1,x2⟩,h9,h10⟩:=Option.bind_eq_some_iff.1 h
    cases h10
    have e1:=hA _ _ _ h9
    have hk:isSl (mkL 11 (E.rows x1))=true:=isSl_mk
    have hv:(mkL 11 (E.rows x1)).view=esV x1:=rfl
    generalize mkL 11 (E.rows x1)=kv at *
    have hkc:=isCell_sl hk
    have hkp:=pure_sl hk
    refine⟨kv,hk,hv,fun lim=>?_⟩
    refine call_run (sf:=s94) rfl rfl rfl ?_
    simp[-a_load,-a_store,s94,et,eo,hfe,hk2,ei,h1,h2,h3,h4,h5,h6,h7,en,ez,h8,e1,hk,paste,AV.isPure,AV.allPure,W_draw0,noBoxes,rowK,Em,E.k,E.n,E.nm,E.on,E.od,E.a,E.ty,E.ref]
 ·have hno:∀s,isQ T q s=false:=fun s=>isQ_bad hfe
  have en:=fun lim=>name_ok hT lim q
  have hz:nameQ T q=([],q):=by simp[nameQ,hfe,failQ]
  rw[hz]at en
  simp only[hno,hz,Bool.or_self,Bool.false_eq_true,if_false,Option.some.injEq,Prod.mk.injEq]at h
  obtain⟨rfl,rfl⟩:=h
  refine⟨.nilSl,rfl,by simp[Em,E.kids,esV_nil,AV.view],fun lim=>?_⟩
  refine call_run (sf:=s94) rfl rfl rfl ?_
  simp[-a_load,-a_store,s94,et,eo,hfe,ei,hno,en,paste,AV.isPure,AV.allPure,rowK,Em,E.k,E.n,E.nm,E.on,E.od,E.a,E.ty,E.ref]
theorem behind_ok (f:Nat)(hE:∀g,g<f->OkE l T g):OkB l T f:=by
 intro a0 q e r h kv0 hk0 hv0 lim
 have hlen:=hT.len
 have hkc0:=isCell_sl hk0
 refine call_run (sf:=s93) rfl rfl rfl ?_
 simp[s93,rowK,hkc0]
 refine W_loopI s93_l0.eq_1 (fun x:RQ×E×AV×Nat×List AV×List AV=>⟨[(0,.val (.ptr 0 0 0 0)),(3,.fp 0 0),(4,.fp 1 0)],
   [rowK x.2.1 x.2.2.1,[.int .i64 0,.int .i64 0,.str [],.str [],.int .i64 0,.nilSl,.int .i64 0,.int .i64 0,.int .i64 0,.int .i64 0,.int .i64 0],x.2.2.2.2.1,x.2.2.2.2.2],[RQ.obj l x.1]⟩)
  (fun x=>x.2.2.2.1<=f/\isSl x.2.2.1=true/\x.2.2.1.view=esV x.2.1.kids/\pBehind T x.2.2.2.1 x.2.1 x.1=some (e,r)) (fun x=>x.2.2.2.1) (q,a0,kv0,f,[],[]) rfl ⟨Nat.le_refl _,hk0,hv0,h⟩ ?_
 rintro⟨s,a,kv,g,b2,b3⟩ ⟨hg,hk,hv,hp⟩ ih
 simp only at hg hk hv hp ih
 have hkc:=isCell_sl hk
 have hkp:=pure_sl hk
 have ed:=fun lim=>is_ok hT lim s [46] (by simp)
 have eb:=fun lim=>is_ok hT lim s [91] (by simp)
 have et:=fun lim=>tok_ok hT lim s
 have hrow:E.rows [a]=[rowK a (esV a.kids)]:=by rw[rowK_eq];simp[E.rows]
 cases g with
 |zero=>simp[pBehind]at hp
 |succ g=>
  unfold pBehind at hp
  cases h1:isQ T s [46] with
  |true=>
   rw[h1]at hp
   simp only[if_true]at hp
   obtain⟨i1,i2⟩:=isQ_in h1
   have hw:IntKind.i64.wrap ((s.at_:Int)+1)=((s.at_+1:Nat):Int):=by rw[wrap64]<;>omega
   have en:=fun lim=>name_ok hT lim (stepQ s)
   generalize nameQ T (stepQ s)=z at *
   generalize cur T s=c at *
   simp only[Tk.cells]at et
   have ih':=fun b2 b3=>ih (z.2,Em 5 0 z.1 [] 0 [a] c.a,esV [a],g,b2,b3) ⟨by simp only;omega,by simp,by simp[Em,E.kids],hp⟩ (by simp only;omega)
   simp[-a_load,-a_store,ed,h1,et,a_at,a_set,hw,en,hv,paste,AV.view,W_draw0,noBoxes,rowK]
   have:=ih' [.int .i64 c.k,.str c.t,.int .i64 c.n,.int .i64 c.a] b3
   simp[rowK,Em,E.k,E.n,E.nm,E.on,E.od,E.a,E.ty,E.ref,esV,hrow]at this
   exact this
  |false=>
   rw[h1]at hp
   simp only[Bool.false_eq_true,if_false]at hp
   cases h2:isQ T s [91] with
   |true=>
    rw[h2]at hp
    simp only[if_true]at hp
    obtain⟨⟨x1,x2⟩,h3,h4⟩:=Option.bind_eq_some_iff.1 hp
    have eo:=fun lim=>opens_ok hT lim s [91] (by simp)
    have e1:=hE g (by omega) 0 _ _ _ (by omega) h3
    have ec:=fun lim=>closes_ok hT lim x2 [93] (by simp)
    generalize opensQ T s [91]=q1 at *
    simp only at h4
    generalize closesQ T x2 [93]=q3 at *
    generalize cur T s=c at *
    simp only[Tk.cells]at et
    have hrow2:E.rows [a,x1]=[rowK a (esV a.kids),x1.row]:=by rw[rowK_eq];simp[E.rows]
    have ih':=fun b2 b3=>ih (q3,Em 6 0 [] [] 0 [a,x1] c.a,esV [a,x1],g,b2,b3) ⟨by simp only;omega,by simp,by simp[Em,E.kids],h4⟩ (by simp only;omega)
    obtain⟨k2,n2,nm2,on2,od2,kids2,a2,ty2,ref2⟩:=x1
    simp only[E.row,Int.natCast_zero]at e1 hrow2
    simp[-a_load,-a_store,ed,eb,h1,h2,et,eo,e1,ec,hv,paste,AV.view,rowK]
    have:=ih' [.int .i64 c.k,.str c.t,.int .i64 c.n,.int .i64 c.a] [.int .i64 k2,.int .i64 n2,.str nm2,.str on2,.int .i64 od2,lstV 11 (E.rows kids2),.int .i64 a2,.int .i64 ty2.b,.int .i64 ty2.r,.int .i64 ty2.d,.int .i64 ref2]
    simp[rowK,Em,E.k,E.n,E.nm,E.on,E.od,E.a,E.ty,E.ref,esV,hrow2]at this
    exact this
   |false=>
    rw[h2]at hp
    simp only[Bool.false_eq_true,if_false,Option.some.injEq,Prod.mk.injEq]at hp
    obtain⟨rfl,rfl⟩:=hp
    rw[<-rowK_eq]
    simp[-a_load,-a_store,ed,eb,h1,h2,hv,paste,AV.isPure,AV.allPure,rowK]
theorem unary_ok (f:Nat)(hE:OkE l T f)(hF:OkF l T f)(hB:OkB l T f):OkU l T (f+1):=by
 intro q e r h lim
 have hlen:=hT.len
 have et:=fun lim=>tok_ok hT lim q
 have em:=fun lim=>is_ok hT lim q [45] (by simp)
 have en:=fun lim=>is_ok hT lim q [33] (by simp)
 unfold pUnary at h
 refine call_run (sf:=s82) rfl rfl rfl ?_
 cases h1:isQ T q [45] with
 |true=>
  rw[h1]at h
  simp only[Bool.true_or,if_true]at h
  obtain⟨⟨x1,x2⟩,h3,h4⟩:=Option.bind_eq_some_iff.1 h
  cases h4
  have hc:=isQ_t h1
  rw[hc]at h3
  have eo:=fun lim=>opens_ok hT lim q [45] (by simp)
  have e1:=hE 5 _ _ _ (by omega) h3
  generalize opensQ T q [45]=q1 at *
  generalize cur T q=c at *
  obtain⟨k2,n2,nm2,on2,od2,kids2,a2,ty2,ref2⟩:=x1
  simp only[Tk.cells]at et
  simp only[E.row,Int.cast_ofNat_Int]at e1
  simp[-a_load,-a_store,s82,et,em,h1,hc,eo,e1,a_op,a_setop,bumpQ,sub1,paste,AV.view,AV.isPure,AV.allPure,Em,E.row,E.rows]
 |false=>
  cases h2:isQ T q [33] with
  |true=>
   rw[h1,h2]at h
   simp only[Bool.false_or,if_true]at h
   obtain⟨⟨x1,x2⟩,h3,h4⟩:=Option.bind_eq_some_iff.1 h
   cases h4
   have hc:=isQ_t h2
   rw[hc]at h3
   have eo:=fun lim=>opens_ok hT lim q [33] (by simp)
   have e1:=hE 5 _ _ _ (by omega) h3
   generalize opensQ T q [33]=q1 at *
   generalize cur T q=c at *
   obtain⟨k2,n2,nm2,on2,od2,kids2,a2,ty2,ref2⟩:=x1
   simp only[Tk.cells]at et
   simp only[E.row,Int.cast_ofNat_Int]at e1
   simp[-a_load,-a_store,s82,et,em,en,h1,h2,hc,eo,e1,a_op,a_setop,bumpQ,sub1,paste,AV.view,AV.isPure,AV.allPure,Em,E.row,E.rows]
  |false=>
   rw[h1,h2]at h
   simp only[Bool.or_self,Bool.false_eq_true,if_false]at h
   obtain⟨⟨x1,x2⟩,h3,h4⟩:=Option.bind_eq_some_iff.1 h
   obtain⟨kv,hk,hv,e1⟩:=hF _ _ _ h3
   have e3:=hB _ _ _ _ h4 kv hk hv
   obtain⟨k2,n2,nm2,on2,od2,kids2,a2,ty2,ref2⟩:=e
   have hkc:=isCell_sl hk
   have hkp:=pure_sl hk
   simp only[E.row]at e3 ⊢
   generalize rowK x1 kv=R at *
   generalize cur T q=c at *
   simp only[Tk.cells]at et
   simp[-a_load,-a_store,s82,et,em,en,h1,h2,e1,e3,paste,AV.isPure,AV.allPure]
theorem expr_step (f:Nat)(hE:∀g,g<=f->OkE l T g)(hU:OkU l T f):OkE l T (f+1):=by
 intro n q e r hn h lim
 have hlen:=hT.len
 unfold pExpr at h
 refine call_run (sf:=s67) rfl rfl rfl ?_
 by_cases hn5:n=5
 ·subst hn5
  rw[if_pos rfl]at h
  have e1:=hU _ _ _ h
  obtain⟨k2,n2,nm2,on2,od2,kids2,a2,ty2,ref2⟩:=e
  simp only[E.row]at e1 ⊢
  simp[-a_load,-a_store,s67,e1,paste,AV.isPure,AV.allPure]
 ·rw[if_neg hn5]at h
  obtain⟨⟨x1,x2⟩,h1,h2⟩:=Option.bind_eq_some_iff.1 h
  have hn5':¬(n:Int)=5:=by omega
  have hwn:IntKind.i64.wrap ((n:Int)+1)=((n+1:Nat):Int):=by rw[wrap64]<;>omega
  have e1:=hE f (Nat.le_refl _) (n+1) _ _ _ (by omega) h1
  have hrow:∀e:E,e.row=[.int .i64 e.k,.int .i64 e.n,.str e.nm,.str e.on,.int .i64 e.od,esV e.kids,.int .i64 e.a,.int .i64 e.ty.b,.int .i64 e.ty.r,.int .i64 e.ty.d,.int .i64 e.ref]:=E.row_eq
  simp only[hrow,Int.natCast_add,Int.cast_ofNat_Int]at e1
  simp[-a_load,-a_store,s67,hn5',hwn,e1,paste]
  refine W_loopI s67_l0.eq_1 (fun x:RQ×E×Nat×List AV×List AV=>⟨[(0,.val (.ptr 0 0 0 0)),(1,.val (.int .i64 n)),(4,.fp 0 0),(5,.fp 1 0)],
    [[.int .i64 0,.int .i64 0,.str [],.str [],.int .i64 0,.nilSl,.int .i64 0,.int .i64 0,.int .i64 0,.int .i64 0,.int .i64 0],
     [.int .i64 x.2.1.k,.int .i64 x.2.1.n,.str x.2.1.nm,.str x.2.1.on,.int .i64 x.2.1.od,esV x.2.1.kids,.int .i64 x.2.1.a,.int .i64 x.2.1.ty.b,.int .i64 x.2.1.ty.r,.int .i64 x.2.1.ty.d,.int .i64 x.2.1.ref],x.2.2.2.1,x.2.2.2.2],[RQ.obj l x.1]⟩)
   (fun x=>x.2.2.1<=f/\pSigns T x.2.2.1 n x.2.1 x.1=some (e,r)) (fun x=>x.2.2.1) (x2,x1,f,[],[]) rfl ⟨Nat.le_refl _,h2⟩ ?_
  rintro⟨s,a,g,b2,b3⟩ ⟨hg,hp⟩ ihl
  simp only at hg hp ihl
  have eo:=fun lim=>ok_ok (l:=l) lim s
  have et:=fun lim=>tok_ok hT lim s
  have elp:=fun wl lim=>level_ok wl lim n (by omega) (cur T s) [RQ.obj l s]
  cases g with
  |zero=>simp[pSigns]at hp
  |succ g=>
   unfold pSigns at hp
   by_cases hgo:s.fe=0/\levelT n (cur T s)≠0
   ·rw[if_pos hgo]at hp
    obtain⟨f0,z0⟩:=hgo
    obtain⟨⟨y1,y2⟩,h3,h4⟩:=Option.bind_eq_some_iff.1 hp
    have hin:=level_in z0
    have hw:IntKind.i64.wrap ((s.at_:Int)+1)=((s.at_+1:Nat):Int):=by rw[wrap64]<;>omega
    have e3:=hE g (by omega) (n+1) _ _ _ (by omega) h3
    have elp2:=fun wl lim st=>level_ok wl lim n (by omega) (cur T s) st
    simp only[hrow,Int.natCast_add,Int.cast_ofNat_Int]at e3
    have hrow2:E.rows [a,y1]=[a.row,y1.row]:=by simp[E.rows]
    simp only[hrow]at hrow2
    generalize levelT n (cur T s)=z at *
    have ih':=fun b2 b3=>ihl (y2,Em z 0 [] [] 0 [a,y1] (cur T s).a,g,b2,b3) ⟨by simp only;omega,h4⟩ (by simp only;omega)
    generalize cur T s=c at *
    simp only[Tk.cells]at et elp elp2
    simp[-a_load,-a_store,eo,f0,et,elp2,z0,a_at,a_set,hw,hwn,e3,paste,AV.view,W_draw0,noBoxes]
    have:=ih' [.int .i64 c.k,.str c.t,.int .i64 c.n,.int .i64 c.a] [.int .i64 y1.k,.int .i64 y1.n,.str y1.nm,.str y1.on,.int .i64 y1.od,esV y1.kids,.int .i64 y1.a,.int .i64 y1.ty.b,.int .i64 y1.ty.r,.int .i64 y1.ty.d,.int .i64 y1.ref]
    simp only[Em,E.k,E.n,E.nm,E.on,E.od,E.kids,E.a,E.ty,E.ref]at this
    simp only[show esV [a,y1]=.lst 11 (E.rows [a,y1]) from rfl,hrow2]at this
    exact this
   ·rw[if_neg hgo]at hp
    simp only[Option.some.injEq,Prod.mk.injEq]at hp
    obtain⟨rfl,rfl⟩:=hp
    rw[hrow]
    generalize levelT n (cur T s)=z at *
    generalize cur T s=c at *
    simp only[Tk.cells]at et elp
    by_cases f0:s.fe=0
    ·have z0:z=0:=Classical.byContradiction fun h=>hgo ⟨f0,h⟩
     subst z0
     simp[-a_load,-a_store,eo,f0,et,elp,paste,AV.isPure,AV.allPure]
    ·simp[-a_load,-a_store,eo,f0,paste,AV.isPure,AV.allPure]
theorem expr_all:∀f,OkE l T f/\OkU l T f/\OkF l T f/\OkI l T f/\OkN l T f/\OkA l T f:=by
 intro f
 induction f using Nat.strongRecOn with
 |_ f ih=>
  cases f with
  |zero=>
   refine⟨?_,?_,?_,?_,?_,?_⟩
   ·intro n q e r _ h;simp[pExpr]at h
   ·intro q e r h;simp[pUnary]at h
   ·intro q e r h;simp[pFirst]at h
   ·intro q e r h;simp[pInner]at h
   ·intro a q e r h;simp[pFresh]at h
   ·intro q e r h;simp[pArgs]at h
  |succ f=>
   obtain⟨hE,hU,hF,hI,hN,hA⟩:=ih f (by omega)
   have hEl:∀g,g<=f->OkE l T g:=fun g h=>(ih g (by omega)).1
   exact⟨expr_step hT f hEl hU,unary_ok hT f hE hF (behind_ok hT f fun g h=>hEl g (by omega)),first_ok hT f hN hI hA,inner_ok hT f hE,fresh_ok hT f hI,args_ok hT f hEl⟩
theorem expr_ok {f n:Nat}{q r:RQ}{e:E}(hn:n<=5)(h:pExpr T f n q=some (e,r))(lim:Nat):(orcL S).call 0 lim 67 [.ptr 0 0 0 0,.int .i64 (n:Nat)] [q.obj l]=some (.agg e.row,[r.obj l]):=(expr_all hT f).1 n q e r hn h lim
end
end N7
namespace N7
open Ax Go Code13 V7 Par
def OkS (l:AV)(T:List Tk)(f:Nat):Prop:=∀q s r,pStmt T f q=some (s,r)->∀lim,(orcL S).call 0 lim 55 [.ptr 0 0 0 0] [q.obj l]=some (.agg s.row,[r.obj l])
def OkK (l:AV)(T:List Tk)(f:Nat):Prop:=∀q s r,pBlock T f q=some (s,r)->∀lim,(orcL S).call 0 lim 35 [.ptr 0 0 0 0] [q.obj l]=some (mkL 9 (Sm.rows s),[r.obj l])
section
variable {l:AV}{T:List Tk}(hT:TL l T)
include hT
theorem ex0 {f:Nat}{q r:RQ}{e:E}(h:pExpr T f 0 q=some (e,r))(lim:Nat) :
  (orcL S).call 0 lim 67 [.ptr 0 0 0 0,.int .i64 0] [q.obj l]=some (.agg [.int .i64 e.k,.int .i64 e.n,.str e.nm,.str e.on,.int .i64 e.od,esV e.kids,.int .i64 e.a,.int .i64 e.ty.b,.int .i64 e.ty.r,.int .i64 e.ty.d,.int .i64 e.ref],[r.obj l]):=by
 have:=expr_ok hT (n:=0) (by omega) h lim
 rw[E.row_eq]at this
 exact this
theorem plain_ok {f:Nat}{a0:Int}{q r:RQ}{s:Sm}(h:pPlain T f a0 q=some (s,r))(lim:Nat) :
  (orcL S).call 0 lim 68 [.ptr 0 0 0 0,.agg [.int .i64 0,.str [],.str [],.int .i64 0,.nilSl,.nilSl,.nilSl,.int .i64 a0,.int .i64 0]] [q.obj l]=some (.agg s.row,[r.obj l]):=by
 have hlen:=hT.len
 unfold pPlain at h
 obtain⟨⟨x,r1⟩,h1,h2⟩:=Option.bind_eq_some_iff.1 h
 dsimp only at h2
 have e1:=ex0 hT h1
 have ei:=fun lim s hs=>is_ok hT lim r1 s hs
 have ef:=fun lim=>fail_ok hT lim r1 2
 have hrx:E.rows [x]=[[.int .i64 x.k,.int .i64 x.n,.str x.nm,.str x.on,.int .i64 x.od,esV x.kids,.int .i64 x.a,.int .i64 x.ty.b,.int .i64 x.ty.r,.int .i64 x.ty.d,.int .i64 x.ref]]:=by simp[E.rows,E.row_eq]
 refine call_run (sf:=s68) rfl rfl rfl ?_
 cases h3:isQ T r1 [61] with
 |false=>
  rw[h3]at h2
  simp only[Bool.false_eq_true,if_false,Option.some.injEq,Prod.mk.injEq]at h2
  obtain⟨rfl,rfl⟩:=h2
  by_cases h4:isQ T r1 [59]=true/\x.k≠7
  ·rw[if_pos h4]
   obtain⟨h4,h5⟩:=h4
   have et:=fun lim=>take_ok hT lim (failQ T r1 2) [59] (by simp)
   simp[-a_load,-a_store,s68,e1,ei,h3,h4,h5,ef,et,paste,AV.view,AV.isPure,AV.allPure,Sm.row,esV,hrx,Sm.rows]
  ·rw[if_neg h4]
   have et:=fun lim=>take_ok hT lim r1 [59] (by simp)
   cases h4':isQ T r1 [59] with
   |false=>
    simp[-a_load,-a_store,s68,e1,ei,h3,h4',et,paste,AV.view,AV.isPure,AV.allPure,Sm.row,esV,hrx,Sm.rows]
   |true=>
    have h5:x.k=7:=Classical.byContradiction fun h=>h4 ⟨h4',h⟩
    rw[h5]at e1 hrx
    simp[-a_load,-a_store,s68,e1,ei,h3,h4',et,paste,AV.view,AV.isPure,AV.allPure,Sm.row,esV,hrx,Sm.rows]
 |true=>
  rw[h3]at h2
  simp only[if_true]at h2
  obtain⟨⟨y,r2⟩,h4,h5⟩:=Option.bind_eq_some_iff.1 h2
  have e2:=ex0 hT h4
  have et2:=fun lim=>take_ok hT lim r2 [59] (by simp)
  have hry:E.rows [y]=[[.int .i64 y.k,.int .i64 y.n,.str y.nm,.str y.on,.int .i64 y.od,esV y.kids,.int .i64 y.a,.int .i64 y.ty.b,.int .i64 y.ty.r,.int .i64 y.ty.d,.int .i64 y.ref]]:=by simp[E.rows,E.row_eq]
  have hrxy:E.rows [x,y]=[[.int .i64 x.k,.int .i64 x.n,.str x.nm,.str x.on,.int .i64 x.od,esV x.kids,.int .i64 x.a,.int .i64 x.ty.b,.int .i64 x.ty.r,.int .i64 x.ty.d,.int .i64 x.ref],[.int .i64 y.k,.int .i64 y.n,.str y.nm,.str y.on,.int .i64 y.od,esV y.kids,.int .i64 y.a,.int .i64 y.ty.b,.int .i64 y.ty.r,.int .i64 y.ty.d,.int .i64 y.ref]]:=by simp[E.rows,E.row_eq]
  by_cases c4:x.k=4
  ·rw[if_pos (.inl c4)]at e2
   have et:=fun lim=>take_ok hT lim r1 [61] (by simp)
   simp only[if_pos c4,Option.some.injEq,Prod.mk.injEq]at h5
   obtain⟨rfl,rfl⟩:=h5
   rw[c4]at e1
   simp[-a_load,-a_store,s68,e1,ei,h3,et,e2,et2,paste,AV.view,AV.isPure,AV.allPure,Sm.row,esV,hry,Sm.rows]
  ·simp only[if_neg c4,Option.some.injEq,Prod.mk.injEq]at h5
   obtain⟨rfl,rfl⟩:=h5
   by_cases c5:x.k=5\/x.k=6
   ·rw[if_pos (.inr c5)]at e2
    have et:=fun lim=>take_ok hT lim r1 [61] (by simp)
    rcases c5 with c5|c5<;>
    ·rw[c5]at e1 hrxy
     simp[-a_load,-a_store,s68,e1,ei,h3,et,e2,et2,paste,AV.view,AV.isPure,AV.allPure,Sm.row,esV,hrxy,Sm.rows]
   ·have c5':x.k≠5:=fun h=>c5 (.inl h)
    have c6':x.k≠6:=fun h=>c5 (.inr h)
    rw[if_neg (fun h=>h.elim c4 c5)]at e2
    have et:=fun lim=>take_ok hT lim (failQ T r1 2) [61] (by simp)
    simp[-a_load,-a_store,s68,e1,ei,h3,ef,et,e2,et2,c4,c5',c6',paste,AV.view,AV.isPure,AV.allPure,Sm.row,esV,hrxy,Sm.rows]
theorem block_ok (f:Nat)(hS:∀g,g<f->OkS l T g):OkK l T (f+1):=by
 intro q s r h lim
 have hlen:=hT.len
 have eo:=fun lim=>opens_ok hT lim q [123] (by simp)
 unfold pBlock at h
 refine call_run (sf:=s35) rfl rfl rfl ?_
 generalize opensQ T q [123]=q1 at *
 simp[-a_load,-a_store,s35,eo]
 refine W_loopI s35_l0.eq_1 (fun x:RQ×List Sm×Nat=>⟨[(0,.val (.ptr 0 0 0 0)),(3,.val (mkL 9 (Sm.rows x.2.1)))],[],[RQ.obj l x.1]⟩)
  (fun x=>x.2.2<=f/\x.2.1.length<=T.length+1/\(x.1.fe=0->x.2.1.length<=x.1.at_/\x.2.1.length<=T.length)/\pStmts T x.2.2 x.2.1 x.1=some (s,r)) (fun x=>x.2.2) (q1,[],f) rfl ⟨Nat.le_refl _,by simp,by simp,h⟩ ?_
 rintro⟨u,ss,g⟩ ⟨hg,hln,hl0,hp⟩ ih
 simp only at hg hln hl0 hp ih
 have ek:=fun lim=>ok_ok (l:=l) lim u
 have ei:=fun lim=>is_ok hT lim u [125] (by simp)
 cases g with
 |zero=>simp[pStmts]at hp
 |succ g=>
  unfold pStmts at hp
  have ec:=fun lim=>closes_ok hT lim u [125] (by simp)
  by_cases f0:u.fe=0
  ·cases hi:isQ T u [125] with
   |true=>
    rw[if_neg (by rw[hi];simp)]at hp
    simp only[Option.some.injEq,Prod.mk.injEq]at hp
    obtain⟨rfl,rfl⟩:=hp
    simp[-a_load,-a_store,ek,f0,ei,hi,ec]
   |false=>
    rw[if_pos ⟨f0,hi⟩]at hp
    obtain⟨⟨x,r2⟩,h1,h2⟩:=Option.bind_eq_some_iff.1 hp
    have e2:=hS g (by omega) _ _ _ h1
    obtain⟨g2,w2⟩:=(good_stall T g).1 _ _ _ h1
    have hl0':=hl0 f0
    have hle:=g2.le
    have hap2:=appV_mk (sz:=9) (bytes:=136) (r:=Sm.rows ss) (new:=[x.row]) (by simp[fits,Sm.row_eq]) (by simp[room,Smrows_map];omega)
    have hrw:Sm.rows ss++[x.row]=Sm.rows (ss++[x]):=by simp[Smrows_map]
    rw[hrw]at hap2
    have ih':=ih (r2,ss++[x],g) ⟨by simp only;omega,by simp;omega,fun f=>by
     rcases w2 with w|⟨w,v⟩
     ·exact absurd f w
     ·simp;omega,h2⟩ (by simp only;omega)
    simp only at ih'
    generalize Sm.rows (ss++[x])=R at *
    rw[Sm.row_eq]at e2 hap2
    simp[-a_load,-a_store,ek,f0,ei,hi,e2,hap2,AV.view]
    exact ih'
  ·rw[if_neg (fun h=>f0 h.1)]at hp
   simp only[Option.some.injEq,Prod.mk.injEq]at hp
   obtain⟨rfl,rfl⟩:=hp
   simp[-a_load,-a_store,ek,f0,ec]
theorem stmt_ok (f:Nat)(hK:OkK l T f):OkS l T (f+1):=by
 intro q s r h lim
 have hlen:=hT.len
 have et:=fun lim=>tok_ok hT lim q
 have ei:=fun lim s hs=>is_ok hT lim q s hs
 have hct:=fun s (h:isQ T q s=true)=>isQ_t h
 have hw':∀s,isQ T q s=true->IntKind.i64.wrap ((q.at_:Int)+1)=((q.at_+1:Nat):Int):=fun s h=>by
  have:=(isQ_in h).2
  rw[wrap64]<;>omega
 unfold pStmt at h
 refine call_run (sf:=s55) rfl rfl rfl ?_
 have en:=fun lim=>name_ok hT lim (stepQ q)
 have ec:=fun lim=>take_ok hT lim (nameQ T (stepQ q)).2 [58] (by simp)
 have eo:=fun lim=>of_ok hT lim (takeQ T (nameQ T (stepQ q)).2 [58])
 have hpq:paramQ T (stepQ q)=(⟨(nameQ T (stepQ q)).1,(ofQ T (takeQ T (nameQ T (stepQ q)).2 [58])).1.1,(ofQ T (takeQ T (nameQ T (stepQ q)).2 [58])).1.2,(cur T (stepQ q)).a⟩,(ofQ T (takeQ T (nameQ T (stepQ q)).2 [58])).2):=rfl
 rw[hpq]at h
 generalize ofQ T (takeQ T (nameQ T (stepQ q)).2 [58])=o at *
 generalize takeQ T (nameQ T (stepQ q)).2 [58]=q2 at *
 generalize nameQ T (stepQ q)=z at *
 clear hpq
 have hpl:=fun s r (h:pPlain T f (cur T q).a q=some (s,r))=>plain_ok hT h
 generalize hc:cur T q=c at *
 simp only[Tk.cells]at et
 cases h1:isQ T q [118,97,114] with
 |true=>
  rw[h1]at h
  simp only[if_true,Option.some.injEq,Prod.mk.injEq]at h
  obtain⟨rfl,rfl⟩:=h
  have ht:=hct _ h1
  have hw:=hw' _ h1
  have e4:=fun lim=>take_ok hT lim o.2 [59] (by simp)
  simp[-a_load,-a_store,s55,et,ei,h1,ht,a_at,a_set,hw,en,ec,eo,e4,paste,AV.view,AV.isPure,AV.allPure,Sm.row,esV_nil,Sm.rows]
 |false=>
 rw[h1]at h
 simp only[Bool.false_eq_true,if_false]at h
 cases h2:isQ T q [108,101,116] with
 |true=>
  rw[h2]at h
  simp only[if_true]at h
  obtain⟨⟨x,r5⟩,h8,h9⟩:=Option.bind_eq_some_iff.1 h
  simp only[Option.some.injEq,Prod.mk.injEq]at h9
  obtain⟨rfl,rfl⟩:=h9
  have ht:=hct _ h2
  have hw:=hw' _ h2
  have e4:=fun lim=>take_ok hT lim o.2 [61] (by simp)
  have e5:=ex0 hT h8
  have e6:=fun lim=>take_ok hT lim r5 [59] (by simp)
  have hrx:E.rows [x]=[[.int .i64 x.k,.int .i64 x.n,.str x.nm,.str x.on,.int .i64 x.od,esV x.kids,.int .i64 x.a,.int .i64 x.ty.b,.int .i64 x.ty.r,.int .i64 x.ty.d,.int .i64 x.ref]]:=by simp[E.rows,E.row_eq]
  simp[-a_load,-a_store,s55,et,ei,h1,h2,ht,a_at,a_set,hw,en,ec,eo,e4,e5,e6,paste,AV.view,AV.isPure,AV.allPure,Sm.row,Sm.rows]
  simp[esV,hrx]
 |false=>
 rw[h2]at h
 simp only[Bool.false_eq_true,if_false]at h
 cases h3:isQ T q [105,102] with
 |true=>
  rw[h3]at h
  simp only[if_true]at h
  obtain⟨⟨x,r5⟩,h8,h9⟩:=Option.bind_eq_some_iff.1 h
  obtain⟨⟨y,r6⟩,h10,h11⟩:=Option.bind_eq_some_iff.1 h9
  have hw:=hw' _ h3
  have e5:=ex0 hT h8
  have e6:=hK _ _ _ h10
  have hv:isSl (mkL 9 (Sm.rows y))=true:=isSl_mk
  have hvv:(mkL 9 (Sm.rows y)).view=lstV 9 (Sm.rows y):=rfl
  have hrx:E.rows [x]=[[.int .i64 x.k,.int .i64 x.n,.str x.nm,.str x.on,.int .i64 x.od,esV x.kids,.int .i64 x.a,.int .i64 x.ty.b,.int .i64 x.ty.r,.int .i64 x.ty.d,.int .i64 x.ref]]:=by simp[E.rows,E.row_eq]
  generalize mkL 9 (Sm.rows y)=vy at *
  have hvc:=isCell_sl hv
  have hvp:=pure_sl hv
  have ej:=fun lim=>is_ok hT lim r6 [101,108,115,101] (by simp)
  dsimp only at h11
  cases h4:isQ T r6 [101,108,115,101] with
  |false=>
   rw[h4]at h11
   simp only[Bool.false_eq_true,if_false,Option.some.injEq,Prod.mk.injEq]at h11
   obtain⟨rfl,rfl⟩:=h11
   simp[-a_load,-a_store,s55,et,ei,h1,h2,h3,a_at,a_set,hw,e5,e6,ej,h4,hv,hvv,paste,AV.view,AV.isPure,AV.allPure,Sm.row,Sm.rows]
   simp[esV,hrx]
  |true=>
   rw[h4]at h11
   simp only[if_true]at h11
   obtain⟨⟨w,r8⟩,h12,h13⟩:=Option.bind_eq_some_iff.1 h11
   simp only[Option.some.injEq,Prod.mk.injEq]at h13
   obtain⟨rfl,rfl⟩:=h13
   have hw6:IntKind.i64.wrap ((r6.at_:Int)+1)=((r6.at_+1:Nat):Int):=by
    have:=(isQ_in h4).2
    rw[wrap64]<;>omega
   have e8:=hK _ _ _ h12
   have hu:isSl (mkL 9 (Sm.rows w))=true:=isSl_mk
   have huv:(mkL 9 (Sm.rows w)).view=lstV 9 (Sm.rows w):=rfl
   generalize mkL 9 (Sm.rows w)=vw at *
   have huc:=isCell_sl hu
   have hup:=pure_sl hu
   simp[-a_load,-a_store,s55,et,ei,h1,h2,h3,a_at,a_set,hw,hw6,e5,e6,ej,h4,e8,hv,hvv,hu,huv,paste,AV.view,AV.isPure,AV.allPure,Sm.row]
   simp[esV,hrx]
 |false=>
 rw[h3]at h
 simp only[Bool.false_eq_true,if_false]at h
 cases h4:isQ T q [119,104,105,108,101] with
 |true=>
  rw[h4]at h
  simp only[if_true]at h
  obtain⟨⟨x,r5⟩,h8,h9⟩:=Option.bind_eq_some_iff.1 h
  obtain⟨⟨y,r6⟩,h10,h11⟩:=Option.bind_eq_some_iff.1 h9
  simp only[Option.some.injEq,Prod.mk.injEq]at h11
  obtain⟨rfl,rfl⟩:=h11
  have hw:=hw' _ h4
  have e5:=ex0 hT h8
  have e6:=hK _ _ _ h10
  have hv:isSl (mkL 9 (Sm.rows y))=true:=isSl_mk
  have hvv:(mkL 9 (Sm.rows y)).view=lstV 9 (Sm.rows y):=rfl
  have hrx:E.rows [x]=[[.int .i64 x.k,.int .i64 x.n,.str x.nm,.str x.on,.int .i64 x.od,esV x.kids,.int .i64 x.a,.int .i64 x.ty.b,.int .i64 x.ty.r,.int .i64 x.ty.d,.int .i64 x.ref]]:=by simp[E.rows,E.row_eq]
  generalize mkL 9 (Sm.rows y)=vy at *
  have hvc:=isCell_sl hv
  have hvp:=pure_sl hv
  simp[-a_load,-a_store,s55,et,ei,h1,h2,h3,h4,a_at,a_set,hw,e5,e6,hv,hvv,paste,AV.view,AV.isPure,AV.allPure,Sm.row,Sm.rows]
  simp[esV,hrx]
 |false=>
 rw[h4]at h
 simp only[Bool.false_eq_true,if_false]at h
 cases h5:isQ T q [114,101,116,117,114,110] with
 |true=>
  rw[h5]at h
  simp only[if_true]at h
  have hw:=hw' _ h5
  have ej:=fun lim=>is_ok hT lim (stepQ q) [59] (by simp)
  cases h6:isQ T (stepQ q) [59] with
  |true=>
   rw[h6]at h
   simp only[if_true,Option.some.injEq,Prod.mk.injEq]at h
   obtain⟨rfl,rfl⟩:=h
   have e4:=fun lim=>take_ok hT lim (stepQ q) [59] (by simp)
   simp[-a_load,-a_store,s55,et,ei,h1,h2,h3,h4,h5,a_at,a_set,hw,ej,h6,e4,paste,AV.view,AV.isPure,AV.allPure,Sm.row,esV_nil,Sm.rows]
  |false=>
   rw[h6]at h
   simp only[Bool.false_eq_true,if_false]at h
   obtain⟨⟨x,r5⟩,h8,h9⟩:=Option.bind_eq_some_iff.1 h
   simp only[Option.some.injEq,Prod.mk.injEq]at h9
   obtain⟨rfl,rfl⟩:=h9
   have e5:=ex0 hT h8
   have e4:=fun lim=>take_ok hT lim r5 [59] (by simp)
   have hrx:E.rows [x]=[[.int .i64 x.k,.int .i64 x.n,.str x.nm,.str x.on,.int .i64 x.od,esV x.kids,.int .i64 x.a,.int .i64 x.ty.b,.int .i64 x.ty.r,.int .i64 x.ty.d,.int .i64 x.ref]]:=by simp[E.rows,E.row_eq]
   simp[-a_load,-a_store,s55,et,ei,h1,h2,h3,h4,h5,a_at,a_set,hw,ej,h6,e5,e4,paste,AV.view,AV.isPure,AV.allPure,Sm.row,Sm.rows]
   simp[esV,hrx]
 |false=>
 rw[h5]at h
 simp only[Bool.false_eq_true,if_false]at h
 cases h6:isQ T q [112,114,105,110,116] with
 |true=>
  rw[h6]at h
  simp only[if_true]at h
  obtain⟨⟨x,r5⟩,h8,h9⟩:=Option.bind_eq_some_iff.1 h
  simp only[Option.some.injEq,Prod.mk.injEq]at h9
  obtain⟨rfl,rfl⟩:=h9
  have hw:=hw' _ h6
  have e5:=ex0 hT h8
  have e4:=fun lim=>take_ok hT lim r5 [59] (by simp)
  have hrx:E.rows [x]=[[.int .i64 x.k,.int .i64 x.n,.str x.nm,.str x.on,.int .i64 x.od,esV x.kids,.int .i64 x.a,.int .i64 x.ty.b,.int .i64 x.ty.r,.int .i64 x.ty.d,.int .i64 x.ref]]:=by simp[E.rows,E.row_eq]
  simp[-a_load,-a_store,s55,et,ei,h1,h2,h3,h4,h5,h6,a_at,a_set,hw,e5,e4,paste,AV.view,AV.isPure,AV.allPure,Sm.row,Sm.rows]
  simp[esV,hrx]
 |false=>
  rw[h6]at h
  simp only[Bool.false_eq_true,if_false]at h
  have e1:=hpl _ _ h
  rw[Sm.row_eq]at e1 ⊢
  simp[-a_load,-a_store,s55,et,ei,h1,h2,h3,h4,h5,h6,e1,paste,AV.view,AV.isPure,AV.allPure]
theorem stmt_all:∀f,OkS l T f/\OkK l T f:=by
 intro f
 induction f using Nat.strongRecOn with
 |_ f ih=>
  cases f with
  |zero=>
   refine⟨?_,?_⟩
   ·intro q e r h;simp[pStmt]at h
   ·intro q e r h;simp[pBlock]at h
  |succ f=>
   exact⟨stmt_ok hT f (ih f (by omega)).2,block_ok hT f fun g h=>(ih g (by omega)).1⟩
theorem blk_ok {f:Nat}{q r:RQ}{s:List Sm}(h:pBlock T f q=some (s,r))(lim:Nat):(orcL S).call 0 lim 35 [.ptr 0 0 0 0] [q.obj l]=some (mkL 9 (Sm.rows s),[r.obj l]):=(stmt_all hT f).2 q s r h lim
end
end N7
namespace N7
open Ax Go Code13 V7 Par
section
variable {l:AV}{T:List Tk}(hT:TL l T)
include hT
end
end N7
namespace N7
open Ax Go Code13 V7 Par
end N7
namespace N7
open Ax Go Code13 V7 Par U7
def gdOf (p:Pg):GD:=⟨lstV 3 (p.recs.map Rc.row),lstV 4 (p.globals.map PD.cells),lstV 7 (p.funcs.map Fc.row)⟩
theorem no_lstV {sz:Nat}{r:List (List AV)}:notOwn (lstV sz r)=true:=by simp[lstV]
theorem inR_6000 {a:Int}(h:0<=a)(h2:a<=6000):inR a=true:=by simp only[inR,Bool.and_eq_true,decide_eq_true_eq];omega
theorem isSz_lstV {sz:Nat}{r:List (List AV)}(h:fits sz r=true):isSz sz (lstV sz r)=true:=by
 cases r with
 |nil=>rfl
 |cons a r=>simp[isSz,h]
theorem isPs_lst {l:List PD}(h:∀p∈l,PDin 6000 p):isPs (lstV 4 (l.map PD.cells))=true:=by
 unfold isPs isRows
 rw[no_lstV,isSz_lstV (by simp[fits,PD.cells]),rowsL_lstV]
 simp only[Bool.and_self,Bool.true_and,List.all_map,List.all_eq_true,Function.comp]
 intro p hp
 obtain⟨h1,h2,h3,h4⟩:=h p hp
 simp[pdRow,PD.cells,inR_6000 h1 (by omega),inR_6000 h3 h4]
theorem gd_ok {p:Pg}(h:Pg.In 6000 p):(gdOf p).ok:=by
 refine⟨?_,isPs_lst h.g.2,?_⟩
 ·unfold isCRs isRows
  show (notOwn (lstV 3 (p.recs.map Rc.row))&&isSz 3 (lstV 3 (p.recs.map Rc.row))&&(rowsL (lstV 3 (p.recs.map Rc.row))).all crRow)=true
  rw[no_lstV,isSz_lstV (by simp[fits,Rc.row]),rowsL_lstV]
  simp only[Bool.and_self,Bool.true_and,List.all_map,List.all_eq_true,Function.comp]
  intro r hr
  have i:=h.r.2 r hr
  simp[crRow,Rc.row,isPs_lst i.f,inR_6000 i.a.1 i.a.2]
 ·unfold isFNs isRows
  show (notOwn (lstV 7 (p.funcs.map Fc.row))&&isSz 7 (lstV 7 (p.funcs.map Fc.row))&&(rowsL (lstV 7 (p.funcs.map Fc.row))).all fnRow)=true
  rw[no_lstV,isSz_lstV (by simp[fits,Fc.row]),rowsL_lstV]
  simp only[Bool.and_self,Bool.true_and,List.all_map,List.all_eq_true,Function.comp]
  intro r hr
  have i:=h.f.2 r hr
  simp[fnRow,Fc.row,isPs_lst i.f,inR_6000 i.a.1 i.a.2,inR_6000 i.od.1 (by have:=i.od.2;omega),ssV,no_lstV]
theorem dPs_lst (l:List PD):dPs (lstV 4 (l.map PD.cells))=l:=by
 simp only[dPs,rowsL_lstV,List.map_map]
 conv=>rhs;rw[<-List.map_id l]
 exact List.map_congr_left fun p _=>rfl
def crOf (r:Rc):CR:=⟨r.name,lstV 4 (r.fields.map PD.cells),r.a⟩
def fnOf (f:Fc):FN:=⟨f.name,lstV 4 (f.params.map PD.cells),f.has,f.on,f.od,ssV f.body,f.a⟩
theorem dCRs_gd (p:Pg):dCRs (gdOf p).recs=p.recs.map crOf:=by
 simp only[gdOf,dCRs,rowsL_lstV,List.map_map]
 exact List.map_congr_left fun p _=>rfl
theorem dFNs_gd (p:Pg):dFNs (gdOf p).funcs=p.funcs.map fnOf:=by
 simp only[gdOf,dFNs,rowsL_lstV,List.map_map]
 exact List.map_congr_left fun p _=>rfl
theorem dPs_gd (p:Pg):dPs (gdOf p).globals=p.globals:=dPs_lst _
theorem gd_sm {p:Pg}(h:Pg.In 6000 p):GD.sm (gdOf p):=by
 refine⟨?_,?_,?_,?_,?_⟩
 ·rw[dCRs_gd,List.length_map];have:=h.r.1;omega
 ·intro x hx
  rw[dCRs_gd]at hx
  obtain⟨r,hr,rfl⟩:=List.mem_map.1 hx
  simp only[crOf,dPs_lst]
  have:=(h.r.2 r hr).len
  omega
 ·rw[dPs_gd];have:=h.g.1;omega
 ·rw[dFNs_gd,List.length_map];have:=h.f.1;omega
 ·intro x hx
  rw[dFNs_gd]at hx
  obtain⟨r,hr,rfl⟩:=List.mem_map.1 hx
  simp only[fnOf,dPs_lst]
  have:=(h.f.2 r hr).len
  omega
end N7
