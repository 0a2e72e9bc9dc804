/- Part of a proof. -/
import Derived.Test.YtachcambnjecnaaGreatCode2
import Derived.Test.YtachcambnjecnaaGreatP
import Derived.Test.YtachcambnjecnaaGreatL
import Derived.Test.YtachcambnjecnaaGreatM

set_option maxRecDepth 100000
set_option maxHeartbeats 8000000
namespace N7
open Ax Go bu V7 jG
section
variable {l:AV}{T:List Tk}(hT:TL l T)(af:Nat)(q:RQ)
theorem gz:(bh S).call 0 af 12 [.ptr 0 0 0 0] [q.aT l]=some (.bool (decide (q.fe=0)),[q.aT l]):=by
 refine ay (sf:=s12) rfl rfl rfl ?_;simp[s12,RQ.aT,cut,AV.view]
include hT
theorem nq:(bh S).call 0 af 13 [.ptr 0 0 0 0] [q.aT l]=some (.agg (fP T q).cells,[q.aT l]):=by
 have hs:=hT.sl;have hz:=hT.sz;have hr:=hT.rows;refine ay (sf:=s13) rfl rfl rfl ?_;have h0:¬(q.at_:Int)<0:=by omega
 by_cases h1:q.at_<T.length;have h2:¬(T.length:Int)<=(q.at_:Int):=by omega
 have hc:fP T q=T[q.at_]:=by simp[fP,h1]
 simp[s13,RQ.aT,cut,h0,h1,h2,hs,hz,hr,hc,Tk.cells,au,an,AV.view];have h2:(T.length:Int)<=(q.at_:Int):=by omega
 have hc:fP T q=Tk0:=by simp[fP,List.getD,List.getElem?_eq_none (Nat.le_of_not_lt h1)]
 simp[s13,RQ.aT,cut,h0,h2,hs,hr,hc,Tk.cells,au,an,AV.view]
theorem j7(s:List UInt8)(jn:s≠[]):(bh S).call 0 af 14 [.ptr 0 0 0 0,.str s] [q.aT l]=some (.bool (iD T q s),[q.aT l]):=by
 have et:=λaf=>nq hT af q;have eo:=λaf=>gz (l:=l) af q;cases s with
 |nil=>exact absurd rfl jn|cons c s=>
  obtain⟨v,hv⟩:∃v,iD T q (c::s)=v:=⟨_,rfl⟩;rw[hv];simp only[iD]at hv;refine ay (sf:=s14) rfl rfl rfl ?_;generalize fP T q=x at *;simp only[Tk.cells]at et;have lG:∀k:Int,yR (c::s)=k->v=(decide (q.fe=0)&&decide (x.k=k)&&decide (x.t=c::s)):=λk hk=>by rw[<-hv,hk]
  by_cases c1:97<=c.toNat;have d1:(97:Int)<=(c.toNat:Int):=by omega
  by_cases c2:c.toNat<=122;have d2:(c.toNat:Int)<=122:=by omega
  rw[lG 3 (by simp[yR,c1,c2])];by_cases f0:q.fe=0<;>by_cases f1:x.k=3<;>simp[s14,et,eo,d1,d2,f0,f1];have d2:¬(c.toNat:Int)<=122:=by omega
  rw[lG 4 (by simp[yR,c2])];by_cases f0:q.fe=0<;>by_cases f1:x.k=4<;>simp[s14,et,eo,d1,d2,f0,f1];have d1:¬(97:Int)<=(c.toNat:Int):=by omega
  rw[lG 4 (by simp[yR,c1])];by_cases f0:q.fe=0<;>by_cases f1:x.k=4<;>simp[s14,et,eo,d1,f0,f1]
theorem eW(e:Int):(bh S).call 0 af 15 [.ptr 0 0 0 0,.int .i64 e] [q.aT l]=some (.fm [],[(jr T q e).aT l]):=by
 have et:=λaf=>nq hT af q;have eo:=λaf=>gz (l:=l) af q;refine ay (sf:=s15) rfl rfl rfl ?_;unfold jr;generalize fP T q=x at *;simp only[Tk.cells]at et;by_cases f0:q.fe=0;simp only[RQ.aT,f0]at et eo;simp[s15,eo,et,RQ.aT,f0,cut,aY,AV.ai,AV.ax,ag];simp[s15,eo,f0]
theorem fB(s:List UInt8)(jn:s≠[]):(bh S).call 0 af 18 [.ptr 0 0 0 0,.str s] [q.aT l]=some (.fm [],[(dH T q s).aT l]):=by
 have ei:=λaf=>j7 hT af q s jn;have ef:=λaf e=>eW hT af q e;have hlen:=hT.len;refine ay (sf:=s18) rfl rfl rfl ?_;unfold dH;cases hi:iD T q s with
 |false=>simp[s18,ei,hi,ef]|true=>
  have IM:=(bR hi).2;have hw:=wk q.at_ (by omega);simp only[RQ.aT,hi]at ei;simp[s18,ei,RQ.aT,cg,cut,aY,AV.ai,AV.ax,ag,hw,AV.view]
theorem rN(s:List UInt8)(jn:s≠[]):(bh S).call 0 af 73 [.ptr 0 0 0 0,.str s] [q.aT l]=some (.fm [],[(jJ T q s).aT l]):=by
 have ei:=λaf=>j7 hT af q s jn;have ef:=λaf e=>eW hT af q e;have et:=λaf=>fB hT af q s jn;refine ay (sf:=s73) rfl rfl rfl ?_;unfold jJ;cases hi:iD T q s with
 |false=>
  generalize dH T q s=r at *;simp only[RQ.aT,hi]at ei et;simp[s73,ei,et,RQ.aT,wo,cut,aY,AV.ai,AV.ax,ag,AV.view]
 |true=>
  by_cases h50:50<=q.op;simp only[RQ.aT,hi]at ei ef;simp[s73,ei,ef,RQ.aT,cut,h50,AV.view];generalize dH T q s=r at *;simp only[RQ.aT,hi]at ei et;simp[s73,ei,et,RQ.aT,wo,cut,h50,aY,AV.ai,AV.ax,ag,AV.view]
theorem qQ(s:List UInt8)(jn:s≠[]):(bh S).call 0 af 75 [.ptr 0 0 0 0,.str s] [q.aT l]=some (.fm [],[(mm T q s).aT l]):=by
 have et:=λaf=>fB hT af q s jn;have hw:∀n:Int,IntKind.i64.wrap (n-1)=IntKind.i64.wrap (n + -1):=λn=>by rw[Int.sub_eq_add_neg]
 refine ay (sf:=s75) rfl rfl rfl ?_;unfold mm;generalize dH T q s=r at *;simp only[RQ.aT]at et;simp[s75,et,RQ.aT,wo,cut,aY,AV.ai,AV.ax,ag,AV.view,hw]
theorem nT:(bh S).call 0 af 38 [.ptr 0 0 0 0] [q.aT l]=some (.str (eu T q).1,[(eu T q).2.aT l]):=by
 have et:=λaf=>nq hT af q;have eo:=λaf=>gz (l:=l) af q;have ef:=λaf e=>eW hT af q e;have hlen:=hT.len;refine ay (sf:=s38) rfl rfl rfl ?_;unfold eu;have ef:=λaf=>ef af 2;generalize jr T q 2=r at *;generalize hx:fP T q=x at *;simp only[Tk.cells]at et;by_cases f0:q.fe=0;by_cases f1:x.k=1;simp only[RQ.aT,f0]at et eo;have IM:q.at_<T.length:=uF (by rw[hx,f1];decide);have hw:=wk q.at_ (by omega);simp[s38,et,eo,f0,f1,RQ.aT,cg,cut,aY,AV.ai,AV.ax,ag,hw,AV.view];simp[s38,et,eo,f0,f1,ef];simp[s38,et,eo,f0,ef]
end
end N7
namespace N7
open Ax Go bu V7 jG
theorem Z3{T:List Tk}{k d:Nat}{q:RQ}(h:iD T q [91]=false):JD T k d q=(d,q):=by
 cases k with
 |zero=>rfl|succ k=>unfold JD;rw[h];rfl
section
variable {l:AV}{T:List Tk}(hT:TL l T)(af:Nat)(q:RQ)
include hT
theorem JS:(bh S).call 0 af 39 [.ptr 0 0 0 0] [q.aT l]=some (.agg [.str (yq T q).1.1,.int .i64 (yq T q).1.2],[(yq T q).2.aT l]):=by
 have hlen:=hT.len;refine ay (sf:=s39) rfl rfl rfl ?_;generalize hF:yq T q=F;simp[s39];refine bf Rq.eq_1 (λx:RQ×Nat=>⟨[(0,.val (.ptr 0 0 0 0)),(2,.fp 0 0),(3,.val (.int .i64 x.2))],[[.str [],.int .i64 0],[]],[RQ.aT l x.1]⟩)
  (λx=>∃k,k+x.2=3/\JD T k x.2 x.1=JD T 3 0 q) (λx=>3-x.2) (q,0) ?_ ⟨3,rfl,rfl⟩ ?_
 rfl
 rintro⟨r,d⟩ ⟨k,hk,hL⟩ ih;simp only at hk hL ih;have ei:=λaf=>j7 hT af r [91] (by simp);unfold yq at hF;cases hi:iD T r [91] with
 |true=>
  obtain⟨i1,i2⟩:=bR hi;by_cases h3:d=3;have ef:=λaf e=>eW hT af r e;have XM:k=0:=by omega
  subst h3 XM;have hL':JD T 3 0 q=(3,r):=hL.symm;rw[hL',if_pos hi]at hF;subst hF;simp[ei,hi,ef];have Kq:¬(d:Int)=3:=by omega
  have hw:=wk r.at_ (by omega);have BJ:=wk d (by omega);simp only[RQ.aT,hi]at ei;simp[ei,Kq,RQ.aT,cut,aY,AV.ai,AV.ax,ag,hw,BJ,AV.view];refine ih (cg r,d+1) ⟨k-1,by simp only;omega,?_⟩ (by simp only;omega);rw[<-hL];obtain⟨k',rfl⟩:∃k',k=k'+1:=⟨k-1,by omega⟩;conv=>rhs;unfold JD
  rw[if_pos hi]
  rfl
 |false=>
  rw[Z3 hi]at hL;rw[<-hL,if_neg (by rw[hi];simp)]at hF;dsimp only at hF;have en:=λaf=>nT hT af r;have ea:=λaf=>j7 hT af r [105,110,116] (by simp);have eb:=λaf=>j7 hT af r [98,111,111,108] (by simp);have et:=λaf=>nq hT af r;unfold ofN at hF;cases ha:iD T r [105,110,116] with
  |true=>
   obtain⟨i1,i2⟩:=bR ha;have hw:=wk r.at_ (by omega);simp only[RQ.aT,hi,ha]at ei ea et;rw[ha]at hF;simp only[Bool.true_or,if_true]at hF;generalize hc:fP T r=c at *;simp only[Tk.cells]at et;simp[ei,ea,et,RQ.aT,cut,aY,AV.ai,AV.ax,ag,hw,AV.view];refine bf Hw.eq_1 (λx:Nat=>⟨[(0,.val (.ptr 0 0 0 0)),(2,.fp 0 0),(3,.val (.int .i64 d)),(4,.fp 1 0),(5,.val (.int .i64 x))],[[.str [],.int .i64 0],[.str c.t,.int .i64 d]],[RQ.aT l (uC T (cg r) [93] x)]⟩)
    (λx=>x<=d) (λx=>d-x) 0 ?_ (by simp) ?_
   rfl
   intro x hx ihx;by_cases hxd:x<d;have hwx:=wk x (by omega);have ek:=λaf=>fB hT af (uC T (cg r) [93] x) [93] (by simp);have aeE:(x:Int)<(d:Int):=(by omega);simp[hxd,ek,hwx];exact ihx (x+1) (by omega) (by omega);have:x=d:=by omega
   subst this;subst hF;simp
   rfl
  |false=>
   cases hb:iD T r [98,111,111,108] with
   |true=>
    obtain⟨i1,i2⟩:=bR hb;have hw:=wk r.at_ (by omega);simp only[RQ.aT,hi,ha,hb]at ei ea eb et;rw[ha,hb]at hF;simp only[Bool.false_or,if_true]at hF;generalize hc:fP T r=c at *;simp only[Tk.cells]at et;simp[ei,ea,eb,et,RQ.aT,cut,aY,AV.ai,AV.ax,ag,hw,AV.view];refine bf Hw.eq_1 (λx:Nat=>⟨[(0,.val (.ptr 0 0 0 0)),(2,.fp 0 0),(3,.val (.int .i64 d)),(4,.fp 1 0),(5,.val (.int .i64 x))],[[.str [],.int .i64 0],[.str c.t,.int .i64 d]],[RQ.aT l (uC T (cg r) [93] x)]⟩)
     (λx=>x<=d) (λx=>d-x) 0 ?_ (by simp) ?_
    rfl
    intro x hx ihx;by_cases hxd:x<d;have hwx:=wk x (by omega);have ek:=λaf=>fB hT af (uC T (cg r) [93] x) [93] (by simp);have aeE:(x:Int)<(d:Int):=(by omega);simp[hxd,ek,hwx];exact ihx (x+1) (by omega) (by omega);have:x=d:=by omega
    subst this;subst hF;simp
    rfl
   |false=>
    rw[ha,hb]at hF;simp only[Bool.or_self,Bool.false_eq_true,if_false]at hF;generalize eu T r=z at *;simp[ei,ea,eb,hi,ha,hb,en,ag];refine bf Hw.eq_1 (λx:Nat=>⟨[(0,.val (.ptr 0 0 0 0)),(2,.fp 0 0),(3,.val (.int .i64 d)),(4,.fp 1 0),(5,.val (.int .i64 x))],[[.str [],.int .i64 0],[.str z.1,.int .i64 d]],[RQ.aT l (uC T z.2 [93] x)]⟩)
     (λx=>x<=d) (λx=>d-x) 0 ?_ (by simp) ?_
    rfl
    intro x hx ihx;by_cases hxd:x<d;have hwx:=wk x (by omega);have ek:=λaf=>fB hT af (uC T z.2 [93] x) [93] (by simp);have aeE:(x:Int)<(d:Int):=(by omega);simp[hxd,ek,hwx];exact ihx (x+1) (by omega) (by omega);have:x=d:=by omega
    subst this;subst hF;simp
theorem Ek:(bh S).call 0 af 17 [.ptr 0 0 0 0] [q.aT l]=some (.agg (eA T q).1.cells,[(eA T q).2.aT l]):=by
 have et:=λaf=>nq hT af q;have en:=λaf=>nT hT af q;have e2:=λaf=>fB hT af (eu T q).2 [58] (by simp);have e3:=λaf=>JS hT af (dH T (eu T q).2 [58]);refine ay (sf:=s17) rfl rfl rfl ?_;unfold eA;generalize yq T (dH T (eu T q).2 [58])=z3 at *;generalize dH T (eu T q).2 [58]=q2 at *;generalize eu T q=z at *;generalize fP T q=c at *;simp only[Tk.cells]at et;simp[-ah,-aa,s17,et,en,e2,e3,ag,AV.view,AV.ax,AV.ai,PD.cells]
end
theorem JT(wl af:Nat)(n:Nat)(hn:n<5)(c:Tk)(st:aj):(bh S).call wl af 116 [.int .i64 n,.agg c.cells] st=some (.int .i64 (uD n c),st):=by
 refine bL (sf:=Jr) rfl rfl (by simp[Tk.cells,AV.ax,AV.ai]) rfl (by simp) ?_;unfold uD;by_cases hk:c.k=4;rw[if_pos hk];have w1:IntKind.i64.wrap 1=1:=rfl;have w2:IntKind.i64.wrap 2=2:=rfl;have w3:IntKind.i64.wrap 3=3:=rfl;have w4:IntKind.i64.wrap 4=4:=rfl;have aeF:n=0\/n=1\/n=2\/n=3\/n=4:=by omega
 have w1:IntKind.i64.wrap 1=1:=rfl;have w2:IntKind.i64.wrap 2=2:=rfl;have w3:IntKind.i64.wrap 3=3:=rfl;have w4:IntKind.i64.wrap 4=4:=rfl;rcases aeF with h|h|h|h|h;subst h;simp[Jr,Tk.cells,hk];refine bf xx.eq_1 (λk:Nat=>⟨[(0,.val (.int .i64 0)),(3,.fp 0 0),(5,.val (.dL 1 [[.dL 1 [[.str [124,124]]]],[.dL 1 [[.str [38,38]]]],[.dL 1 [[.str [60]],[.str [60,61]],[.str [61,61]],[.str [33,61]]]],[.dL 1 [[.str [43]],[.str [45]]]],[.dL 1 [[.str [42]],[.str [47]],[.str [37]]]]])),(6,.val (.dL 1 [[.dL 1 [[.int .i64 24]]],[.dL 1 [[.int .i64 23]]],[.dL 1 [[.int .i64 19],[.int .i64 20],[.int .i64 21],[.int .i64 22]]],[.dL 1 [[.int .i64 14],[.int .i64 15]]],[.dL 1 [[.int .i64 16],[.int .i64 17],[.int .i64 18]]]])),(7,.val (.int .i64 k))],[[.int .i64 4,.str c.t,.int .i64 c.n,.int .i64 c.a]],[]⟩)
  (λk=>k<=1/\gy (eL 0) c.t=gy ((eL 0).drop k) c.t) (λk=>1-k) 0 (by simp) (by simp) ?_
 intro k ⟨Ks,hf⟩ ih;have hc:k=0\/k=1:=by omega
 rcases hc with h|h;subst h;by_cases e:[124,124]=c.t;rw[hf];simp[e,au,an,AV.view,eL,gy];simp[e,w1,au,an,AV.view];exact ih 1 ⟨by omega,by rw[hf];simp[eL,gy,e]⟩ (by omega);subst h;rw[hf];simp[AV.view,eL,gy];subst h;simp[Jr,Tk.cells,hk];refine bf xx.eq_1 (λk:Nat=>⟨[(0,.val (.int .i64 1)),(3,.fp 0 0),(5,.val (.dL 1 [[.dL 1 [[.str [124,124]]]],[.dL 1 [[.str [38,38]]]],[.dL 1 [[.str [60]],[.str [60,61]],[.str [61,61]],[.str [33,61]]]],[.dL 1 [[.str [43]],[.str [45]]]],[.dL 1 [[.str [42]],[.str [47]],[.str [37]]]]])),(6,.val (.dL 1 [[.dL 1 [[.int .i64 24]]],[.dL 1 [[.int .i64 23]]],[.dL 1 [[.int .i64 19],[.int .i64 20],[.int .i64 21],[.int .i64 22]]],[.dL 1 [[.int .i64 14],[.int .i64 15]]],[.dL 1 [[.int .i64 16],[.int .i64 17],[.int .i64 18]]]])),(7,.val (.int .i64 k))],[[.int .i64 4,.str c.t,.int .i64 c.n,.int .i64 c.a]],[]⟩)
  (λk=>k<=1/\gy (eL 1) c.t=gy ((eL 1).drop k) c.t) (λk=>1-k) 0 (by simp) (by simp) ?_
 intro k ⟨Ks,hf⟩ ih;have hc:k=0\/k=1:=by omega
 rcases hc with h|h;subst h;by_cases e:[38,38]=c.t;rw[hf];simp[e,au,an,AV.view,eL,gy];simp[e,w1,au,an,AV.view];exact ih 1 ⟨by omega,by rw[hf];simp[eL,gy,e]⟩ (by omega);subst h;rw[hf];simp[AV.view,eL,gy];subst h;simp[Jr,Tk.cells,hk];refine bf xx.eq_1 (λk:Nat=>⟨[(0,.val (.int .i64 2)),(3,.fp 0 0),(5,.val (.dL 1 [[.dL 1 [[.str [124,124]]]],[.dL 1 [[.str [38,38]]]],[.dL 1 [[.str [60]],[.str [60,61]],[.str [61,61]],[.str [33,61]]]],[.dL 1 [[.str [43]],[.str [45]]]],[.dL 1 [[.str [42]],[.str [47]],[.str [37]]]]])),(6,.val (.dL 1 [[.dL 1 [[.int .i64 24]]],[.dL 1 [[.int .i64 23]]],[.dL 1 [[.int .i64 19],[.int .i64 20],[.int .i64 21],[.int .i64 22]]],[.dL 1 [[.int .i64 14],[.int .i64 15]]],[.dL 1 [[.int .i64 16],[.int .i64 17],[.int .i64 18]]]])),(7,.val (.int .i64 k))],[[.int .i64 4,.str c.t,.int .i64 c.n,.int .i64 c.a]],[]⟩)
  (λk=>k<=4/\gy (eL 2) c.t=gy ((eL 2).drop k) c.t) (λk=>4-k) 0 (by simp) (by simp) ?_
 intro k ⟨Ks,hf⟩ ih;have hc:k=0\/k=1\/k=2\/k=3\/k=4:=by omega
 rcases hc with h|h|h|h|h;subst h;by_cases e:[60]=c.t;rw[hf];simp[e,au,an,AV.view,eL,gy];simp[e,w1,au,an,AV.view];exact ih 1 ⟨by omega,by rw[hf];simp[eL,gy,e]⟩ (by omega);subst h;by_cases e:[60,61]=c.t;rw[hf];simp[e,au,an,AV.view,eL,gy];simp[e,w2,au,an,AV.view];exact ih 2 ⟨by omega,by rw[hf];simp[eL,gy,e]⟩ (by omega);subst h;by_cases e:[61,61]=c.t;rw[hf];simp[e,au,an,AV.view,eL,gy];simp[e,w3,au,an,AV.view];exact ih 3 ⟨by omega,by rw[hf];simp[eL,gy,e]⟩ (by omega);subst h;by_cases e:[33,61]=c.t;rw[hf];simp[e,au,an,AV.view,eL,gy];simp[e,w4,au,an,AV.view];exact ih 4 ⟨by omega,by rw[hf];simp[eL,gy,e]⟩ (by omega);subst h;rw[hf];simp[AV.view,eL,gy];subst h;simp[Jr,Tk.cells,hk];refine bf xx.eq_1 (λk:Nat=>⟨[(0,.val (.int .i64 3)),(3,.fp 0 0),(5,.val (.dL 1 [[.dL 1 [[.str [124,124]]]],[.dL 1 [[.str [38,38]]]],[.dL 1 [[.str [60]],[.str [60,61]],[.str [61,61]],[.str [33,61]]]],[.dL 1 [[.str [43]],[.str [45]]]],[.dL 1 [[.str [42]],[.str [47]],[.str [37]]]]])),(6,.val (.dL 1 [[.dL 1 [[.int .i64 24]]],[.dL 1 [[.int .i64 23]]],[.dL 1 [[.int .i64 19],[.int .i64 20],[.int .i64 21],[.int .i64 22]]],[.dL 1 [[.int .i64 14],[.int .i64 15]]],[.dL 1 [[.int .i64 16],[.int .i64 17],[.int .i64 18]]]])),(7,.val (.int .i64 k))],[[.int .i64 4,.str c.t,.int .i64 c.n,.int .i64 c.a]],[]⟩)
  (λk=>k<=2/\gy (eL 3) c.t=gy ((eL 3).drop k) c.t) (λk=>2-k) 0 (by simp) (by simp) ?_
 intro k ⟨Ks,hf⟩ ih;have hc:k=0\/k=1\/k=2:=by omega
 rcases hc with h|h|h;subst h;by_cases e:[43]=c.t;rw[hf];simp[e,au,an,AV.view,eL,gy];simp[e,w1,au,an,AV.view];exact ih 1 ⟨by omega,by rw[hf];simp[eL,gy,e]⟩ (by omega);subst h;by_cases e:[45]=c.t;rw[hf];simp[e,au,an,AV.view,eL,gy];simp[e,w2,au,an,AV.view];exact ih 2 ⟨by omega,by rw[hf];simp[eL,gy,e]⟩ (by omega);subst h;rw[hf];simp[AV.view,eL,gy];subst h;simp[Jr,Tk.cells,hk];refine bf xx.eq_1 (λk:Nat=>⟨[(0,.val (.int .i64 4)),(3,.fp 0 0),(5,.val (.dL 1 [[.dL 1 [[.str [124,124]]]],[.dL 1 [[.str [38,38]]]],[.dL 1 [[.str [60]],[.str [60,61]],[.str [61,61]],[.str [33,61]]]],[.dL 1 [[.str [43]],[.str [45]]]],[.dL 1 [[.str [42]],[.str [47]],[.str [37]]]]])),(6,.val (.dL 1 [[.dL 1 [[.int .i64 24]]],[.dL 1 [[.int .i64 23]]],[.dL 1 [[.int .i64 19],[.int .i64 20],[.int .i64 21],[.int .i64 22]]],[.dL 1 [[.int .i64 14],[.int .i64 15]]],[.dL 1 [[.int .i64 16],[.int .i64 17],[.int .i64 18]]]])),(7,.val (.int .i64 k))],[[.int .i64 4,.str c.t,.int .i64 c.n,.int .i64 c.a]],[]⟩)
  (λk=>k<=3/\gy (eL 4) c.t=gy ((eL 4).drop k) c.t) (λk=>3-k) 0 (by simp) (by simp) ?_
 intro k ⟨Ks,hf⟩ ih;have hc:k=0\/k=1\/k=2\/k=3:=by omega
 rcases hc with h|h|h|h;subst h;by_cases e:[42]=c.t;rw[hf];simp[e,au,an,AV.view,eL,gy];simp[e,w1,au,an,AV.view];exact ih 1 ⟨by omega,by rw[hf];simp[eL,gy,e]⟩ (by omega);subst h;by_cases e:[47]=c.t;rw[hf];simp[e,au,an,AV.view,eL,gy];simp[e,w2,au,an,AV.view];exact ih 2 ⟨by omega,by rw[hf];simp[eL,gy,e]⟩ (by omega);subst h;by_cases e:[37]=c.t;rw[hf];simp[e,au,an,AV.view,eL,gy];simp[e,w3,au,an,AV.view];exact ih 3 ⟨by omega,by rw[hf];simp[eL,gy,e]⟩ (by omega);subst h;rw[hf];simp[AV.view,eL,gy];simp[Jr,Tk.cells,hk]
end N7
namespace N7
open Ax Go bu V7 jG
theorem rO{wl af:Nat}{l:AV}{q:RQ}{bx:bF}:aV wl af (.load false 1 false) [.val (.ptr 0 0 0 1)] [RQ.aT l q] bx=some (.val (.int .i64 q.at_),[RQ.aT l q],bx):=by
 simp[RQ.aT,cut,AV.view]
theorem aeG{wl af:Nat}{l:AV}{q:RQ}{bx:bF}:aV wl af (.load false 1 false) [.val (.ptr 0 0 0 2)] [RQ.aT l q] bx=some (.val (.int .i64 q.op),[RQ.aT l q],bx):=by
 simp[RQ.aT,cut,AV.view]
theorem lZ{af:Nat}{l:AV}{q:RQ}{bx:bF}:aV 0 af (.store 1) [.val (.ptr 0 0 0 1),.val (.int .i64 ((q.at_:Int)+1))] [RQ.aT l q] bx=some (.none,[RQ.aT l (cg q)],bx):=by
 simp[RQ.aT,cg,aY,AV.ai,AV.ax,ag]
theorem Nk{af:Nat}{l:AV}{q:RQ}{n:Int}{bx:bF}:aV 0 af (.store 1) [.val (.ptr 0 0 0 2),.val (.int .i64 n)] [RQ.aT l q] bx=some (.none,[RQ.aT l ⟨q.at_,n,q.fe,q.fa⟩],bx):=by
 simp[RQ.aT,aY,AV.ai,AV.ax,ag]
theorem aeH(n:Int):IntKind.i64.wrap (n-1)=IntKind.i64.wrap (n + -1):=by rw[Int.sub_eq_add_neg]
def sY(e:E)(kv:AV):List AV:=[.int .i64 e.k,.int .i64 e.n,.str e.nm,.str e.on,.int .i64 e.od,kv,.int .i64 e.a,.int .i64 e.ty.b,.int .i64 e.ty.r,.int .i64 e.ty.d,.int .i64 e.cG]
theorem xG(e:E):sY e (aI e.aC)=e.row:=(E.az e).symm
def XN(l:AV)(T:List Tk)(f:Nat):Prop:=∀n q e r,n<=5->js T f n q=some (e,r)->∀af,(bh S).call 0 af 96 [.ptr 0 0 0 0,.int .i64 (n:Nat)] [q.aT l]=some (.agg e.row,[r.aT l])
def OkU(l:AV)(T:List Tk)(f:Nat):Prop:=∀q e r,p6 T f q=some (e,r)->∀af,(bh S).call 0 af 115 [.ptr 0 0 0 0] [q.aT l]=some (.agg e.row,[r.aT l])
def AJ(l:AV)(T:List Tk)(f:Nat):Prop:=∀a q e r,kD T f a q=some (e,r)->∀kv,aD kv=true->kv.view=aI a.aC->∀af,(bh S).call 0 af 133 [.ptr 0 0 0 0,.agg (sY a kv)] [q.aT l]=some (.agg e.row,[r.aT l])
def xW(l:AV)(T:List Tk)(f:Nat):Prop:=∀q e r,nV T f q=some (e,r)->∀af,(bh S).call 0 af 146 [.ptr 0 0 0 0] [q.aT l]=some (.agg e.row,[r.aT l])
def OkF(l:AV)(T:List Tk)(f:Nat):Prop:=∀q e r,p8 T f q=some (e,r)->∃kv,aD kv=true/\kv.view=aI e.aC/\∀af,(bh S).call 0 af 134 [.ptr 0 0 0 0] [q.aT l]=some (.agg (sY e kv),[r.aT l])
def OkN(l:AV)(T:List Tk)(f:Nat):Prop:=∀a q e r,p9 T f a q=some (e,r)->∀af,(bh S).call 0 af 145 [.ptr 0 0 0 0,.int .i64 a] [q.aT l]=some (.agg e.row,[r.aT l])
def OkA(l:AV)(T:List Tk)(f:Nat):Prop:=∀q e r,uV T f q=some (e,r)->∀af,(bh S).call 0 af 147 [.ptr 0 0 0 0] [q.aT l]=some (bD 11 (E.rows e),[r.aT l])
section
variable {l:AV}{T:List Tk}(hT:TL l T)
include hT
theorem SG(f:Nat)(hE:XN l T f):xW l T (f+1):=by
 intro q e r h af;unfold nV at h;obtain⟨⟨x1,x2⟩,h1,h2⟩:=Option.bind_eq_some_iff.1 h;cases h2;have eo:=λaf=>rN hT af q [40] (by simp);have e1:=hE 0 _ _ _ (by omega) h1;have ec:=λaf=>qQ hT af x2 [41] (by simp);generalize jJ T q [40]=q1 at *;generalize mm T x2 [41]=r1 at *;obtain⟨k2,n2,Pw,Px,Py,uX,a2,BY,Cn⟩:=x1;simp only[E.row,Int.natCast_zero]at e1;refine ay (sf:=ZF) rfl rfl rfl ?_;simp[ZF,eo,e1,ec,E.row,ag,AV.ax,AV.ai,AV.view]
theorem SH(f:Nat)(hI:xW l T f):OkN l T (f+1):=by
 intro at_ q e r h af;have hlen:=hT.len;unfold p9 at h;have ei:=λaf=>j7 hT af q [91] (by simp);refine ay (sf:=Vw) rfl rfl rfl ?_;cases hi:iD T q [91] with
 |false=>
  rw[hi]at h;simp only[Bool.false_eq_true,if_false,Option.some.injEq,Prod.mk.injEq]at h;obtain⟨rfl,rfl⟩:=h;have en:=λaf=>nT hT af q;generalize eu T q=z at *;simp[Vw,ei,hi,en,Em,E.row,E.rows,ag,AV.ax,AV.ai]
 |true=>
  rw[hi]at h;simp only[if_true]at h;obtain⟨⟨x1,x2⟩,h1,h2⟩:=Option.bind_eq_some_iff.1 h;cases h2;obtain⟨i1,i2⟩:=bR hi;have hw:=wk q.at_ (by omega);have e1:=λaf=>JS hT af (cg q);have et:=λaf=>fB hT af (yq T (cg q)).2 [93] (by simp);have e3:=hI _ _ _ h1;generalize dH T (yq T (cg q)).2 [93]=r2 at *;generalize yq T (cg q)=o at *;obtain⟨k2,n2,Pw,Px,Py,uX,a2,BY,Cn⟩:=x1;simp only[E.row]at e3;simp[-ah,-aa,Vw,ei,hi,rO,lZ,hw,e1,et,e3,Em,E.row,E.rows,au,an,ag,AV.ax,AV.ai,AV.view]
theorem VU(f:Nat)(hE:∀g,g<=f->XN l T g):OkA l T (f+1):=by
 intro q e r h af;have hlen:=hT.len;unfold uV at h;have eo:=λaf=>rN hT af q [40] (by simp);refine ay (sf:=Vx) rfl rfl rfl ?_;generalize jJ T q [40]=q1 at *;have ei:=λaf=>j7 hT af q1 [41] (by simp);cases hi:iD T q1 [41] with
 |true=>
  rw[hi]at h;simp only[if_true,Option.some.injEq,Prod.mk.injEq]at h;obtain⟨rfl,rfl⟩:=h;have ec:=λaf=>qQ hT af q1 [41] (by simp);generalize mm T q1 [41]=r1 at *;simp[Vx,eo,ei,hi,ec,E.rows,jB]
 |false=>
  rw[hi]at h;simp only[Bool.false_eq_true,if_false]at h;obtain⟨⟨x1,x2⟩,h1,h2⟩:=Option.bind_eq_some_iff.1 h;have e1:=hE f (Nat.le_refl _) 0 _ _ _ (by omega) h1;have g1:=iX h1;have hx:nH 11 120 .U [x1.row]=some (bD 11 (E.rows [x1])):=by
   have:=dV (sz:=11) (bytes:=120) (r:=[]) (new:=[x1.row]) (by simp[bN,E.az]) (by simp[cR]);simpa [jB,E.rows] using this
  obtain⟨F,hF⟩:∃F,(bD 11 (E.rows e),[RQ.aT l r])=F:=⟨_,rfl⟩;obtain⟨k2,n2,Pw,Px,Py,uX,a2,BY,Cn⟩:=x1;simp only[E.row,Int.natCast_zero]at e1 hx;simp[Vx,eo,ei,hi,e1,hx,AV.view];refine bf MY.eq_1 (λx:RQ×List E×Nat=>⟨[(0,.val (.ptr 0 0 0 0)),(3,.val (bD 11 (E.rows x.2.1)))],[],[RQ.aT l x.1]⟩)
   (λx=>x.2.2<=f/\x.2.1.length<=x.1.at_+1/\tF T x.2.2 x.2.1 x.1=some (e,r)) (λx=>x.2.2) (x2,[E.mk k2 n2 Pw Px Py uX a2 BY Cn],f) rfl ⟨Nat.le_refl _,by simp,h2⟩ ?_
  rintro⟨s,es,g⟩ ⟨hg,BZ,hp⟩ ih;simp only at hg BZ hp ih;have ej:=λaf=>j7 hT af s [44] (by simp);cases g with
  |zero=>simp[tF]at hp|succ g=>
   unfold tF at hp;cases hj:iD T s [44] with
   |true=>
    rw[hj]at hp;simp only[if_true]at hp;obtain⟨⟨y1,y2⟩,h3,h4⟩:=Option.bind_eq_some_iff.1 hp;obtain⟨i1,i2⟩:=bR hj;have nK:=wk s.at_ (by omega);have e2:=hE g (by omega) 0 _ _ _ (by omega) h3;have g2:=(iX h3).le;have Bc:=dV (sz:=11) (bytes:=120) (r:=E.rows es) (new:=[y1.row]) (by simp[bN,E.az]) (by simp[cR,gh];omega);have VW:E.rows es++[y1.row]=E.rows (es++[y1]):=(by simp[gh]);rw[VW]at Bc;have dx:=ih (y2,es++[y1],g) ⟨by simp only;omega,by simp[cg]at g2 ⊢;omega,h4⟩ (by simp only;omega);generalize E.rows (es++[y1])=R at *;obtain⟨k3,n3,nm3,on3,od3,akQ,a3,ty3,amF⟩:=y1;simp only[E.row,Int.natCast_zero]at e2 Bc;simp[-ah,-aa,ej,hj,rO,lZ,nK,e2,Bc,AV.view];exact dx
   |false=>
    rw[hj]at hp;simp only[Bool.false_eq_true,if_false,Option.some.injEq,Prod.mk.injEq]at hp;obtain⟨rfl,rfl⟩:=hp;have ec:=λaf=>qQ hT af s [41] (by simp);generalize mm T s [41]=r1 at *;simp[ej,hj,ec]
end
end N7
namespace N7
open Ax Go bu V7 jG
section
variable {l:AV}{T:List Tk}(hT:TL l T)
include hT
theorem SI(f:Nat)(hN:OkN l T f)(hI:xW l T f)(hA:OkA l T f):OkF l T (f+1):=by
 intro q e r h;have hlen:=hT.len;have et:=λaf=>nq hT af q;have eo:=λaf=>gz (l:=l) af q;have ei:=λaf s hs=>j7 hT af q s hs;have VR:=λs (h:iD T q s=true)=>Gi h;have IM:(fP T q).k≠0->q.at_<T.length:=uF;unfold p8 at h;generalize hc:fP T q=c at *;simp only[Tk.cells]at et;have hw:q.at_<T.length->IntKind.i64.wrap ((q.at_:Int)+1)=((q.at_+1:Nat):Int):=λh=>by rw[dZ]<;>omega
 have F8:∀s,iD T q s=true->IntKind.i64.wrap ((q.at_:Int)+1)=((q.at_+1:Nat):Int):=λs h=>hw (bR h).2;by_cases c0:q.fe=0/\c.k=2;rw[if_pos c0]at h;cases h;have hw:=hw (IM (by rw[c0.2];decide));refine⟨.U,rfl,by simp[Em,E.aC,qz,AV.view],λaf=>?_⟩;refine ay (sf:=rD) rfl rfl rfl ?_;simp[-ah,-aa,rD,et,eo,c0.1,c0.2,rO,lZ,hw,ag,AV.ax,AV.ai,sY,Em,E.k,E.n,E.nm,E.on,E.od,E.a,E.ty,E.cG];rw[if_neg c0]at h;by_cases xX:q.fe=0
 ·have Pr:¬c.k=2:=λh=>c0 ⟨xX,h⟩;cases h1:iD T q [116,114,117,101] with
  |true=>
   rw[h1]at h;simp only[Bool.true_or,if_true,Option.some.injEq,Prod.mk.injEq]at h;obtain⟨rfl,rfl⟩:=h;have hw:=F8 _ h1;have ht:=VR _ h1;refine⟨.U,rfl,by simp[Em,E.aC,qz,AV.view],λaf=>?_⟩;refine ay (sf:=rD) rfl rfl rfl ?_;simp[-ah,-aa,rD,et,eo,xX,Pr,ei,h1,rO,lZ,hw,ht,ag,AV.ax,AV.ai,sY,Em,E.k,E.n,E.nm,E.on,E.od,E.a,E.ty,E.cG]
  |false=>
  cases h2:iD T q [102,97,108,115,101] with
  |true=>
   rw[h1,h2]at h;simp only[Bool.false_or,if_true,Option.some.injEq,Prod.mk.injEq]at h;obtain⟨rfl,rfl⟩:=h;have hw:=F8 _ h2;have ht:=VR _ h2;refine⟨.U,rfl,by simp[Em,E.aC,qz,AV.view],λaf=>?_⟩;refine ay (sf:=rD) rfl rfl rfl ?_;simp[-ah,-aa,rD,et,eo,xX,Pr,ei,h1,h2,rO,lZ,hw,ht,ag,AV.ax,AV.ai,sY,Em,E.k,E.n,E.nm,E.on,E.od,E.a,E.ty,E.cG]
  |false=>
  rw[h1,h2]at h;simp only[Bool.or_self,Bool.false_eq_true,if_false]at h;cases h3:iD T q [110,117,108,108] with
  |true=>
   rw[h3]at h;simp only[if_true,Option.some.injEq,Prod.mk.injEq]at h;obtain⟨rfl,rfl⟩:=h;have hw:=F8 _ h3;have e1:=λaf=>JS hT af (cg q);generalize yq T (cg q)=o at *;refine⟨.U,rfl,by simp[Em,E.aC,qz,AV.view],λaf=>?_⟩;refine ay (sf:=rD) rfl rfl rfl ?_;simp[-ah,-aa,rD,et,eo,xX,Pr,ei,h1,h2,h3,rO,lZ,hw,e1,ag,AV.ax,AV.ai,au,an,sY,Em,E.k,E.n,E.nm,E.on,E.od,E.a,E.ty,E.cG]
  |false=>
  rw[h3]at h;simp only[Bool.false_eq_true,if_false]at h;cases h4:iD T q [110,101,119] with
  |true=>
   rw[h4]at h;simp only[if_true]at h;have hw:=F8 _ h4;have e1:=hN _ _ _ _ h;refine⟨aI e.aC,by simp,by simp,λaf=>?_⟩;rw[xG];obtain⟨k2,n2,Pw,Px,Py,uX,a2,BY,Cn⟩:=e;simp only[E.row]at e1 ⊢;refine ay (sf:=rD) rfl rfl rfl ?_;simp[-ah,-aa,rD,et,eo,xX,Pr,ei,h1,h2,h3,h4,rO,lZ,hw,e1,ag,AV.ax,AV.ai]
  |false=>
  rw[h4]at h;simp only[Bool.false_eq_true,if_false]at h;cases h5:iD T q [108,101,110] with
  |true=>
   rw[h5]at h;simp only[if_true]at h;have hw:=F8 _ h5;obtain⟨⟨x1,x2⟩,h8,h9⟩:=Option.bind_eq_some_iff.1 h;cases h9;have e1:=hI _ _ _ h8;refine⟨_,by simp,aN,λaf=>?_⟩;rw[xG];obtain⟨k2,n2,Pw,Px,Py,uX,a2,BY,Cn⟩:=x1;simp only[E.row]at e1;refine ay (sf:=rD) rfl rfl rfl ?_;simp[-ah,-aa,rD,et,eo,xX,Pr,ei,h1,h2,h3,h4,h5,rO,lZ,hw,e1,ag,AV.ax,AV.ai,AV.view,au,an,Em,E.row,E.rows]
  |false=>
  rw[h5]at h;simp only[Bool.false_eq_true,if_false]at h;cases h6:iD T q [114,101,97,100] with
  |true=>
   rw[h6]at h;simp only[if_true,Option.some.injEq,Prod.mk.injEq]at h;obtain⟨rfl,rfl⟩:=h;have hw:=F8 _ h6;have ep:=λaf=>rN hT af (cg q) [40] (by simp);have eq:=λaf=>qQ hT af (jJ T (cg q) [40]) [41] (by simp);refine⟨.U,rfl,by simp[Em,E.aC,qz,AV.view],λaf=>?_⟩;refine ay (sf:=rD) rfl rfl rfl ?_;simp[-ah,-aa,rD,et,eo,xX,Pr,ei,h1,h2,h3,h4,h5,h6,rO,lZ,hw,ep,eq,ag,AV.ax,AV.ai,sY,Em,E.k,E.n,E.nm,E.on,E.od,E.a,E.ty,E.cG]
  |false=>
  rw[h6]at h;simp only[Bool.false_eq_true,if_false]at h;cases h7:iD T q [40] with
  |true=>
   rw[h7]at h;simp only[if_true]at h;have e1:=hI _ _ _ h;refine⟨aI e.aC,by simp,by simp,λaf=>?_⟩;rw[xG];obtain⟨k2,n2,Pw,Px,Py,uX,a2,BY,Cn⟩:=e;simp only[E.row]at e1 ⊢;refine ay (sf:=rD) rfl rfl rfl ?_;simp[-ah,-aa,rD,et,eo,xX,Pr,ei,h1,h2,h3,h4,h5,h6,h7,e1,ag,AV.ax,AV.ai]
  |false=>
   rw[h7]at h;simp only[Bool.false_eq_true,if_false]at h;have en:=λaf=>nT hT af q;generalize eu T q=z at *;have ez:=λaf=>j7 hT af z.2 [40] (by simp);cases h8:iD T z.2 [40] with
   |false=>
    rw[h8]at h;simp only[Bool.false_eq_true,if_false,Option.some.injEq,Prod.mk.injEq]at h;obtain⟨rfl,rfl⟩:=h;refine⟨.U,rfl,by simp[Em,E.aC,qz,AV.view],λaf=>?_⟩;refine ay (sf:=rD) rfl rfl rfl ?_;simp[-ah,-aa,rD,et,eo,xX,Pr,ei,h1,h2,h3,h4,h5,h6,h7,en,ez,h8,ag,AV.ax,AV.ai,sY,Em,E.k,E.n,E.nm,E.on,E.od,E.a,E.ty,E.cG]
   |true=>
    rw[h8]at h;simp only[if_true]at h;obtain⟨⟨x1,x2⟩,h9,AN⟩:=Option.bind_eq_some_iff.1 h;cases AN;have e1:=hA _ _ _ h9;have hk:aD (bD 11 (E.rows x1))=true:=bY;have hv:(bD 11 (E.rows x1)).view=aI x1:=rfl;generalize bD 11 (E.rows x1)=kv at *;have hkc:=bU hk;have hkp:=ck hk;refine⟨kv,hk,hv,λaf=>?_⟩;refine ay (sf:=rD) rfl rfl rfl ?_;simp[-ah,-aa,rD,et,eo,xX,Pr,ei,h1,h2,h3,h4,h5,h6,h7,en,ez,h8,e1,hk,ag,AV.ax,AV.ai,au,an,sY,Em,E.k,E.n,E.nm,E.on,E.od,E.a,E.ty,E.cG]
 have jy:∀s,iD T q s=false:=λs=>VH xX;have en:=λaf=>nT hT af q;have hz:eu T q=([],q):=by simp[eu,xX,jr]
 rw[hz]at en;simp only[jy,hz,Bool.or_self,Bool.false_eq_true,if_false,Option.some.injEq,Prod.mk.injEq]at h;obtain⟨rfl,rfl⟩:=h;refine⟨.U,rfl,by simp[Em,E.aC,qz,AV.view],λaf=>?_⟩;refine ay (sf:=rD) rfl rfl rfl ?_;simp[-ah,-aa,rD,et,eo,xX,ei,jy,en,ag,AV.ax,AV.ai,sY,Em,E.k,E.n,E.nm,E.on,E.od,E.a,E.ty,E.cG]
theorem OQ(f:Nat)(hE:∀g,g<f->XN l T g):AJ l T f:=by
 intro a0 q e r h kv0 XM hv0 af;have hlen:=hT.len;have aiX:=bU XM;refine ay (sf:=ZB) rfl rfl rfl ?_;simp[ZB,sY,aiX];refine bf MX.eq_1 (λx:RQ×E×AV×Nat×List AV×List AV=>⟨[(0,.val (.ptr 0 0 0 0)),(3,.fp 0 0),(4,.fp 1 0)],
   [sY x.2.1 x.2.2.1,[.int .i64 0,.int .i64 0,.str [],.str [],.int .i64 0,.U,.int .i64 0,.int .i64 0,.int .i64 0,.int .i64 0,.int .i64 0],x.2.2.2.2.1,x.2.2.2.2.2],[RQ.aT l x.1]⟩)
  (λx=>x.2.2.2.1<=f/\aD x.2.2.1=true/\x.2.2.1.view=aI x.2.1.aC/\kD T x.2.2.2.1 x.2.1 x.1=some (e,r)) (λx=>x.2.2.2.1) (q,a0,kv0,f,[],[]) rfl ⟨Nat.le_refl _,XM,hv0,h⟩ ?_
 rintro⟨s,a,kv,g,b2,b3⟩ ⟨hg,hk,hv,hp⟩ ih;simp only at hg hk hv hp ih;have hkc:=bU hk;have hkp:=ck hk;have ed:=λaf=>j7 hT af s [46] (by simp);have eb:=λaf=>j7 hT af s [91] (by simp);have et:=λaf=>nq hT af s;have cZ:E.rows [a]=[sY a (aI a.aC)]:=by rw[xG];simp[E.rows]
 cases g with
 |zero=>simp[kD]at hp|succ g=>
  unfold kD at hp;cases h1:iD T s [46] with
  |true=>
   rw[h1]at hp;simp only[if_true]at hp;obtain⟨i1,i2⟩:=bR h1;have hw:=wk s.at_ (by omega);have en:=λaf=>nT hT af (cg s);generalize eu T (cg s)=z at *;generalize fP T s=c at *;simp only[Tk.cells]at et;have dx:=λb2 b3=>ih (z.2,Em 5 0 z.1 [] 0 [a] c.a,aI [a],g,b2,b3) ⟨by simp only;omega,by simp,by simp[Em,E.aC],hp⟩ (by simp only;omega);simp[-ah,-aa,ed,h1,et,rO,lZ,hw,en,hv,ag,AV.view,au,an,sY];have:=dx [.int .i64 c.k,.str c.t,.int .i64 c.n,.int .i64 c.a] b3;simp[sY,Em,E.k,E.n,E.nm,E.on,E.od,E.a,E.ty,E.cG,aI,cZ]at this;exact this
  |false=>
   rw[h1]at hp;simp only[Bool.false_eq_true,if_false]at hp;cases h2:iD T s [91] with
   |true=>
    rw[h2]at hp;simp only[if_true]at hp;obtain⟨⟨x1,x2⟩,h3,h4⟩:=Option.bind_eq_some_iff.1 hp;have eo:=λaf=>rN hT af s [91] (by simp);have e1:=hE g (by omega) 0 _ _ _ (by omega) h3;have ec:=λaf=>qQ hT af x2 [93] (by simp);generalize jJ T s [91]=q1 at *;simp only at h4;generalize mm T x2 [93]=q3 at *;generalize fP T s=c at *;simp only[Tk.cells]at et;have JU:E.rows [a,x1]=[sY a (aI a.aC),x1.row]:=(by rw[xG];simp[E.rows]);have dx:=λb2 b3=>ih (q3,Em 6 0 [] [] 0 [a,x1] c.a,aI [a,x1],g,b2,b3) ⟨by simp only;omega,by simp,by simp[Em,E.aC],h4⟩ (by simp only;omega);obtain⟨k2,n2,Pw,Px,Py,uX,a2,BY,Cn⟩:=x1;simp only[E.row,Int.natCast_zero]at e1 JU;simp[-ah,-aa,ed,eb,h1,h2,et,eo,e1,ec,hv,ag,AV.view,sY];have:=dx [.int .i64 c.k,.str c.t,.int .i64 c.n,.int .i64 c.a] [.int .i64 k2,.int .i64 n2,.str Pw,.str Px,.int .i64 Py,aA 11 (E.rows uX),.int .i64 a2,.int .i64 BY.b,.int .i64 BY.r,.int .i64 BY.d,.int .i64 Cn];simp[sY,Em,E.k,E.n,E.nm,E.on,E.od,E.a,E.ty,E.cG,aI,JU]at this;exact this
   |false=>
    rw[h2]at hp;simp only[Bool.false_eq_true,if_false,Option.some.injEq,Prod.mk.injEq]at hp;obtain⟨rfl,rfl⟩:=hp;rw[<-xG];simp[-ah,-aa,ed,eb,h1,h2,hv,ag,AV.ax,AV.ai,sY]
theorem SJ(f:Nat)(hE:XN l T f)(hF:OkF l T f)(hB:AJ l T f):OkU l T (f+1):=by
 intro q e r h af;have hlen:=hT.len;have et:=λaf=>nq hT af q;have em:=λaf=>j7 hT af q [45] (by simp);have en:=λaf=>j7 hT af q [33] (by simp);unfold p6 at h;refine ay (sf:=R5) rfl rfl rfl ?_;cases h1:iD T q [45] with
 |true=>
  rw[h1]at h;simp only[Bool.true_or,if_true]at h;obtain⟨⟨x1,x2⟩,h3,h4⟩:=Option.bind_eq_some_iff.1 h;cases h4;have hc:=Gi h1;rw[hc]at h3;have eo:=λaf=>rN hT af q [45] (by simp);have e1:=hE 5 _ _ _ (by omega) h3;generalize jJ T q [45]=q1 at *;generalize fP T q=c at *;obtain⟨k2,n2,Pw,Px,Py,uX,a2,BY,Cn⟩:=x1;simp only[Tk.cells]at et;simp only[E.row,Int.cast_ofNat_Int]at e1;simp[-ah,-aa,R5,et,em,h1,hc,eo,e1,aeG,Nk,wo,aeH,ag,AV.view,AV.ax,AV.ai,Em,E.row,E.rows]
 |false=>
  cases h2:iD T q [33] with
  |true=>
   rw[h1,h2]at h;simp only[Bool.false_or,if_true]at h;obtain⟨⟨x1,x2⟩,h3,h4⟩:=Option.bind_eq_some_iff.1 h;cases h4;have hc:=Gi h2;rw[hc]at h3;have eo:=λaf=>rN hT af q [33] (by simp);have e1:=hE 5 _ _ _ (by omega) h3;generalize jJ T q [33]=q1 at *;generalize fP T q=c at *;obtain⟨k2,n2,Pw,Px,Py,uX,a2,BY,Cn⟩:=x1;simp only[Tk.cells]at et;simp only[E.row,Int.cast_ofNat_Int]at e1;simp[-ah,-aa,R5,et,em,en,h1,h2,hc,eo,e1,aeG,Nk,wo,aeH,ag,AV.view,AV.ax,AV.ai,Em,E.row,E.rows]
  |false=>
   rw[h1,h2]at h;simp only[Bool.or_self,Bool.false_eq_true,if_false]at h;obtain⟨⟨x1,x2⟩,h3,h4⟩:=Option.bind_eq_some_iff.1 h;obtain⟨kv,hk,hv,e1⟩:=hF _ _ _ h3;have e3:=hB _ _ _ _ h4 kv hk hv;obtain⟨k2,n2,Pw,Px,Py,uX,a2,BY,Cn⟩:=e;have hkc:=bU hk;have hkp:=ck hk;simp only[E.row]at e3 ⊢;generalize sY x1 kv=R at *;generalize fP T q=c at *;simp only[Tk.cells]at et;simp[-ah,-aa,R5,et,em,en,h1,h2,e1,e3,ag,AV.ax,AV.ai]
theorem OR(f:Nat)(hE:∀g,g<=f->XN l T g)(hU:OkU l T f):XN l T (f+1):=by
 intro n q e r hn h af;have hlen:=hT.len;unfold js at h;refine ay (sf:=s96) rfl rfl rfl ?_;by_cases hn5:n=5;subst hn5;rw[if_pos rfl]at h;have e1:=hU _ _ _ h;obtain⟨k2,n2,Pw,Px,Py,uX,a2,BY,Cn⟩:=e;simp only[E.row]at e1 ⊢;simp[-ah,-aa,s96,e1,ag,AV.ax,AV.ai];rw[if_neg hn5]at h;obtain⟨⟨x1,x2⟩,h1,h2⟩:=Option.bind_eq_some_iff.1 h;have aiY:¬(n:Int)=5:=by omega
 have HU:=wk n (by omega);have e1:=hE f (Nat.le_refl _) (n+1) _ _ _ (by omega) h1;have cZ:∀e:E,e.row=[.int .i64 e.k,.int .i64 e.n,.str e.nm,.str e.on,.int .i64 e.od,aI e.aC,.int .i64 e.a,.int .i64 e.ty.b,.int .i64 e.ty.r,.int .i64 e.ty.d,.int .i64 e.cG]:=E.az;simp only[cZ,Int.natCast_add,Int.cast_ofNat_Int]at e1;simp[-ah,-aa,s96,aiY,HU,e1,ag];refine bf R4.eq_1 (λx:RQ×E×Nat×List AV×List AV=>⟨[(0,.val (.ptr 0 0 0 0)),(1,.val (.int .i64 n)),(4,.fp 0 0),(5,.fp 1 0)],
   [[.int .i64 0,.int .i64 0,.str [],.str [],.int .i64 0,.U,.int .i64 0,.int .i64 0,.int .i64 0,.int .i64 0,.int .i64 0],
    [.int .i64 x.2.1.k,.int .i64 x.2.1.n,.str x.2.1.nm,.str x.2.1.on,.int .i64 x.2.1.od,aI x.2.1.aC,.int .i64 x.2.1.a,.int .i64 x.2.1.ty.b,.int .i64 x.2.1.ty.r,.int .i64 x.2.1.ty.d,.int .i64 x.2.1.cG],x.2.2.2.1,x.2.2.2.2],[RQ.aT l x.1]⟩)
  (λx=>x.2.2.1<=f/\oQ T x.2.2.1 n x.2.1 x.1=some (e,r)) (λx=>x.2.2.1) (x2,x1,f,[],[]) rfl ⟨Nat.le_refl _,h2⟩ ?_
 rintro⟨s,a,g,b2,b3⟩ ⟨hg,hp⟩ Gs;simp only at hg hp Gs;have eo:=λaf=>gz (l:=l) af s;have et:=λaf=>nq hT af s;have elp:=λwl af=>JT wl af n (by omega) (fP T s) [RQ.aT l s];cases g with
 |zero=>simp[oQ]at hp|succ g=>
  unfold oQ at hp;by_cases Uf:s.fe=0/\uD n (fP T s)≠0;rw[if_pos Uf]at hp;obtain⟨f0,z0⟩:=Uf;obtain⟨⟨y1,y2⟩,h3,h4⟩:=Option.bind_eq_some_iff.1 hp;have IM:=zT z0;have hw:=wk s.at_ (by omega);have e3:=hE g (by omega) (n+1) _ _ _ (by omega) h3;have aeI:=λwl af st=>JT wl af n (by omega) (fP T s) st;simp only[cZ,Int.natCast_add,Int.cast_ofNat_Int]at e3;have JU:E.rows [a,y1]=[a.row,y1.row]:=by simp[E.rows]
  simp only[cZ]at JU;generalize uD n (fP T s)=z at *;have dx:=λb2 b3=>Gs (y2,Em z 0 [] [] 0 [a,y1] (fP T s).a,g,b2,b3) ⟨by simp only;omega,h4⟩ (by simp only;omega);generalize fP T s=c at *;simp only[Tk.cells]at et elp aeI;simp[-ah,-aa,eo,f0,et,aeI,z0,rO,lZ,hw,HU,e3,ag,AV.view,au,an];have:=dx [.int .i64 c.k,.str c.t,.int .i64 c.n,.int .i64 c.a] [.int .i64 y1.k,.int .i64 y1.n,.str y1.nm,.str y1.on,.int .i64 y1.od,aI y1.aC,.int .i64 y1.a,.int .i64 y1.ty.b,.int .i64 y1.ty.r,.int .i64 y1.ty.d,.int .i64 y1.cG];simp only[Em,E.k,E.n,E.nm,E.on,E.od,E.aC,E.a,E.ty,E.cG]at this;simp only[show aI [a,y1]=.dL 11 (E.rows [a,y1]) from rfl,JU]at this;exact this;rw[if_neg Uf]at hp;simp only[Option.some.injEq,Prod.mk.injEq]at hp;obtain⟨rfl,rfl⟩:=hp;rw[cZ];generalize uD n (fP T s)=z at *;generalize fP T s=c at *;simp only[Tk.cells]at et elp;by_cases f0:s.fe=0;have z0:z=0:=Classical.byContradiction λh=>Uf ⟨f0,h⟩;subst z0;simp[-ah,-aa,eo,f0,et,elp,ag,AV.ax,AV.ai];simp[-ah,-aa,eo,f0,ag,AV.ax,AV.ai]
theorem SL:∀f,XN l T f/\OkU l T f/\OkF l T f/\xW l T f/\OkN l T f/\OkA l T f:=by
 intro f;induction f using Nat.strongRecOn with
 |_ f ih=>
  cases f with
  |zero=>
   refine⟨?_,?_,?_,?_,?_,?_⟩;intro n q e r _ h;simp[js]at h;intro q e r h;simp[p6]at h;intro q e r h;simp[p8]at h;intro q e r h;simp[nV]at h;intro a q e r h;simp[p9]at h;intro q e r h;simp[uV]at h
  |succ f=>
   obtain⟨hE,hU,hF,hI,hN,hA⟩:=ih f (by omega);have hEl:∀g,g<=f->XN l T g:=λg h=>(ih g (by omega)).1;exact⟨OR hT f hEl hU,SJ hT f hE hF (OQ hT f λg h=>hEl g (by omega)),SI hT f hN hI hA,SG hT f hE,SH hT f hI,VU hT f hEl⟩
theorem eP{f n:Nat}{q r:RQ}{e:E}(hn:n<=5)(h:js T f n q=some (e,r))(af:Nat):(bh S).call 0 af 96 [.ptr 0 0 0 0,.int .i64 (n:Nat)] [q.aT l]=some (.agg e.row,[r.aT l]):=(SL hT f).1 n q e r hn h af
end
end N7
namespace N7
open Ax Go bu V7 jG
def qE(l:AV)(T:List Tk)(f:Nat):Prop:=∀q s r,uW T f q=some (s,r)->∀af,(bh S).call 0 af 74 [.ptr 0 0 0 0] [q.aT l]=some (.agg s.row,[r.aT l])
def OkK(l:AV)(T:List Tk)(f:Nat):Prop:=∀q s r,jZ T f q=some (s,r)->∀af,(bh S).call 0 af 40 [.ptr 0 0 0 0] [q.aT l]=some (bD 9 (Sm.rows s),[r.aT l])
section
variable {l:AV}{T:List Tk}(hT:TL l T)
include hT
theorem Z4{f:Nat}{q r:RQ}{e:E}(h:js T f 0 q=some (e,r))(af:Nat) :
  (bh S).call 0 af 96 [.ptr 0 0 0 0,.int .i64 0] [q.aT l]=some (.agg [.int .i64 e.k,.int .i64 e.n,.str e.nm,.str e.on,.int .i64 e.od,aI e.aC,.int .i64 e.a,.int .i64 e.ty.b,.int .i64 e.ty.r,.int .i64 e.ty.d,.int .i64 e.cG],[r.aT l]):=by
 have:=eP hT (n:=0) (by omega) h af;rw[E.az]at this;exact this
theorem El{f:Nat}{a0:Int}{q r:RQ}{s:Sm}(h:sV T f a0 q=some (s,r))(af:Nat) :
  (bh S).call 0 af 97 [.ptr 0 0 0 0,.agg [.int .i64 0,.str [],.str [],.int .i64 0,.U,.U,.U,.int .i64 a0,.int .i64 0]] [q.aT l]=some (.agg s.row,[r.aT l]):=by
 have hlen:=hT.len;unfold sV at h;obtain⟨⟨x,r1⟩,h1,h2⟩:=Option.bind_eq_some_iff.1 h;dsimp only at h2;have e1:=Z4 hT h1;have ei:=λaf s hs=>j7 hT af r1 s hs;have ef:=λaf=>eW hT af r1 2;have mF:E.rows [x]=[[.int .i64 x.k,.int .i64 x.n,.str x.nm,.str x.on,.int .i64 x.od,aI x.aC,.int .i64 x.a,.int .i64 x.ty.b,.int .i64 x.ty.r,.int .i64 x.ty.d,.int .i64 x.cG]]:=by simp[E.rows,E.az]
 refine ay (sf:=XH) rfl rfl rfl ?_;cases h3:iD T r1 [61] with
 |false=>
  rw[h3]at h2;simp only[Bool.false_eq_true,if_false,Option.some.injEq,Prod.mk.injEq]at h2;obtain⟨rfl,rfl⟩:=h2;by_cases h4:iD T r1 [59]=true/\x.k≠7;rw[if_pos h4];obtain⟨h4,h5⟩:=h4;have et:=λaf=>fB hT af (jr T r1 2) [59] (by simp);simp[-ah,-aa,XH,e1,ei,h3,h4,h5,ef,et,ag,AV.view,AV.ax,AV.ai,Sm.row,aI,mF,Sm.rows];rw[if_neg h4];have et:=λaf=>fB hT af r1 [59] (by simp);cases Ly:iD T r1 [59] with
  |false=>
   simp[-ah,-aa,XH,e1,ei,h3,Ly,et,ag,AV.view,AV.ax,AV.ai,Sm.row,aI,mF,Sm.rows]
  |true=>
   have h5:x.k=7:=Classical.byContradiction λh=>h4 ⟨Ly,h⟩;rw[h5]at e1 mF;simp[-ah,-aa,XH,e1,ei,h3,Ly,et,ag,AV.view,AV.ax,AV.ai,Sm.row,aI,mF,Sm.rows]
 |true=>
  rw[h3]at h2;simp only[if_true]at h2;obtain⟨⟨y,r2⟩,h4,h5⟩:=Option.bind_eq_some_iff.1 h2;have e2:=Z4 hT h4;have HV:=λaf=>fB hT af r2 [59] (by simp);have hry:E.rows [y]=[[.int .i64 y.k,.int .i64 y.n,.str y.nm,.str y.on,.int .i64 y.od,aI y.aC,.int .i64 y.a,.int .i64 y.ty.b,.int .i64 y.ty.r,.int .i64 y.ty.d,.int .i64 y.cG]]:=by simp[E.rows,E.az]
  have Z6:E.rows [x,y]=[[.int .i64 x.k,.int .i64 x.n,.str x.nm,.str x.on,.int .i64 x.od,aI x.aC,.int .i64 x.a,.int .i64 x.ty.b,.int .i64 x.ty.r,.int .i64 x.ty.d,.int .i64 x.cG],[.int .i64 y.k,.int .i64 y.n,.str y.nm,.str y.on,.int .i64 y.od,aI y.aC,.int .i64 y.a,.int .i64 y.ty.b,.int .i64 y.ty.r,.int .i64 y.ty.d,.int .i64 y.cG]]:=by simp[E.rows,E.az]
  by_cases c4:x.k=4;rw[if_pos (.inl c4)]at e2;have et:=λaf=>fB hT af r1 [61] (by simp);simp only[if_pos c4,Option.some.injEq,Prod.mk.injEq]at h5;obtain⟨rfl,rfl⟩:=h5;rw[c4]at e1;simp[-ah,-aa,XH,e1,ei,h3,et,e2,HV,ag,AV.view,AV.ax,AV.ai,Sm.row,aI,hry,Sm.rows];simp only[if_neg c4,Option.some.injEq,Prod.mk.injEq]at h5;obtain⟨rfl,rfl⟩:=h5;by_cases c5:x.k=5\/x.k=6;rw[if_pos (.inr c5)]at e2;have et:=λaf=>fB hT af r1 [61] (by simp);rcases c5 with c5|c5<;>
  ·rw[c5]at e1 Z6;simp[-ah,-aa,XH,e1,ei,h3,et,e2,HV,ag,AV.view,AV.ax,AV.ai,Sm.row,aI,Z6,Sm.rows]
  have c5':x.k≠5:=λh=>c5 (.inl h);have c6':x.k≠6:=λh=>c5 (.inr h);rw[if_neg (λh=>h.elim c4 c5)]at e2;have et:=λaf=>fB hT af (jr T r1 2) [61] (by simp);simp[-ah,-aa,XH,e1,ei,h3,ef,et,e2,HV,c4,c5',c6',ag,AV.view,AV.ax,AV.ai,Sm.row,aI,Z6,Sm.rows]
theorem fh(f:Nat)(hS:∀g,g<f->qE l T g):OkK l T (f+1):=by
 intro q s r h af;have hlen:=hT.len;have eo:=λaf=>rN hT af q [123] (by simp);unfold jZ at h;refine ay (sf:=s40) rfl rfl rfl ?_;generalize jJ T q [123]=q1 at *;simp[-ah,-aa,s40,eo];refine bf Rr.eq_1 (λx:RQ×List Sm×Nat=>⟨[(0,.val (.ptr 0 0 0 0)),(3,.val (bD 9 (Sm.rows x.2.1)))],[],[RQ.aT l x.1]⟩)
  (λx=>x.2.2<=f/\x.2.1.length<=T.length+1/\(x.1.fe=0->x.2.1.length<=x.1.at_/\x.2.1.length<=T.length)/\oR T x.2.2 x.2.1 x.1=some (s,r)) (λx=>x.2.2) (q1,[],f) rfl ⟨Nat.le_refl _,by simp,by simp,h⟩ ?_
 rintro⟨u,ss,g⟩ ⟨hg,BZ,XO,hp⟩ ih;simp only at hg BZ XO hp ih;have ek:=λaf=>gz (l:=l) af u;have ei:=λaf=>j7 hT af u [125] (by simp);cases g with
 |zero=>simp[oR]at hp|succ g=>
  unfold oR at hp;have ec:=λaf=>qQ hT af u [125] (by simp);by_cases f0:u.fe=0;cases hi:iD T u [125] with
  |true=>
   rw[if_neg (by rw[hi];simp)]at hp;simp only[Option.some.injEq,Prod.mk.injEq]at hp;obtain⟨rfl,rfl⟩:=hp;simp[-ah,-aa,ek,f0,ei,hi,ec]
  |false=>
   rw[if_pos ⟨f0,hi⟩]at hp;obtain⟨⟨x,r2⟩,h1,h2⟩:=Option.bind_eq_some_iff.1 hp;have e2:=hS g (by omega) _ _ _ h1;obtain⟨g2,w2⟩:=(rG T g).1 _ _ _ h1;have aeJ:=XO f0;have hle:=g2.le;have Bc:=dV (sz:=9) (bytes:=136) (r:=Sm.rows ss) (new:=[x.row]) (by simp[bN,Sm.az]) (by simp[cR,fY];omega);have VW:Sm.rows ss++[x.row]=Sm.rows (ss++[x]):=(by simp[fY]);rw[VW]at Bc;have dx:=ih (r2,ss++[x],g) ⟨by simp only;omega,by simp;omega,λf=>by
    rcases w2 with w|⟨w,v⟩;exact absurd f w;simp;omega,h2⟩ (by simp only;omega)
   simp only at dx;generalize Sm.rows (ss++[x])=R at *;rw[Sm.az]at e2 Bc;simp[-ah,-aa,ek,f0,ei,hi,e2,Bc,AV.view];exact dx
  rw[if_neg (λh=>f0 h.1)]at hp;simp only[Option.some.injEq,Prod.mk.injEq]at hp;obtain⟨rfl,rfl⟩:=hp;simp[-ah,-aa,ek,f0,ec]
theorem oc(f:Nat)(hK:OkK l T f):qE l T (f+1):=by
 intro q s r h af;have hlen:=hT.len;have et:=λaf=>nq hT af q;have ei:=λaf s hs=>j7 hT af q s hs;have VR:=λs (h:iD T q s=true)=>Gi h;have F8:∀s,iD T q s=true->IntKind.i64.wrap ((q.at_:Int)+1)=((q.at_+1:Nat):Int):=λs h=>by
  have:=(bR h).2;rw[dZ]<;>omega
 unfold uW at h;refine ay (sf:=RJ) rfl rfl rfl ?_;have en:=λaf=>nT hT af (cg q);have ec:=λaf=>fB hT af (eu T (cg q)).2 [58] (by simp);have eo:=λaf=>JS hT af (dH T (eu T (cg q)).2 [58]);have TO:eA T (cg q)=(⟨(eu T (cg q)).1,(yq T (dH T (eu T (cg q)).2 [58])).1.1,(yq T (dH T (eu T (cg q)).2 [58])).1.2,(fP T (cg q)).a⟩,(yq T (dH T (eu T (cg q)).2 [58])).2):=rfl;rw[TO]at h;generalize yq T (dH T (eu T (cg q)).2 [58])=o at *;generalize dH T (eu T (cg q)).2 [58]=q2 at *;generalize eu T (cg q)=z at *;clear TO;have Pp:=λs r (h:sV T f (fP T q).a q=some (s,r))=>El hT h;generalize hc:fP T q=c at *;simp only[Tk.cells]at et;cases h1:iD T q [118,97,114] with
 |true=>
  rw[h1]at h;simp only[if_true,Option.some.injEq,Prod.mk.injEq]at h;obtain⟨rfl,rfl⟩:=h;have ht:=VR _ h1;have hw:=F8 _ h1;have e4:=λaf=>fB hT af o.2 [59] (by simp);simp[-ah,-aa,RJ,et,ei,h1,ht,rO,lZ,hw,en,ec,eo,e4,ag,AV.view,AV.ax,AV.ai,Sm.row,qz,Sm.rows]
 |false=>
 rw[h1]at h;simp only[Bool.false_eq_true,if_false]at h;cases h2:iD T q [108,101,116] with
 |true=>
  rw[h2]at h;simp only[if_true]at h;obtain⟨⟨x,r5⟩,h8,h9⟩:=Option.bind_eq_some_iff.1 h;simp only[Option.some.injEq,Prod.mk.injEq]at h9;obtain⟨rfl,rfl⟩:=h9;have ht:=VR _ h2;have hw:=F8 _ h2;have e4:=λaf=>fB hT af o.2 [61] (by simp);have e5:=Z4 hT h8;have e6:=λaf=>fB hT af r5 [59] (by simp);have mF:E.rows [x]=[[.int .i64 x.k,.int .i64 x.n,.str x.nm,.str x.on,.int .i64 x.od,aI x.aC,.int .i64 x.a,.int .i64 x.ty.b,.int .i64 x.ty.r,.int .i64 x.ty.d,.int .i64 x.cG]]:=by simp[E.rows,E.az]
  simp[-ah,-aa,RJ,et,ei,h1,h2,ht,rO,lZ,hw,en,ec,eo,e4,e5,e6,ag,AV.view,AV.ax,AV.ai,Sm.row,Sm.rows];simp[aI,mF]
 |false=>
 rw[h2]at h;simp only[Bool.false_eq_true,if_false]at h;cases h3:iD T q [105,102] with
 |true=>
  rw[h3]at h;simp only[if_true]at h;obtain⟨⟨x,r5⟩,h8,h9⟩:=Option.bind_eq_some_iff.1 h;obtain⟨⟨y,r6⟩,AN,ze⟩:=Option.bind_eq_some_iff.1 h9;have hw:=F8 _ h3;have e5:=Z4 hT h8;have e6:=hK _ _ _ AN;have hv:aD (bD 9 (Sm.rows y))=true:=bY;have SM:(bD 9 (Sm.rows y)).view=aA 9 (Sm.rows y):=rfl;have mF:E.rows [x]=[[.int .i64 x.k,.int .i64 x.n,.str x.nm,.str x.on,.int .i64 x.od,aI x.aC,.int .i64 x.a,.int .i64 x.ty.b,.int .i64 x.ty.r,.int .i64 x.ty.d,.int .i64 x.cG]]:=by simp[E.rows,E.az]
  generalize bD 9 (Sm.rows y)=vy at *;have Ff:=bU hv;have Co:=ck hv;have ej:=λaf=>j7 hT af r6 [101,108,115,101] (by simp);dsimp only at ze;cases h4:iD T r6 [101,108,115,101] with
  |false=>
   rw[h4]at ze;simp only[Bool.false_eq_true,if_false,Option.some.injEq,Prod.mk.injEq]at ze;obtain⟨rfl,rfl⟩:=ze;simp[-ah,-aa,RJ,et,ei,h1,h2,h3,rO,lZ,hw,e5,e6,ej,h4,hv,SM,ag,AV.view,AV.ax,AV.ai,Sm.row,Sm.rows];simp[aI,mF]
  |true=>
   rw[h4]at ze;simp only[if_true]at ze;obtain⟨⟨w,r8⟩,tL,E7⟩:=Option.bind_eq_some_iff.1 ze;simp only[Option.some.injEq,Prod.mk.injEq]at E7;obtain⟨rfl,rfl⟩:=E7;have hw6:IntKind.i64.wrap ((r6.at_:Int)+1)=((r6.at_+1:Nat):Int):=by
    have:=(bR h4).2;rw[dZ]<;>omega
   have e8:=hK _ _ _ tL;have hu:aD (bD 9 (Sm.rows w))=true:=bY;have huv:(bD 9 (Sm.rows w)).view=aA 9 (Sm.rows w):=rfl;generalize bD 9 (Sm.rows w)=vw at *;have huc:=bU hu;have hup:=ck hu;simp[-ah,-aa,RJ,et,ei,h1,h2,h3,rO,lZ,hw,hw6,e5,e6,ej,h4,e8,hv,SM,hu,huv,ag,AV.view,AV.ax,AV.ai,Sm.row];simp[aI,mF]
 |false=>
 rw[h3]at h;simp only[Bool.false_eq_true,if_false]at h;cases h4:iD T q [119,104,105,108,101] with
 |true=>
  rw[h4]at h;simp only[if_true]at h;obtain⟨⟨x,r5⟩,h8,h9⟩:=Option.bind_eq_some_iff.1 h;obtain⟨⟨y,r6⟩,AN,ze⟩:=Option.bind_eq_some_iff.1 h9;simp only[Option.some.injEq,Prod.mk.injEq]at ze;obtain⟨rfl,rfl⟩:=ze;have hw:=F8 _ h4;have e5:=Z4 hT h8;have e6:=hK _ _ _ AN;have hv:aD (bD 9 (Sm.rows y))=true:=bY;have SM:(bD 9 (Sm.rows y)).view=aA 9 (Sm.rows y):=rfl;have mF:E.rows [x]=[[.int .i64 x.k,.int .i64 x.n,.str x.nm,.str x.on,.int .i64 x.od,aI x.aC,.int .i64 x.a,.int .i64 x.ty.b,.int .i64 x.ty.r,.int .i64 x.ty.d,.int .i64 x.cG]]:=by simp[E.rows,E.az]
  generalize bD 9 (Sm.rows y)=vy at *;have Ff:=bU hv;have Co:=ck hv;simp[-ah,-aa,RJ,et,ei,h1,h2,h3,h4,rO,lZ,hw,e5,e6,hv,SM,ag,AV.view,AV.ax,AV.ai,Sm.row,Sm.rows];simp[aI,mF]
 |false=>
 rw[h4]at h;simp only[Bool.false_eq_true,if_false]at h;cases h5:iD T q [114,101,116,117,114,110] with
 |true=>
  rw[h5]at h;simp only[if_true]at h;have hw:=F8 _ h5;have ej:=λaf=>j7 hT af (cg q) [59] (by simp);cases h6:iD T (cg q) [59] with
  |true=>
   rw[h6]at h;simp only[if_true,Option.some.injEq,Prod.mk.injEq]at h;obtain⟨rfl,rfl⟩:=h;have e4:=λaf=>fB hT af (cg q) [59] (by simp);simp[-ah,-aa,RJ,et,ei,h1,h2,h3,h4,h5,rO,lZ,hw,ej,h6,e4,ag,AV.view,AV.ax,AV.ai,Sm.row,qz,Sm.rows]
  |false=>
   rw[h6]at h;simp only[Bool.false_eq_true,if_false]at h;obtain⟨⟨x,r5⟩,h8,h9⟩:=Option.bind_eq_some_iff.1 h;simp only[Option.some.injEq,Prod.mk.injEq]at h9;obtain⟨rfl,rfl⟩:=h9;have e5:=Z4 hT h8;have e4:=λaf=>fB hT af r5 [59] (by simp);have mF:E.rows [x]=[[.int .i64 x.k,.int .i64 x.n,.str x.nm,.str x.on,.int .i64 x.od,aI x.aC,.int .i64 x.a,.int .i64 x.ty.b,.int .i64 x.ty.r,.int .i64 x.ty.d,.int .i64 x.cG]]:=(by simp[E.rows,E.az]);simp[-ah,-aa,RJ,et,ei,h1,h2,h3,h4,h5,rO,lZ,hw,ej,h6,e5,e4,ag,AV.view,AV.ax,AV.ai,Sm.row,Sm.rows];simp[aI,mF]
 |false=>
 rw[h5]at h;simp only[Bool.false_eq_true,if_false]at h;cases h6:iD T q [112,114,105,110,116] with
 |true=>
  rw[h6]at h;simp only[if_true]at h;obtain⟨⟨x,r5⟩,h8,h9⟩:=Option.bind_eq_some_iff.1 h;simp only[Option.some.injEq,Prod.mk.injEq]at h9;obtain⟨rfl,rfl⟩:=h9;have hw:=F8 _ h6;have e5:=Z4 hT h8;have e4:=λaf=>fB hT af r5 [59] (by simp);have mF:E.rows [x]=[[.int .i64 x.k,.int .i64 x.n,.str x.nm,.str x.on,.int .i64 x.od,aI x.aC,.int .i64 x.a,.int .i64 x.ty.b,.int .i64 x.ty.r,.int .i64 x.ty.d,.int .i64 x.cG]]:=by simp[E.rows,E.az]
  simp[-ah,-aa,RJ,et,ei,h1,h2,h3,h4,h5,h6,rO,lZ,hw,e5,e4,ag,AV.view,AV.ax,AV.ai,Sm.row,Sm.rows];simp[aI,mF]
 |false=>
  rw[h6]at h;simp only[Bool.false_eq_true,if_false]at h;have e1:=Pp _ _ h;rw[Sm.az]at e1 ⊢;simp[-ah,-aa,RJ,et,ei,h1,h2,h3,h4,h5,h6,e1,ag,AV.view,AV.ax,AV.ai]
theorem SN:∀f,qE l T f/\OkK l T f:=by
 intro f;induction f using Nat.strongRecOn with
 |_ f ih=>
  cases f with
  |zero=>
   refine⟨?_,?_⟩;intro q e r h;simp[uW]at h;intro q e r h;simp[jZ]at h
  |succ f=>
   exact⟨oc hT f (ih f (by omega)).2,fh hT f λg h=>(ih g (by omega)).1⟩
theorem Be{f:Nat}{q r:RQ}{s:List Sm}(h:jZ T f q=some (s,r))(af:Nat):(bh S).call 0 af 40 [.ptr 0 0 0 0] [q.aT l]=some (bD 9 (Sm.rows s),[r.aT l]):=(SN hT f).2 q s r h af
end
end N7
namespace N7
open Ax Go bu V7 jG
section
variable {l:AV}{T:List Tk}(hT:TL l T)
include hT
theorem OT{f:Nat}{q rr:RQ}{rc:Rc}(h:qA T f q=some (rc,rr))(af:Nat):(bh S).call 0 af 16 [.ptr 0 0 0 0] [q.aT l]=some (.agg rc.row,[rr.aT l]):=by
 have hlen:=hT.len;have et:=λaf=>nq hT af q;have en:=λaf=>nT hT af q;have e2:=λaf=>fB hT af (eu T q).2 [123] (by simp);unfold qA at h;obtain⟨⟨fs,r0⟩,h1,h2⟩:=Option.bind_eq_some_iff.1 h;simp only[Option.some.injEq,Prod.mk.injEq]at h2;obtain⟨rfl,rfl⟩:=h2;generalize dH T (eu T q).2 [123]=q2 at *;generalize eu T q=z at *;generalize fP T q=c at *;simp only[Tk.cells]at et;refine ay (sf:=s16) rfl rfl rfl ?_;simp[-ah,-aa,s16,et,en,e2,ag,AV.view];refine bf Q5.eq_1 (λx:RQ×List PD×Nat=>⟨[(0,.val (.ptr 0 0 0 0)),(2,.fp 0 0),(3,.fp 1 0)],[[.str [],.U,.int .i64 0],[.str z.1,bD 4 (x.2.1.map PD.cells),.int .i64 c.a]],[RQ.aT l x.1]⟩)
  (λx=>x.2.1.length<=T.length+1/\(x.1.fe=0->x.2.1.length<=x.1.at_/\x.2.1.length<=T.length)/\mo T x.2.2 x.2.1 x.1=some (fs,r0)) (λx=>x.2.2) (q2,[],f) rfl ⟨by simp,by simp,h1⟩ ?_
 rintro⟨s,ps,g⟩ ⟨BZ,XO,hp⟩ ih;simp only at BZ XO hp ih;have ek:=λaf=>gz (l:=l) af s;have ei:=λaf=>j7 hT af s [125] (by simp);have ec:=λaf=>fB hT af r0 [125] (by simp);cases g with
 |zero=>simp[mo]at hp|succ g=>
  unfold mo at hp;by_cases f0:s.fe=0;cases hi:iD T s [125] with
  |true=>
   rw[if_neg (by rw[hi];simp)]at hp;simp only[Option.some.injEq,Prod.mk.injEq]at hp;obtain⟨rfl,rfl⟩:=hp;simp[-ah,-aa,ek,f0,ei,hi,ec,ag,AV.view,AV.ax,AV.ai,Rc.row,aA]
  |false=>
   rw[if_pos ⟨f0,hi⟩]at hp;have HV:=λaf=>nq hT af s;have aeJ:=XO f0;have e3:=λaf=>Ek hT af s;have e4:=λaf=>fB hT af (eA T s).2 [59] (by simp);simp only[PD.cells]at e3;have lJ:=dV (sz:=4) (bytes:=48) (r:=ps.map PD.cells) (new:=[(eA T s).1.cells]) (by simp[bN,PD.cells]) (by simp[cR];omega);have w2:=(uH (T:=T) (q:=s)).trans (bM (s:=[59]));have VX:=(jh (T:=T) (q:=s)).trans (bM (s:=[59]));by_cases h8:(fP T s).k=1/\ps.length=8;rw[if_pos h8]at hp;simp only[Option.some.injEq,Prod.mk.injEq]at hp;obtain⟨rfl,rfl⟩:=hp;have ef:=λaf=>eW hT af s 4;obtain⟨h8,h9⟩:=h8;generalize fP T s=c2 at *;simp only[Tk.cells,h8]at HV;simp[-ah,-aa,ek,f0,ei,hi,HV,h9,ef,ec,ag,AV.view,AV.ax,AV.ai,Rc.row,aA];rw[if_neg h8]at hp;have dx:=ih (dH T (eA T s).2 [59],ps++[(eA T s).1],g) ⟨by simp;omega,λf=>by
    have hle:=VX.le;rcases w2 with w|⟨w,v⟩;exact absurd f w;simp;omega,hp⟩ (by simp only;omega)
   simp only[List.map_append,List.map_cons,List.map_nil]at dx;generalize dH T (eA T s).2 [59]=s4 at *;generalize eA T s=p at *;generalize fP T s=c2 at *;simp only[PD.cells]at lJ dx;simp only[Tk.cells]at HV;by_cases hk:c2.k=1;have h9:¬(ps.length:Int)=8:=λh=>h8 ⟨hk,by omega⟩;simp[-ah,-aa,ek,f0,ei,hi,HV,hk,h9,e3,e4,lJ,aU,bG,ag,AV.view,AV.ax,AV.ai];exact dx;simp[-ah,-aa,ek,f0,ei,hi,HV,hk,e3,e4,lJ,aU,bG,ag,AV.view,AV.ax,AV.ai];exact dx
  rw[if_neg (λh=>f0 h.1)]at hp;simp only[Option.some.injEq,Prod.mk.injEq]at hp;obtain⟨rfl,rfl⟩:=hp;simp[-ah,-aa,ek,f0,ec,ag,AV.view,AV.ax,AV.ai,Rc.row,aA]
def tl:bw->bw
 |.seq _ b=>b|c=>c
theorem VY{f:Nat}{q rr:RQ}{fc:Fc}(h:wu T f q=some (fc,rr))(af:Nat):(bh S).call 0 af 19 [.ptr 0 0 0 0] [q.aT l]=some (.agg fc.row,[rr.aT l]):=by
 have hlen:=hT.len;have et:=λaf=>nq hT af q;have en:=λaf=>nT hT af q;have e2:=λaf=>fB hT af (eu T q).2 [40] (by simp);unfold wu at h;obtain⟨⟨fs,r0⟩,h1,h2⟩:=Option.bind_eq_some_iff.1 h;dsimp only at h2;generalize dH T (eu T q).2 [40]=q2 at *;generalize eu T q=z at *;generalize fP T q=c at *;simp only[Tk.cells]at et;refine ay (sf:=Zk) rfl rfl rfl ?_;simp[-ah,-aa,Zk,et,en,e2,ag,AV.view];refine bf Q6.eq_1 (λx:RQ×List PD×Nat=>⟨[(0,.val (.ptr 0 0 0 0)),(2,.fp 0 0),(3,.fp 1 0)],[[.str [],.U,.bool false,.str [],.int .i64 0,.U,.int .i64 0],[.str z.1,bD 4 (x.2.1.map PD.cells),.bool false,.str [],.int .i64 0,.U,.int .i64 c.a]],[RQ.aT l x.1]⟩)
  (λx=>x.2.1.length<=T.length+1/\(x.1.fe=0->x.2.1.length<=x.1.at_/\x.2.1.length<=T.length)/\mq T x.2.2 x.2.1 x.1=some (fs,r0)) (λx=>x.2.2) (q2,[],f) rfl ⟨by simp,by simp,h1⟩ ?_
 rintro⟨s,ps,g⟩ ⟨BZ,XO,hp⟩ ih;simp only at BZ XO hp ih;have ek:=λaf=>gz (l:=l) af s;have ei:=λaf=>j7 hT af s [41] (by simp);have out :
   W S 0 1 [.box 2 0 7 true] (zM [.box 2 0 7 true] Ax.Mode.kg [RQ.aT l q] (.agg fc.row,[RQ.aT l rr])) [.code (tl (tl (tl (tl (tl Zk.body)))))] .normal
    ⟨[(0,.val (.ptr 0 0 0 0)),(2,.fp 0 0),(3,.fp 1 0)],[[.str [],.U,.bool false,.str [],.int .i64 0,.U,.int .i64 0],[.str z.1,bD 4 (fs.map PD.cells),.bool false,.str [],.int .i64 0,.U,.int .i64 c.a]],[RQ.aT l r0]⟩:=by
  have e4:=λaf=>fB hT af r0 [41] (by simp);generalize dH T r0 [41]=r4 at *;have e5:=λaf=>j7 hT af r4 [58] (by simp);cases h5:iD T r4 [58] with
  |false=>
   rw[h5]at h2;simp only[Bool.false_eq_true,if_false]at h2;obtain⟨⟨b,r6⟩,h6,h7⟩:=Option.bind_eq_some_iff.1 h2;simp only[Option.some.injEq,Prod.mk.injEq]at h7;obtain⟨rfl,rfl⟩:=h7;have e6:=Be hT h6;have hv:aD (bD 9 (Sm.rows b))=true:=bY;have SM:(bD 9 (Sm.rows b)).view=aS b:=rfl;generalize bD 9 (Sm.rows b)=vb at *;have Ff:=bU hv;have Co:=ck hv;simp[-ah,-aa,Zk,tl,e4,e5,h5,e6,hv,SM,ag,AV.view,AV.ax,AV.ai,Fc.row,aA]
  |true=>
   rw[h5]at h2;simp only[if_true]at h2;obtain⟨⟨b,r6⟩,h6,h7⟩:=Option.bind_eq_some_iff.1 h2;simp only[Option.some.injEq,Prod.mk.injEq]at h7;obtain⟨rfl,rfl⟩:=h7;have i2:=(bR h5).2;have hw:=wk r4.at_ (by omega);have e7:=λaf=>JS hT af (cg r4);generalize yq T (cg r4)=o at *;have e6:=Be hT h6;have hv:aD (bD 9 (Sm.rows b))=true:=bY;have SM:(bD 9 (Sm.rows b)).view=aS b:=rfl;generalize bD 9 (Sm.rows b)=vb at *;have Ff:=bU hv;have Co:=ck hv;simp[-ah,-aa,Zk,tl,e4,e5,h5,rO,lZ,hw,e7,e6,hv,SM,ag,AV.view,AV.ax,AV.ai,Fc.row,aA]
 simp only[Zk,tl]at out;cases g with
 |zero=>simp[mq]at hp|succ g=>
  unfold mq at hp;by_cases f0:s.fe=0;cases hi:iD T s [41] with
  |true=>
   rw[if_neg (by rw[hi];simp)]at hp;simp only[Option.some.injEq,Prod.mk.injEq]at hp;obtain⟨rfl,rfl⟩:=hp;simp[-ah,-aa,ek,f0,ei,hi]at out ⊢;exact out
  |false=>
   rw[if_pos ⟨f0,hi⟩]at hp;have HV:=λaf=>nq hT af s;have aeJ:=XO f0;have e3:=λaf=>Ek hT af s;simp only[PD.cells]at e3;have lJ:=dV (sz:=4) (bytes:=48) (r:=ps.map PD.cells) (new:=[(eA T s).1.cells]) (by simp[bN,PD.cells]) (by simp[cR];omega);have w2:=(uH (T:=T) (q:=s)).trans rH;have VX:=(jh (T:=T) (q:=s)).trans rH;by_cases h8:(fP T s).k=1/\ps.length=6;rw[if_pos h8]at hp;simp only[Option.some.injEq,Prod.mk.injEq]at hp;obtain⟨rfl,rfl⟩:=hp;have ef:=λaf=>eW hT af s 4;obtain⟨h8,h9⟩:=h8;generalize fP T s=c2 at *;simp only[Tk.cells,h8]at HV;simp[-ah,-aa,ek,f0,ei,hi,HV,h9,ef,AV.view]at out ⊢;exact out;rw[if_neg h8]at hp;have dx:=ih (D5 T (eA T s).2,ps++[(eA T s).1],g) ⟨by simp;omega,λf=>by
    have hle:=VX.le;rcases w2 with w|⟨w,v⟩;exact absurd f w;simp;omega,hp⟩ (by simp only;omega)
   simp only[List.map_append,List.map_cons,List.map_nil]at dx;clear VX w2 hp ih out;generalize eA T s=p at *;have e9:=λaf=>j7 hT af p.2 [41] (by simp);have e10:=λaf=>fB hT af p.2 [44] (by simp);have e11:=λaf=>j7 hT af (dH T p.2 [44]) [41] (by simp);have e12:=λaf=>eW hT af (dH T p.2 [44]) 2;unfold D5 at dx;generalize dH T p.2 [44]=s4 at *;generalize fP T s=c2 at *;simp only[PD.cells]at lJ dx;simp only[Tk.cells]at HV;by_cases hk:c2.k=1;have h9:¬(ps.length:Int)=6:=λh=>h8 ⟨hk,by omega⟩;cases h3:iD T p.2 [41] with
   |true=>
    rw[h3,if_pos rfl]at dx;simp[-ah,-aa,ek,f0,ei,hi,HV,hk,h9,e3,e9,h3,lJ,aU,bG,ag,AV.view,AV.ax,AV.ai];exact dx
   |false=>
    rw[h3,if_neg (by simp)]at dx;cases h4:iD T s4 [41] with
    |true=>
     rw[h4,if_pos rfl]at dx;simp[-ah,-aa,ek,f0,ei,hi,HV,hk,h9,e3,e9,h3,e10,e11,h4,e12,lJ,aU,bG,ag,AV.view,AV.ax,AV.ai];exact dx
    |false=>
     rw[h4,if_neg (by simp)]at dx;simp[-ah,-aa,ek,f0,ei,hi,HV,hk,h9,e3,e9,h3,e10,e11,h4,lJ,aU,bG,ag,AV.view,AV.ax,AV.ai];exact dx
   cases h3:iD T p.2 [41] with
   |true=>
    rw[h3,if_pos rfl]at dx;simp[-ah,-aa,ek,f0,ei,hi,HV,hk,e3,e9,h3,lJ,aU,bG,ag,AV.view,AV.ax,AV.ai];exact dx
   |false=>
    rw[h3,if_neg (by simp)]at dx;cases h4:iD T s4 [41] with
    |true=>
     rw[h4,if_pos rfl]at dx;simp[-ah,-aa,ek,f0,ei,hi,HV,hk,e3,e9,h3,e10,e11,h4,e12,lJ,aU,bG,ag,AV.view,AV.ax,AV.ai];exact dx
    |false=>
     rw[h4,if_neg (by simp)]at dx;simp[-ah,-aa,ek,f0,ei,hi,HV,hk,e3,e9,h3,e10,e11,h4,lJ,aU,bG,ag,AV.view,AV.ax,AV.ai];exact dx
  rw[if_neg (λh=>f0 h.1)]at hp;simp only[Option.some.injEq,Prod.mk.injEq]at hp;obtain⟨rfl,rfl⟩:=hp;simp[-ah,-aa,ek,f0]at out ⊢;exact out
end
end N7
namespace N7
open Ax Go bu V7 jG
def ai2(r:List AV):Tk:=match r with | [.int _ k,.str t,.int _ n,.int _ a]=>⟨k,t,n,a⟩|_=>Tk0
def rP(rows:List (List AV)):List Tk:=rows.map ai2
def lB(s:List UInt8):Pg×Int×Int:=if s.length<=6000 then match U2.Fo s with
  |(rows,none)=>(uE (rP rows) (40*(rP rows).length+100)).getD (CJ,0,0)|(_,some e)=>(CJ,1,e)
 else (CJ,4,0)
theorem VZ(a:Nat)(l:List UInt8):(U2.sR a l).2≠0->∃x:Tk,(U2.sR a l).1=x.cells/\x.a=a:=by
 have mk:∀k t n,∃x:Tk,U2.vm k t n a=x.cells/\x.a=a:=λk t n=>⟨⟨k,t,n,a⟩,rfl,rfl⟩;unfold U2.sR;split;intro h;exact absurd rfl h;split;unfold U2.sB;split;exact λ_=>mk _ _ _;split;exact λ_=>mk _ _ _;intro h;exact absurd rfl h;split;unfold U2.uA;split;intro h;exact absurd rfl h;split;intro h;exact absurd rfl h;exact λ_=>mk _ _ _;unfold U2.uB;split;intro h;exact absurd rfl h;exact λ_=>mk _ _ _
theorem JV:∀(n a:Nat)(l:List UInt8)(rows:List (List AV)),U2.yP n a l=(rows,none)->(∀r∈rows,∃x:Tk,r=x.cells/\0<=x.a/\x.a<=a+l.length)/\rows.length<=n
 |0,_,_,rows,h=>by
  simp only[U2.yP,Prod.mk.injEq,and_true]at h;subst h;exact⟨by simp,Nat.le_refl _⟩
 |n+1,a,[],rows,h=>by
  simp only[U2.yP,Prod.mk.injEq,and_true]at h;subst h;exact⟨by intro r hr;rw[List.mem_singleton]at hr;subst hr;exact⟨⟨0,[],0,a⟩,rfl,by simp,by simp⟩,by simp⟩
 |n+1,a,c::l,rows,h=>by
  simp only[U2.yP]at h;have hle:=U2.M8 a (c::l);have ha:=VZ a (c::l);generalize U2.sR a (c::l)=z at *;obtain⟨t,k⟩:=z;cases k with
  |zero=>simp at h|succ k=>
   simp only at h ha hle;generalize hy:U2.yP n _ _=y at h;obtain⟨r2,e⟩:=y;cases e with
   |some e=>simp at h|none=>
    simp only[Prod.mk.injEq,and_true]at h;subst h;obtain⟨h1,h2⟩:=JV n _ _ _ hy;refine⟨λr hr=>?_,by simp;omega⟩;rcases List.mem_cons.1 hr with e|e;subst e;obtain⟨x,hx,hxa⟩:=ha (by omega);exact⟨x,hx,by omega,by simp only[List.length_cons];omega⟩;obtain⟨x,h3,h4,h5⟩:=h1 r e;have hb:=U2.zP ((c::l).drop (k+1));simp only[List.length_drop,List.length_cons]at h5 hb hle;refine⟨x,h3,h4,?_⟩;simp only[List.length_cons];omega
theorem HW{s:List UInt8}{rows:List (List AV)}(h:U2.Fo s=(rows,none)):(∀r∈rows,∃x:Tk,r=x.cells/\0<=x.a/\x.a<=s.length)/\rows.length<=s.length+1:=by
 unfold U2.Fo at h;obtain⟨h1,h2⟩:=JV _ _ _ _ h;have hb:=U2.zP s;refine⟨λr hr=>?_,h2⟩;obtain⟨x,h3,h4,h5⟩:=h1 r hr;rw[List.length_drop]at h5;exact⟨x,h3,h4,by omega⟩
theorem SO{rows:List (List AV)}{N:Int}(h:∀r∈rows,∃x:Tk,r=x.cells/\0<=x.a/\x.a<=N):rows=(rP rows).map Tk.cells:=by
 unfold rP;rw[List.map_map];conv=>lhs;rw[<-List.map_id rows]
 refine List.map_congr_left λr hr=>?_;obtain⟨x,hx,_⟩:=h r hr;subst hx
 rfl
theorem Z7{rows:List (List AV)}{N:Int}(h:∀r∈rows,∃x:Tk,r=x.cells/\0<=x.a/\x.a<=N):∀x∈rP rows,0<=x.a/\x.a<=N:=by
 intro x hx;obtain⟨r,hr,rfl⟩:=List.mem_map.1 hx;obtain⟨y,hy,h1,h2⟩:=h r hr;subst hy;exact⟨h1,h2⟩
theorem Nl(wl af:Nat)(s:List UInt8)(st:aj):(bh S).call wl af 5 [.str s] st=some (.fm [.agg (lB s).1.row,.agg [.int .i64 (lB s).2.1,.int .i64 (lB s).2.2]],st):=by
 have etk:=λwl af st=>U2.OD wl af s st;refine bL (sf:=s5) rfl rfl (by simp) rfl (by simp[Pg.row,AV.ax,AV.ai]) ?_;have zero:∀e a:Int,e≠0->lB s=(CJ,e,a)->U2.HI s=(.U,[.int .i64 e,.int .i64 a])->W S 0 0 s5.results (Jn s5.results (.fm [.agg (lB s).1.row,.agg [.int .i64 (lB s).2.1,.int .i64 (lB s).2.2]])) [.code s5.body] .normal (pF s5 [.str s] []):=λe a he h1 h2=>by
  rw[h1];rw[h2]at etk;simp[s5,etk,he,aU,bG,eC.bg,Pg.row,CJ]
 by_cases hl:s.length<=6000
 ·have htv:U2.HI s=U2.Jx (U2.Fo s):=by unfold U2.HI;rw[U2.pq,decide_eq_true hl,if_pos rfl]
  have Qv:lB s=match U2.Fo s with|(rows,none)=>(uE (rP rows) (40*(rP rows).length+100)).getD (CJ,0,0)|(_,some e)=>(CJ,1,(e:Int)):=by unfold lB;rw[if_pos hl]
  generalize htp:U2.Fo s=z at *;obtain⟨rows,e⟩:=z;cases e with
  |some e=>exact zero 1 e (by decide) Qv htv|none=>
   obtain⟨ku,hlen⟩:=HW htp;have Jj:=SO ku;simp only[U2.Jx]at htv;simp only at Qv;have hTl:(rP rows).length=rows.length:=(by simp[rP]);obtain⟨x,hx⟩:=wA (rP rows);rw[hx,Option.getD_some]at Qv;clear zero;generalize rP rows=T at *;have hT:TL (bD 4 rows) T:=⟨by
    have:bN 4 rows=true:=by rw[Jj];simp[bN,Tk.cells]
    unfold bD;split
    rfl
    simp[bX,this],by rw[pN];exact Jj,by omega⟩
   rw[htv]at etk;have aeL:=hT.sl;generalize bD 4 rows=l at *;rw[Qv];unfold uE at hx;obtain⟨⟨p,r0⟩,h1,h2⟩:=Option.bind_eq_some_iff.1 hx;simp only[Option.some.injEq]at h2;subst h2;simp[-ah,-aa,s5,etk,aeL,ag,AV.view];have hTv:TL l.view T:=⟨by rw[AU];exact hT.sz,by rw[DO];exact hT.rows,hT.len⟩;have akU:=hT.len;generalize l.view=lv at *;refine bf Xv.eq_1 (λx:RQ×Pg×Nat=>⟨[(2,.fp 0 0),(3,.fp 1 0),(6,.val (.ptr 0 0 0 0)),(7,.fp 3 0)],
     [[.U,.U,.U],[.int .i64 0,.int .i64 0],[.int .i64 0,.int .i64 0],[bD 3 (x.2.1.aR.map Rc.row),bD 4 (x.2.1.globals.map PD.cells),bD 7 (x.2.1.funcs.map Fc.row)]],[RQ.aT lv x.1]⟩)
    (λx=>x.2.1.aR.length<=12/\x.2.1.globals.length<=8/\x.2.1.funcs.length<=16/\pO T x.2.2 x.2.1 x.1=some (p,r0)) (λx=>x.2.2) (⟨0,0,0,0⟩,CJ,_) rfl ⟨by simp[CJ],by simp[CJ],by simp[CJ],h1⟩ ?_
   rintro⟨u,⟨rs,gs,fs⟩,g⟩ ⟨b1,b2,b3,hp⟩ ih;simp only at b1 b2 b3 hp ih;clear h1 Qv ku Jj etk aeL hT hlen hTl htv htp;have hT:=hTv;have ek:=λaf=>gz (l:=lv) af u;have et:=λaf=>nq hT af u;have i1:=λaf=>j7 hT af u [114,101,99,111,114,100] (by simp);have i2:=λaf=>j7 hT af u [103,108,111,98,97,108] (by simp);have i3:=λaf=>j7 hT af u [102,117,110,99] (by simp);cases g with
   |zero=>simp[pO]at hp|succ g=>
    unfold pO at hp;simp only[ZQ,Sr,Ss]at hp;by_cases f0:u.fe=0
    ·by_cases k0:(fP T u).k=0;rw[if_neg (λh=>h.2 k0)]at hp;simp only[Option.some.injEq,Prod.mk.injEq]at hp;obtain⟨rfl,rfl⟩:=hp;rw[if_pos f0];generalize fP T u=c at *;simp only[Tk.cells]at et;simp[-ah,-aa,ek,f0,et,k0,ag,AV.view,Pg.row,aA]
     ·rw[if_pos ⟨f0,k0⟩]at hp;have IM:=uF k0;have hw:=wk u.at_ (by omega);have ef:=λaf e=>eW hT af u e;have Z8:∀s t:List UInt8,s≠t->iD T u s=true->iD T u t=false:=λs t jn h=>by
       cases h2:iD T u t with
       |false=>rfl|true=>exact absurd ((Gi h).symm.trans (Gi h2)) jn
      cases q1:iD T u [114,101,99,111,114,100] with
      |true=>
       have q2:=Z8 _ [103,108,111,98,97,108] (by decide) q1;have q3:=Z8 _ [102,117,110,99] (by decide) q1;simp only[q1,q2,q3,true_and,Bool.false_eq_true,false_and,or_false,if_true,if_false]at hp;by_cases m1:rs.length=12;rw[if_pos m1]at hp;have dx:=ih (jr T u 4,⟨rs,gs,fs⟩,g) ⟨b1,b2,b3,hp⟩ (by simp only;omega);generalize fP T u=c at *;simp only[Tk.cells]at et;simp[-ah,-aa,ek,f0,et,k0,i1,q1,m1,ef];exact dx;rw[if_neg m1]at hp;obtain⟨⟨x,r2⟩,h3,h4⟩:=Option.bind_eq_some_iff.1 hp;have e3:=OT hT h3;have m1':¬(rs.length:Int)=12:=(by omega);have lJ:=dV (sz:=3) (bytes:=48) (r:=rs.map Rc.row) (new:=[x.row]) (by simp[bN,Rc.row]) (by simp[cR];omega);have dx:=ih (r2,⟨rs++[x],gs,fs⟩,g) ⟨by simp;omega,b2,b3,h4⟩ (by simp only;omega);simp only[List.map_append,List.map_cons,List.map_nil]at dx;simp only[Rc.row]at e3 lJ dx;generalize fP T u=c at *;simp only[Tk.cells]at et;simp[-ah,-aa,ek,f0,et,k0,i1,q1,i2,q2,i3,q3,m1',rO,lZ,hw,e3,lJ,aU,bG,ag,AV.view];exact dx
      |false=>
      cases q2:iD T u [103,108,111,98,97,108] with
      |true=>
       have q3:=Z8 _ [102,117,110,99] (by decide) q2;simp only[q1,q2,q3,true_and,Bool.false_eq_true,false_and,false_or,or_false,if_true,if_false]at hp;by_cases m1:gs.length=8;rw[if_pos m1]at hp;have dx:=ih (jr T u 4,⟨rs,gs,fs⟩,g) ⟨b1,b2,b3,hp⟩ (by simp only;omega);generalize fP T u=c at *;simp only[Tk.cells]at et;simp[-ah,-aa,ek,f0,et,k0,i1,q1,i2,q2,m1,ef];exact dx;rw[if_neg m1]at hp;have e3:=λaf=>Ek hT af (cg u);have e4:=λaf=>fB hT af (eA T (cg u)).2 [59] (by simp);have m1':¬(gs.length:Int)=8:=(by omega);have lJ:=dV (sz:=4) (bytes:=48) (r:=gs.map PD.cells) (new:=[(eA T (cg u)).1.cells]) (by simp[bN,PD.cells]) (by simp[cR];omega);have dx:=ih (dH T (eA T (cg u)).2 [59],⟨rs,gs++[(eA T (cg u)).1],fs⟩,g) ⟨b1,by simp;omega,b3,hp⟩ (by simp only;omega);simp only[List.map_append,List.map_cons,List.map_nil]at dx;generalize dH T (eA T (cg u)).2 [59]=r4 at *;generalize eA T (cg u)=pp at *;simp only[PD.cells]at e3 lJ dx;generalize fP T u=c at *;simp only[Tk.cells]at et;simp[-ah,-aa,ek,f0,et,k0,i1,q1,i2,q2,i3,q3,m1',rO,lZ,hw,e3,e4,lJ,aU,bG,ag,AV.view];exact dx
      |false=>
      cases q3:iD T u [102,117,110,99] with
      |true=>
       simp only[q1,q2,q3,true_and,Bool.false_eq_true,false_and,false_or,if_true,if_false]at hp;by_cases m1:fs.length=16;rw[if_pos m1]at hp;have dx:=ih (jr T u 4,⟨rs,gs,fs⟩,g) ⟨b1,b2,b3,hp⟩ (by simp only;omega);generalize fP T u=c at *;simp only[Tk.cells]at et;simp[-ah,-aa,ek,f0,et,k0,i1,q1,i2,q2,i3,q3,m1,ef];exact dx;rw[if_neg m1]at hp;obtain⟨⟨x,r2⟩,h3,h4⟩:=Option.bind_eq_some_iff.1 hp;have e3:=VY hT h3;have m1':¬(fs.length:Int)=16:=(by omega);have lJ:=dV (sz:=7) (bytes:=104) (r:=fs.map Fc.row) (new:=[x.row]) (by simp[bN,Fc.row]) (by simp[cR];omega);have dx:=ih (r2,⟨rs,gs,fs++[x]⟩,g) ⟨b1,b2,by simp;omega,h4⟩ (by simp only;omega);simp only[List.map_append,List.map_cons,List.map_nil]at dx;simp only[Fc.row]at e3 lJ dx;generalize fP T u=c at *;simp only[Tk.cells]at et;simp[-ah,-aa,ek,f0,et,k0,i1,q1,i2,q2,i3,q3,m1',rO,lZ,hw,e3,lJ,aU,bG,ag,AV.view];exact dx
      |false=>
       simp only[q1,q2,q3,Bool.false_eq_true,false_and,or_self,if_false]at hp;have dx:=ih (jr T u 2,⟨rs,gs,fs⟩,g) ⟨b1,b2,b3,hp⟩ (by simp only;omega);generalize fP T u=c at *;simp only[Tk.cells]at et;simp[-ah,-aa,ek,f0,et,k0,i1,q1,i2,q2,i3,q3,ef];exact dx
    rw[if_neg (λh=>f0 h.1)]at hp;simp only[Option.some.injEq,Prod.mk.injEq]at hp;obtain⟨rfl,rfl⟩:=hp;rw[if_neg f0];have ea:∀af bx,aV 0 af (.load true 2 false) [.val (.ptr 0 0 0 3)] [RQ.aT lv u] bx=some (.val (.agg [.int .i64 u.fe,.int .i64 u.fa]),[RQ.aT lv u],bx):=λaf bx=>by simp[RQ.aT,cut,AV.view]
    simp[-ah,-aa,ek,f0,ea,aU,bG,eC.bg,ag,AV.view,Pg.row,CJ]
 exact zero 4 0 (by decide) (by unfold lB;rw[if_neg hl]) (by unfold U2.HI;rw[U2.pq,decide_eq_false hl];rfl)
end N7
namespace N7
open Ax Go bu V7 jG U7
theorem SQ(s:List UInt8):Pg.In 6000 (lB s).1/\(lB s).1.few:=by
 unfold lB;split;rename_i hl;generalize htp:U2.Fo s=z;obtain⟨rows,e⟩:=z;cases e with
 |some e=>exact⟨HN,CL⟩|none=>
  obtain⟨ku,hlen⟩:=HW htp;obtain⟨x,hx⟩:=wA (rP rows);simp only;rw[hx,Option.getD_some];exact OI ⟨by decide,λy hy=>by
   have:=Z7 ku y hy;omega⟩ hx
 exact⟨HN,CL⟩
def iY(p:Pg):GD:=⟨aA 3 (p.aR.map Rc.row),aA 4 (p.globals.map PD.cells),aA 7 (p.funcs.map Fc.row)⟩
theorem Ai{sz:Nat}{r:List (List AV)}:sS (aA sz r)=true:=by simp[aA]
theorem wG{a:Int}(h:0<=a)(h2:a<=6000):TY a=true:=by simp only[TY,Bool.and_eq_true,decide_eq_true_eq];omega
theorem xH{sz:Nat}{r:List (List AV)}(h:bN sz r=true):bX sz (aA sz r)=true:=by
 cases r with
 |nil=>rfl|cons a r=>simp[bX,h]
theorem En{l:List PD}(h:∀p∈l,HM 6000 p):AZ (aA 4 (l.map PD.cells))=true:=by
 unfold AZ lT;rw[Ai,xH (by simp[bN,PD.cells]),aE];simp only[Bool.and_self,Bool.true_and,List.all_map,List.all_eq_true,Function.comp];intro p hp;obtain⟨h1,h2,h3,h4⟩:=h p hp;simp[Nb,PD.cells,wG h1 (by omega),wG h3 h4]
theorem SR{p:Pg}(h:Pg.In 6000 p):(iY p).ok:=by
 refine⟨?_,En h.g.2,?_⟩;unfold BP lT;show (sS (aA 3 (p.aR.map Rc.row))&&bX 3 (aA 3 (p.aR.map Rc.row))&&(aM (aA 3 (p.aR.map Rc.row))).all Gf)=true;rw[Ai,xH (by simp[bN,Rc.row]),aE];simp only[Bool.and_self,Bool.true_and,List.all_map,List.all_eq_true,Function.comp];intro r hr;have i:=h.r.2 r hr;simp[Gf,Rc.row,En i.f,wG i.a.1 i.a.2];unfold BQ lT;show (sS (aA 7 (p.funcs.map Fc.row))&&bX 7 (aA 7 (p.funcs.map Fc.row))&&(aM (aA 7 (p.funcs.map Fc.row))).all Gg)=true;rw[Ai,xH (by simp[bN,Fc.row]),aE];simp only[Bool.and_self,Bool.true_and,List.all_map,List.all_eq_true,Function.comp];intro r hr;have i:=h.f.2 r hr;simp[Gg,Fc.row,En i.f,wG i.a.1 i.a.2,wG i.od.1 (by have:=i.od.2;omega),aS,Ai]
theorem oe(l:List PD):iJ (aA 4 (l.map PD.cells))=l:=by
 simp only[iJ,aE,List.map_map];conv=>rhs;rw[<-List.map_id l]
 exact List.map_congr_left λp _=>rfl
def Fs(r:Rc):CR:=⟨r.name,aA 4 (r.cP.map PD.cells),r.a⟩
def Cp(f:Fc):FN:=⟨f.name,aA 4 (f.params.map PD.cells),f.bO,f.on,f.od,aS f.body,f.a⟩
theorem og(p:Pg):cj (iY p).aR=p.aR.map Fs:=by
 simp only[iY,cj,aE,List.map_map];exact List.map_congr_left λp _=>rfl
theorem mY(p:Pg):dN (iY p).funcs=p.funcs.map Cp:=by
 simp only[iY,dN,aE,List.map_map];exact List.map_congr_left λp _=>rfl
theorem Eo(p:Pg):iJ (iY p).globals=p.globals:=oe _
theorem SU{p:Pg}(h:Pg.In 6000 p):GD.sm (iY p):=by
 refine⟨?_,?_,?_,?_,?_⟩;rw[og,List.length_map];have:=h.r.1;omega;intro x hx;rw[og]at hx;obtain⟨r,hr,rfl⟩:=List.mem_map.1 hx;simp only[Fs,oe];have:=(h.r.2 r hr).len;omega;rw[Eo];have:=h.g.1;omega;rw[mY,List.length_map];have:=h.f.1;omega;intro x hx;rw[mY]at hx;obtain⟨r,hr,rfl⟩:=List.mem_map.1 hx;simp only[Cp,oe];have:=(h.f.2 r hr).len;omega
end N7
