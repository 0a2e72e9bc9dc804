/- Part of a proof. -/
import Derived.Test.YtachcambnjecnaaGreatCode2
import Derived.Test.YtachcambnjecnaaGreatP
import Derived.Test.YtachcambnjecnaaGreatL
import Derived.Test.YtachcambnjecnaaGreatM

set_option maxRecDepth 100000
set_option maxHeartbeats 8000000
namespace N7
open Ax Go bu V7 jG
section
variable {l:AV}{T:List Tk}(hT:TL l T)(af:Nat)(q:RQ)
theorem gC:(bh S).call 0 af 12 [.ptr 0 0 0 0] [q.aU l]=some (.bool (decide (q.fe=0)),[q.aU l]):=by
 refine ay (sf:=s12) rfl rfl rfl ?_;simp[s12,RQ.aU,cut,AV.view]
include hT
theorem nt:(bh S).call 0 af 13 [.ptr 0 0 0 0] [q.aU l]=some (.agg (fP T q).cells,[q.aU l]):=by
 have hs:=hT.sl;have hz:=hT.sz;have hr:=hT.rows;refine ay (sf:=s13) rfl rfl rfl ?_;have h0:¬(q.at_:Int)<0:=by omega
 by_cases h1:q.at_<T.length;have h2:¬(T.length:Int)<=(q.at_:Int):=by omega
 have hc:fP T q=T[q.at_]:=by simp[fP,h1]
 simp[s13,RQ.aU,cut,h0,h1,h2,hs,hz,hr,hc,Tk.cells,au,an,AV.view];have h2:(T.length:Int)<=(q.at_:Int):=by omega
 have hc:fP T q=Tk0:=by simp[fP,List.getD,List.getElem?_eq_none (Nat.le_of_not_lt h1)]
 simp[s13,RQ.aU,cut,h0,h2,hs,hr,hc,Tk.cells,au,an,AV.view]
theorem j7(s:List UInt8)(jn:s≠[]):(bh S).call 0 af 14 [.ptr 0 0 0 0,.str s] [q.aU l]=some (.bool (iD T q s),[q.aU l]):=by
 have et:=λaf=>nt hT af q;have eo:=λaf=>gC (l:=l) af q;cases s with
 |nil=>exact absurd rfl jn|cons c s=>
  obtain⟨v,hv⟩:∃v,iD T q (c::s)=v:=⟨_,rfl⟩;rw[hv];simp only[iD]at hv;refine ay (sf:=s14) rfl rfl rfl ?_;generalize fP T q=x at *;simp only[Tk.cells]at et;have lG:∀k:Int,yT (c::s)=k->v=(decide (q.fe=0)&&decide (x.k=k)&&decide (x.t=c::s)):=λk hk=>by rw[<-hv,hk]
  by_cases c1:97<=c.toNat;have d1:(97:Int)<=(c.toNat:Int):=by omega
  by_cases c2:c.toNat<=122;have d2:(c.toNat:Int)<=122:=by omega
  rw[lG 3 (by simp[yT,c1,c2])];by_cases f0:q.fe=0<;>by_cases f1:x.k=3<;>simp[s14,et,eo,d1,d2,f0,f1];have d2:¬(c.toNat:Int)<=122:=by omega
  rw[lG 4 (by simp[yT,c2])];by_cases f0:q.fe=0<;>by_cases f1:x.k=4<;>simp[s14,et,eo,d1,d2,f0,f1];have d1:¬(97:Int)<=(c.toNat:Int):=by omega
  rw[lG 4 (by simp[yT,c1])];by_cases f0:q.fe=0<;>by_cases f1:x.k=4<;>simp[s14,et,eo,d1,f0,f1]
theorem eX(e:Int):(bh S).call 0 af 15 [.ptr 0 0 0 0,.int .i64 e] [q.aU l]=some (.fm [],[(jr T q e).aU l]):=by
 have et:=λaf=>nt hT af q;have eo:=λaf=>gC (l:=l) af q;refine ay (sf:=s15) rfl rfl rfl ?_;unfold jr;generalize fP T q=x at *;simp only[Tk.cells]at et;by_cases f0:q.fe=0;simp only[RQ.aU,f0]at et eo;simp[s15,eo,et,RQ.aU,f0,cut,aQ,AV.ai,AV.ax,ag];simp[s15,eo,f0]
theorem fB(s:List UInt8)(jn:s≠[]):(bh S).call 0 af 18 [.ptr 0 0 0 0,.str s] [q.aU l]=some (.fm [],[(dK T q s).aU l]):=by
 have ei:=λaf=>j7 hT af q s jn;have ef:=λaf e=>eX hT af q e;have hlen:=hT.len;refine ay (sf:=s18) rfl rfl rfl ?_;unfold dK;cases hi:iD T q s with
 |false=>simp[s18,ei,hi,ef]|true=>
  have IS:=(bR hi).2;have hw:=wk q.at_ (by omega);simp only[RQ.aU,hi]at ei;simp[s18,ei,RQ.aU,cg,cut,aQ,AV.ai,AV.ax,ag,hw,AV.view]
theorem rO(s:List UInt8)(jn:s≠[]):(bh S).call 0 af 73 [.ptr 0 0 0 0,.str s] [q.aU l]=some (.fm [],[(jJ T q s).aU l]):=by
 have ei:=λaf=>j7 hT af q s jn;have ef:=λaf e=>eX hT af q e;have et:=λaf=>fB hT af q s jn;refine ay (sf:=s73) rfl rfl rfl ?_;unfold jJ;cases hi:iD T q s with
 |false=>
  generalize dK T q s=r at *;simp only[RQ.aU,hi]at ei et;simp[s73,ei,et,RQ.aU,wz,cut,aQ,AV.ai,AV.ax,ag,AV.view]
 |true=>
  by_cases h50:50<=q.op;simp only[RQ.aU,hi]at ei ef;simp[s73,ei,ef,RQ.aU,cut,h50,AV.view];generalize dK T q s=r at *;simp only[RQ.aU,hi]at ei et;simp[s73,ei,et,RQ.aU,wz,cut,h50,aQ,AV.ai,AV.ax,ag,AV.view]
theorem qT(s:List UInt8)(jn:s≠[]):(bh S).call 0 af 75 [.ptr 0 0 0 0,.str s] [q.aU l]=some (.fm [],[(mm T q s).aU l]):=by
 have et:=λaf=>fB hT af q s jn;have hw:∀n:Int,IntKind.i64.wrap (n-1)=IntKind.i64.wrap (n + -1):=λn=>by rw[Int.sub_eq_add_neg]
 refine ay (sf:=s75) rfl rfl rfl ?_;unfold mm;generalize dK T q s=r at *;simp only[RQ.aU]at et;simp[s75,et,RQ.aU,wz,cut,aQ,AV.ai,AV.ax,ag,AV.view,hw]
theorem nT:(bh S).call 0 af 38 [.ptr 0 0 0 0] [q.aU l]=some (.str (eA T q).1,[(eA T q).2.aU l]):=by
 have et:=λaf=>nt hT af q;have eo:=λaf=>gC (l:=l) af q;have ef:=λaf e=>eX hT af q e;have hlen:=hT.len;refine ay (sf:=s38) rfl rfl rfl ?_;unfold eA;have ef:=λaf=>ef af 2;generalize jr T q 2=r at *;generalize hx:fP T q=x at *;simp only[Tk.cells]at et;by_cases f0:q.fe=0;by_cases f1:x.k=1;simp only[RQ.aU,f0]at et eo;have IS:q.at_<T.length:=uH (by rw[hx,f1];decide);have hw:=wk q.at_ (by omega);simp[s38,et,eo,f0,f1,RQ.aU,cg,cut,aQ,AV.ai,AV.ax,ag,hw,AV.view];simp[s38,et,eo,f0,f1,ef];simp[s38,et,eo,f0,ef]
end
end N7
namespace N7
open Ax Go bu V7 jG
theorem aac{T:List Tk}{k d:Nat}{q:RQ}(h:iD T q [91]=false):JH T k d q=(d,q):=by
 cases k with
 |zero=>rfl|succ k=>unfold JH;rw[h];rfl
section
variable {l:AV}{T:List Tk}(hT:TL l T)(af:Nat)(q:RQ)
include hT
theorem JW:(bh S).call 0 af 39 [.ptr 0 0 0 0] [q.aU l]=some (.agg [.str (yw T q).1.1,.int .i64 (yw T q).1.2],[(yw T q).2.aU l]):=by
 have hlen:=hT.len;refine ay (sf:=s39) rfl rfl rfl ?_;generalize hF:yw T q=F;simp[s39];refine bf Rv.eq_1 (λx:RQ×Nat=>⟨[(0,.val (.ptr 0 0 0 0)),(2,.fp 0 0),(3,.val (.int .i64 x.2))],[[.str [],.int .i64 0],[]],[RQ.aU l x.1]⟩)
  (λx=>∃k,k+x.2=3/\JH T k x.2 x.1=JH T 3 0 q) (λx=>3-x.2) (q,0) ?_ ⟨3,rfl,rfl⟩ ?_
 rfl
 rintro⟨r,d⟩ ⟨k,hk,hL⟩ ih;simp only at hk hL ih;have ei:=λaf=>j7 hT af r [91] (by simp);unfold yw at hF;cases hi:iD T r [91] with
 |true=>
  obtain⟨i1,i2⟩:=bR hi;by_cases h3:d=3;have ef:=λaf e=>eX hT af r e;have XQ:k=0:=by omega
  subst h3 XQ;have hL':JH T 3 0 q=(3,r):=hL.symm;rw[hL',if_pos hi]at hF;subst hF;simp[ei,hi,ef];have Ku:¬(d:Int)=3:=by omega
  have hw:=wk r.at_ (by omega);have BO:=wk d (by omega);simp only[RQ.aU,hi]at ei;simp[ei,Ku,RQ.aU,cut,aQ,AV.ai,AV.ax,ag,hw,BO,AV.view];refine ih (cg r,d+1) ⟨k-1,by simp only;omega,?_⟩ (by simp only;omega);rw[<-hL];obtain⟨k',rfl⟩:∃k',k=k'+1:=⟨k-1,by omega⟩;conv=>rhs;unfold JH
  rw[if_pos hi]
  rfl
 |false=>
  rw[aac hi]at hL;rw[<-hL,if_neg (by rw[hi];simp)]at hF;dsimp only at hF;have en:=λaf=>nT hT af r;have ea:=λaf=>j7 hT af r [105,110,116] (by simp);have eb:=λaf=>j7 hT af r [98,111,111,108] (by simp);have et:=λaf=>nt hT af r;unfold ofN at hF;cases ha:iD T r [105,110,116] with
  |true=>
   obtain⟨i1,i2⟩:=bR ha;have hw:=wk r.at_ (by omega);simp only[RQ.aU,hi,ha]at ei ea et;rw[ha]at hF;simp only[Bool.true_or,if_true]at hF;generalize hc:fP T r=c at *;simp only[Tk.cells]at et;simp[ei,ea,et,RQ.aU,cut,aQ,AV.ai,AV.ax,ag,hw,AV.view];refine bf HC.eq_1 (λx:Nat=>⟨[(0,.val (.ptr 0 0 0 0)),(2,.fp 0 0),(3,.val (.int .i64 d)),(4,.fp 1 0),(5,.val (.int .i64 x))],[[.str [],.int .i64 0],[.str c.t,.int .i64 d]],[RQ.aU l (uE T (cg r) [93] x)]⟩)
    (λx=>x<=d) (λx=>d-x) 0 ?_ (by simp) ?_
   rfl
   intro x hx ihx;by_cases hxd:x<d;have hwx:=wk x (by omega);have ek:=λaf=>fB hT af (uE T (cg r) [93] x) [93] (by simp);have aeJ:(x:Int)<(d:Int):=(by omega);simp[hxd,ek,hwx];exact ihx (x+1) (by omega) (by omega);have:x=d:=by omega
   subst this;subst hF;simp
   rfl
  |false=>
   cases hb:iD T r [98,111,111,108] with
   |true=>
    obtain⟨i1,i2⟩:=bR hb;have hw:=wk r.at_ (by omega);simp only[RQ.aU,hi,ha,hb]at ei ea eb et;rw[ha,hb]at hF;simp only[Bool.false_or,if_true]at hF;generalize hc:fP T r=c at *;simp only[Tk.cells]at et;simp[ei,ea,eb,et,RQ.aU,cut,aQ,AV.ai,AV.ax,ag,hw,AV.view];refine bf HC.eq_1 (λx:Nat=>⟨[(0,.val (.ptr 0 0 0 0)),(2,.fp 0 0),(3,.val (.int .i64 d)),(4,.fp 1 0),(5,.val (.int .i64 x))],[[.str [],.int .i64 0],[.str c.t,.int .i64 d]],[RQ.aU l (uE T (cg r) [93] x)]⟩)
     (λx=>x<=d) (λx=>d-x) 0 ?_ (by simp) ?_
    rfl
    intro x hx ihx;by_cases hxd:x<d;have hwx:=wk x (by omega);have ek:=λaf=>fB hT af (uE T (cg r) [93] x) [93] (by simp);have aeJ:(x:Int)<(d:Int):=(by omega);simp[hxd,ek,hwx];exact ihx (x+1) (by omega) (by omega);have:x=d:=by omega
    subst this;subst hF;simp
    rfl
   |false=>
    rw[ha,hb]at hF;simp only[Bool.or_self,Bool.false_eq_true,if_false]at hF;generalize eA T r=z at *;simp[ei,ea,eb,hi,ha,hb,en,ag];refine bf HC.eq_1 (λx:Nat=>⟨[(0,.val (.ptr 0 0 0 0)),(2,.fp 0 0),(3,.val (.int .i64 d)),(4,.fp 1 0),(5,.val (.int .i64 x))],[[.str [],.int .i64 0],[.str z.1,.int .i64 d]],[RQ.aU l (uE T z.2 [93] x)]⟩)
     (λx=>x<=d) (λx=>d-x) 0 ?_ (by simp) ?_
    rfl
    intro x hx ihx;by_cases hxd:x<d;have hwx:=wk x (by omega);have ek:=λaf=>fB hT af (uE T z.2 [93] x) [93] (by simp);have aeJ:(x:Int)<(d:Int):=(by omega);simp[hxd,ek,hwx];exact ihx (x+1) (by omega) (by omega);have:x=d:=by omega
    subst this;subst hF;simp
theorem Ep:(bh S).call 0 af 17 [.ptr 0 0 0 0] [q.aU l]=some (.agg (eC T q).1.cells,[(eC T q).2.aU l]):=by
 have et:=λaf=>nt hT af q;have en:=λaf=>nT hT af q;have e2:=λaf=>fB hT af (eA T q).2 [58] (by simp);have e3:=λaf=>JW hT af (dK T (eA T q).2 [58]);refine ay (sf:=s17) rfl rfl rfl ?_;unfold eC;generalize yw T (dK T (eA T q).2 [58])=z3 at *;generalize dK T (eA T q).2 [58]=q2 at *;generalize eA T q=z at *;generalize fP T q=c at *;simp only[Tk.cells]at et;simp[-ah,-aa,s17,et,en,e2,e3,ag,AV.view,AV.ax,AV.ai,PD.cells]
end
theorem JX(wl af:Nat)(n:Nat)(hn:n<5)(c:Tk)(st:aj):(bh S).call wl af 116 [.int .i64 n,.agg c.cells] st=some (.int .i64 (uF n c),st):=by
 refine bN (sf:=Jv) rfl rfl (by simp[Tk.cells,AV.ax,AV.ai]) rfl (by simp) ?_;unfold uF;by_cases hk:c.k=4;rw[if_pos hk];have w1:IntKind.i64.wrap 1=1:=rfl;have w2:IntKind.i64.wrap 2=2:=rfl;have w3:IntKind.i64.wrap 3=3:=rfl;have w4:IntKind.i64.wrap 4=4:=rfl;have aeK:n=0\/n=1\/n=2\/n=3\/n=4:=by omega
 have w1:IntKind.i64.wrap 1=1:=rfl;have w2:IntKind.i64.wrap 2=2:=rfl;have w3:IntKind.i64.wrap 3=3:=rfl;have w4:IntKind.i64.wrap 4=4:=rfl;rcases aeK with h|h|h|h|h;subst h;simp[Jv,Tk.cells,hk];refine bf xz.eq_1 (λk:Nat=>⟨[(0,.val (.int .i64 0)),(3,.fp 0 0),(5,.val (.dM 1 [[.dM 1 [[.str [124,124]]]],[.dM 1 [[.str [38,38]]]],[.dM 1 [[.str [60]],[.str [60,61]],[.str [61,61]],[.str [33,61]]]],[.dM 1 [[.str [43]],[.str [45]]]],[.dM 1 [[.str [42]],[.str [47]],[.str [37]]]]])),(6,.val (.dM 1 [[.dM 1 [[.int .i64 24]]],[.dM 1 [[.int .i64 23]]],[.dM 1 [[.int .i64 19],[.int .i64 20],[.int .i64 21],[.int .i64 22]]],[.dM 1 [[.int .i64 14],[.int .i64 15]]],[.dM 1 [[.int .i64 16],[.int .i64 17],[.int .i64 18]]]])),(7,.val (.int .i64 k))],[[.int .i64 4,.str c.t,.int .i64 c.n,.int .i64 c.a]],[]⟩)
  (λk=>k<=1/\gz (eM 0) c.t=gz ((eM 0).drop k) c.t) (λk=>1-k) 0 (by simp) (by simp) ?_
 intro k ⟨Kw,hf⟩ ih;have hc:k=0\/k=1:=by omega
 rcases hc with h|h;subst h;by_cases e:[124,124]=c.t;rw[hf];simp[e,au,an,AV.view,eM,gz];simp[e,w1,au,an,AV.view];exact ih 1 ⟨by omega,by rw[hf];simp[eM,gz,e]⟩ (by omega);subst h;rw[hf];simp[AV.view,eM,gz];subst h;simp[Jv,Tk.cells,hk];refine bf xz.eq_1 (λk:Nat=>⟨[(0,.val (.int .i64 1)),(3,.fp 0 0),(5,.val (.dM 1 [[.dM 1 [[.str [124,124]]]],[.dM 1 [[.str [38,38]]]],[.dM 1 [[.str [60]],[.str [60,61]],[.str [61,61]],[.str [33,61]]]],[.dM 1 [[.str [43]],[.str [45]]]],[.dM 1 [[.str [42]],[.str [47]],[.str [37]]]]])),(6,.val (.dM 1 [[.dM 1 [[.int .i64 24]]],[.dM 1 [[.int .i64 23]]],[.dM 1 [[.int .i64 19],[.int .i64 20],[.int .i64 21],[.int .i64 22]]],[.dM 1 [[.int .i64 14],[.int .i64 15]]],[.dM 1 [[.int .i64 16],[.int .i64 17],[.int .i64 18]]]])),(7,.val (.int .i64 k))],[[.int .i64 4,.str c.t,.int .i64 c.n,.int .i64 c.a]],[]⟩)
  (λk=>k<=1/\gz (eM 1) c.t=gz ((eM 1).drop k) c.t) (λk=>1-k) 0 (by simp) (by simp) ?_
 intro k ⟨Kw,hf⟩ ih;have hc:k=0\/k=1:=by omega
 rcases hc with h|h;subst h;by_cases e:[38,38]=c.t;rw[hf];simp[e,au,an,AV.view,eM,gz];simp[e,w1,au,an,AV.view];exact ih 1 ⟨by omega,by rw[hf];simp[eM,gz,e]⟩ (by omega);subst h;rw[hf];simp[AV.view,eM,gz];subst h;simp[Jv,Tk.cells,hk];refine bf xz.eq_1 (λk:Nat=>⟨[(0,.val (.int .i64 2)),(3,.fp 0 0),(5,.val (.dM 1 [[.dM 1 [[.str [124,124]]]],[.dM 1 [[.str [38,38]]]],[.dM 1 [[.str [60]],[.str [60,61]],[.str [61,61]],[.str [33,61]]]],[.dM 1 [[.str [43]],[.str [45]]]],[.dM 1 [[.str [42]],[.str [47]],[.str [37]]]]])),(6,.val (.dM 1 [[.dM 1 [[.int .i64 24]]],[.dM 1 [[.int .i64 23]]],[.dM 1 [[.int .i64 19],[.int .i64 20],[.int .i64 21],[.int .i64 22]]],[.dM 1 [[.int .i64 14],[.int .i64 15]]],[.dM 1 [[.int .i64 16],[.int .i64 17],[.int .i64 18]]]])),(7,.val (.int .i64 k))],[[.int .i64 4,.str c.t,.int .i64 c.n,.int .i64 c.a]],[]⟩)
  (λk=>k<=4/\gz (eM 2) c.t=gz ((eM 2).drop k) c.t) (λk=>4-k) 0 (by simp) (by simp) ?_
 intro k ⟨Kw,hf⟩ ih;have hc:k=0\/k=1\/k=2\/k=3\/k=4:=by omega
 rcases hc with h|h|h|h|h;subst h;by_cases e:[60]=c.t;rw[hf];simp[e,au,an,AV.view,eM,gz];simp[e,w1,au,an,AV.view];exact ih 1 ⟨by omega,by rw[hf];simp[eM,gz,e]⟩ (by omega);subst h;by_cases e:[60,61]=c.t;rw[hf];simp[e,au,an,AV.view,eM,gz];simp[e,w2,au,an,AV.view];exact ih 2 ⟨by omega,by rw[hf];simp[eM,gz,e]⟩ (by omega);subst h;by_cases e:[61,61]=c.t;rw[hf];simp[e,au,an,AV.view,eM,gz];simp[e,w3,au,an,AV.view];exact ih 3 ⟨by omega,by rw[hf];simp[eM,gz,e]⟩ (by omega);subst h;by_cases e:[33,61]=c.t;rw[hf];simp[e,au,an,AV.view,eM,gz];simp[e,w4,au,an,AV.view];exact ih 4 ⟨by omega,by rw[hf];simp[eM,gz,e]⟩ (by omega);subst h;rw[hf];simp[AV.view,eM,gz];subst h;simp[Jv,Tk.cells,hk];refine bf xz.eq_1 (λk:Nat=>⟨[(0,.val (.int .i64 3)),(3,.fp 0 0),(5,.val (.dM 1 [[.dM 1 [[.str [124,124]]]],[.dM 1 [[.str [38,38]]]],[.dM 1 [[.str [60]],[.str [60,61]],[.str [61,61]],[.str [33,61]]]],[.dM 1 [[.str [43]],[.str [45]]]],[.dM 1 [[.str [42]],[.str [47]],[.str [37]]]]])),(6,.val (.dM 1 [[.dM 1 [[.int .i64 24]]],[.dM 1 [[.int .i64 23]]],[.dM 1 [[.int .i64 19],[.int .i64 20],[.int .i64 21],[.int .i64 22]]],[.dM 1 [[.int .i64 14],[.int .i64 15]]],[.dM 1 [[.int .i64 16],[.int .i64 17],[.int .i64 18]]]])),(7,.val (.int .i64 k))],[[.int .i64 4,.str c.t,.int .i64 c.n,.int .i64 c.a]],[]⟩)
  (λk=>k<=2/\gz (eM 3) c.t=gz ((eM 3).drop k) c.t) (λk=>2-k) 0 (by simp) (by simp) ?_
 intro k ⟨Kw,hf⟩ ih;have hc:k=0\/k=1\/k=2:=by omega
 rcases hc with h|h|h;subst h;by_cases e:[43]=c.t;rw[hf];simp[e,au,an,AV.view,eM,gz];simp[e,w1,au,an,AV.view];exact ih 1 ⟨by omega,by rw[hf];simp[eM,gz,e]⟩ (by omega);subst h;by_cases e:[45]=c.t;rw[hf];simp[e,au,an,AV.view,eM,gz];simp[e,w2,au,an,AV.view];exact ih 2 ⟨by omega,by rw[hf];simp[eM,gz,e]⟩ (by omega);subst h;rw[hf];simp[AV.view,eM,gz];subst h;simp[Jv,Tk.cells,hk];refine bf xz.eq_1 (λk:Nat=>⟨[(0,.val (.int .i64 4)),(3,.fp 0 0),(5,.val (.dM 1 [[.dM 1 [[.str [124,124]]]],[.dM 1 [[.str [38,38]]]],[.dM 1 [[.str [60]],[.str [60,61]],[.str [61,61]],[.str [33,61]]]],[.dM 1 [[.str [43]],[.str [45]]]],[.dM 1 [[.str [42]],[.str [47]],[.str [37]]]]])),(6,.val (.dM 1 [[.dM 1 [[.int .i64 24]]],[.dM 1 [[.int .i64 23]]],[.dM 1 [[.int .i64 19],[.int .i64 20],[.int .i64 21],[.int .i64 22]]],[.dM 1 [[.int .i64 14],[.int .i64 15]]],[.dM 1 [[.int .i64 16],[.int .i64 17],[.int .i64 18]]]])),(7,.val (.int .i64 k))],[[.int .i64 4,.str c.t,.int .i64 c.n,.int .i64 c.a]],[]⟩)
  (λk=>k<=3/\gz (eM 4) c.t=gz ((eM 4).drop k) c.t) (λk=>3-k) 0 (by simp) (by simp) ?_
 intro k ⟨Kw,hf⟩ ih;have hc:k=0\/k=1\/k=2\/k=3:=by omega
 rcases hc with h|h|h|h;subst h;by_cases e:[42]=c.t;rw[hf];simp[e,au,an,AV.view,eM,gz];simp[e,w1,au,an,AV.view];exact ih 1 ⟨by omega,by rw[hf];simp[eM,gz,e]⟩ (by omega);subst h;by_cases e:[47]=c.t;rw[hf];simp[e,au,an,AV.view,eM,gz];simp[e,w2,au,an,AV.view];exact ih 2 ⟨by omega,by rw[hf];simp[eM,gz,e]⟩ (by omega);subst h;by_cases e:[37]=c.t;rw[hf];simp[e,au,an,AV.view,eM,gz];simp[e,w3,au,an,AV.view];exact ih 3 ⟨by omega,by rw[hf];simp[eM,gz,e]⟩ (by omega);subst h;rw[hf];simp[AV.view,eM,gz];simp[Jv,Tk.cells,hk]
end N7
namespace N7
open Ax Go bu V7 jG
theorem rP{wl af:Nat}{l:AV}{q:RQ}{bx:bF}:aW wl af (.load false 1 false) [.val (.ptr 0 0 0 1)] [RQ.aU l q] bx=some (.val (.int .i64 q.at_),[RQ.aU l q],bx):=by
 simp[RQ.aU,cut,AV.view]
theorem aeL{wl af:Nat}{l:AV}{q:RQ}{bx:bF}:aW wl af (.load false 1 false) [.val (.ptr 0 0 0 2)] [RQ.aU l q] bx=some (.val (.int .i64 q.op),[RQ.aU l q],bx):=by
 simp[RQ.aU,cut,AV.view]
theorem lZ{af:Nat}{l:AV}{q:RQ}{bx:bF}:aW 0 af (.store 1) [.val (.ptr 0 0 0 1),.val (.int .i64 ((q.at_:Int)+1))] [RQ.aU l q] bx=some (.none,[RQ.aU l (cg q)],bx):=by
 simp[RQ.aU,cg,aQ,AV.ai,AV.ax,ag]
theorem Nq{af:Nat}{l:AV}{q:RQ}{n:Int}{bx:bF}:aW 0 af (.store 1) [.val (.ptr 0 0 0 2),.val (.int .i64 n)] [RQ.aU l q] bx=some (.none,[RQ.aU l ⟨q.at_,n,q.fe,q.fa⟩],bx):=by
 simp[RQ.aU,aQ,AV.ai,AV.ax,ag]
theorem aeM(n:Int):IntKind.i64.wrap (n-1)=IntKind.i64.wrap (n + -1):=by rw[Int.sub_eq_add_neg]
def tc(e:E)(kv:AV):List AV:=[.int .i64 e.k,.int .i64 e.n,.str e.nm,.str e.on,.int .i64 e.od,kv,.int .i64 e.a,.int .i64 e.ty.b,.int .i64 e.ty.r,.int .i64 e.ty.d,.int .i64 e.cH]
theorem xI(e:E):tc e (aI e.aC)=e.row:=(E.az e).symm
def XR(l:AV)(T:List Tk)(f:Nat):Prop:=∀n q e r,n<=5->js T f n q=some (e,r)->∀af,(bh S).call 0 af 96 [.ptr 0 0 0 0,.int .i64 (n:Nat)] [q.aU l]=some (.agg e.row,[r.aU l])
def OkU(l:AV)(T:List Tk)(f:Nat):Prop:=∀q e r,qa T f q=some (e,r)->∀af,(bh S).call 0 af 115 [.ptr 0 0 0 0] [q.aU l]=some (.agg e.row,[r.aU l])
def AL(l:AV)(T:List Tk)(f:Nat):Prop:=∀a q e r,kE T f a q=some (e,r)->∀kv,aD kv=true->kv.view=aI a.aC->∀af,(bh S).call 0 af 133 [.ptr 0 0 0 0,.agg (tc a kv)] [q.aU l]=some (.agg e.row,[r.aU l])
def xY(l:AV)(T:List Tk)(f:Nat):Prop:=∀q e r,nV T f q=some (e,r)->∀af,(bh S).call 0 af 146 [.ptr 0 0 0 0] [q.aU l]=some (.agg e.row,[r.aU l])
def OkF(l:AV)(T:List Tk)(f:Nat):Prop:=∀q e r,qb T f q=some (e,r)->∃kv,aD kv=true/\kv.view=aI e.aC/\∀af,(bh S).call 0 af 134 [.ptr 0 0 0 0] [q.aU l]=some (.agg (tc e kv),[r.aU l])
def OkN(l:AV)(T:List Tk)(f:Nat):Prop:=∀a q e r,qc T f a q=some (e,r)->∀af,(bh S).call 0 af 145 [.ptr 0 0 0 0,.int .i64 a] [q.aU l]=some (.agg e.row,[r.aU l])
def OkA(l:AV)(T:List Tk)(f:Nat):Prop:=∀q e r,uX T f q=some (e,r)->∀af,(bh S).call 0 af 147 [.ptr 0 0 0 0] [q.aU l]=some (bD 11 (E.rows e),[r.aU l])
section
variable {l:AV}{T:List Tk}(hT:TL l T)
include hT
theorem SM(f:Nat)(hE:XR l T f):xY l T (f+1):=by
 intro q e r h af;unfold nV at h;obtain⟨⟨x1,x2⟩,h1,h2⟩:=Option.bind_eq_some_iff.1 h;cases h2;have eo:=λaf=>rO hT af q [40] (by simp);have e1:=hE 0 _ _ _ (by omega) h1;have ec:=λaf=>qT hT af x2 [41] (by simp);generalize jJ T q [40]=q1 at *;generalize mm T x2 [41]=r1 at *;obtain⟨k2,n2,PC,PI,PJ,uZ,a2,B0,Cq⟩:=x1;simp only[E.row,Int.natCast_zero]at e1;refine ay (sf:=ZL) rfl rfl rfl ?_;simp[ZL,eo,e1,ec,E.row,ag,AV.ax,AV.ai,AV.view]
theorem SN(f:Nat)(hI:xY l T f):OkN l T (f+1):=by
 intro at_ q e r h af;have hlen:=hT.len;unfold qc at h;have ei:=λaf=>j7 hT af q [91] (by simp);refine ay (sf:=VA) rfl rfl rfl ?_;cases hi:iD T q [91] with
 |false=>
  rw[hi]at h;simp only[Bool.false_eq_true,if_false,Option.some.injEq,Prod.mk.injEq]at h;obtain⟨rfl,rfl⟩:=h;have en:=λaf=>nT hT af q;generalize eA T q=z at *;simp[VA,ei,hi,en,Em,E.row,E.rows,ag,AV.ax,AV.ai]
 |true=>
  rw[hi]at h;simp only[if_true]at h;obtain⟨⟨x1,x2⟩,h1,h2⟩:=Option.bind_eq_some_iff.1 h;cases h2;obtain⟨i1,i2⟩:=bR hi;have hw:=wk q.at_ (by omega);have e1:=λaf=>JW hT af (cg q);have et:=λaf=>fB hT af (yw T (cg q)).2 [93] (by simp);have e3:=hI _ _ _ h1;generalize dK T (yw T (cg q)).2 [93]=r2 at *;generalize yw T (cg q)=o at *;obtain⟨k2,n2,PC,PI,PJ,uZ,a2,B0,Cq⟩:=x1;simp only[E.row]at e3;simp[-ah,-aa,VA,ei,hi,rP,lZ,hw,e1,et,e3,Em,E.row,E.rows,au,an,ag,AV.ax,AV.ai,AV.view]
theorem VZ(f:Nat)(hE:∀g,g<=f->XR l T g):OkA l T (f+1):=by
 intro q e r h af;have hlen:=hT.len;unfold uX at h;have eo:=λaf=>rO hT af q [40] (by simp);refine ay (sf:=VB) rfl rfl rfl ?_;generalize jJ T q [40]=q1 at *;have ei:=λaf=>j7 hT af q1 [41] (by simp);cases hi:iD T q1 [41] with
 |true=>
  rw[hi]at h;simp only[if_true,Option.some.injEq,Prod.mk.injEq]at h;obtain⟨rfl,rfl⟩:=h;have ec:=λaf=>qT hT af q1 [41] (by simp);generalize mm T q1 [41]=r1 at *;simp[VB,eo,ei,hi,ec,E.rows,jB]
 |false=>
  rw[hi]at h;simp only[Bool.false_eq_true,if_false]at h;obtain⟨⟨x1,x2⟩,h1,h2⟩:=Option.bind_eq_some_iff.1 h;have e1:=hE f (Nat.le_refl _) 0 _ _ _ (by omega) h1;have g1:=iX h1;have hx:nI 11 120 .U [x1.row]=some (bD 11 (E.rows [x1])):=by
   have:=dV (sz:=11) (bytes:=120) (r:=[]) (new:=[x1.row]) (by simp[bL,E.az]) (by simp[cT]);simpa [jB,E.rows] using this
  obtain⟨F,hF⟩:∃F,(bD 11 (E.rows e),[RQ.aU l r])=F:=⟨_,rfl⟩;obtain⟨k2,n2,PC,PI,PJ,uZ,a2,B0,Cq⟩:=x1;simp only[E.row,Int.natCast_zero]at e1 hx;simp[VB,eo,ei,hi,e1,hx,AV.view];refine bf M7.eq_1 (λx:RQ×List E×Nat=>⟨[(0,.val (.ptr 0 0 0 0)),(3,.val (bD 11 (E.rows x.2.1)))],[],[RQ.aU l x.1]⟩)
   (λx=>x.2.2<=f/\x.2.1.length<=x.1.at_+1/\tH T x.2.2 x.2.1 x.1=some (e,r)) (λx=>x.2.2) (x2,[E.mk k2 n2 PC PI PJ uZ a2 B0 Cq],f) rfl ⟨Nat.le_refl _,by simp,h2⟩ ?_
  rintro⟨s,es,g⟩ ⟨hg,B1,hp⟩ ih;simp only at hg B1 hp ih;have ej:=λaf=>j7 hT af s [44] (by simp);cases g with
  |zero=>simp[tH]at hp|succ g=>
   unfold tH at hp;cases hj:iD T s [44] with
   |true=>
    rw[hj]at hp;simp only[if_true]at hp;obtain⟨⟨y1,y2⟩,h3,h4⟩:=Option.bind_eq_some_iff.1 hp;obtain⟨i1,i2⟩:=bR hj;have mI:=wk s.at_ (by omega);have e2:=hE g (by omega) 0 _ _ _ (by omega) h3;have g2:=(iX h3).le;have Bf:=dV (sz:=11) (bytes:=120) (r:=E.rows es) (new:=[y1.row]) (by simp[bL,E.az]) (by simp[cT,gh];omega);have V1:E.rows es++[y1.row]=E.rows (es++[y1]):=(by simp[gh]);rw[V1]at Bf;have dy:=ih (y2,es++[y1],g) ⟨by simp only;omega,by simp[cg]at g2 ⊢;omega,h4⟩ (by simp only;omega);generalize E.rows (es++[y1])=R at *;obtain⟨k3,n3,nm3,on3,od3,akT,a3,ty3,amJ⟩:=y1;simp only[E.row,Int.natCast_zero]at e2 Bf;simp[-ah,-aa,ej,hj,rP,lZ,mI,e2,Bf,AV.view];exact dy
   |false=>
    rw[hj]at hp;simp only[Bool.false_eq_true,if_false,Option.some.injEq,Prod.mk.injEq]at hp;obtain⟨rfl,rfl⟩:=hp;have ec:=λaf=>qT hT af s [41] (by simp);generalize mm T s [41]=r1 at *;simp[ej,hj,ec]
end
end N7
namespace N7
open Ax Go bu V7 jG
section
variable {l:AV}{T:List Tk}(hT:TL l T)
include hT
theorem SO(f:Nat)(hN:OkN l T f)(hI:xY l T f)(hA:OkA l T f):OkF l T (f+1):=by
 intro q e r h;have hlen:=hT.len;have et:=λaf=>nt hT af q;have eo:=λaf=>gC (l:=l) af q;have ei:=λaf s hs=>j7 hT af q s hs;have VW:=λs (h:iD T q s=true)=>Gn h;have IS:(fP T q).k≠0->q.at_<T.length:=uH;unfold qb at h;generalize hc:fP T q=c at *;simp only[Tk.cells]at et;have hw:q.at_<T.length->IntKind.i64.wrap ((q.at_:Int)+1)=((q.at_+1:Nat):Int):=λh=>by rw[ee]<;>omega
 have Gd:∀s,iD T q s=true->IntKind.i64.wrap ((q.at_:Int)+1)=((q.at_+1:Nat):Int):=λs h=>hw (bR h).2;by_cases c0:q.fe=0/\c.k=2;rw[if_pos c0]at h;cases h;have hw:=hw (IS (by rw[c0.2];decide));refine⟨.U,rfl,by simp[Em,E.aC,qC,AV.view],λaf=>?_⟩;refine ay (sf:=rE) rfl rfl rfl ?_;simp[-ah,-aa,rE,et,eo,c0.1,c0.2,rP,lZ,hw,ag,AV.ax,AV.ai,tc,Em,E.k,E.n,E.nm,E.on,E.od,E.a,E.ty,E.cH];rw[if_neg c0]at h;by_cases xZ:q.fe=0
 ·have Py:¬c.k=2:=λh=>c0 ⟨xZ,h⟩;cases h1:iD T q [116,114,117,101] with
  |true=>
   rw[h1]at h;simp only[Bool.true_or,if_true,Option.some.injEq,Prod.mk.injEq]at h;obtain⟨rfl,rfl⟩:=h;have hw:=Gd _ h1;have ht:=VW _ h1;refine⟨.U,rfl,by simp[Em,E.aC,qC,AV.view],λaf=>?_⟩;refine ay (sf:=rE) rfl rfl rfl ?_;simp[-ah,-aa,rE,et,eo,xZ,Py,ei,h1,rP,lZ,hw,ht,ag,AV.ax,AV.ai,tc,Em,E.k,E.n,E.nm,E.on,E.od,E.a,E.ty,E.cH]
  |false=>
  cases h2:iD T q [102,97,108,115,101] with
  |true=>
   rw[h1,h2]at h;simp only[Bool.false_or,if_true,Option.some.injEq,Prod.mk.injEq]at h;obtain⟨rfl,rfl⟩:=h;have hw:=Gd _ h2;have ht:=VW _ h2;refine⟨.U,rfl,by simp[Em,E.aC,qC,AV.view],λaf=>?_⟩;refine ay (sf:=rE) rfl rfl rfl ?_;simp[-ah,-aa,rE,et,eo,xZ,Py,ei,h1,h2,rP,lZ,hw,ht,ag,AV.ax,AV.ai,tc,Em,E.k,E.n,E.nm,E.on,E.od,E.a,E.ty,E.cH]
  |false=>
  rw[h1,h2]at h;simp only[Bool.or_self,Bool.false_eq_true,if_false]at h;cases h3:iD T q [110,117,108,108] with
  |true=>
   rw[h3]at h;simp only[if_true,Option.some.injEq,Prod.mk.injEq]at h;obtain⟨rfl,rfl⟩:=h;have hw:=Gd _ h3;have e1:=λaf=>JW hT af (cg q);generalize yw T (cg q)=o at *;refine⟨.U,rfl,by simp[Em,E.aC,qC,AV.view],λaf=>?_⟩;refine ay (sf:=rE) rfl rfl rfl ?_;simp[-ah,-aa,rE,et,eo,xZ,Py,ei,h1,h2,h3,rP,lZ,hw,e1,ag,AV.ax,AV.ai,au,an,tc,Em,E.k,E.n,E.nm,E.on,E.od,E.a,E.ty,E.cH]
  |false=>
  rw[h3]at h;simp only[Bool.false_eq_true,if_false]at h;cases h4:iD T q [110,101,119] with
  |true=>
   rw[h4]at h;simp only[if_true]at h;have hw:=Gd _ h4;have e1:=hN _ _ _ _ h;refine⟨aI e.aC,by simp,by simp,λaf=>?_⟩;rw[xI];obtain⟨k2,n2,PC,PI,PJ,uZ,a2,B0,Cq⟩:=e;simp only[E.row]at e1 ⊢;refine ay (sf:=rE) rfl rfl rfl ?_;simp[-ah,-aa,rE,et,eo,xZ,Py,ei,h1,h2,h3,h4,rP,lZ,hw,e1,ag,AV.ax,AV.ai]
  |false=>
  rw[h4]at h;simp only[Bool.false_eq_true,if_false]at h;cases h5:iD T q [108,101,110] with
  |true=>
   rw[h5]at h;simp only[if_true]at h;have hw:=Gd _ h5;obtain⟨⟨x1,x2⟩,h8,h9⟩:=Option.bind_eq_some_iff.1 h;cases h9;have e1:=hI _ _ _ h8;refine⟨_,by simp,aN,λaf=>?_⟩;rw[xI];obtain⟨k2,n2,PC,PI,PJ,uZ,a2,B0,Cq⟩:=x1;simp only[E.row]at e1;refine ay (sf:=rE) rfl rfl rfl ?_;simp[-ah,-aa,rE,et,eo,xZ,Py,ei,h1,h2,h3,h4,h5,rP,lZ,hw,e1,ag,AV.ax,AV.ai,AV.view,au,an,Em,E.row,E.rows]
  |false=>
  rw[h5]at h;simp only[Bool.false_eq_true,if_false]at h;cases h6:iD T q [114,101,97,100] with
  |true=>
   rw[h6]at h;simp only[if_true,Option.some.injEq,Prod.mk.injEq]at h;obtain⟨rfl,rfl⟩:=h;have hw:=Gd _ h6;have ep:=λaf=>rO hT af (cg q) [40] (by simp);have eq:=λaf=>qT hT af (jJ T (cg q) [40]) [41] (by simp);refine⟨.U,rfl,by simp[Em,E.aC,qC,AV.view],λaf=>?_⟩;refine ay (sf:=rE) rfl rfl rfl ?_;simp[-ah,-aa,rE,et,eo,xZ,Py,ei,h1,h2,h3,h4,h5,h6,rP,lZ,hw,ep,eq,ag,AV.ax,AV.ai,tc,Em,E.k,E.n,E.nm,E.on,E.od,E.a,E.ty,E.cH]
  |false=>
  rw[h6]at h;simp only[Bool.false_eq_true,if_false]at h;cases h7:iD T q [40] with
  |true=>
   rw[h7]at h;simp only[if_true]at h;have e1:=hI _ _ _ h;refine⟨aI e.aC,by simp,by simp,λaf=>?_⟩;rw[xI];obtain⟨k2,n2,PC,PI,PJ,uZ,a2,B0,Cq⟩:=e;simp only[E.row]at e1 ⊢;refine ay (sf:=rE) rfl rfl rfl ?_;simp[-ah,-aa,rE,et,eo,xZ,Py,ei,h1,h2,h3,h4,h5,h6,h7,e1,ag,AV.ax,AV.ai]
  |false=>
   rw[h7]at h;simp only[Bool.false_eq_true,if_false]at h;have en:=λaf=>nT hT af q;generalize eA T q=z at *;have ez:=λaf=>j7 hT af z.2 [40] (by simp);cases h8:iD T z.2 [40] with
   |false=>
    rw[h8]at h;simp only[Bool.false_eq_true,if_false,Option.some.injEq,Prod.mk.injEq]at h;obtain⟨rfl,rfl⟩:=h;refine⟨.U,rfl,by simp[Em,E.aC,qC,AV.view],λaf=>?_⟩;refine ay (sf:=rE) rfl rfl rfl ?_;simp[-ah,-aa,rE,et,eo,xZ,Py,ei,h1,h2,h3,h4,h5,h6,h7,en,ez,h8,ag,AV.ax,AV.ai,tc,Em,E.k,E.n,E.nm,E.on,E.od,E.a,E.ty,E.cH]
   |true=>
    rw[h8]at h;simp only[if_true]at h;obtain⟨⟨x1,x2⟩,h9,AP⟩:=Option.bind_eq_some_iff.1 h;cases AP;have e1:=hA _ _ _ h9;have hk:aD (bD 11 (E.rows x1))=true:=bY;have hv:(bD 11 (E.rows x1)).view=aI x1:=rfl;generalize bD 11 (E.rows x1)=kv at *;have hkc:=bU hk;have hkp:=ck hk;refine⟨kv,hk,hv,λaf=>?_⟩;refine ay (sf:=rE) rfl rfl rfl ?_;simp[-ah,-aa,rE,et,eo,xZ,Py,ei,h1,h2,h3,h4,h5,h6,h7,en,ez,h8,e1,hk,ag,AV.ax,AV.ai,au,an,tc,Em,E.k,E.n,E.nm,E.on,E.od,E.a,E.ty,E.cH]
 have jy:∀s,iD T q s=false:=λs=>VL xZ;have en:=λaf=>nT hT af q;have hz:eA T q=([],q):=by simp[eA,xZ,jr]
 rw[hz]at en;simp only[jy,hz,Bool.or_self,Bool.false_eq_true,if_false,Option.some.injEq,Prod.mk.injEq]at h;obtain⟨rfl,rfl⟩:=h;refine⟨.U,rfl,by simp[Em,E.aC,qC,AV.view],λaf=>?_⟩;refine ay (sf:=rE) rfl rfl rfl ?_;simp[-ah,-aa,rE,et,eo,xZ,ei,jy,en,ag,AV.ax,AV.ai,tc,Em,E.k,E.n,E.nm,E.on,E.od,E.a,E.ty,E.cH]
theorem OX(f:Nat)(hE:∀g,g<f->XR l T g):AL l T f:=by
 intro a0 q e r h kv0 XQ hv0 af;have hlen:=hT.len;have ai1:=bU XQ;refine ay (sf:=ZH) rfl rfl rfl ?_;simp[ZH,tc,ai1];refine bf M6.eq_1 (λx:RQ×E×AV×Nat×List AV×List AV=>⟨[(0,.val (.ptr 0 0 0 0)),(3,.fp 0 0),(4,.fp 1 0)],
   [tc x.2.1 x.2.2.1,[.int .i64 0,.int .i64 0,.str [],.str [],.int .i64 0,.U,.int .i64 0,.int .i64 0,.int .i64 0,.int .i64 0,.int .i64 0],x.2.2.2.2.1,x.2.2.2.2.2],[RQ.aU l x.1]⟩)
  (λx=>x.2.2.2.1<=f/\aD x.2.2.1=true/\x.2.2.1.view=aI x.2.1.aC/\kE T x.2.2.2.1 x.2.1 x.1=some (e,r)) (λx=>x.2.2.2.1) (q,a0,kv0,f,[],[]) rfl ⟨Nat.le_refl _,XQ,hv0,h⟩ ?_
 rintro⟨s,a,kv,g,b2,b3⟩ ⟨hg,hk,hv,hp⟩ ih;simp only at hg hk hv hp ih;have hkc:=bU hk;have hkp:=ck hk;have ed:=λaf=>j7 hT af s [46] (by simp);have eb:=λaf=>j7 hT af s [91] (by simp);have et:=λaf=>nt hT af s;have cZ:E.rows [a]=[tc a (aI a.aC)]:=by rw[xI];simp[E.rows]
 cases g with
 |zero=>simp[kE]at hp|succ g=>
  unfold kE at hp;cases h1:iD T s [46] with
  |true=>
   rw[h1]at hp;simp only[if_true]at hp;obtain⟨i1,i2⟩:=bR h1;have hw:=wk s.at_ (by omega);have en:=λaf=>nT hT af (cg s);generalize eA T (cg s)=z at *;generalize fP T s=c at *;simp only[Tk.cells]at et;have dy:=λb2 b3=>ih (z.2,Em 5 0 z.1 [] 0 [a] c.a,aI [a],g,b2,b3) ⟨by simp only;omega,by simp,by simp[Em,E.aC],hp⟩ (by simp only;omega);simp[-ah,-aa,ed,h1,et,rP,lZ,hw,en,hv,ag,AV.view,au,an,tc];have:=dy [.int .i64 c.k,.str c.t,.int .i64 c.n,.int .i64 c.a] b3;simp[tc,Em,E.k,E.n,E.nm,E.on,E.od,E.a,E.ty,E.cH,aI,cZ]at this;exact this
  |false=>
   rw[h1]at hp;simp only[Bool.false_eq_true,if_false]at hp;cases h2:iD T s [91] with
   |true=>
    rw[h2]at hp;simp only[if_true]at hp;obtain⟨⟨x1,x2⟩,h3,h4⟩:=Option.bind_eq_some_iff.1 hp;have eo:=λaf=>rO hT af s [91] (by simp);have e1:=hE g (by omega) 0 _ _ _ (by omega) h3;have ec:=λaf=>qT hT af x2 [93] (by simp);generalize jJ T s [91]=q1 at *;simp only at h4;generalize mm T x2 [93]=q3 at *;generalize fP T s=c at *;simp only[Tk.cells]at et;have JY:E.rows [a,x1]=[tc a (aI a.aC),x1.row]:=(by rw[xI];simp[E.rows]);have dy:=λb2 b3=>ih (q3,Em 6 0 [] [] 0 [a,x1] c.a,aI [a,x1],g,b2,b3) ⟨by simp only;omega,by simp,by simp[Em,E.aC],h4⟩ (by simp only;omega);obtain⟨k2,n2,PC,PI,PJ,uZ,a2,B0,Cq⟩:=x1;simp only[E.row,Int.natCast_zero]at e1 JY;simp[-ah,-aa,ed,eb,h1,h2,et,eo,e1,ec,hv,ag,AV.view,tc];have:=dy [.int .i64 c.k,.str c.t,.int .i64 c.n,.int .i64 c.a] [.int .i64 k2,.int .i64 n2,.str PC,.str PI,.int .i64 PJ,aA 11 (E.rows uZ),.int .i64 a2,.int .i64 B0.b,.int .i64 B0.r,.int .i64 B0.d,.int .i64 Cq];simp[tc,Em,E.k,E.n,E.nm,E.on,E.od,E.a,E.ty,E.cH,aI,JY]at this;exact this
   |false=>
    rw[h2]at hp;simp only[Bool.false_eq_true,if_false,Option.some.injEq,Prod.mk.injEq]at hp;obtain⟨rfl,rfl⟩:=hp;rw[<-xI];simp[-ah,-aa,ed,eb,h1,h2,hv,ag,AV.ax,AV.ai,tc]
theorem SQ(f:Nat)(hE:XR l T f)(hF:OkF l T f)(hB:AL l T f):OkU l T (f+1):=by
 intro q e r h af;have hlen:=hT.len;have et:=λaf=>nt hT af q;have em:=λaf=>j7 hT af q [45] (by simp);have en:=λaf=>j7 hT af q [33] (by simp);unfold qa at h;refine ay (sf:=Sb) rfl rfl rfl ?_;cases h1:iD T q [45] with
 |true=>
  rw[h1]at h;simp only[Bool.true_or,if_true]at h;obtain⟨⟨x1,x2⟩,h3,h4⟩:=Option.bind_eq_some_iff.1 h;cases h4;have hc:=Gn h1;rw[hc]at h3;have eo:=λaf=>rO hT af q [45] (by simp);have e1:=hE 5 _ _ _ (by omega) h3;generalize jJ T q [45]=q1 at *;generalize fP T q=c at *;obtain⟨k2,n2,PC,PI,PJ,uZ,a2,B0,Cq⟩:=x1;simp only[Tk.cells]at et;simp only[E.row,Int.cast_ofNat_Int]at e1;simp[-ah,-aa,Sb,et,em,h1,hc,eo,e1,aeL,Nq,wz,aeM,ag,AV.view,AV.ax,AV.ai,Em,E.row,E.rows]
 |false=>
  cases h2:iD T q [33] with
  |true=>
   rw[h1,h2]at h;simp only[Bool.false_or,if_true]at h;obtain⟨⟨x1,x2⟩,h3,h4⟩:=Option.bind_eq_some_iff.1 h;cases h4;have hc:=Gn h2;rw[hc]at h3;have eo:=λaf=>rO hT af q [33] (by simp);have e1:=hE 5 _ _ _ (by omega) h3;generalize jJ T q [33]=q1 at *;generalize fP T q=c at *;obtain⟨k2,n2,PC,PI,PJ,uZ,a2,B0,Cq⟩:=x1;simp only[Tk.cells]at et;simp only[E.row,Int.cast_ofNat_Int]at e1;simp[-ah,-aa,Sb,et,em,en,h1,h2,hc,eo,e1,aeL,Nq,wz,aeM,ag,AV.view,AV.ax,AV.ai,Em,E.row,E.rows]
  |false=>
   rw[h1,h2]at h;simp only[Bool.or_self,Bool.false_eq_true,if_false]at h;obtain⟨⟨x1,x2⟩,h3,h4⟩:=Option.bind_eq_some_iff.1 h;obtain⟨kv,hk,hv,e1⟩:=hF _ _ _ h3;have e3:=hB _ _ _ _ h4 kv hk hv;obtain⟨k2,n2,PC,PI,PJ,uZ,a2,B0,Cq⟩:=e;have hkc:=bU hk;have hkp:=ck hk;simp only[E.row]at e3 ⊢;generalize tc x1 kv=R at *;generalize fP T q=c at *;simp only[Tk.cells]at et;simp[-ah,-aa,Sb,et,em,en,h1,h2,e1,e3,ag,AV.ax,AV.ai]
theorem OY(f:Nat)(hE:∀g,g<=f->XR l T g)(hU:OkU l T f):XR l T (f+1):=by
 intro n q e r hn h af;have hlen:=hT.len;unfold js at h;refine ay (sf:=s96) rfl rfl rfl ?_;by_cases hn5:n=5;subst hn5;rw[if_pos rfl]at h;have e1:=hU _ _ _ h;obtain⟨k2,n2,PC,PI,PJ,uZ,a2,B0,Cq⟩:=e;simp only[E.row]at e1 ⊢;simp[-ah,-aa,s96,e1,ag,AV.ax,AV.ai];rw[if_neg hn5]at h;obtain⟨⟨x1,x2⟩,h1,h2⟩:=Option.bind_eq_some_iff.1 h;have ai2:¬(n:Int)=5:=by omega
 have HY:=wk n (by omega);have e1:=hE f (Nat.le_refl _) (n+1) _ _ _ (by omega) h1;have cZ:∀e:E,e.row=[.int .i64 e.k,.int .i64 e.n,.str e.nm,.str e.on,.int .i64 e.od,aI e.aC,.int .i64 e.a,.int .i64 e.ty.b,.int .i64 e.ty.r,.int .i64 e.ty.d,.int .i64 e.cH]:=E.az;simp only[cZ,Int.natCast_add,Int.cast_ofNat_Int]at e1;simp[-ah,-aa,s96,ai2,HY,e1,ag];refine bf Sa.eq_1 (λx:RQ×E×Nat×List AV×List AV=>⟨[(0,.val (.ptr 0 0 0 0)),(1,.val (.int .i64 n)),(4,.fp 0 0),(5,.fp 1 0)],
   [[.int .i64 0,.int .i64 0,.str [],.str [],.int .i64 0,.U,.int .i64 0,.int .i64 0,.int .i64 0,.int .i64 0,.int .i64 0],
    [.int .i64 x.2.1.k,.int .i64 x.2.1.n,.str x.2.1.nm,.str x.2.1.on,.int .i64 x.2.1.od,aI x.2.1.aC,.int .i64 x.2.1.a,.int .i64 x.2.1.ty.b,.int .i64 x.2.1.ty.r,.int .i64 x.2.1.ty.d,.int .i64 x.2.1.cH],x.2.2.2.1,x.2.2.2.2],[RQ.aU l x.1]⟩)
  (λx=>x.2.2.1<=f/\oS T x.2.2.1 n x.2.1 x.1=some (e,r)) (λx=>x.2.2.1) (x2,x1,f,[],[]) rfl ⟨Nat.le_refl _,h2⟩ ?_
 rintro⟨s,a,g,b2,b3⟩ ⟨hg,hp⟩ Gy;simp only at hg hp Gy;have eo:=λaf=>gC (l:=l) af s;have et:=λaf=>nt hT af s;have elp:=λwl af=>JX wl af n (by omega) (fP T s) [RQ.aU l s];cases g with
 |zero=>simp[oS]at hp|succ g=>
  unfold oS at hp;by_cases Uj:s.fe=0/\uF n (fP T s)≠0;rw[if_pos Uj]at hp;obtain⟨f0,z0⟩:=Uj;obtain⟨⟨y1,y2⟩,h3,h4⟩:=Option.bind_eq_some_iff.1 hp;have IS:=zV z0;have hw:=wk s.at_ (by omega);have e3:=hE g (by omega) (n+1) _ _ _ (by omega) h3;have aeN:=λwl af st=>JX wl af n (by omega) (fP T s) st;simp only[cZ,Int.natCast_add,Int.cast_ofNat_Int]at e3;have JY:E.rows [a,y1]=[a.row,y1.row]:=by simp[E.rows]
  simp only[cZ]at JY;generalize uF n (fP T s)=z at *;have dy:=λb2 b3=>Gy (y2,Em z 0 [] [] 0 [a,y1] (fP T s).a,g,b2,b3) ⟨by simp only;omega,h4⟩ (by simp only;omega);generalize fP T s=c at *;simp only[Tk.cells]at et elp aeN;simp[-ah,-aa,eo,f0,et,aeN,z0,rP,lZ,hw,HY,e3,ag,AV.view,au,an];have:=dy [.int .i64 c.k,.str c.t,.int .i64 c.n,.int .i64 c.a] [.int .i64 y1.k,.int .i64 y1.n,.str y1.nm,.str y1.on,.int .i64 y1.od,aI y1.aC,.int .i64 y1.a,.int .i64 y1.ty.b,.int .i64 y1.ty.r,.int .i64 y1.ty.d,.int .i64 y1.cH];simp only[Em,E.k,E.n,E.nm,E.on,E.od,E.aC,E.a,E.ty,E.cH]at this;simp only[show aI [a,y1]=.dM 11 (E.rows [a,y1]) from rfl,JY]at this;exact this;rw[if_neg Uj]at hp;simp only[Option.some.injEq,Prod.mk.injEq]at hp;obtain⟨rfl,rfl⟩:=hp;rw[cZ];generalize uF n (fP T s)=z at *;generalize fP T s=c at *;simp only[Tk.cells]at et elp;by_cases f0:s.fe=0;have z0:z=0:=Classical.byContradiction λh=>Uj ⟨f0,h⟩;subst z0;simp[-ah,-aa,eo,f0,et,elp,ag,AV.ax,AV.ai];simp[-ah,-aa,eo,f0,ag,AV.ax,AV.ai]
theorem SR:∀f,XR l T f/\OkU l T f/\OkF l T f/\xY l T f/\OkN l T f/\OkA l T f:=by
 intro f;induction f using Nat.strongRecOn with
 |_ f ih=>
  cases f with
  |zero=>
   refine⟨?_,?_,?_,?_,?_,?_⟩;intro n q e r _ h;simp[js]at h;intro q e r h;simp[qa]at h;intro q e r h;simp[qb]at h;intro q e r h;simp[nV]at h;intro a q e r h;simp[qc]at h;intro q e r h;simp[uX]at h
  |succ f=>
   obtain⟨hE,hU,hF,hI,hN,hA⟩:=ih f (by omega);have hEl:∀g,g<=f->XR l T g:=λg h=>(ih g (by omega)).1;exact⟨OY hT f hEl hU,SQ hT f hE hF (OX hT f λg h=>hEl g (by omega)),SO hT f hN hI hA,SM hT f hE,SN hT f hI,VZ hT f hEl⟩
theorem eR{f n:Nat}{q r:RQ}{e:E}(hn:n<=5)(h:js T f n q=some (e,r))(af:Nat):(bh S).call 0 af 96 [.ptr 0 0 0 0,.int .i64 (n:Nat)] [q.aU l]=some (.agg e.row,[r.aU l]):=(SR hT f).1 n q e r hn h af
end
end N7
namespace N7
open Ax Go bu V7 jG
def qH(l:AV)(T:List Tk)(f:Nat):Prop:=∀q s r,uY T f q=some (s,r)->∀af,(bh S).call 0 af 74 [.ptr 0 0 0 0] [q.aU l]=some (.agg s.row,[r.aU l])
def OkK(l:AV)(T:List Tk)(f:Nat):Prop:=∀q s r,jZ T f q=some (s,r)->∀af,(bh S).call 0 af 40 [.ptr 0 0 0 0] [q.aU l]=some (bD 9 (Sm.rows s),[r.aU l])
section
variable {l:AV}{T:List Tk}(hT:TL l T)
include hT
theorem ex0{f:Nat}{q r:RQ}{e:E}(h:js T f 0 q=some (e,r))(af:Nat) :
  (bh S).call 0 af 96 [.ptr 0 0 0 0,.int .i64 0] [q.aU l]=some (.agg [.int .i64 e.k,.int .i64 e.n,.str e.nm,.str e.on,.int .i64 e.od,aI e.aC,.int .i64 e.a,.int .i64 e.ty.b,.int .i64 e.ty.r,.int .i64 e.ty.d,.int .i64 e.cH],[r.aU l]):=by
 have:=eR hT (n:=0) (by omega) h af;rw[E.az]at this;exact this
theorem Er{f:Nat}{a0:Int}{q r:RQ}{s:Sm}(h:sX T f a0 q=some (s,r))(af:Nat) :
  (bh S).call 0 af 97 [.ptr 0 0 0 0,.agg [.int .i64 0,.str [],.str [],.int .i64 0,.U,.U,.U,.int .i64 a0,.int .i64 0]] [q.aU l]=some (.agg s.row,[r.aU l]):=by
 have hlen:=hT.len;unfold sX at h;obtain⟨⟨x,r1⟩,h1,h2⟩:=Option.bind_eq_some_iff.1 h;dsimp only at h2;have e1:=ex0 hT h1;have ei:=λaf s hs=>j7 hT af r1 s hs;have ef:=λaf=>eX hT af r1 2;have mF:E.rows [x]=[[.int .i64 x.k,.int .i64 x.n,.str x.nm,.str x.on,.int .i64 x.od,aI x.aC,.int .i64 x.a,.int .i64 x.ty.b,.int .i64 x.ty.r,.int .i64 x.ty.d,.int .i64 x.cH]]:=by simp[E.rows,E.az]
 refine ay (sf:=XL) rfl rfl rfl ?_;cases h3:iD T r1 [61] with
 |false=>
  rw[h3]at h2;simp only[Bool.false_eq_true,if_false,Option.some.injEq,Prod.mk.injEq]at h2;obtain⟨rfl,rfl⟩:=h2;by_cases h4:iD T r1 [59]=true/\x.k≠7;rw[if_pos h4];obtain⟨h4,h5⟩:=h4;have et:=λaf=>fB hT af (jr T r1 2) [59] (by simp);simp[-ah,-aa,XL,e1,ei,h3,h4,h5,ef,et,ag,AV.view,AV.ax,AV.ai,Sm.row,aI,mF,Sm.rows];rw[if_neg h4];have et:=λaf=>fB hT af r1 [59] (by simp);cases LH:iD T r1 [59] with
  |false=>
   simp[-ah,-aa,XL,e1,ei,h3,LH,et,ag,AV.view,AV.ax,AV.ai,Sm.row,aI,mF,Sm.rows]
  |true=>
   have h5:x.k=7:=Classical.byContradiction λh=>h4 ⟨LH,h⟩;rw[h5]at e1 mF;simp[-ah,-aa,XL,e1,ei,h3,LH,et,ag,AV.view,AV.ax,AV.ai,Sm.row,aI,mF,Sm.rows]
 |true=>
  rw[h3]at h2;simp only[if_true]at h2;obtain⟨⟨y,r2⟩,h4,h5⟩:=Option.bind_eq_some_iff.1 h2;have e2:=ex0 hT h4;have HZ:=λaf=>fB hT af r2 [59] (by simp);have hry:E.rows [y]=[[.int .i64 y.k,.int .i64 y.n,.str y.nm,.str y.on,.int .i64 y.od,aI y.aC,.int .i64 y.a,.int .i64 y.ty.b,.int .i64 y.ty.r,.int .i64 y.ty.d,.int .i64 y.cH]]:=by simp[E.rows,E.az]
  have aae:E.rows [x,y]=[[.int .i64 x.k,.int .i64 x.n,.str x.nm,.str x.on,.int .i64 x.od,aI x.aC,.int .i64 x.a,.int .i64 x.ty.b,.int .i64 x.ty.r,.int .i64 x.ty.d,.int .i64 x.cH],[.int .i64 y.k,.int .i64 y.n,.str y.nm,.str y.on,.int .i64 y.od,aI y.aC,.int .i64 y.a,.int .i64 y.ty.b,.int .i64 y.ty.r,.int .i64 y.ty.d,.int .i64 y.cH]]:=by simp[E.rows,E.az]
  by_cases c4:x.k=4;rw[if_pos (.inl c4)]at e2;have et:=λaf=>fB hT af r1 [61] (by simp);simp only[if_pos c4,Option.some.injEq,Prod.mk.injEq]at h5;obtain⟨rfl,rfl⟩:=h5;rw[c4]at e1;simp[-ah,-aa,XL,e1,ei,h3,et,e2,HZ,ag,AV.view,AV.ax,AV.ai,Sm.row,aI,hry,Sm.rows];simp only[if_neg c4,Option.some.injEq,Prod.mk.injEq]at h5;obtain⟨rfl,rfl⟩:=h5;by_cases c5:x.k=5\/x.k=6;rw[if_pos (.inr c5)]at e2;have et:=λaf=>fB hT af r1 [61] (by simp);rcases c5 with c5|c5<;>
  ·rw[c5]at e1 aae;simp[-ah,-aa,XL,e1,ei,h3,et,e2,HZ,ag,AV.view,AV.ax,AV.ai,Sm.row,aI,aae,Sm.rows]
  have c5':x.k≠5:=λh=>c5 (.inl h);have c6':x.k≠6:=λh=>c5 (.inr h);rw[if_neg (λh=>h.elim c4 c5)]at e2;have et:=λaf=>fB hT af (jr T r1 2) [61] (by simp);simp[-ah,-aa,XL,e1,ei,h3,ef,et,e2,HZ,c4,c5',c6',ag,AV.view,AV.ax,AV.ai,Sm.row,aI,aae,Sm.rows]
theorem fj(f:Nat)(hS:∀g,g<f->qH l T g):OkK l T (f+1):=by
 intro q s r h af;have hlen:=hT.len;have eo:=λaf=>rO hT af q [123] (by simp);unfold jZ at h;refine ay (sf:=s40) rfl rfl rfl ?_;generalize jJ T q [123]=q1 at *;simp[-ah,-aa,s40,eo];refine bf Rw.eq_1 (λx:RQ×List Sm×Nat=>⟨[(0,.val (.ptr 0 0 0 0)),(3,.val (bD 9 (Sm.rows x.2.1)))],[],[RQ.aU l x.1]⟩)
  (λx=>x.2.2<=f/\x.2.1.length<=T.length+1/\(x.1.fe=0->x.2.1.length<=x.1.at_/\x.2.1.length<=T.length)/\oT T x.2.2 x.2.1 x.1=some (s,r)) (λx=>x.2.2) (q1,[],f) rfl ⟨Nat.le_refl _,by simp,by simp,h⟩ ?_
 rintro⟨u,ss,g⟩ ⟨hg,B1,XS,hp⟩ ih;simp only at hg B1 XS hp ih;have ek:=λaf=>gC (l:=l) af u;have ei:=λaf=>j7 hT af u [125] (by simp);cases g with
 |zero=>simp[oT]at hp|succ g=>
  unfold oT at hp;have ec:=λaf=>qT hT af u [125] (by simp);by_cases f0:u.fe=0;cases hi:iD T u [125] with
  |true=>
   rw[if_neg (by rw[hi];simp)]at hp;simp only[Option.some.injEq,Prod.mk.injEq]at hp;obtain⟨rfl,rfl⟩:=hp;simp[-ah,-aa,ek,f0,ei,hi,ec]
  |false=>
   rw[if_pos ⟨f0,hi⟩]at hp;obtain⟨⟨x,r2⟩,h1,h2⟩:=Option.bind_eq_some_iff.1 hp;have e2:=hS g (by omega) _ _ _ h1;obtain⟨g2,w2⟩:=(rH T g).1 _ _ _ h1;have aeO:=XS f0;have hle:=g2.le;have Bf:=dV (sz:=9) (bytes:=136) (r:=Sm.rows ss) (new:=[x.row]) (by simp[bL,Sm.az]) (by simp[cT,fY];omega);have V1:Sm.rows ss++[x.row]=Sm.rows (ss++[x]):=(by simp[fY]);rw[V1]at Bf;have dy:=ih (r2,ss++[x],g) ⟨by simp only;omega,by simp;omega,λf=>by
    rcases w2 with w|⟨w,v⟩;exact absurd f w;simp;omega,h2⟩ (by simp only;omega)
   simp only at dy;generalize Sm.rows (ss++[x])=R at *;rw[Sm.az]at e2 Bf;simp[-ah,-aa,ek,f0,ei,hi,e2,Bf,AV.view];exact dy
  rw[if_neg (λh=>f0 h.1)]at hp;simp only[Option.some.injEq,Prod.mk.injEq]at hp;obtain⟨rfl,rfl⟩:=hp;simp[-ah,-aa,ek,f0,ec]
theorem oc(f:Nat)(hK:OkK l T f):qH l T (f+1):=by
 intro q s r h af;have hlen:=hT.len;have et:=λaf=>nt hT af q;have ei:=λaf s hs=>j7 hT af q s hs;have VW:=λs (h:iD T q s=true)=>Gn h;have Gd:∀s,iD T q s=true->IntKind.i64.wrap ((q.at_:Int)+1)=((q.at_+1:Nat):Int):=λs h=>by
  have:=(bR h).2;rw[ee]<;>omega
 unfold uY at h;refine ay (sf:=RO) rfl rfl rfl ?_;have en:=λaf=>nT hT af (cg q);have ec:=λaf=>fB hT af (eA T (cg q)).2 [58] (by simp);have eo:=λaf=>JW hT af (dK T (eA T (cg q)).2 [58]);have TT:eC T (cg q)=(⟨(eA T (cg q)).1,(yw T (dK T (eA T (cg q)).2 [58])).1.1,(yw T (dK T (eA T (cg q)).2 [58])).1.2,(fP T (cg q)).a⟩,(yw T (dK T (eA T (cg q)).2 [58])).2):=rfl;rw[TT]at h;generalize yw T (dK T (eA T (cg q)).2 [58])=o at *;generalize dK T (eA T (cg q)).2 [58]=q2 at *;generalize eA T (cg q)=z at *;clear TT;have Pw:=λs r (h:sX T f (fP T q).a q=some (s,r))=>Er hT h;generalize hc:fP T q=c at *;simp only[Tk.cells]at et;cases h1:iD T q [118,97,114] with
 |true=>
  rw[h1]at h;simp only[if_true,Option.some.injEq,Prod.mk.injEq]at h;obtain⟨rfl,rfl⟩:=h;have ht:=VW _ h1;have hw:=Gd _ h1;have e4:=λaf=>fB hT af o.2 [59] (by simp);simp[-ah,-aa,RO,et,ei,h1,ht,rP,lZ,hw,en,ec,eo,e4,ag,AV.view,AV.ax,AV.ai,Sm.row,qC,Sm.rows]
 |false=>
 rw[h1]at h;simp only[Bool.false_eq_true,if_false]at h;cases h2:iD T q [108,101,116] with
 |true=>
  rw[h2]at h;simp only[if_true]at h;obtain⟨⟨x,r5⟩,h8,h9⟩:=Option.bind_eq_some_iff.1 h;simp only[Option.some.injEq,Prod.mk.injEq]at h9;obtain⟨rfl,rfl⟩:=h9;have ht:=VW _ h2;have hw:=Gd _ h2;have e4:=λaf=>fB hT af o.2 [61] (by simp);have e5:=ex0 hT h8;have e6:=λaf=>fB hT af r5 [59] (by simp);have mF:E.rows [x]=[[.int .i64 x.k,.int .i64 x.n,.str x.nm,.str x.on,.int .i64 x.od,aI x.aC,.int .i64 x.a,.int .i64 x.ty.b,.int .i64 x.ty.r,.int .i64 x.ty.d,.int .i64 x.cH]]:=by simp[E.rows,E.az]
  simp[-ah,-aa,RO,et,ei,h1,h2,ht,rP,lZ,hw,en,ec,eo,e4,e5,e6,ag,AV.view,AV.ax,AV.ai,Sm.row,Sm.rows];simp[aI,mF]
 |false=>
 rw[h2]at h;simp only[Bool.false_eq_true,if_false]at h;cases h3:iD T q [105,102] with
 |true=>
  rw[h3]at h;simp only[if_true]at h;obtain⟨⟨x,r5⟩,h8,h9⟩:=Option.bind_eq_some_iff.1 h;obtain⟨⟨y,r6⟩,AP,zg⟩:=Option.bind_eq_some_iff.1 h9;have hw:=Gd _ h3;have e5:=ex0 hT h8;have e6:=hK _ _ _ AP;have hv:aD (bD 9 (Sm.rows y))=true:=bY;have SU:(bD 9 (Sm.rows y)).view=aA 9 (Sm.rows y):=rfl;have mF:E.rows [x]=[[.int .i64 x.k,.int .i64 x.n,.str x.nm,.str x.on,.int .i64 x.od,aI x.aC,.int .i64 x.a,.int .i64 x.ty.b,.int .i64 x.ty.r,.int .i64 x.ty.d,.int .i64 x.cH]]:=by simp[E.rows,E.az]
  generalize bD 9 (Sm.rows y)=vy at *;have Fk:=bU hv;have Cr:=ck hv;have ej:=λaf=>j7 hT af r6 [101,108,115,101] (by simp);dsimp only at zg;cases h4:iD T r6 [101,108,115,101] with
  |false=>
   rw[h4]at zg;simp only[Bool.false_eq_true,if_false,Option.some.injEq,Prod.mk.injEq]at zg;obtain⟨rfl,rfl⟩:=zg;simp[-ah,-aa,RO,et,ei,h1,h2,h3,rP,lZ,hw,e5,e6,ej,h4,hv,SU,ag,AV.view,AV.ax,AV.ai,Sm.row,Sm.rows];simp[aI,mF]
  |true=>
   rw[h4]at zg;simp only[if_true]at zg;obtain⟨⟨w,r8⟩,tN,Fe⟩:=Option.bind_eq_some_iff.1 zg;simp only[Option.some.injEq,Prod.mk.injEq]at Fe;obtain⟨rfl,rfl⟩:=Fe;have hw6:IntKind.i64.wrap ((r6.at_:Int)+1)=((r6.at_+1:Nat):Int):=by
    have:=(bR h4).2;rw[ee]<;>omega
   have e8:=hK _ _ _ tN;have hu:aD (bD 9 (Sm.rows w))=true:=bY;have huv:(bD 9 (Sm.rows w)).view=aA 9 (Sm.rows w):=rfl;generalize bD 9 (Sm.rows w)=vw at *;have huc:=bU hu;have hup:=ck hu;simp[-ah,-aa,RO,et,ei,h1,h2,h3,rP,lZ,hw,hw6,e5,e6,ej,h4,e8,hv,SU,hu,huv,ag,AV.view,AV.ax,AV.ai,Sm.row];simp[aI,mF]
 |false=>
 rw[h3]at h;simp only[Bool.false_eq_true,if_false]at h;cases h4:iD T q [119,104,105,108,101] with
 |true=>
  rw[h4]at h;simp only[if_true]at h;obtain⟨⟨x,r5⟩,h8,h9⟩:=Option.bind_eq_some_iff.1 h;obtain⟨⟨y,r6⟩,AP,zg⟩:=Option.bind_eq_some_iff.1 h9;simp only[Option.some.injEq,Prod.mk.injEq]at zg;obtain⟨rfl,rfl⟩:=zg;have hw:=Gd _ h4;have e5:=ex0 hT h8;have e6:=hK _ _ _ AP;have hv:aD (bD 9 (Sm.rows y))=true:=bY;have SU:(bD 9 (Sm.rows y)).view=aA 9 (Sm.rows y):=rfl;have mF:E.rows [x]=[[.int .i64 x.k,.int .i64 x.n,.str x.nm,.str x.on,.int .i64 x.od,aI x.aC,.int .i64 x.a,.int .i64 x.ty.b,.int .i64 x.ty.r,.int .i64 x.ty.d,.int .i64 x.cH]]:=by simp[E.rows,E.az]
  generalize bD 9 (Sm.rows y)=vy at *;have Fk:=bU hv;have Cr:=ck hv;simp[-ah,-aa,RO,et,ei,h1,h2,h3,h4,rP,lZ,hw,e5,e6,hv,SU,ag,AV.view,AV.ax,AV.ai,Sm.row,Sm.rows];simp[aI,mF]
 |false=>
 rw[h4]at h;simp only[Bool.false_eq_true,if_false]at h;cases h5:iD T q [114,101,116,117,114,110] with
 |true=>
  rw[h5]at h;simp only[if_true]at h;have hw:=Gd _ h5;have ej:=λaf=>j7 hT af (cg q) [59] (by simp);cases h6:iD T (cg q) [59] with
  |true=>
   rw[h6]at h;simp only[if_true,Option.some.injEq,Prod.mk.injEq]at h;obtain⟨rfl,rfl⟩:=h;have e4:=λaf=>fB hT af (cg q) [59] (by simp);simp[-ah,-aa,RO,et,ei,h1,h2,h3,h4,h5,rP,lZ,hw,ej,h6,e4,ag,AV.view,AV.ax,AV.ai,Sm.row,qC,Sm.rows]
  |false=>
   rw[h6]at h;simp only[Bool.false_eq_true,if_false]at h;obtain⟨⟨x,r5⟩,h8,h9⟩:=Option.bind_eq_some_iff.1 h;simp only[Option.some.injEq,Prod.mk.injEq]at h9;obtain⟨rfl,rfl⟩:=h9;have e5:=ex0 hT h8;have e4:=λaf=>fB hT af r5 [59] (by simp);have mF:E.rows [x]=[[.int .i64 x.k,.int .i64 x.n,.str x.nm,.str x.on,.int .i64 x.od,aI x.aC,.int .i64 x.a,.int .i64 x.ty.b,.int .i64 x.ty.r,.int .i64 x.ty.d,.int .i64 x.cH]]:=(by simp[E.rows,E.az]);simp[-ah,-aa,RO,et,ei,h1,h2,h3,h4,h5,rP,lZ,hw,ej,h6,e5,e4,ag,AV.view,AV.ax,AV.ai,Sm.row,Sm.rows];simp[aI,mF]
 |false=>
 rw[h5]at h;simp only[Bool.false_eq_true,if_false]at h;cases h6:iD T q [112,114,105,110,116] with
 |true=>
  rw[h6]at h;simp only[if_true]at h;obtain⟨⟨x,r5⟩,h8,h9⟩:=Option.bind_eq_some_iff.1 h;simp only[Option.some.injEq,Prod.mk.injEq]at h9;obtain⟨rfl,rfl⟩:=h9;have hw:=Gd _ h6;have e5:=ex0 hT h8;have e4:=λaf=>fB hT af r5 [59] (by simp);have mF:E.rows [x]=[[.int .i64 x.k,.int .i64 x.n,.str x.nm,.str x.on,.int .i64 x.od,aI x.aC,.int .i64 x.a,.int .i64 x.ty.b,.int .i64 x.ty.r,.int .i64 x.ty.d,.int .i64 x.cH]]:=by simp[E.rows,E.az]
  simp[-ah,-aa,RO,et,ei,h1,h2,h3,h4,h5,h6,rP,lZ,hw,e5,e4,ag,AV.view,AV.ax,AV.ai,Sm.row,Sm.rows];simp[aI,mF]
 |false=>
  rw[h6]at h;simp only[Bool.false_eq_true,if_false]at h;have e1:=Pw _ _ h;rw[Sm.az]at e1 ⊢;simp[-ah,-aa,RO,et,ei,h1,h2,h3,h4,h5,h6,e1,ag,AV.view,AV.ax,AV.ai]
theorem SW:∀f,qH l T f/\OkK l T f:=by
 intro f;induction f using Nat.strongRecOn with
 |_ f ih=>
  cases f with
  |zero=>
   refine⟨?_,?_⟩;intro q e r h;simp[uY]at h;intro q e r h;simp[jZ]at h
  |succ f=>
   exact⟨oc hT f (ih f (by omega)).2,fj hT f λg h=>(ih g (by omega)).1⟩
theorem Bg{f:Nat}{q r:RQ}{s:List Sm}(h:jZ T f q=some (s,r))(af:Nat):(bh S).call 0 af 40 [.ptr 0 0 0 0] [q.aU l]=some (bD 9 (Sm.rows s),[r.aU l]):=(SW hT f).2 q s r h af
end
end N7
namespace N7
open Ax Go bu V7 jG
section
variable {l:AV}{T:List Tk}(hT:TL l T)
include hT
theorem OZ{f:Nat}{q rr:RQ}{rc:Rc}(h:qD T f q=some (rc,rr))(af:Nat):(bh S).call 0 af 16 [.ptr 0 0 0 0] [q.aU l]=some (.agg rc.row,[rr.aU l]):=by
 have hlen:=hT.len;have et:=λaf=>nt hT af q;have en:=λaf=>nT hT af q;have e2:=λaf=>fB hT af (eA T q).2 [123] (by simp);unfold qD at h;obtain⟨⟨fs,r0⟩,h1,h2⟩:=Option.bind_eq_some_iff.1 h;simp only[Option.some.injEq,Prod.mk.injEq]at h2;obtain⟨rfl,rfl⟩:=h2;generalize dK T (eA T q).2 [123]=q2 at *;generalize eA T q=z at *;generalize fP T q=c at *;simp only[Tk.cells]at et;refine ay (sf:=s16) rfl rfl rfl ?_;simp[-ah,-aa,s16,et,en,e2,ag,AV.view];refine bf Ra.eq_1 (λx:RQ×List PD×Nat=>⟨[(0,.val (.ptr 0 0 0 0)),(2,.fp 0 0),(3,.fp 1 0)],[[.str [],.U,.int .i64 0],[.str z.1,bD 4 (x.2.1.map PD.cells),.int .i64 c.a]],[RQ.aU l x.1]⟩)
  (λx=>x.2.1.length<=T.length+1/\(x.1.fe=0->x.2.1.length<=x.1.at_/\x.2.1.length<=T.length)/\mo T x.2.2 x.2.1 x.1=some (fs,r0)) (λx=>x.2.2) (q2,[],f) rfl ⟨by simp,by simp,h1⟩ ?_
 rintro⟨s,ps,g⟩ ⟨B1,XS,hp⟩ ih;simp only at B1 XS hp ih;have ek:=λaf=>gC (l:=l) af s;have ei:=λaf=>j7 hT af s [125] (by simp);have ec:=λaf=>fB hT af r0 [125] (by simp);cases g with
 |zero=>simp[mo]at hp|succ g=>
  unfold mo at hp;by_cases f0:s.fe=0;cases hi:iD T s [125] with
  |true=>
   rw[if_neg (by rw[hi];simp)]at hp;simp only[Option.some.injEq,Prod.mk.injEq]at hp;obtain⟨rfl,rfl⟩:=hp;simp[-ah,-aa,ek,f0,ei,hi,ec,ag,AV.view,AV.ax,AV.ai,Rc.row,aA]
  |false=>
   rw[if_pos ⟨f0,hi⟩]at hp;have HZ:=λaf=>nt hT af s;have aeO:=XS f0;have e3:=λaf=>Ep hT af s;have e4:=λaf=>fB hT af (eC T s).2 [59] (by simp);simp only[PD.cells]at e3;have lJ:=dV (sz:=4) (bytes:=48) (r:=ps.map PD.cells) (new:=[(eC T s).1.cells]) (by simp[bL,PD.cells]) (by simp[cT];omega);have w2:=(uJ (T:=T) (q:=s)).trans (bO (s:=[59]));have V2:=(jh (T:=T) (q:=s)).trans (bO (s:=[59]));by_cases h8:(fP T s).k=1/\ps.length=8;rw[if_pos h8]at hp;simp only[Option.some.injEq,Prod.mk.injEq]at hp;obtain⟨rfl,rfl⟩:=hp;have ef:=λaf=>eX hT af s 4;obtain⟨h8,h9⟩:=h8;generalize fP T s=c2 at *;simp only[Tk.cells,h8]at HZ;simp[-ah,-aa,ek,f0,ei,hi,HZ,h9,ef,ec,ag,AV.view,AV.ax,AV.ai,Rc.row,aA];rw[if_neg h8]at hp;have dy:=ih (dK T (eC T s).2 [59],ps++[(eC T s).1],g) ⟨by simp;omega,λf=>by
    have hle:=V2.le;rcases w2 with w|⟨w,v⟩;exact absurd f w;simp;omega,hp⟩ (by simp only;omega)
   simp only[List.map_append,List.map_cons,List.map_nil]at dy;generalize dK T (eC T s).2 [59]=s4 at *;generalize eC T s=p at *;generalize fP T s=c2 at *;simp only[PD.cells]at lJ dy;simp only[Tk.cells]at HZ;by_cases hk:c2.k=1;have h9:¬(ps.length:Int)=8:=λh=>h8 ⟨hk,by omega⟩;simp[-ah,-aa,ek,f0,ei,hi,HZ,hk,h9,e3,e4,lJ,aV,bG,ag,AV.view,AV.ax,AV.ai];exact dy;simp[-ah,-aa,ek,f0,ei,hi,HZ,hk,e3,e4,lJ,aV,bG,ag,AV.view,AV.ax,AV.ai];exact dy
  rw[if_neg (λh=>f0 h.1)]at hp;simp only[Option.some.injEq,Prod.mk.injEq]at hp;obtain⟨rfl,rfl⟩:=hp;simp[-ah,-aa,ek,f0,ec,ag,AV.view,AV.ax,AV.ai,Rc.row,aA]
def tl:bw->bw
 |.seq _ b=>b|c=>c
theorem V3{f:Nat}{q rr:RQ}{fc:Fc}(h:wA T f q=some (fc,rr))(af:Nat):(bh S).call 0 af 19 [.ptr 0 0 0 0] [q.aU l]=some (.agg fc.row,[rr.aU l]):=by
 have hlen:=hT.len;have et:=λaf=>nt hT af q;have en:=λaf=>nT hT af q;have e2:=λaf=>fB hT af (eA T q).2 [40] (by simp);unfold wA at h;obtain⟨⟨fs,r0⟩,h1,h2⟩:=Option.bind_eq_some_iff.1 h;dsimp only at h2;generalize dK T (eA T q).2 [40]=q2 at *;generalize eA T q=z at *;generalize fP T q=c at *;simp only[Tk.cells]at et;refine ay (sf:=Zq) rfl rfl rfl ?_;simp[-ah,-aa,Zq,et,en,e2,ag,AV.view];refine bf Rb.eq_1 (λx:RQ×List PD×Nat=>⟨[(0,.val (.ptr 0 0 0 0)),(2,.fp 0 0),(3,.fp 1 0)],[[.str [],.U,.bool false,.str [],.int .i64 0,.U,.int .i64 0],[.str z.1,bD 4 (x.2.1.map PD.cells),.bool false,.str [],.int .i64 0,.U,.int .i64 c.a]],[RQ.aU l x.1]⟩)
  (λx=>x.2.1.length<=T.length+1/\(x.1.fe=0->x.2.1.length<=x.1.at_/\x.2.1.length<=T.length)/\mq T x.2.2 x.2.1 x.1=some (fs,r0)) (λx=>x.2.2) (q2,[],f) rfl ⟨by simp,by simp,h1⟩ ?_
 rintro⟨s,ps,g⟩ ⟨B1,XS,hp⟩ ih;simp only at B1 XS hp ih;have ek:=λaf=>gC (l:=l) af s;have ei:=λaf=>j7 hT af s [41] (by simp);have out :
   W S 0 1 [.box 2 0 7 true] (zO [.box 2 0 7 true] Ax.Mode.kh [RQ.aU l q] (.agg fc.row,[RQ.aU l rr])) [.code (tl (tl (tl (tl (tl Zq.body)))))] .normal
    ⟨[(0,.val (.ptr 0 0 0 0)),(2,.fp 0 0),(3,.fp 1 0)],[[.str [],.U,.bool false,.str [],.int .i64 0,.U,.int .i64 0],[.str z.1,bD 4 (fs.map PD.cells),.bool false,.str [],.int .i64 0,.U,.int .i64 c.a]],[RQ.aU l r0]⟩:=by
  have e4:=λaf=>fB hT af r0 [41] (by simp);generalize dK T r0 [41]=r4 at *;have e5:=λaf=>j7 hT af r4 [58] (by simp);cases h5:iD T r4 [58] with
  |false=>
   rw[h5]at h2;simp only[Bool.false_eq_true,if_false]at h2;obtain⟨⟨b,r6⟩,h6,h7⟩:=Option.bind_eq_some_iff.1 h2;simp only[Option.some.injEq,Prod.mk.injEq]at h7;obtain⟨rfl,rfl⟩:=h7;have e6:=Bg hT h6;have hv:aD (bD 9 (Sm.rows b))=true:=bY;have SU:(bD 9 (Sm.rows b)).view=aT b:=rfl;generalize bD 9 (Sm.rows b)=vb at *;have Fk:=bU hv;have Cr:=ck hv;simp[-ah,-aa,Zq,tl,e4,e5,h5,e6,hv,SU,ag,AV.view,AV.ax,AV.ai,Fc.row,aA]
  |true=>
   rw[h5]at h2;simp only[if_true]at h2;obtain⟨⟨b,r6⟩,h6,h7⟩:=Option.bind_eq_some_iff.1 h2;simp only[Option.some.injEq,Prod.mk.injEq]at h7;obtain⟨rfl,rfl⟩:=h7;have i2:=(bR h5).2;have hw:=wk r4.at_ (by omega);have e7:=λaf=>JW hT af (cg r4);generalize yw T (cg r4)=o at *;have e6:=Bg hT h6;have hv:aD (bD 9 (Sm.rows b))=true:=bY;have SU:(bD 9 (Sm.rows b)).view=aT b:=rfl;generalize bD 9 (Sm.rows b)=vb at *;have Fk:=bU hv;have Cr:=ck hv;simp[-ah,-aa,Zq,tl,e4,e5,h5,rP,lZ,hw,e7,e6,hv,SU,ag,AV.view,AV.ax,AV.ai,Fc.row,aA]
 simp only[Zq,tl]at out;cases g with
 |zero=>simp[mq]at hp|succ g=>
  unfold mq at hp;by_cases f0:s.fe=0;cases hi:iD T s [41] with
  |true=>
   rw[if_neg (by rw[hi];simp)]at hp;simp only[Option.some.injEq,Prod.mk.injEq]at hp;obtain⟨rfl,rfl⟩:=hp;simp[-ah,-aa,ek,f0,ei,hi]at out ⊢;exact out
  |false=>
   rw[if_pos ⟨f0,hi⟩]at hp;have HZ:=λaf=>nt hT af s;have aeO:=XS f0;have e3:=λaf=>Ep hT af s;simp only[PD.cells]at e3;have lJ:=dV (sz:=4) (bytes:=48) (r:=ps.map PD.cells) (new:=[(eC T s).1.cells]) (by simp[bL,PD.cells]) (by simp[cT];omega);have w2:=(uJ (T:=T) (q:=s)).trans rI;have V2:=(jh (T:=T) (q:=s)).trans rI;by_cases h8:(fP T s).k=1/\ps.length=6;rw[if_pos h8]at hp;simp only[Option.some.injEq,Prod.mk.injEq]at hp;obtain⟨rfl,rfl⟩:=hp;have ef:=λaf=>eX hT af s 4;obtain⟨h8,h9⟩:=h8;generalize fP T s=c2 at *;simp only[Tk.cells,h8]at HZ;simp[-ah,-aa,ek,f0,ei,hi,HZ,h9,ef,AV.view]at out ⊢;exact out;rw[if_neg h8]at hp;have dy:=ih (D9 T (eC T s).2,ps++[(eC T s).1],g) ⟨by simp;omega,λf=>by
    have hle:=V2.le;rcases w2 with w|⟨w,v⟩;exact absurd f w;simp;omega,hp⟩ (by simp only;omega)
   simp only[List.map_append,List.map_cons,List.map_nil]at dy;clear V2 w2 hp ih out;generalize eC T s=p at *;have e9:=λaf=>j7 hT af p.2 [41] (by simp);have e10:=λaf=>fB hT af p.2 [44] (by simp);have e11:=λaf=>j7 hT af (dK T p.2 [44]) [41] (by simp);have e12:=λaf=>eX hT af (dK T p.2 [44]) 2;unfold D9 at dy;generalize dK T p.2 [44]=s4 at *;generalize fP T s=c2 at *;simp only[PD.cells]at lJ dy;simp only[Tk.cells]at HZ;by_cases hk:c2.k=1;have h9:¬(ps.length:Int)=6:=λh=>h8 ⟨hk,by omega⟩;cases h3:iD T p.2 [41] with
   |true=>
    rw[h3,if_pos rfl]at dy;simp[-ah,-aa,ek,f0,ei,hi,HZ,hk,h9,e3,e9,h3,lJ,aV,bG,ag,AV.view,AV.ax,AV.ai];exact dy
   |false=>
    rw[h3,if_neg (by simp)]at dy;cases h4:iD T s4 [41] with
    |true=>
     rw[h4,if_pos rfl]at dy;simp[-ah,-aa,ek,f0,ei,hi,HZ,hk,h9,e3,e9,h3,e10,e11,h4,e12,lJ,aV,bG,ag,AV.view,AV.ax,AV.ai];exact dy
    |false=>
     rw[h4,if_neg (by simp)]at dy;simp[-ah,-aa,ek,f0,ei,hi,HZ,hk,h9,e3,e9,h3,e10,e11,h4,lJ,aV,bG,ag,AV.view,AV.ax,AV.ai];exact dy
   cases h3:iD T p.2 [41] with
   |true=>
    rw[h3,if_pos rfl]at dy;simp[-ah,-aa,ek,f0,ei,hi,HZ,hk,e3,e9,h3,lJ,aV,bG,ag,AV.view,AV.ax,AV.ai];exact dy
   |false=>
    rw[h3,if_neg (by simp)]at dy;cases h4:iD T s4 [41] with
    |true=>
     rw[h4,if_pos rfl]at dy;simp[-ah,-aa,ek,f0,ei,hi,HZ,hk,e3,e9,h3,e10,e11,h4,e12,lJ,aV,bG,ag,AV.view,AV.ax,AV.ai];exact dy
    |false=>
     rw[h4,if_neg (by simp)]at dy;simp[-ah,-aa,ek,f0,ei,hi,HZ,hk,e3,e9,h3,e10,e11,h4,lJ,aV,bG,ag,AV.view,AV.ax,AV.ai];exact dy
  rw[if_neg (λh=>f0 h.1)]at hp;simp only[Option.some.injEq,Prod.mk.injEq]at hp;obtain⟨rfl,rfl⟩:=hp;simp[-ah,-aa,ek,f0]at out ⊢;exact out
end
end N7
namespace N7
open Ax Go bu V7 jG
def ai6(r:List AV):Tk:=match r with | [.int _ k,.str t,.int _ n,.int _ a]=>⟨k,t,n,a⟩|_=>Tk0
def rQ(rows:List (List AV)):List Tk:=rows.map ai6
def lB(s:List UInt8):Pg×Int×Int:=if s.length<=6000 then match U2.Fu s with
  |(rows,none)=>(uG (rQ rows) (40*(rQ rows).length+100)).getD (CN,0,0)|(_,some e)=>(CN,1,e)
 else (CN,4,0)
theorem V4(a:Nat)(l:List UInt8):(U2.sU a l).2≠0->∃x:Tk,(U2.sU a l).1=x.cells/\x.a=a:=by
 have mk:∀k t n,∃x:Tk,U2.vp k t n a=x.cells/\x.a=a:=λk t n=>⟨⟨k,t,n,a⟩,rfl,rfl⟩;unfold U2.sU;split;intro h;exact absurd rfl h;split;unfold U2.sD;split;exact λ_=>mk _ _ _;split;exact λ_=>mk _ _ _;intro h;exact absurd rfl h;split;unfold U2.uC;split;intro h;exact absurd rfl h;split;intro h;exact absurd rfl h;exact λ_=>mk _ _ _;unfold U2.uD;split;intro h;exact absurd rfl h;exact λ_=>mk _ _ _
theorem JZ:∀(n a:Nat)(l:List UInt8)(rows:List (List AV)),U2.yR n a l=(rows,none)->(∀r∈rows,∃x:Tk,r=x.cells/\0<=x.a/\x.a<=a+l.length)/\rows.length<=n
 |0,_,_,rows,h=>by
  simp only[U2.yR,Prod.mk.injEq,and_true]at h;subst h;exact⟨by simp,Nat.le_refl _⟩
 |n+1,a,[],rows,h=>by
  simp only[U2.yR,Prod.mk.injEq,and_true]at h;subst h;exact⟨by intro r hr;rw[List.mem_singleton]at hr;subst hr;exact⟨⟨0,[],0,a⟩,rfl,by simp,by simp⟩,by simp⟩
 |n+1,a,c::l,rows,h=>by
  simp only[U2.yR]at h;have hle:=U2.Nf a (c::l);have ha:=V4 a (c::l);generalize U2.sU a (c::l)=z at *;obtain⟨t,k⟩:=z;cases k with
  |zero=>simp at h|succ k=>
   simp only at h ha hle;generalize hy:U2.yR n _ _=y at h;obtain⟨r2,e⟩:=y;cases e with
   |some e=>simp at h|none=>
    simp only[Prod.mk.injEq,and_true]at h;subst h;obtain⟨h1,h2⟩:=JZ n _ _ _ hy;refine⟨λr hr=>?_,by simp;omega⟩;rcases List.mem_cons.1 hr with e|e;subst e;obtain⟨x,hx,hxa⟩:=ha (by omega);exact⟨x,hx,by omega,by simp only[List.length_cons];omega⟩;obtain⟨x,h3,h4,h5⟩:=h1 r e;have hb:=U2.zR ((c::l).drop (k+1));simp only[List.length_drop,List.length_cons]at h5 hb hle;refine⟨x,h3,h4,?_⟩;simp only[List.length_cons];omega
theorem H6{s:List UInt8}{rows:List (List AV)}(h:U2.Fu s=(rows,none)):(∀r∈rows,∃x:Tk,r=x.cells/\0<=x.a/\x.a<=s.length)/\rows.length<=s.length+1:=by
 unfold U2.Fu at h;obtain⟨h1,h2⟩:=JZ _ _ _ _ h;have hb:=U2.zR s;refine⟨λr hr=>?_,h2⟩;obtain⟨x,h3,h4,h5⟩:=h1 r hr;rw[List.length_drop]at h5;exact⟨x,h3,h4,by omega⟩
theorem SX{rows:List (List AV)}{N:Int}(h:∀r∈rows,∃x:Tk,r=x.cells/\0<=x.a/\x.a<=N):rows=(rQ rows).map Tk.cells:=by
 unfold rQ;rw[List.map_map];conv=>lhs;rw[<-List.map_id rows]
 refine List.map_congr_left λr hr=>?_;obtain⟨x,hx,_⟩:=h r hr;subst hx
 rfl
theorem aaf{rows:List (List AV)}{N:Int}(h:∀r∈rows,∃x:Tk,r=x.cells/\0<=x.a/\x.a<=N):∀x∈rQ rows,0<=x.a/\x.a<=N:=by
 intro x hx;obtain⟨r,hr,rfl⟩:=List.mem_map.1 hx;obtain⟨y,hy,h1,h2⟩:=h r hr;subst hy;exact⟨h1,h2⟩
theorem Nr(wl af:Nat)(s:List UInt8)(st:aj):(bh S).call wl af 5 [.str s] st=some (.fm [.agg (lB s).1.row,.agg [.int .i64 (lB s).2.1,.int .i64 (lB s).2.2]],st):=by
 have etk:=λwl af st=>U2.OJ wl af s st;refine bN (sf:=s5) rfl rfl (by simp) rfl (by simp[Pg.row,AV.ax,AV.ai]) ?_;have zero:∀e a:Int,e≠0->lB s=(CN,e,a)->U2.HM s=(.U,[.int .i64 e,.int .i64 a])->W S 0 0 s5.results (Jr s5.results (.fm [.agg (lB s).1.row,.agg [.int .i64 (lB s).2.1,.int .i64 (lB s).2.2]])) [.code s5.body] .normal (pI s5 [.str s] []):=λe a he h1 h2=>by
  rw[h1];rw[h2]at etk;simp[s5,etk,he,aV,bG,eE.bg,Pg.row,CN]
 by_cases hl:s.length<=6000
 ·have htv:U2.HM s=U2.JD (U2.Fu s):=by unfold U2.HM;rw[U2.pA,decide_eq_true hl,if_pos rfl]
  have QA:lB s=match U2.Fu s with|(rows,none)=>(uG (rQ rows) (40*(rQ rows).length+100)).getD (CN,0,0)|(_,some e)=>(CN,1,(e:Int)):=by unfold lB;rw[if_pos hl]
  generalize htp:U2.Fu s=z at *;obtain⟨rows,e⟩:=z;cases e with
  |some e=>exact zero 1 e (by decide) QA htv|none=>
   obtain⟨kA,hlen⟩:=H6 htp;have Jn:=SX kA;simp only[U2.JD]at htv;simp only at QA;have hTl:(rQ rows).length=rows.length:=(by simp[rQ]);obtain⟨x,hx⟩:=wC (rQ rows);rw[hx,Option.getD_some]at QA;clear zero;generalize rQ rows=T at *;have hT:TL (bD 4 rows) T:=⟨by
    have:bL 4 rows=true:=by rw[Jn];simp[bL,Tk.cells]
    unfold bD;split
    rfl
    simp[bX,this],by rw[pQ];exact Jn,by omega⟩
   rw[htv]at etk;have aeQ:=hT.sl;generalize bD 4 rows=l at *;rw[QA];unfold uG at hx;obtain⟨⟨p,r0⟩,h1,h2⟩:=Option.bind_eq_some_iff.1 hx;simp only[Option.some.injEq]at h2;subst h2;simp[-ah,-aa,s5,etk,aeQ,ag,AV.view];have hTv:TL l.view T:=⟨by rw[AX];exact hT.sz,by rw[DS];exact hT.rows,hT.len⟩;have akX:=hT.len;generalize l.view=lv at *;refine bf XA.eq_1 (λx:RQ×Pg×Nat=>⟨[(2,.fp 0 0),(3,.fp 1 0),(6,.val (.ptr 0 0 0 0)),(7,.fp 3 0)],
     [[.U,.U,.U],[.int .i64 0,.int .i64 0],[.int .i64 0,.int .i64 0],[bD 3 (x.2.1.aS.map Rc.row),bD 4 (x.2.1.globals.map PD.cells),bD 7 (x.2.1.funcs.map Fc.row)]],[RQ.aU lv x.1]⟩)
    (λx=>x.2.1.aS.length<=12/\x.2.1.globals.length<=8/\x.2.1.funcs.length<=16/\pS T x.2.2 x.2.1 x.1=some (p,r0)) (λx=>x.2.2) (⟨0,0,0,0⟩,CN,_) rfl ⟨by simp[CN],by simp[CN],by simp[CN],h1⟩ ?_
   rintro⟨u,⟨rs,gs,fs⟩,g⟩ ⟨b1,b2,b3,hp⟩ ih;simp only at b1 b2 b3 hp ih;clear h1 QA kA Jn etk aeQ hT hlen hTl htv htp;have hT:=hTv;have ek:=λaf=>gC (l:=lv) af u;have et:=λaf=>nt hT af u;have i1:=λaf=>j7 hT af u [114,101,99,111,114,100] (by simp);have i2:=λaf=>j7 hT af u [103,108,111,98,97,108] (by simp);have i3:=λaf=>j7 hT af u [102,117,110,99] (by simp);cases g with
   |zero=>simp[pS]at hp|succ g=>
    unfold pS at hp;simp only[ZW,Sx,Sy]at hp;by_cases f0:u.fe=0
    ·by_cases k0:(fP T u).k=0;rw[if_neg (λh=>h.2 k0)]at hp;simp only[Option.some.injEq,Prod.mk.injEq]at hp;obtain⟨rfl,rfl⟩:=hp;rw[if_pos f0];generalize fP T u=c at *;simp only[Tk.cells]at et;simp[-ah,-aa,ek,f0,et,k0,ag,AV.view,Pg.row,aA]
     ·rw[if_pos ⟨f0,k0⟩]at hp;have IS:=uH k0;have hw:=wk u.at_ (by omega);have ef:=λaf e=>eX hT af u e;have aag:∀s t:List UInt8,s≠t->iD T u s=true->iD T u t=false:=λs t jn h=>by
       cases h2:iD T u t with
       |false=>rfl|true=>exact absurd ((Gn h).symm.trans (Gn h2)) jn
      cases q1:iD T u [114,101,99,111,114,100] with
      |true=>
       have q2:=aag _ [103,108,111,98,97,108] (by decide) q1;have q3:=aag _ [102,117,110,99] (by decide) q1;simp only[q1,q2,q3,true_and,Bool.false_eq_true,false_and,or_false,if_true,if_false]at hp;by_cases m1:rs.length=12;rw[if_pos m1]at hp;have dy:=ih (jr T u 4,⟨rs,gs,fs⟩,g) ⟨b1,b2,b3,hp⟩ (by simp only;omega);generalize fP T u=c at *;simp only[Tk.cells]at et;simp[-ah,-aa,ek,f0,et,k0,i1,q1,m1,ef];exact dy;rw[if_neg m1]at hp;obtain⟨⟨x,r2⟩,h3,h4⟩:=Option.bind_eq_some_iff.1 hp;have e3:=OZ hT h3;have m1':¬(rs.length:Int)=12:=(by omega);have lJ:=dV (sz:=3) (bytes:=48) (r:=rs.map Rc.row) (new:=[x.row]) (by simp[bL,Rc.row]) (by simp[cT];omega);have dy:=ih (r2,⟨rs++[x],gs,fs⟩,g) ⟨by simp;omega,b2,b3,h4⟩ (by simp only;omega);simp only[List.map_append,List.map_cons,List.map_nil]at dy;simp only[Rc.row]at e3 lJ dy;generalize fP T u=c at *;simp only[Tk.cells]at et;simp[-ah,-aa,ek,f0,et,k0,i1,q1,i2,q2,i3,q3,m1',rP,lZ,hw,e3,lJ,aV,bG,ag,AV.view];exact dy
      |false=>
      cases q2:iD T u [103,108,111,98,97,108] with
      |true=>
       have q3:=aag _ [102,117,110,99] (by decide) q2;simp only[q1,q2,q3,true_and,Bool.false_eq_true,false_and,false_or,or_false,if_true,if_false]at hp;by_cases m1:gs.length=8;rw[if_pos m1]at hp;have dy:=ih (jr T u 4,⟨rs,gs,fs⟩,g) ⟨b1,b2,b3,hp⟩ (by simp only;omega);generalize fP T u=c at *;simp only[Tk.cells]at et;simp[-ah,-aa,ek,f0,et,k0,i1,q1,i2,q2,m1,ef];exact dy;rw[if_neg m1]at hp;have e3:=λaf=>Ep hT af (cg u);have e4:=λaf=>fB hT af (eC T (cg u)).2 [59] (by simp);have m1':¬(gs.length:Int)=8:=(by omega);have lJ:=dV (sz:=4) (bytes:=48) (r:=gs.map PD.cells) (new:=[(eC T (cg u)).1.cells]) (by simp[bL,PD.cells]) (by simp[cT];omega);have dy:=ih (dK T (eC T (cg u)).2 [59],⟨rs,gs++[(eC T (cg u)).1],fs⟩,g) ⟨b1,by simp;omega,b3,hp⟩ (by simp only;omega);simp only[List.map_append,List.map_cons,List.map_nil]at dy;generalize dK T (eC T (cg u)).2 [59]=r4 at *;generalize eC T (cg u)=pp at *;simp only[PD.cells]at e3 lJ dy;generalize fP T u=c at *;simp only[Tk.cells]at et;simp[-ah,-aa,ek,f0,et,k0,i1,q1,i2,q2,i3,q3,m1',rP,lZ,hw,e3,e4,lJ,aV,bG,ag,AV.view];exact dy
      |false=>
      cases q3:iD T u [102,117,110,99] with
      |true=>
       simp only[q1,q2,q3,true_and,Bool.false_eq_true,false_and,false_or,if_true,if_false]at hp;by_cases m1:fs.length=16;rw[if_pos m1]at hp;have dy:=ih (jr T u 4,⟨rs,gs,fs⟩,g) ⟨b1,b2,b3,hp⟩ (by simp only;omega);generalize fP T u=c at *;simp only[Tk.cells]at et;simp[-ah,-aa,ek,f0,et,k0,i1,q1,i2,q2,i3,q3,m1,ef];exact dy;rw[if_neg m1]at hp;obtain⟨⟨x,r2⟩,h3,h4⟩:=Option.bind_eq_some_iff.1 hp;have e3:=V3 hT h3;have m1':¬(fs.length:Int)=16:=(by omega);have lJ:=dV (sz:=7) (bytes:=104) (r:=fs.map Fc.row) (new:=[x.row]) (by simp[bL,Fc.row]) (by simp[cT];omega);have dy:=ih (r2,⟨rs,gs,fs++[x]⟩,g) ⟨b1,b2,by simp;omega,h4⟩ (by simp only;omega);simp only[List.map_append,List.map_cons,List.map_nil]at dy;simp only[Fc.row]at e3 lJ dy;generalize fP T u=c at *;simp only[Tk.cells]at et;simp[-ah,-aa,ek,f0,et,k0,i1,q1,i2,q2,i3,q3,m1',rP,lZ,hw,e3,lJ,aV,bG,ag,AV.view];exact dy
      |false=>
       simp only[q1,q2,q3,Bool.false_eq_true,false_and,or_self,if_false]at hp;have dy:=ih (jr T u 2,⟨rs,gs,fs⟩,g) ⟨b1,b2,b3,hp⟩ (by simp only;omega);generalize fP T u=c at *;simp only[Tk.cells]at et;simp[-ah,-aa,ek,f0,et,k0,i1,q1,i2,q2,i3,q3,ef];exact dy
    rw[if_neg (λh=>f0 h.1)]at hp;simp only[Option.some.injEq,Prod.mk.injEq]at hp;obtain⟨rfl,rfl⟩:=hp;rw[if_neg f0];have ea:∀af bx,aW 0 af (.load true 2 false) [.val (.ptr 0 0 0 3)] [RQ.aU lv u] bx=some (.val (.agg [.int .i64 u.fe,.int .i64 u.fa]),[RQ.aU lv u],bx):=λaf bx=>by simp[RQ.aU,cut,AV.view]
    simp[-ah,-aa,ek,f0,ea,aV,bG,eE.bg,ag,AV.view,Pg.row,CN]
 exact zero 4 0 (by decide) (by unfold lB;rw[if_neg hl]) (by unfold U2.HM;rw[U2.pA,decide_eq_false hl];rfl)
end N7
namespace N7
open Ax Go bu V7 jG U7
theorem SY(s:List UInt8):Pg.In 6000 (lB s).1/\(lB s).1.few:=by
 unfold lB;split;rename_i hl;generalize htp:U2.Fu s=z;obtain⟨rows,e⟩:=z;cases e with
 |some e=>exact⟨HR,CO⟩|none=>
  obtain⟨kA,hlen⟩:=H6 htp;obtain⟨x,hx⟩:=wC (rQ rows);simp only;rw[hx,Option.getD_some];exact ON ⟨by decide,λy hy=>by
   have:=aaf kA y hy;omega⟩ hx
 exact⟨HR,CO⟩
def iY(p:Pg):GD:=⟨aA 3 (p.aS.map Rc.row),aA 4 (p.globals.map PD.cells),aA 7 (p.funcs.map Fc.row)⟩
theorem Ak{sz:Nat}{r:List (List AV)}:sV (aA sz r)=true:=by simp[aA]
theorem wI{a:Int}(h:0<=a)(h2:a<=6000):T4 a=true:=by simp only[T4,Bool.and_eq_true,decide_eq_true_eq];omega
theorem xJ{sz:Nat}{r:List (List AV)}(h:bL sz r=true):bX sz (aA sz r)=true:=by
 cases r with
 |nil=>rfl|cons a r=>simp[bX,h]
theorem Es{l:List PD}(h:∀p∈l,HQ 6000 p):A6 (aA 4 (l.map PD.cells))=true:=by
 unfold A6 lT;rw[Ak,xJ (by simp[bL,PD.cells]),aE];simp only[Bool.and_self,Bool.true_and,List.all_map,List.all_eq_true,Function.comp];intro p hp;obtain⟨h1,h2,h3,h4⟩:=h p hp;simp[Ni,PD.cells,wI h1 (by omega),wI h3 h4]
theorem SZ{p:Pg}(h:Pg.In 6000 p):(iY p).ok:=by
 refine⟨?_,Es h.g.2,?_⟩;unfold BR lT;show (sV (aA 3 (p.aS.map Rc.row))&&bX 3 (aA 3 (p.aS.map Rc.row))&&(aM (aA 3 (p.aS.map Rc.row))).all Gk)=true;rw[Ak,xJ (by simp[bL,Rc.row]),aE];simp only[Bool.and_self,Bool.true_and,List.all_map,List.all_eq_true,Function.comp];intro r hr;have i:=h.r.2 r hr;simp[Gk,Rc.row,Es i.f,wI i.a.1 i.a.2];unfold BS lT;show (sV (aA 7 (p.funcs.map Fc.row))&&bX 7 (aA 7 (p.funcs.map Fc.row))&&(aM (aA 7 (p.funcs.map Fc.row))).all Gl)=true;rw[Ak,xJ (by simp[bL,Fc.row]),aE];simp only[Bool.and_self,Bool.true_and,List.all_map,List.all_eq_true,Function.comp];intro r hr;have i:=h.f.2 r hr;simp[Gl,Fc.row,Es i.f,wI i.a.1 i.a.2,wI i.od.1 (by have:=i.od.2;omega),aT,Ak]
theorem oe(l:List PD):iJ (aA 4 (l.map PD.cells))=l:=by
 simp only[iJ,aE,List.map_map];conv=>rhs;rw[<-List.map_id l]
 exact List.map_congr_left λp _=>rfl
def Fx(r:Rc):CR:=⟨r.name,aA 4 (r.cQ.map PD.cells),r.a⟩
def Cs(f:Fc):FN:=⟨f.name,aA 4 (f.params.map PD.cells),f.bP,f.on,f.od,aT f.body,f.a⟩
theorem og(p:Pg):cj (iY p).aS=p.aS.map Fx:=by
 simp only[iY,cj,aE,List.map_map];exact List.map_congr_left λp _=>rfl
theorem mZ(p:Pg):dN (iY p).funcs=p.funcs.map Cs:=by
 simp only[iY,dN,aE,List.map_map];exact List.map_congr_left λp _=>rfl
theorem Et(p:Pg):iJ (iY p).globals=p.globals:=oe _
theorem S0{p:Pg}(h:Pg.In 6000 p):GD.sm (iY p):=by
 refine⟨?_,?_,?_,?_,?_⟩;rw[og,List.length_map];have:=h.r.1;omega;intro x hx;rw[og]at hx;obtain⟨r,hr,rfl⟩:=List.mem_map.1 hx;simp only[Fx,oe];have:=(h.r.2 r hr).len;omega;rw[Et];have:=h.g.1;omega;rw[mZ,List.length_map];have:=h.f.1;omega;intro x hx;rw[mZ]at hx;obtain⟨r,hr,rfl⟩:=List.mem_map.1 hx;simp only[Cs,oe];have:=(h.f.2 r hr).len;omega
end N7
