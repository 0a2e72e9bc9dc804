/- Part of a proof. -/
import Derived.Test.YtpnadocbfbbboaaGreatCode2
import Derived.Test.YtpnadocbfbbboaaGreatP
import Derived.Test.YtpnadocbfbbboaaGreatL
import Derived.Test.YtpnadocbfbbboaaGreatM

set_option maxRecDepth 100000
set_option maxHeartbeats 8000000
namespace N7
open Ax Go bX V7 lf
section
variable {l:AV}{T:List Tk}(hT:TL l T)(J:Nat)(q:RQ)
theorem Ad:(aT S).call 0 J 19 [.ptr 0 0 0 0] [q.bC l]=some (.bool (decide (q.fe=0)),[q.bC l]):=by
 refine an (sf:=s19) rfl rfl rfl ?_;simp[s19,RQ.bC,cut,AV.aa]
include hT
theorem mX:(aT S).call 0 J 20 [.ptr 0 0 0 0] [q.bC l]=some (.agg (dQ T q).cells,[q.bC l]):=by
 have hs:=hT.sl;have hz:=hT.sz;have hr:=hT.rows;refine an (sf:=s20) rfl rfl rfl ?_;have h0:¬(q.at_:Int)<0:=by omega
 by_cases h1:q.at_<T.length;have h2:¬(T.length:Int)<=(q.at_:Int):=by omega
 have hc:dQ T q=T[q.at_]:=by simp[dQ,h1]
 simp[s20,RQ.bC,cut,h0,h1,h2,hs,hz,hr,hc,Tk.cells,aF,aC,AV.aa];have h2:(T.length:Int)<=(q.at_:Int):=by omega
 have hc:dQ T q=Tk0:=by simp[dQ,List.getD,List.getElem?_eq_none (Nat.le_of_not_lt h1)]
 simp[s20,RQ.bC,cut,h0,h2,hs,hr,hc,Tk.cells,aF,aC,AV.aa]
theorem jW(s:List UInt8)(iR:s≠[]):(aT S).call 0 J 21 [.ptr 0 0 0 0,.str s] [q.bC l]=some (.bool (fP T q s),[q.bC l]):=by
 have et:=λJ=>mX hT J q;have eo:=λJ=>Ad (l:=l) J q;cases s with
 |nil=>exact absurd rfl iR|cons c s=>
  obtain⟨v,hv⟩:∃v,fP T q (c::s)=v:=⟨_,rfl⟩;rw[hv];simp only[fP]at hv;refine an (sf:=s21) rfl rfl rfl ?_;generalize dQ T q=x at *;simp only[Tk.cells]at et;have mM:∀k:Int,jR (c::s)=k->v=(decide (q.fe=0)&&decide (x.k=k)&&decide (x.t=c::s)):=λk hk=>by rw[<-hv,hk]
  by_cases c1:97<=c.toNat;have d1:(97:Int)<=(c.toNat:Int):=by omega
  by_cases c2:c.toNat<=122;have d2:(c.toNat:Int)<=122:=by omega
  rw[mM 3 (by simp[jR,c1,c2])];by_cases f0:q.fe=0<;>by_cases f1:x.k=3<;>simp[s21,et,eo,d1,d2,f0,f1];have d2:¬(c.toNat:Int)<=122:=by omega
  rw[mM 4 (by simp[jR,c2])];by_cases f0:q.fe=0<;>by_cases f1:x.k=4<;>simp[s21,et,eo,d1,d2,f0,f1];have d1:¬(97:Int)<=(c.toNat:Int):=by omega
  rw[mM 4 (by simp[jR,c1])];by_cases f0:q.fe=0<;>by_cases f1:x.k=4<;>simp[s21,et,eo,d1,f0,f1]
theorem eE(e:Int):(aT S).call 0 J 22 [.ptr 0 0 0 0,.int .i64 e] [q.bC l]=some (.fF [],[(jc T q e).bC l]):=by
 have et:=λJ=>mX hT J q;have eo:=λJ=>Ad (l:=l) J q;refine an (sf:=s22) rfl rfl rfl ?_;unfold jc;generalize dQ T q=x at *;simp only[Tk.cells]at et;by_cases f0:q.fe=0;simp only[RQ.bC,f0]at et eo;simp[s22,eo,et,RQ.bC,f0,cut,bq,AV.af,AV.au,ah];simp[s22,eo,f0]
theorem eX(s:List UInt8)(iR:s≠[]):(aT S).call 0 J 25 [.ptr 0 0 0 0,.str s] [q.bC l]=some (.fF [],[(cH T q s).bC l]):=by
 have ei:=λJ=>jW hT J q s iR;have ef:=λJ e=>eE hT J q e;have hlen:=hT.len;refine an (sf:=s25) rfl rfl rfl ?_;unfold cH;cases hi:fP T q s with
 |false=>simp[s25,ei,hi,ef]|true=>
  have MH:=(bh hi).2;have hw:=wk q.at_ (by omega);simp only[RQ.bC,hi]at ei;simp[s25,ei,RQ.bC,aA,cut,bq,AV.af,AV.au,ah,hw,AV.aa]
theorem rQ(s:List UInt8)(iR:s≠[]):(aT S).call 0 J 65 [.ptr 0 0 0 0,.str s] [q.bC l]=some (.fF [],[(gC T q s).bC l]):=by
 have ei:=λJ=>jW hT J q s iR;have ef:=λJ e=>eE hT J q e;have et:=λJ=>eX hT J q s iR;refine an (sf:=s65) rfl rfl rfl ?_;unfold gC;cases hi:fP T q s with
 |false=>
  generalize cH T q s=r at *;simp only[RQ.bC,hi]at ei et;simp[s65,ei,et,RQ.bC,rH,cut,bq,AV.af,AV.au,ah,AV.aa]
 |true=>
  by_cases h50:50<=q.op;simp only[RQ.bC,hi]at ei ef;simp[s65,ei,ef,RQ.bC,cut,h50,AV.aa];generalize cH T q s=r at *;simp only[RQ.bC,hi]at ei et;simp[s65,ei,et,RQ.bC,rH,cut,h50,bq,AV.af,AV.au,ah,AV.aa]
theorem qS(s:List UInt8)(iR:s≠[]):(aT S).call 0 J 67 [.ptr 0 0 0 0,.str s] [q.bC l]=some (.fF [],[(ku T q s).bC l]):=by
 have et:=λJ=>eX hT J q s iR;have hw:∀n:Int,IntKind.i64.wrap (n-1)=IntKind.i64.wrap (n + -1):=λn=>by rw[Int.sub_eq_add_neg]
 refine an (sf:=s67) rfl rfl rfl ?_;unfold ku;generalize cH T q s=r at *;simp only[RQ.bC]at et;simp[s67,et,RQ.bC,rH,cut,bq,AV.af,AV.au,ah,AV.aa,hw]
theorem nM:(aT S).call 0 J 41 [.ptr 0 0 0 0] [q.bC l]=some (.str (cW T q).1,[(cW T q).2.bC l]):=by
 have et:=λJ=>mX hT J q;have eo:=λJ=>Ad (l:=l) J q;have ef:=λJ e=>eE hT J q e;have hlen:=hT.len;refine an (sf:=s41) rfl rfl rfl ?_;unfold cW;have ef:=λJ=>ef J 2;generalize jc T q 2=r at *;generalize hx:dQ T q=x at *;simp only[Tk.cells]at et;by_cases f0:q.fe=0;by_cases f1:x.k=1;simp only[RQ.bC,f0]at et eo;have MH:q.at_<T.length:=tN (by rw[hx,f1];decide);have hw:=wk q.at_ (by omega);simp[s41,et,eo,f0,f1,RQ.bC,aA,cut,bq,AV.af,AV.au,ah,hw,AV.aa];simp[s41,et,eo,f0,f1,ef];simp[s41,et,eo,f0,ef]
end
end N7
namespace N7
open Ax Go bX V7 lf
theorem adg{T:List Tk}{k d:Nat}{q:RQ}(h:fP T q [91]=false):GY T k d q=(d,q):=by
 cases k with
 |zero=>rfl|succ k=>unfold GY;rw[h];rfl
section
variable {l:AV}{T:List Tk}(hT:TL l T)(J:Nat)(q:RQ)
include hT
theorem Lq:(aT S).call 0 J 42 [.ptr 0 0 0 0] [q.bC l]=some (.agg [.str (vl T q).1.1,.int .i64 (vl T q).1.2],[(vl T q).2.bC l]):=by
 have hlen:=hT.len;refine an (sf:=s42) rfl rfl rfl ?_;generalize hF:vl T q=F;simp[s42];refine bu T7.eq_1 (λx:RQ×Nat=>⟨[(0,.val (.ptr 0 0 0 0)),(2,.fp 0 0),(3,.val (.int .i64 x.2))],[[.str [],.int .i64 0],[]],[RQ.bC l x.1]⟩)
  (λx=>∃k,k+x.2=3/\GY T k x.2 x.1=GY T 3 0 q) (λx=>3-x.2) (q,0) ?_ ⟨3,rfl,rfl⟩ ?_
 rfl
 rintro⟨r,d⟩ ⟨k,hk,hL⟩ ih;simp only at hk hL ih;have ei:=λJ=>jW hT J r [91] (by simp);unfold vl at hF;cases hi:fP T r [91] with
 |true=>
  obtain⟨i1,i2⟩:=bh hi;by_cases h3:d=3;have ef:=λJ e=>eE hT J r e;have y5:k=0:=by omega
  subst h3 y5;have hL':GY T 3 0 q=(3,r):=hL.symm;rw[hL',if_pos hi]at hF;subst hF;simp[ei,hi,ef];have RW:¬(d:Int)=3:=by omega
  have hw:=wk r.at_ (by omega);have GP:=wk d (by omega);simp only[RQ.bC,hi]at ei;simp[ei,RW,RQ.bC,cut,bq,AV.af,AV.au,ah,hw,GP,AV.aa];refine ih (aA r,d+1) ⟨k-1,by simp only;omega,?_⟩ (by simp only;omega);rw[<-hL];obtain⟨k',rfl⟩:∃k',k=k'+1:=⟨k-1,by omega⟩;conv=>rhs;unfold GY
  rw[if_pos hi]
  rfl
 |false=>
  rw[adg hi]at hL;rw[<-hL,if_neg (by rw[hi];simp)]at hF;dsimp only at hF;have en:=λJ=>nM hT J r;have ea:=λJ=>jW hT J r [105,110,116] (by simp);have eb:=λJ=>jW hT J r [98,111,111,108] (by simp);have et:=λJ=>mX hT J r;unfold WK at hF;cases ha:fP T r [105,110,116] with
  |true=>
   obtain⟨i1,i2⟩:=bh ha;have hw:=wk r.at_ (by omega);simp only[RQ.bC,hi,ha]at ei ea et;rw[ha]at hF;simp only[Bool.true_or,if_true]at hF;generalize hc:dQ T r=c at *;simp only[Tk.cells]at et;simp[ei,ea,et,RQ.bC,cut,bq,AV.af,AV.au,ah,hw,AV.aa];refine bu Iy.eq_1 (λx:Nat=>⟨[(0,.val (.ptr 0 0 0 0)),(2,.fp 0 0),(3,.val (.int .i64 d)),(4,.fp 1 0),(5,.val (.int .i64 x))],[[.str [],.int .i64 0],[.str c.t,.int .i64 d]],[RQ.bC l (rI T (aA r) [93] x)]⟩)
    (λx=>x<=d) (λx=>d-x) 0 ?_ (by simp) ?_
   rfl
   intro x hx ihx;by_cases hxd:x<d;have hwx:=wk x (by omega);have ek:=λJ=>eX hT J (rI T (aA r) [93] x) [93] (by simp);have ahP:(x:Int)<(d:Int):=(by omega);simp[hxd,ek,hwx];exact ihx (x+1) (by omega) (by omega);have:x=d:=by omega
   subst this;subst hF;simp
   rfl
  |false=>
   cases hb:fP T r [98,111,111,108] with
   |true=>
    obtain⟨i1,i2⟩:=bh hb;have hw:=wk r.at_ (by omega);simp only[RQ.bC,hi,ha,hb]at ei ea eb et;rw[ha,hb]at hF;simp only[Bool.false_or,if_true]at hF;generalize hc:dQ T r=c at *;simp only[Tk.cells]at et;simp[ei,ea,eb,et,RQ.bC,cut,bq,AV.af,AV.au,ah,hw,AV.aa];refine bu Iy.eq_1 (λx:Nat=>⟨[(0,.val (.ptr 0 0 0 0)),(2,.fp 0 0),(3,.val (.int .i64 d)),(4,.fp 1 0),(5,.val (.int .i64 x))],[[.str [],.int .i64 0],[.str c.t,.int .i64 d]],[RQ.bC l (rI T (aA r) [93] x)]⟩)
     (λx=>x<=d) (λx=>d-x) 0 ?_ (by simp) ?_
    rfl
    intro x hx ihx;by_cases hxd:x<d;have hwx:=wk x (by omega);have ek:=λJ=>eX hT J (rI T (aA r) [93] x) [93] (by simp);have ahP:(x:Int)<(d:Int):=(by omega);simp[hxd,ek,hwx];exact ihx (x+1) (by omega) (by omega);have:x=d:=by omega
    subst this;subst hF;simp
    rfl
   |false=>
    rw[ha,hb]at hF;simp only[Bool.or_self,Bool.false_eq_true,if_false]at hF;generalize cW T r=z at *;simp[ei,ea,eb,hi,ha,hb,en,ah];refine bu Iy.eq_1 (λx:Nat=>⟨[(0,.val (.ptr 0 0 0 0)),(2,.fp 0 0),(3,.val (.int .i64 d)),(4,.fp 1 0),(5,.val (.int .i64 x))],[[.str [],.int .i64 0],[.str z.1,.int .i64 d]],[RQ.bC l (rI T z.2 [93] x)]⟩)
     (λx=>x<=d) (λx=>d-x) 0 ?_ (by simp) ?_
    rfl
    intro x hx ihx;by_cases hxd:x<d;have hwx:=wk x (by omega);have ek:=λJ=>eX hT J (rI T z.2 [93] x) [93] (by simp);have ahP:(x:Int)<(d:Int):=(by omega);simp[hxd,ek,hwx];exact ihx (x+1) (by omega) (by omega);have:x=d:=by omega
    subst this;subst hF;simp
theorem rR:(aT S).call 0 J 24 [.ptr 0 0 0 0] [q.bC l]=some (.agg (cU T q).1.cells,[(cU T q).2.bC l]):=by
 have et:=λJ=>mX hT J q;have en:=λJ=>nM hT J q;have e2:=λJ=>eX hT J (cW T q).2 [58] (by simp);have e3:=λJ=>Lq hT J (cH T (cW T q).2 [58]);refine an (sf:=s24) rfl rfl rfl ?_;unfold cU;generalize vl T (cH T (cW T q).2 [58])=z3 at *;generalize cH T (cW T q).2 [58]=q2 at *;generalize cW T q=z at *;generalize dQ T q=c at *;simp only[Tk.cells]at et;simp[-ax,-ag,s24,et,en,e2,e3,ah,AV.aa,AV.au,AV.af,PD.cells]
end
theorem wN(wl J:Nat)(n:Nat)(hn:n<5)(c:Tk)(st:ai):(aT S).call wl J 114 [.int .i64 n,.agg c.cells] st=some (.int .i64 (lK n c),st):=by
 refine bn (sf:=KW) rfl rfl (by simp[Tk.cells,AV.au,AV.af]) rfl (by simp) ?_;unfold lK;by_cases hk:c.k=4;rw[if_pos hk];have w1:IntKind.i64.wrap 1=1:=rfl;have w2:IntKind.i64.wrap 2=2:=rfl;have w3:IntKind.i64.wrap 3=3:=rfl;have w4:IntKind.i64.wrap 4=4:=rfl;have ahQ:n=0\/n=1\/n=2\/n=3\/n=4:=by omega
 have w1:IntKind.i64.wrap 1=1:=rfl;have w2:IntKind.i64.wrap 2=2:=rfl;have w3:IntKind.i64.wrap 3=3:=rfl;have w4:IntKind.i64.wrap 4=4:=rfl;rcases ahQ with h|h|h|h|h;subst h;simp[KW,Tk.cells,hk];refine bu xG.eq_1 (λk:Nat=>⟨[(0,.val (.int .i64 0)),(3,.fp 0 0),(5,.val (.dc 1 [[.dc 1 [[.str [124,124]]]],[.dc 1 [[.str [38,38]]]],[.dc 1 [[.str [60]],[.str [60,61]],[.str [61,61]],[.str [33,61]]]],[.dc 1 [[.str [43]],[.str [45]]]],[.dc 1 [[.str [42]],[.str [47]],[.str [37]]]]])),(6,.val (.dc 1 [[.dc 1 [[.int .i64 24]]],[.dc 1 [[.int .i64 23]]],[.dc 1 [[.int .i64 19],[.int .i64 20],[.int .i64 21],[.int .i64 22]]],[.dc 1 [[.int .i64 14],[.int .i64 15]]],[.dc 1 [[.int .i64 16],[.int .i64 17],[.int .i64 18]]]])),(7,.val (.int .i64 k))],[[.int .i64 4,.str c.t,.int .i64 c.n,.int .i64 c.a]],[]⟩)
  (λk=>k<=1/\fm (dH 0) c.t=fm ((dH 0).drop k) c.t) (λk=>1-k) 0 (by simp) (by simp) ?_
 intro k ⟨WM,hf⟩ ih;have hc:k=0\/k=1:=by omega
 rcases hc with h|h;subst h;by_cases e:[124,124]=c.t;rw[hf];simp[e,aF,aC,AV.aa,dH,fm];simp[e,w1,aF,aC,AV.aa];exact ih 1 ⟨by omega,by rw[hf];simp[dH,fm,e]⟩ (by omega);subst h;rw[hf];simp[AV.aa,dH,fm];subst h;simp[KW,Tk.cells,hk];refine bu xG.eq_1 (λk:Nat=>⟨[(0,.val (.int .i64 1)),(3,.fp 0 0),(5,.val (.dc 1 [[.dc 1 [[.str [124,124]]]],[.dc 1 [[.str [38,38]]]],[.dc 1 [[.str [60]],[.str [60,61]],[.str [61,61]],[.str [33,61]]]],[.dc 1 [[.str [43]],[.str [45]]]],[.dc 1 [[.str [42]],[.str [47]],[.str [37]]]]])),(6,.val (.dc 1 [[.dc 1 [[.int .i64 24]]],[.dc 1 [[.int .i64 23]]],[.dc 1 [[.int .i64 19],[.int .i64 20],[.int .i64 21],[.int .i64 22]]],[.dc 1 [[.int .i64 14],[.int .i64 15]]],[.dc 1 [[.int .i64 16],[.int .i64 17],[.int .i64 18]]]])),(7,.val (.int .i64 k))],[[.int .i64 4,.str c.t,.int .i64 c.n,.int .i64 c.a]],[]⟩)
  (λk=>k<=1/\fm (dH 1) c.t=fm ((dH 1).drop k) c.t) (λk=>1-k) 0 (by simp) (by simp) ?_
 intro k ⟨WM,hf⟩ ih;have hc:k=0\/k=1:=by omega
 rcases hc with h|h;subst h;by_cases e:[38,38]=c.t;rw[hf];simp[e,aF,aC,AV.aa,dH,fm];simp[e,w1,aF,aC,AV.aa];exact ih 1 ⟨by omega,by rw[hf];simp[dH,fm,e]⟩ (by omega);subst h;rw[hf];simp[AV.aa,dH,fm];subst h;simp[KW,Tk.cells,hk];refine bu xG.eq_1 (λk:Nat=>⟨[(0,.val (.int .i64 2)),(3,.fp 0 0),(5,.val (.dc 1 [[.dc 1 [[.str [124,124]]]],[.dc 1 [[.str [38,38]]]],[.dc 1 [[.str [60]],[.str [60,61]],[.str [61,61]],[.str [33,61]]]],[.dc 1 [[.str [43]],[.str [45]]]],[.dc 1 [[.str [42]],[.str [47]],[.str [37]]]]])),(6,.val (.dc 1 [[.dc 1 [[.int .i64 24]]],[.dc 1 [[.int .i64 23]]],[.dc 1 [[.int .i64 19],[.int .i64 20],[.int .i64 21],[.int .i64 22]]],[.dc 1 [[.int .i64 14],[.int .i64 15]]],[.dc 1 [[.int .i64 16],[.int .i64 17],[.int .i64 18]]]])),(7,.val (.int .i64 k))],[[.int .i64 4,.str c.t,.int .i64 c.n,.int .i64 c.a]],[]⟩)
  (λk=>k<=4/\fm (dH 2) c.t=fm ((dH 2).drop k) c.t) (λk=>4-k) 0 (by simp) (by simp) ?_
 intro k ⟨WM,hf⟩ ih;have hc:k=0\/k=1\/k=2\/k=3\/k=4:=by omega
 rcases hc with h|h|h|h|h;subst h;by_cases e:[60]=c.t;rw[hf];simp[e,aF,aC,AV.aa,dH,fm];simp[e,w1,aF,aC,AV.aa];exact ih 1 ⟨by omega,by rw[hf];simp[dH,fm,e]⟩ (by omega);subst h;by_cases e:[60,61]=c.t;rw[hf];simp[e,aF,aC,AV.aa,dH,fm];simp[e,w2,aF,aC,AV.aa];exact ih 2 ⟨by omega,by rw[hf];simp[dH,fm,e]⟩ (by omega);subst h;by_cases e:[61,61]=c.t;rw[hf];simp[e,aF,aC,AV.aa,dH,fm];simp[e,w3,aF,aC,AV.aa];exact ih 3 ⟨by omega,by rw[hf];simp[dH,fm,e]⟩ (by omega);subst h;by_cases e:[33,61]=c.t;rw[hf];simp[e,aF,aC,AV.aa,dH,fm];simp[e,w4,aF,aC,AV.aa];exact ih 4 ⟨by omega,by rw[hf];simp[dH,fm,e]⟩ (by omega);subst h;rw[hf];simp[AV.aa,dH,fm];subst h;simp[KW,Tk.cells,hk];refine bu xG.eq_1 (λk:Nat=>⟨[(0,.val (.int .i64 3)),(3,.fp 0 0),(5,.val (.dc 1 [[.dc 1 [[.str [124,124]]]],[.dc 1 [[.str [38,38]]]],[.dc 1 [[.str [60]],[.str [60,61]],[.str [61,61]],[.str [33,61]]]],[.dc 1 [[.str [43]],[.str [45]]]],[.dc 1 [[.str [42]],[.str [47]],[.str [37]]]]])),(6,.val (.dc 1 [[.dc 1 [[.int .i64 24]]],[.dc 1 [[.int .i64 23]]],[.dc 1 [[.int .i64 19],[.int .i64 20],[.int .i64 21],[.int .i64 22]]],[.dc 1 [[.int .i64 14],[.int .i64 15]]],[.dc 1 [[.int .i64 16],[.int .i64 17],[.int .i64 18]]]])),(7,.val (.int .i64 k))],[[.int .i64 4,.str c.t,.int .i64 c.n,.int .i64 c.a]],[]⟩)
  (λk=>k<=2/\fm (dH 3) c.t=fm ((dH 3).drop k) c.t) (λk=>2-k) 0 (by simp) (by simp) ?_
 intro k ⟨WM,hf⟩ ih;have hc:k=0\/k=1\/k=2:=by omega
 rcases hc with h|h|h;subst h;by_cases e:[43]=c.t;rw[hf];simp[e,aF,aC,AV.aa,dH,fm];simp[e,w1,aF,aC,AV.aa];exact ih 1 ⟨by omega,by rw[hf];simp[dH,fm,e]⟩ (by omega);subst h;by_cases e:[45]=c.t;rw[hf];simp[e,aF,aC,AV.aa,dH,fm];simp[e,w2,aF,aC,AV.aa];exact ih 2 ⟨by omega,by rw[hf];simp[dH,fm,e]⟩ (by omega);subst h;rw[hf];simp[AV.aa,dH,fm];subst h;simp[KW,Tk.cells,hk];refine bu xG.eq_1 (λk:Nat=>⟨[(0,.val (.int .i64 4)),(3,.fp 0 0),(5,.val (.dc 1 [[.dc 1 [[.str [124,124]]]],[.dc 1 [[.str [38,38]]]],[.dc 1 [[.str [60]],[.str [60,61]],[.str [61,61]],[.str [33,61]]]],[.dc 1 [[.str [43]],[.str [45]]]],[.dc 1 [[.str [42]],[.str [47]],[.str [37]]]]])),(6,.val (.dc 1 [[.dc 1 [[.int .i64 24]]],[.dc 1 [[.int .i64 23]]],[.dc 1 [[.int .i64 19],[.int .i64 20],[.int .i64 21],[.int .i64 22]]],[.dc 1 [[.int .i64 14],[.int .i64 15]]],[.dc 1 [[.int .i64 16],[.int .i64 17],[.int .i64 18]]]])),(7,.val (.int .i64 k))],[[.int .i64 4,.str c.t,.int .i64 c.n,.int .i64 c.a]],[]⟩)
  (λk=>k<=3/\fm (dH 4) c.t=fm ((dH 4).drop k) c.t) (λk=>3-k) 0 (by simp) (by simp) ?_
 intro k ⟨WM,hf⟩ ih;have hc:k=0\/k=1\/k=2\/k=3:=by omega
 rcases hc with h|h|h|h;subst h;by_cases e:[42]=c.t;rw[hf];simp[e,aF,aC,AV.aa,dH,fm];simp[e,w1,aF,aC,AV.aa];exact ih 1 ⟨by omega,by rw[hf];simp[dH,fm,e]⟩ (by omega);subst h;by_cases e:[47]=c.t;rw[hf];simp[e,aF,aC,AV.aa,dH,fm];simp[e,w2,aF,aC,AV.aa];exact ih 2 ⟨by omega,by rw[hf];simp[dH,fm,e]⟩ (by omega);subst h;by_cases e:[37]=c.t;rw[hf];simp[e,aF,aC,AV.aa,dH,fm];simp[e,w3,aF,aC,AV.aa];exact ih 3 ⟨by omega,by rw[hf];simp[dH,fm,e]⟩ (by omega);subst h;rw[hf];simp[AV.aa,dH,fm];simp[KW,Tk.cells,hk]
end N7
namespace N7
open Ax Go bX V7 lf
theorem rS{wl J:Nat}{l:AV}{q:RQ}{bx:aX}:aP wl J (.load false 1 false) [.val (.ptr 0 0 0 1)] [RQ.bC l q] bx=some (.val (.int .i64 q.at_),[RQ.bC l q],bx):=by
 simp[RQ.bC,cut,AV.aa]
theorem ahR{wl J:Nat}{l:AV}{q:RQ}{bx:aX}:aP wl J (.load false 1 false) [.val (.ptr 0 0 0 2)] [RQ.bC l q] bx=some (.val (.int .i64 q.op),[RQ.bC l q],bx):=by
 simp[RQ.bC,cut,AV.aa]
theorem lP{J:Nat}{l:AV}{q:RQ}{bx:aX}:aP 0 J (.store 1) [.val (.ptr 0 0 0 1),.val (.int .i64 ((q.at_:Int)+1))] [RQ.bC l q] bx=some (.none,[RQ.bC l (aA q)],bx):=by
 simp[RQ.bC,aA,bq,AV.af,AV.au,ah]
theorem O0{J:Nat}{l:AV}{q:RQ}{n:Int}{bx:aX}:aP 0 J (.store 1) [.val (.ptr 0 0 0 2),.val (.int .i64 n)] [RQ.bC l q] bx=some (.none,[RQ.bC l ⟨q.at_,n,q.fe,q.fa⟩],bx):=by
 simp[RQ.bC,bq,AV.af,AV.au,ah]
theorem ahS(n:Int):IntKind.i64.wrap (n-1)=IntKind.i64.wrap (n + -1):=by rw[Int.sub_eq_add_neg]
def tP(e:E)(kv:AV):List AV:=[.int .i64 e.k,.int .i64 e.n,.str e.nm,.str e.on,.int .i64 e.od,kv,.int .i64 e.a,.int .i64 e.ty.b,.int .i64 e.ty.r,.int .i64 e.ty.d,.int .i64 e.ref]
theorem xQ(e:E):tP e (bf e.ay)=e.aG:=(E.aB e).symm
def OkE(l:AV)(T:List Tk)(f:Nat):Prop:=∀n q e r,n<=5->eY T f n q=some (e,r)->∀J,(aT S).call 0 J 91 [.ptr 0 0 0 0,.int .i64 (n:Nat)] [q.bC l]=some (.agg e.aG,[r.bC l])
def OkU(l:AV)(T:List Tk)(f:Nat):Prop:=∀q e r,jA T f q=some (e,r)->∀J,(aT S).call 0 J 113 [.ptr 0 0 0 0] [q.bC l]=some (.agg e.aG,[r.bC l])
def IX(l:AV)(T:List Tk)(f:Nat):Prop:=∀a q e r,eJ T f a q=some (e,r)->∀kv,aR kv=true->kv.aa=bf a.ay->∀J,(aT S).call 0 J 137 [.ptr 0 0 0 0,.agg (tP a kv)] [q.bC l]=some (.agg e.aG,[r.bC l])
def OkI(l:AV)(T:List Tk)(f:Nat):Prop:=∀q e r,jS T f q=some (e,r)->∀J,(aT S).call 0 J 162 [.ptr 0 0 0 0] [q.bC l]=some (.agg e.aG,[r.bC l])
def OkF(l:AV)(T:List Tk)(f:Nat):Prop:=∀q e r,jB T f q=some (e,r)->∃kv,aR kv=true/\kv.aa=bf e.ay/\∀J,(aT S).call 0 J 138 [.ptr 0 0 0 0] [q.bC l]=some (.agg (tP e kv),[r.bC l])
def OkN(l:AV)(T:List Tk)(f:Nat):Prop:=∀a q e r,kz T f a q=some (e,r)->∀J,(aT S).call 0 J 161 [.ptr 0 0 0 0,.int .i64 a] [q.bC l]=some (.agg e.aG,[r.bC l])
def OkA(l:AV)(T:List Tk)(f:Nat):Prop:=∀q e r,nN T f q=some (e,r)->∀J,(aT S).call 0 J 163 [.ptr 0 0 0 0] [q.bC l]=some (cC 11 (E.rows e),[r.bC l])
section
variable {l:AV}{T:List Tk}(hT:TL l T)
include hT
theorem wO(f:Nat)(hE:OkE l T f):OkI l T (f+1):=by
 intro q e r h J;unfold jS at h;obtain⟨⟨x1,x2⟩,h1,h2⟩:=Option.bind_eq_some_iff.1 h;cases h2;have eo:=λJ=>rQ hT J q [40] (by simp);have e1:=hE 0 _ _ _ (by omega) h1;have ec:=λJ=>qS hT J x2 [41] (by simp);generalize gC T q [40]=q1 at *;generalize ku T x2 [41]=r1 at *;obtain⟨k2,n2,RY,RZ,R7,vJ,a2,EC,CH⟩:=x1;simp only[E.aG,Int.natCast_zero]at e1;refine an (sf:=acP) rfl rfl rfl ?_;simp[acP,eo,e1,ec,E.aG,ah,AV.au,AV.af,AV.aa]
theorem Vb(f:Nat)(hI:OkI l T f):OkN l T (f+1):=by
 intro at_ q e r h J;have hlen:=hT.len;unfold kz at h;have ei:=λJ=>jW hT J q [91] (by simp);refine an (sf:=Ys) rfl rfl rfl ?_;cases hi:fP T q [91] with
 |false=>
  rw[hi]at h;simp only[Bool.false_eq_true,if_false,Option.some.injEq,Prod.mk.injEq]at h;obtain⟨rfl,rfl⟩:=h;have en:=λJ=>nM hT J q;generalize cW T q=z at *;simp[Ys,ei,hi,en,Em,E.aG,E.rows,ah,AV.au,AV.af]
 |true=>
  rw[hi]at h;simp only[if_true]at h;obtain⟨⟨x1,x2⟩,h1,h2⟩:=Option.bind_eq_some_iff.1 h;cases h2;obtain⟨i1,i2⟩:=bh hi;have hw:=wk q.at_ (by omega);have e1:=λJ=>Lq hT J (aA q);have et:=λJ=>eX hT J (vl T (aA q)).2 [93] (by simp);have e3:=hI _ _ _ h1;generalize cH T (vl T (aA q)).2 [93]=r2 at *;generalize vl T (aA q)=o at *;obtain⟨k2,n2,RY,RZ,R7,vJ,a2,EC,CH⟩:=x1;simp only[E.aG]at e3;simp[-ax,-ag,Ys,ei,hi,rS,lP,hw,e1,et,e3,Em,E.aG,E.rows,aF,aC,ah,AV.au,AV.af,AV.aa]
theorem IY(f:Nat)(hE:∀g,g<=f->OkE l T g):OkA l T (f+1):=by
 intro q e r h J;have hlen:=hT.len;unfold nN at h;have eo:=λJ=>rQ hT J q [40] (by simp);refine an (sf:=Yt) rfl rfl rfl ?_;generalize gC T q [40]=q1 at *;have ei:=λJ=>jW hT J q1 [41] (by simp);cases hi:fP T q1 [41] with
 |true=>
  rw[hi]at h;simp only[if_true,Option.some.injEq,Prod.mk.injEq]at h;obtain⟨rfl,rfl⟩:=h;have ec:=λJ=>qS hT J q1 [41] (by simp);generalize ku T q1 [41]=r1 at *;simp[Yt,eo,ei,hi,ec,E.rows,o8]
 |false=>
  rw[hi]at h;simp only[Bool.false_eq_true,if_false]at h;obtain⟨⟨x1,x2⟩,h1,h2⟩:=Option.bind_eq_some_iff.1 h;have e1:=hE f (Nat.le_refl _) 0 _ _ _ (by omega) h1;have g1:=dK h1;have hx:x7 11 120 .U [x1.aG]=some (cC 11 (E.rows [x1])):=by
   have:=gm (sz:=11) (bytes:=120) (r:=[]) (new:=[x1.aG]) (by simp[bV,E.aB]) (by simp[dx]);simpa [o8,E.rows] using this
  obtain⟨F,hF⟩:∃F,(cC 11 (E.rows e),[RQ.bC l r])=F:=⟨_,rfl⟩;obtain⟨k2,n2,RY,RZ,R7,vJ,a2,EC,CH⟩:=x1;simp only[E.aG,Int.natCast_zero]at e1 hx;simp[Yt,eo,ei,hi,e1,hx,AV.aa];refine bu OJ.eq_1 (λx:RQ×List E×Nat=>⟨[(0,.val (.ptr 0 0 0 0)),(3,.val (cC 11 (E.rows x.2.1)))],[],[RQ.bC l x.1]⟩)
   (λx=>x.2.2<=f/\x.2.1.length<=x.1.at_+1/\nt T x.2.2 x.2.1 x.1=some (e,r)) (λx=>x.2.2) (x2,[E.mk k2 n2 RY RZ R7 vJ a2 EC CH],f) rfl ⟨Nat.le_refl _,by simp,h2⟩ ?_
  rintro⟨s,es,g⟩ ⟨hg,hln,hp⟩ ih;simp only at hg hln hp ih;have ej:=λJ=>jW hT J s [44] (by simp);cases g with
  |zero=>simp[nt]at hp|succ g=>
   unfold nt at hp;cases hj:fP T s [44] with
   |true=>
    rw[hj]at hp;simp only[if_true]at hp;obtain⟨⟨y1,y2⟩,h3,h4⟩:=Option.bind_eq_some_iff.1 hp;obtain⟨i1,i2⟩:=bh hj;have FZ:=wk s.at_ (by omega);have e2:=hE g (by omega) 0 _ _ _ (by omega) h3;have g2:=(dK h3).le;have F0:=gm (sz:=11) (bytes:=120) (r:=E.rows es) (new:=[y1.aG]) (by simp[bV,E.aB]) (by simp[dx,gd];omega);have hrw:E.rows es++[y1.aG]=E.rows (es++[y1]):=(by simp[gd]);rw[hrw]at F0;have iF:=ih (y2,es++[y1],g) ⟨by simp only;omega,by simp[aA]at g2 ⊢;omega,h4⟩ (by simp only;omega);generalize E.rows (es++[y1])=R at *;obtain⟨k3,n3,nm3,on3,od3,aoE,a3,ty3,aqL⟩:=y1;simp only[E.aG,Int.natCast_zero]at e2 F0;simp[-ax,-ag,ej,hj,rS,lP,FZ,e2,F0,AV.aa];exact iF
   |false=>
    rw[hj]at hp;simp only[Bool.false_eq_true,if_false,Option.some.injEq,Prod.mk.injEq]at hp;obtain⟨rfl,rfl⟩:=hp;have ec:=λJ=>qS hT J s [41] (by simp);generalize ku T s [41]=r1 at *;simp[ej,hj,ec]
end
end N7
namespace N7
open Ax Go bX V7 lf
section
variable {l:AV}{T:List Tk}(hT:TL l T)
include hT
theorem EO(f:Nat)(hN:OkN l T f)(hI:OkI l T f)(hA:OkA l T f):OkF l T (f+1):=by
 intro q e r h;have hlen:=hT.len;have et:=λJ=>mX hT J q;have eo:=λJ=>Ad (l:=l) J q;have ei:=λJ s hs=>jW hT J q s hs;have YN:=λs (h:fP T q s=true)=>G7 h;have MH:(dQ T q).k≠0->q.at_<T.length:=tN;unfold jB at h;generalize hc:dQ T q=c at *;simp only[Tk.cells]at et;have hw:q.at_<T.length->IntKind.i64.wrap ((q.at_:Int)+1)=((q.at_+1:Nat):Int):=λh=>by rw[dn]<;>omega
 have GC:∀s,fP T q s=true->IntKind.i64.wrap ((q.at_:Int)+1)=((q.at_+1:Nat):Int):=λs h=>hw (bh h).2;by_cases c0:q.fe=0/\c.k=2;rw[if_pos c0]at h;cases h;have hw:=hw (MH (by rw[c0.2];decide));refine⟨.U,rfl,by simp[Em,E.ay,pg,AV.aa],λJ=>?_⟩;refine an (sf:=rG) rfl rfl rfl ?_;simp[-ax,-ag,rG,et,eo,c0.1,c0.2,rS,lP,hw,ah,AV.au,AV.af,tP,Em,E.k,E.n,E.nm,E.on,E.od,E.a,E.ty,E.ref];rw[if_neg c0]at h;by_cases JS:q.fe=0
 ·have se:¬c.k=2:=λh=>c0 ⟨JS,h⟩;cases h1:fP T q [116,114,117,101] with
  |true=>
   rw[h1]at h;simp only[Bool.true_or,if_true,Option.some.injEq,Prod.mk.injEq]at h;obtain⟨rfl,rfl⟩:=h;have hw:=GC _ h1;have ht:=YN _ h1;refine⟨.U,rfl,by simp[Em,E.ay,pg,AV.aa],λJ=>?_⟩;refine an (sf:=rG) rfl rfl rfl ?_;simp[-ax,-ag,rG,et,eo,JS,se,ei,h1,rS,lP,hw,ht,ah,AV.au,AV.af,tP,Em,E.k,E.n,E.nm,E.on,E.od,E.a,E.ty,E.ref]
  |false=>
  cases h2:fP T q [102,97,108,115,101] with
  |true=>
   rw[h1,h2]at h;simp only[Bool.false_or,if_true,Option.some.injEq,Prod.mk.injEq]at h;obtain⟨rfl,rfl⟩:=h;have hw:=GC _ h2;have ht:=YN _ h2;refine⟨.U,rfl,by simp[Em,E.ay,pg,AV.aa],λJ=>?_⟩;refine an (sf:=rG) rfl rfl rfl ?_;simp[-ax,-ag,rG,et,eo,JS,se,ei,h1,h2,rS,lP,hw,ht,ah,AV.au,AV.af,tP,Em,E.k,E.n,E.nm,E.on,E.od,E.a,E.ty,E.ref]
  |false=>
  rw[h1,h2]at h;simp only[Bool.or_self,Bool.false_eq_true,if_false]at h;cases h3:fP T q [110,117,108,108] with
  |true=>
   rw[h3]at h;simp only[if_true,Option.some.injEq,Prod.mk.injEq]at h;obtain⟨rfl,rfl⟩:=h;have hw:=GC _ h3;have e1:=λJ=>Lq hT J (aA q);generalize vl T (aA q)=o at *;refine⟨.U,rfl,by simp[Em,E.ay,pg,AV.aa],λJ=>?_⟩;refine an (sf:=rG) rfl rfl rfl ?_;simp[-ax,-ag,rG,et,eo,JS,se,ei,h1,h2,h3,rS,lP,hw,e1,ah,AV.au,AV.af,aF,aC,tP,Em,E.k,E.n,E.nm,E.on,E.od,E.a,E.ty,E.ref]
  |false=>
  rw[h3]at h;simp only[Bool.false_eq_true,if_false]at h;cases h4:fP T q [110,101,119] with
  |true=>
   rw[h4]at h;simp only[if_true]at h;have hw:=GC _ h4;have e1:=hN _ _ _ _ h;refine⟨bf e.ay,by simp,by simp,λJ=>?_⟩;rw[xQ];obtain⟨k2,n2,RY,RZ,R7,vJ,a2,EC,CH⟩:=e;simp only[E.aG]at e1 ⊢;refine an (sf:=rG) rfl rfl rfl ?_;simp[-ax,-ag,rG,et,eo,JS,se,ei,h1,h2,h3,h4,rS,lP,hw,e1,ah,AV.au,AV.af]
  |false=>
  rw[h4]at h;simp only[Bool.false_eq_true,if_false]at h;cases h5:fP T q [108,101,110] with
  |true=>
   rw[h5]at h;simp only[if_true]at h;have hw:=GC _ h5;obtain⟨⟨x1,x2⟩,h8,h9⟩:=Option.bind_eq_some_iff.1 h;cases h9;have e1:=hI _ _ _ h8;refine⟨_,by simp,bS,λJ=>?_⟩;rw[xQ];obtain⟨k2,n2,RY,RZ,R7,vJ,a2,EC,CH⟩:=x1;simp only[E.aG]at e1;refine an (sf:=rG) rfl rfl rfl ?_;simp[-ax,-ag,rG,et,eo,JS,se,ei,h1,h2,h3,h4,h5,rS,lP,hw,e1,ah,AV.au,AV.af,AV.aa,aF,aC,Em,E.aG,E.rows]
  |false=>
  rw[h5]at h;simp only[Bool.false_eq_true,if_false]at h;cases h6:fP T q [114,101,97,100] with
  |true=>
   rw[h6]at h;simp only[if_true,Option.some.injEq,Prod.mk.injEq]at h;obtain⟨rfl,rfl⟩:=h;have hw:=GC _ h6;have ep:=λJ=>rQ hT J (aA q) [40] (by simp);have eq:=λJ=>qS hT J (gC T (aA q) [40]) [41] (by simp);refine⟨.U,rfl,by simp[Em,E.ay,pg,AV.aa],λJ=>?_⟩;refine an (sf:=rG) rfl rfl rfl ?_;simp[-ax,-ag,rG,et,eo,JS,se,ei,h1,h2,h3,h4,h5,h6,rS,lP,hw,ep,eq,ah,AV.au,AV.af,tP,Em,E.k,E.n,E.nm,E.on,E.od,E.a,E.ty,E.ref]
  |false=>
  rw[h6]at h;simp only[Bool.false_eq_true,if_false]at h;cases h7:fP T q [40] with
  |true=>
   rw[h7]at h;simp only[if_true]at h;have e1:=hI _ _ _ h;refine⟨bf e.ay,by simp,by simp,λJ=>?_⟩;rw[xQ];obtain⟨k2,n2,RY,RZ,R7,vJ,a2,EC,CH⟩:=e;simp only[E.aG]at e1 ⊢;refine an (sf:=rG) rfl rfl rfl ?_;simp[-ax,-ag,rG,et,eo,JS,se,ei,h1,h2,h3,h4,h5,h6,h7,e1,ah,AV.au,AV.af]
  |false=>
   rw[h7]at h;simp only[Bool.false_eq_true,if_false]at h;have en:=λJ=>nM hT J q;generalize cW T q=z at *;have ez:=λJ=>jW hT J z.2 [40] (by simp);cases h8:fP T z.2 [40] with
   |false=>
    rw[h8]at h;simp only[Bool.false_eq_true,if_false,Option.some.injEq,Prod.mk.injEq]at h;obtain⟨rfl,rfl⟩:=h;refine⟨.U,rfl,by simp[Em,E.ay,pg,AV.aa],λJ=>?_⟩;refine an (sf:=rG) rfl rfl rfl ?_;simp[-ax,-ag,rG,et,eo,JS,se,ei,h1,h2,h3,h4,h5,h6,h7,en,ez,h8,ah,AV.au,AV.af,tP,Em,E.k,E.n,E.nm,E.on,E.od,E.a,E.ty,E.ref]
   |true=>
    rw[h8]at h;simp only[if_true]at h;obtain⟨⟨x1,x2⟩,h9,zf⟩:=Option.bind_eq_some_iff.1 h;cases zf;have e1:=hA _ _ _ h9;have hk:aR (cC 11 (E.rows x1))=true:=dz;have hv:(cC 11 (E.rows x1)).aa=bf x1:=rfl;generalize cC 11 (E.rows x1)=kv at *;have hkc:=bK hk;have hkp:=cm hk;refine⟨kv,hk,hv,λJ=>?_⟩;refine an (sf:=rG) rfl rfl rfl ?_;simp[-ax,-ag,rG,et,eo,JS,se,ei,h1,h2,h3,h4,h5,h6,h7,en,ez,h8,e1,hk,ah,AV.au,AV.af,aF,aC,tP,Em,E.k,E.n,E.nm,E.on,E.od,E.a,E.ty,E.ref]
 have iz:∀s,fP T q s=false:=λs=>YD JS;have en:=λJ=>nM hT J q;have hz:cW T q=([],q):=by simp[cW,JS,jc]
 rw[hz]at en;simp only[iz,hz,Bool.or_self,Bool.false_eq_true,if_false,Option.some.injEq,Prod.mk.injEq]at h;obtain⟨rfl,rfl⟩:=h;refine⟨.U,rfl,by simp[Em,E.ay,pg,AV.aa],λJ=>?_⟩;refine an (sf:=rG) rfl rfl rfl ?_;simp[-ax,-ag,rG,et,eo,JS,ei,iz,en,ah,AV.au,AV.af,tP,Em,E.k,E.n,E.nm,E.on,E.od,E.a,E.ty,E.ref]
theorem Rg(f:Nat)(hE:∀g,g<f->OkE l T g):IX l T f:=by
 intro a0 q e r h kv0 y5 hv0 J;have hlen:=hT.len;have amH:=bK y5;refine an (sf:=acK) rfl rfl rfl ?_;simp[acK,tP,amH];refine bu OI.eq_1 (λx:RQ×E×AV×Nat×List AV×List AV=>⟨[(0,.val (.ptr 0 0 0 0)),(3,.fp 0 0),(4,.fp 1 0)],
   [tP x.2.1 x.2.2.1,[.int .i64 0,.int .i64 0,.str [],.str [],.int .i64 0,.U,.int .i64 0,.int .i64 0,.int .i64 0,.int .i64 0,.int .i64 0],x.2.2.2.2.1,x.2.2.2.2.2],[RQ.bC l x.1]⟩)
  (λx=>x.2.2.2.1<=f/\aR x.2.2.1=true/\x.2.2.1.aa=bf x.2.1.ay/\eJ T x.2.2.2.1 x.2.1 x.1=some (e,r)) (λx=>x.2.2.2.1) (q,a0,kv0,f,[],[]) rfl ⟨Nat.le_refl _,y5,hv0,h⟩ ?_
 rintro⟨s,a,kv,g,b2,b3⟩ ⟨hg,hk,hv,hp⟩ ih;simp only at hg hk hv hp ih;have hkc:=bK hk;have hkp:=cm hk;have ed:=λJ=>jW hT J s [46] (by simp);have eb:=λJ=>jW hT J s [91] (by simp);have et:=λJ=>mX hT J s;have dj:E.rows [a]=[tP a (bf a.ay)]:=by rw[xQ];simp[E.rows]
 cases g with
 |zero=>simp[eJ]at hp|succ g=>
  unfold eJ at hp;cases h1:fP T s [46] with
  |true=>
   rw[h1]at hp;simp only[if_true]at hp;obtain⟨i1,i2⟩:=bh h1;have hw:=wk s.at_ (by omega);have en:=λJ=>nM hT J (aA s);generalize cW T (aA s)=z at *;generalize dQ T s=c at *;simp only[Tk.cells]at et;have iF:=λb2 b3=>ih (z.2,Em 5 0 z.1 [] 0 [a] c.a,bf [a],g,b2,b3) ⟨by simp only;omega,by simp,by simp[Em,E.ay],hp⟩ (by simp only;omega);simp[-ax,-ag,ed,h1,et,rS,lP,hw,en,hv,ah,AV.aa,aF,aC,tP];have:=iF [.int .i64 c.k,.str c.t,.int .i64 c.n,.int .i64 c.a] b3;simp[tP,Em,E.k,E.n,E.nm,E.on,E.od,E.a,E.ty,E.ref,bf,dj]at this;exact this
  |false=>
   rw[h1]at hp;simp only[Bool.false_eq_true,if_false]at hp;cases h2:fP T s [91] with
   |true=>
    rw[h2]at hp;simp only[if_true]at hp;obtain⟨⟨x1,x2⟩,h3,h4⟩:=Option.bind_eq_some_iff.1 hp;have eo:=λJ=>rQ hT J s [91] (by simp);have e1:=hE g (by omega) 0 _ _ _ (by omega) h3;have ec:=λJ=>qS hT J x2 [93] (by simp);generalize gC T s [91]=q1 at *;simp only at h4;generalize ku T x2 [93]=q3 at *;generalize dQ T s=c at *;simp only[Tk.cells]at et;have Lr:E.rows [a,x1]=[tP a (bf a.ay),x1.aG]:=(by rw[xQ];simp[E.rows]);have iF:=λb2 b3=>ih (q3,Em 6 0 [] [] 0 [a,x1] c.a,bf [a,x1],g,b2,b3) ⟨by simp only;omega,by simp,by simp[Em,E.ay],h4⟩ (by simp only;omega);obtain⟨k2,n2,RY,RZ,R7,vJ,a2,EC,CH⟩:=x1;simp only[E.aG,Int.natCast_zero]at e1 Lr;simp[-ax,-ag,ed,eb,h1,h2,et,eo,e1,ec,hv,ah,AV.aa,tP];have:=iF [.int .i64 c.k,.str c.t,.int .i64 c.n,.int .i64 c.a] [.int .i64 k2,.int .i64 n2,.str RY,.str RZ,.int .i64 R7,aK 11 (E.rows vJ),.int .i64 a2,.int .i64 EC.b,.int .i64 EC.r,.int .i64 EC.d,.int .i64 CH];simp[tP,Em,E.k,E.n,E.nm,E.on,E.od,E.a,E.ty,E.ref,bf,Lr]at this;exact this
   |false=>
    rw[h2]at hp;simp only[Bool.false_eq_true,if_false,Option.some.injEq,Prod.mk.injEq]at hp;obtain⟨rfl,rfl⟩:=hp;rw[<-xQ];simp[-ax,-ag,ed,eb,h1,h2,hv,ah,AV.au,AV.af,tP]
theorem Vc(f:Nat)(hE:OkE l T f)(hF:OkF l T f)(hB:IX l T f):OkU l T (f+1):=by
 intro q e r h J;have hlen:=hT.len;have et:=λJ=>mX hT J q;have em:=λJ=>jW hT J q [45] (by simp);have en:=λJ=>jW hT J q [33] (by simp);unfold jA at h;refine an (sf:=Uu) rfl rfl rfl ?_;cases h1:fP T q [45] with
 |true=>
  rw[h1]at h;simp only[Bool.true_or,if_true]at h;obtain⟨⟨x1,x2⟩,h3,h4⟩:=Option.bind_eq_some_iff.1 h;cases h4;have hc:=G7 h1;rw[hc]at h3;have eo:=λJ=>rQ hT J q [45] (by simp);have e1:=hE 5 _ _ _ (by omega) h3;generalize gC T q [45]=q1 at *;generalize dQ T q=c at *;obtain⟨k2,n2,RY,RZ,R7,vJ,a2,EC,CH⟩:=x1;simp only[Tk.cells]at et;simp only[E.aG,Int.cast_ofNat_Int]at e1;simp[-ax,-ag,Uu,et,em,h1,hc,eo,e1,ahR,O0,rH,ahS,ah,AV.aa,AV.au,AV.af,Em,E.aG,E.rows]
 |false=>
  cases h2:fP T q [33] with
  |true=>
   rw[h1,h2]at h;simp only[Bool.false_or,if_true]at h;obtain⟨⟨x1,x2⟩,h3,h4⟩:=Option.bind_eq_some_iff.1 h;cases h4;have hc:=G7 h2;rw[hc]at h3;have eo:=λJ=>rQ hT J q [33] (by simp);have e1:=hE 5 _ _ _ (by omega) h3;generalize gC T q [33]=q1 at *;generalize dQ T q=c at *;obtain⟨k2,n2,RY,RZ,R7,vJ,a2,EC,CH⟩:=x1;simp only[Tk.cells]at et;simp only[E.aG,Int.cast_ofNat_Int]at e1;simp[-ax,-ag,Uu,et,em,en,h1,h2,hc,eo,e1,ahR,O0,rH,ahS,ah,AV.aa,AV.au,AV.af,Em,E.aG,E.rows]
  |false=>
   rw[h1,h2]at h;simp only[Bool.or_self,Bool.false_eq_true,if_false]at h;obtain⟨⟨x1,x2⟩,h3,h4⟩:=Option.bind_eq_some_iff.1 h;obtain⟨kv,hk,hv,e1⟩:=hF _ _ _ h3;have e3:=hB _ _ _ _ h4 kv hk hv;obtain⟨k2,n2,RY,RZ,R7,vJ,a2,EC,CH⟩:=e;have hkc:=bK hk;have hkp:=cm hk;simp only[E.aG]at e3 ⊢;generalize tP x1 kv=R at *;generalize dQ T q=c at *;simp only[Tk.cells]at et;simp[-ax,-ag,Uu,et,em,en,h1,h2,e1,e3,ah,AV.au,AV.af]
theorem xR(f:Nat)(hE:∀g,g<=f->OkE l T g)(hU:OkU l T f):OkE l T (f+1):=by
 intro n q e r hn h J;have hlen:=hT.len;unfold eY at h;refine an (sf:=s91) rfl rfl rfl ?_;by_cases hn5:n=5;subst hn5;rw[if_pos rfl]at h;have e1:=hU _ _ _ h;obtain⟨k2,n2,RY,RZ,R7,vJ,a2,EC,CH⟩:=e;simp only[E.aG]at e1 ⊢;simp[-ax,-ag,s91,e1,ah,AV.au,AV.af];rw[if_neg hn5]at h;obtain⟨⟨x1,x2⟩,h1,h2⟩:=Option.bind_eq_some_iff.1 h;have amI:¬(n:Int)=5:=by omega
 have hwn:=wk n (by omega);have e1:=hE f (Nat.le_refl _) (n+1) _ _ _ (by omega) h1;have dj:∀e:E,e.aG=[.int .i64 e.k,.int .i64 e.n,.str e.nm,.str e.on,.int .i64 e.od,bf e.ay,.int .i64 e.a,.int .i64 e.ty.b,.int .i64 e.ty.r,.int .i64 e.ty.d,.int .i64 e.ref]:=E.aB;simp only[dj,Int.natCast_add,Int.cast_ofNat_Int]at e1;simp[-ax,-ag,s91,amI,hwn,e1,ah];refine bu Uq.eq_1 (λx:RQ×E×Nat×List AV×List AV=>⟨[(0,.val (.ptr 0 0 0 0)),(1,.val (.int .i64 n)),(4,.fp 0 0),(5,.fp 1 0)],
   [[.int .i64 0,.int .i64 0,.str [],.str [],.int .i64 0,.U,.int .i64 0,.int .i64 0,.int .i64 0,.int .i64 0,.int .i64 0],
    [.int .i64 x.2.1.k,.int .i64 x.2.1.n,.str x.2.1.nm,.str x.2.1.on,.int .i64 x.2.1.od,bf x.2.1.ay,.int .i64 x.2.1.a,.int .i64 x.2.1.ty.b,.int .i64 x.2.1.ty.r,.int .i64 x.2.1.ty.d,.int .i64 x.2.1.ref],x.2.2.2.1,x.2.2.2.2],[RQ.bC l x.1]⟩)
  (λx=>x.2.2.1<=f/\iM T x.2.2.1 n x.2.1 x.1=some (e,r)) (λx=>x.2.2.1) (x2,x1,f,[],[]) rfl ⟨Nat.le_refl _,h2⟩ ?_
 rintro⟨s,a,g,b2,b3⟩ ⟨hg,hp⟩ Ve;simp only at hg hp Ve;have eo:=λJ=>Ad (l:=l) J s;have et:=λJ=>mX hT J s;have elp:=λwl J=>wN wl J n (by omega) (dQ T s) [RQ.bC l s];cases g with
 |zero=>simp[iM]at hp|succ g=>
  unfold iM at hp;by_cases Su:s.fe=0/\lK n (dQ T s)≠0;rw[if_pos Su]at hp;obtain⟨f0,z0⟩:=Su;obtain⟨⟨y1,y2⟩,h3,h4⟩:=Option.bind_eq_some_iff.1 hp;have MH:=zW z0;have hw:=wk s.at_ (by omega);have e3:=hE g (by omega) (n+1) _ _ _ (by omega) h3;have ahU:=λwl J st=>wN wl J n (by omega) (dQ T s) st;simp only[dj,Int.natCast_add,Int.cast_ofNat_Int]at e3;have Lr:E.rows [a,y1]=[a.aG,y1.aG]:=by simp[E.rows]
  simp only[dj]at Lr;generalize lK n (dQ T s)=z at *;have iF:=λb2 b3=>Ve (y2,Em z 0 [] [] 0 [a,y1] (dQ T s).a,g,b2,b3) ⟨by simp only;omega,h4⟩ (by simp only;omega);generalize dQ T s=c at *;simp only[Tk.cells]at et elp ahU;simp[-ax,-ag,eo,f0,et,ahU,z0,rS,lP,hw,hwn,e3,ah,AV.aa,aF,aC];have:=iF [.int .i64 c.k,.str c.t,.int .i64 c.n,.int .i64 c.a] [.int .i64 y1.k,.int .i64 y1.n,.str y1.nm,.str y1.on,.int .i64 y1.od,bf y1.ay,.int .i64 y1.a,.int .i64 y1.ty.b,.int .i64 y1.ty.r,.int .i64 y1.ty.d,.int .i64 y1.ref];simp only[Em,E.k,E.n,E.nm,E.on,E.od,E.ay,E.a,E.ty,E.ref]at this;simp only[show bf [a,y1]=.dc 11 (E.rows [a,y1]) from rfl,Lr]at this;exact this;rw[if_neg Su]at hp;simp only[Option.some.injEq,Prod.mk.injEq]at hp;obtain⟨rfl,rfl⟩:=hp;rw[dj];generalize lK n (dQ T s)=z at *;generalize dQ T s=c at *;simp only[Tk.cells]at et elp;by_cases f0:s.fe=0;have z0:z=0:=Classical.byContradiction λh=>Su ⟨f0,h⟩;subst z0;simp[-ax,-ag,eo,f0,et,elp,ah,AV.au,AV.af];simp[-ax,-ag,eo,f0,ah,AV.au,AV.af]
theorem Vf:∀f,OkE l T f/\OkU l T f/\OkF l T f/\OkI l T f/\OkN l T f/\OkA l T f:=by
 intro f;induction f using Nat.strongRecOn with
 |_ f ih=>
  cases f with
  |zero=>
   refine⟨?_,?_,?_,?_,?_,?_⟩;intro n q e r _ h;simp[eY]at h;intro q e r h;simp[jA]at h;intro q e r h;simp[jB]at h;intro q e r h;simp[jS]at h;intro a q e r h;simp[kz]at h;intro q e r h;simp[nN]at h
  |succ f=>
   obtain⟨hE,hU,hF,hI,hN,hA⟩:=ih f (by omega);have hEl:∀g,g<=f->OkE l T g:=λg h=>(ih g (by omega)).1;exact⟨xR hT f hEl hU,Vc hT f hE hF (Rg hT f λg h=>hEl g (by omega)),EO hT f hN hI hA,wO hT f hE,Vb hT f hI,IY hT f hEl⟩
theorem jH{f n:Nat}{q r:RQ}{e:E}(hn:n<=5)(h:eY T f n q=some (e,r))(J:Nat):(aT S).call 0 J 91 [.ptr 0 0 0 0,.int .i64 (n:Nat)] [q.bC l]=some (.agg e.aG,[r.bC l]):=(Vf hT f).1 n q e r hn h J
end
end N7
namespace N7
open Ax Go bX V7 lf
def AN(l:AV)(T:List Tk)(f:Nat):Prop:=∀q s r,oB T f q=some (s,r)->∀J,(aT S).call 0 J 66 [.ptr 0 0 0 0] [q.bC l]=some (.agg s.aG,[r.bC l])
def OkK(l:AV)(T:List Tk)(f:Nat):Prop:=∀q s r,gD T f q=some (s,r)->∀J,(aT S).call 0 J 43 [.ptr 0 0 0 0] [q.bC l]=some (cC 9 (Sm.rows s),[r.bC l])
section
variable {l:AV}{T:List Tk}(hT:TL l T)
include hT
theorem ex0{f:Nat}{q r:RQ}{e:E}(h:eY T f 0 q=some (e,r))(J:Nat) :
  (aT S).call 0 J 91 [.ptr 0 0 0 0,.int .i64 0] [q.bC l]=some (.agg [.int .i64 e.k,.int .i64 e.n,.str e.nm,.str e.on,.int .i64 e.od,bf e.ay,.int .i64 e.a,.int .i64 e.ty.b,.int .i64 e.ty.r,.int .i64 e.ty.d,.int .i64 e.ref],[r.bC l]):=by
 have:=jH hT (n:=0) (by omega) h J;rw[E.aB]at this;exact this
theorem Vg{f:Nat}{a0:Int}{q r:RQ}{s:Sm}(h:mW T f a0 q=some (s,r))(J:Nat) :
  (aT S).call 0 J 92 [.ptr 0 0 0 0,.agg [.int .i64 0,.str [],.str [],.int .i64 0,.U,.U,.U,.int .i64 a0,.int .i64 0]] [q.bC l]=some (.agg s.aG,[r.bC l]):=by
 have hlen:=hT.len;unfold mW at h;obtain⟨⟨x,r1⟩,h1,h2⟩:=Option.bind_eq_some_iff.1 h;dsimp only at h2;have e1:=ex0 hT h1;have ei:=λJ s hs=>jW hT J r1 s hs;have ef:=λJ=>eE hT J r1 2;have mo:E.rows [x]=[[.int .i64 x.k,.int .i64 x.n,.str x.nm,.str x.on,.int .i64 x.od,bf x.ay,.int .i64 x.a,.int .i64 x.ty.b,.int .i64 x.ty.r,.int .i64 x.ty.d,.int .i64 x.ref]]:=by simp[E.rows,E.aB]
 refine an (sf:=s92) rfl rfl rfl ?_;cases h3:fP T r1 [61] with
 |false=>
  rw[h3]at h2;simp only[Bool.false_eq_true,if_false,Option.some.injEq,Prod.mk.injEq]at h2;obtain⟨rfl,rfl⟩:=h2;by_cases h4:fP T r1 [59]=true/\x.k≠7;rw[if_pos h4];obtain⟨h4,h5⟩:=h4;have et:=λJ=>eX hT J (jc T r1 2) [59] (by simp);simp[-ax,-ag,s92,e1,ei,h3,h4,h5,ef,et,ah,AV.aa,AV.au,AV.af,Sm.aG,bf,mo,Sm.rows];rw[if_neg h4];have et:=λJ=>eX hT J r1 [59] (by simp);cases YR:fP T r1 [59] with
  |false=>
   simp[-ax,-ag,s92,e1,ei,h3,YR,et,ah,AV.aa,AV.au,AV.af,Sm.aG,bf,mo,Sm.rows]
  |true=>
   have h5:x.k=7:=Classical.byContradiction λh=>h4 ⟨YR,h⟩;rw[h5]at e1 mo;simp[-ax,-ag,s92,e1,ei,h3,YR,et,ah,AV.aa,AV.au,AV.af,Sm.aG,bf,mo,Sm.rows]
 |true=>
  rw[h3]at h2;simp only[if_true]at h2;obtain⟨⟨y,r2⟩,h4,h5⟩:=Option.bind_eq_some_iff.1 h2;have e2:=ex0 hT h4;have IZ:=λJ=>eX hT J r2 [59] (by simp);have vV:E.rows [y]=[[.int .i64 y.k,.int .i64 y.n,.str y.nm,.str y.on,.int .i64 y.od,bf y.ay,.int .i64 y.a,.int .i64 y.ty.b,.int .i64 y.ty.r,.int .i64 y.ty.d,.int .i64 y.ref]]:=by simp[E.rows,E.aB]
  have adk:E.rows [x,y]=[[.int .i64 x.k,.int .i64 x.n,.str x.nm,.str x.on,.int .i64 x.od,bf x.ay,.int .i64 x.a,.int .i64 x.ty.b,.int .i64 x.ty.r,.int .i64 x.ty.d,.int .i64 x.ref],[.int .i64 y.k,.int .i64 y.n,.str y.nm,.str y.on,.int .i64 y.od,bf y.ay,.int .i64 y.a,.int .i64 y.ty.b,.int .i64 y.ty.r,.int .i64 y.ty.d,.int .i64 y.ref]]:=by simp[E.rows,E.aB]
  by_cases c4:x.k=4;rw[if_pos (.inl c4)]at e2;have et:=λJ=>eX hT J r1 [61] (by simp);simp only[if_pos c4,Option.some.injEq,Prod.mk.injEq]at h5;obtain⟨rfl,rfl⟩:=h5;rw[c4]at e1;simp[-ax,-ag,s92,e1,ei,h3,et,e2,IZ,ah,AV.aa,AV.au,AV.af,Sm.aG,bf,vV,Sm.rows];simp only[if_neg c4,Option.some.injEq,Prod.mk.injEq]at h5;obtain⟨rfl,rfl⟩:=h5;by_cases c5:x.k=5\/x.k=6;rw[if_pos (.inr c5)]at e2;have et:=λJ=>eX hT J r1 [61] (by simp);rcases c5 with c5|c5<;>
  ·rw[c5]at e1 adk;simp[-ax,-ag,s92,e1,ei,h3,et,e2,IZ,ah,AV.aa,AV.au,AV.af,Sm.aG,bf,adk,Sm.rows]
  have c5':x.k≠5:=λh=>c5 (.inl h);have c6':x.k≠6:=λh=>c5 (.inr h);rw[if_neg (λh=>h.elim c4 c5)]at e2;have et:=λJ=>eX hT J (jc T r1 2) [61] (by simp);simp[-ax,-ag,s92,e1,ei,h3,ef,et,e2,IZ,c4,c5',c6',ah,AV.aa,AV.au,AV.af,Sm.aG,bf,adk,Sm.rows]
theorem fM(f:Nat)(hS:∀g,g<f->AN l T g):OkK l T (f+1):=by
 intro q s r h J;have hlen:=hT.len;have eo:=λJ=>rQ hT J q [123] (by simp);unfold gD at h;refine an (sf:=s43) rfl rfl rfl ?_;generalize gC T q [123]=q1 at *;simp[-ax,-ag,s43,eo];refine bu T8.eq_1 (λx:RQ×List Sm×Nat=>⟨[(0,.val (.ptr 0 0 0 0)),(3,.val (cC 9 (Sm.rows x.2.1)))],[],[RQ.bC l x.1]⟩)
  (λx=>x.2.2<=f/\x.2.1.length<=T.length+1/\(x.1.fe=0->x.2.1.length<=x.1.at_/\x.2.1.length<=T.length)/\jT T x.2.2 x.2.1 x.1=some (s,r)) (λx=>x.2.2) (q1,[],f) rfl ⟨Nat.le_refl _,by simp,by simp,h⟩ ?_
 rintro⟨u,ss,g⟩ ⟨hg,hln,WN,hp⟩ ih;simp only at hg hln WN hp ih;have ek:=λJ=>Ad (l:=l) J u;have ei:=λJ=>jW hT J u [125] (by simp);cases g with
 |zero=>simp[jT]at hp|succ g=>
  unfold jT at hp;have ec:=λJ=>qS hT J u [125] (by simp);by_cases f0:u.fe=0;cases hi:fP T u [125] with
  |true=>
   rw[if_neg (by rw[hi];simp)]at hp;simp only[Option.some.injEq,Prod.mk.injEq]at hp;obtain⟨rfl,rfl⟩:=hp;simp[-ax,-ag,ek,f0,ei,hi,ec]
  |false=>
   rw[if_pos ⟨f0,hi⟩]at hp;obtain⟨⟨x,r2⟩,h1,h2⟩:=Option.bind_eq_some_iff.1 hp;have e2:=hS g (by omega) _ _ _ h1;obtain⟨g2,w2⟩:=(lN T g).1 _ _ _ h1;have ahV:=WN f0;have hle:=g2.le;have F0:=gm (sz:=9) (bytes:=136) (r:=Sm.rows ss) (new:=[x.aG]) (by simp[bV,Sm.aB]) (by simp[dx,iw];omega);have hrw:Sm.rows ss++[x.aG]=Sm.rows (ss++[x]):=(by simp[iw]);rw[hrw]at F0;have iF:=ih (r2,ss++[x],g) ⟨by simp only;omega,by simp;omega,λf=>by
    rcases w2 with w|⟨w,v⟩;exact absurd f w;simp;omega,h2⟩ (by simp only;omega)
   simp only at iF;generalize Sm.rows (ss++[x])=R at *;rw[Sm.aB]at e2 F0;simp[-ax,-ag,ek,f0,ei,hi,e2,F0,AV.aa];exact iF
  rw[if_neg (λh=>f0 h.1)]at hp;simp only[Option.some.injEq,Prod.mk.injEq]at hp;obtain⟨rfl,rfl⟩:=hp;simp[-ax,-ag,ek,f0,ec]
theorem ta(f:Nat)(hK:OkK l T f):AN l T (f+1):=by
 intro q s r h J;have hlen:=hT.len;have et:=λJ=>mX hT J q;have ei:=λJ s hs=>jW hT J q s hs;have YN:=λs (h:fP T q s=true)=>G7 h;have GC:∀s,fP T q s=true->IntKind.i64.wrap ((q.at_:Int)+1)=((q.at_+1:Nat):Int):=λs h=>by
  have:=(bh h).2;rw[dn]<;>omega
 unfold oB at h;refine an (sf:=Ui) rfl rfl rfl ?_;have en:=λJ=>nM hT J (aA q);have ec:=λJ=>eX hT J (cW T (aA q)).2 [58] (by simp);have eo:=λJ=>Lq hT J (cH T (cW T (aA q)).2 [58]);have Ob:cU T (aA q)=(⟨(cW T (aA q)).1,(vl T (cH T (cW T (aA q)).2 [58])).1.1,(vl T (cH T (cW T (aA q)).2 [58])).1.2,(dQ T (aA q)).a⟩,(vl T (cH T (cW T (aA q)).2 [58])).2):=rfl;rw[Ob]at h;generalize vl T (cH T (cW T (aA q)).2 [58])=o at *;generalize cH T (cW T (aA q)).2 [58]=q2 at *;generalize cW T (aA q)=z at *;clear Ob;have Mh:=λs r (h:mW T f (dQ T q).a q=some (s,r))=>Vg hT h;generalize hc:dQ T q=c at *;simp only[Tk.cells]at et;cases h1:fP T q [118,97,114] with
 |true=>
  rw[h1]at h;simp only[if_true,Option.some.injEq,Prod.mk.injEq]at h;obtain⟨rfl,rfl⟩:=h;have ht:=YN _ h1;have hw:=GC _ h1;have e4:=λJ=>eX hT J o.2 [59] (by simp);simp[-ax,-ag,Ui,et,ei,h1,ht,rS,lP,hw,en,ec,eo,e4,ah,AV.aa,AV.au,AV.af,Sm.aG,pg,Sm.rows]
 |false=>
 rw[h1]at h;simp only[Bool.false_eq_true,if_false]at h;cases h2:fP T q [108,101,116] with
 |true=>
  rw[h2]at h;simp only[if_true]at h;obtain⟨⟨x,r5⟩,h8,h9⟩:=Option.bind_eq_some_iff.1 h;simp only[Option.some.injEq,Prod.mk.injEq]at h9;obtain⟨rfl,rfl⟩:=h9;have ht:=YN _ h2;have hw:=GC _ h2;have e4:=λJ=>eX hT J o.2 [61] (by simp);have e5:=ex0 hT h8;have e6:=λJ=>eX hT J r5 [59] (by simp);have mo:E.rows [x]=[[.int .i64 x.k,.int .i64 x.n,.str x.nm,.str x.on,.int .i64 x.od,bf x.ay,.int .i64 x.a,.int .i64 x.ty.b,.int .i64 x.ty.r,.int .i64 x.ty.d,.int .i64 x.ref]]:=by simp[E.rows,E.aB]
  simp[-ax,-ag,Ui,et,ei,h1,h2,ht,rS,lP,hw,en,ec,eo,e4,e5,e6,ah,AV.aa,AV.au,AV.af,Sm.aG,Sm.rows];simp[bf,mo]
 |false=>
 rw[h2]at h;simp only[Bool.false_eq_true,if_false]at h;cases h3:fP T q [105,102] with
 |true=>
  rw[h3]at h;simp only[if_true]at h;obtain⟨⟨x,r5⟩,h8,h9⟩:=Option.bind_eq_some_iff.1 h;obtain⟨⟨y,r6⟩,zf,C9⟩:=Option.bind_eq_some_iff.1 h9;have hw:=GC _ h3;have e5:=ex0 hT h8;have e6:=hK _ _ _ zf;have hv:aR (cC 9 (Sm.rows y))=true:=dz;have Vh:(cC 9 (Sm.rows y)).aa=aK 9 (Sm.rows y):=rfl;have mo:E.rows [x]=[[.int .i64 x.k,.int .i64 x.n,.str x.nm,.str x.on,.int .i64 x.od,bf x.ay,.int .i64 x.a,.int .i64 x.ty.b,.int .i64 x.ty.r,.int .i64 x.ty.d,.int .i64 x.ref]]:=by simp[E.rows,E.aB]
  generalize cC 9 (Sm.rows y)=vy at *;have FD:=bK hv;have Rh:=cm hv;have ej:=λJ=>jW hT J r6 [101,108,115,101] (by simp);dsimp only at C9;cases h4:fP T r6 [101,108,115,101] with
  |false=>
   rw[h4]at C9;simp only[Bool.false_eq_true,if_false,Option.some.injEq,Prod.mk.injEq]at C9;obtain⟨rfl,rfl⟩:=C9;simp[-ax,-ag,Ui,et,ei,h1,h2,h3,rS,lP,hw,e5,e6,ej,h4,hv,Vh,ah,AV.aa,AV.au,AV.af,Sm.aG,Sm.rows];simp[bf,mo]
  |true=>
   rw[h4]at C9;simp only[if_true]at C9;obtain⟨⟨w,r8⟩,JT,I0⟩:=Option.bind_eq_some_iff.1 C9;simp only[Option.some.injEq,Prod.mk.injEq]at I0;obtain⟨rfl,rfl⟩:=I0;have hw6:IntKind.i64.wrap ((r6.at_:Int)+1)=((r6.at_+1:Nat):Int):=by
    have:=(bh h4).2;rw[dn]<;>omega
   have e8:=hK _ _ _ JT;have hu:aR (cC 9 (Sm.rows w))=true:=dz;have huv:(cC 9 (Sm.rows w)).aa=aK 9 (Sm.rows w):=rfl;generalize cC 9 (Sm.rows w)=vw at *;have huc:=bK hu;have hup:=cm hu;simp[-ax,-ag,Ui,et,ei,h1,h2,h3,rS,lP,hw,hw6,e5,e6,ej,h4,e8,hv,Vh,hu,huv,ah,AV.aa,AV.au,AV.af,Sm.aG];simp[bf,mo]
 |false=>
 rw[h3]at h;simp only[Bool.false_eq_true,if_false]at h;cases h4:fP T q [119,104,105,108,101] with
 |true=>
  rw[h4]at h;simp only[if_true]at h;obtain⟨⟨x,r5⟩,h8,h9⟩:=Option.bind_eq_some_iff.1 h;obtain⟨⟨y,r6⟩,zf,C9⟩:=Option.bind_eq_some_iff.1 h9;simp only[Option.some.injEq,Prod.mk.injEq]at C9;obtain⟨rfl,rfl⟩:=C9;have hw:=GC _ h4;have e5:=ex0 hT h8;have e6:=hK _ _ _ zf;have hv:aR (cC 9 (Sm.rows y))=true:=dz;have Vh:(cC 9 (Sm.rows y)).aa=aK 9 (Sm.rows y):=rfl;have mo:E.rows [x]=[[.int .i64 x.k,.int .i64 x.n,.str x.nm,.str x.on,.int .i64 x.od,bf x.ay,.int .i64 x.a,.int .i64 x.ty.b,.int .i64 x.ty.r,.int .i64 x.ty.d,.int .i64 x.ref]]:=by simp[E.rows,E.aB]
  generalize cC 9 (Sm.rows y)=vy at *;have FD:=bK hv;have Rh:=cm hv;simp[-ax,-ag,Ui,et,ei,h1,h2,h3,h4,rS,lP,hw,e5,e6,hv,Vh,ah,AV.aa,AV.au,AV.af,Sm.aG,Sm.rows];simp[bf,mo]
 |false=>
 rw[h4]at h;simp only[Bool.false_eq_true,if_false]at h;cases h5:fP T q [114,101,116,117,114,110] with
 |true=>
  rw[h5]at h;simp only[if_true]at h;have hw:=GC _ h5;have ej:=λJ=>jW hT J (aA q) [59] (by simp);cases h6:fP T (aA q) [59] with
  |true=>
   rw[h6]at h;simp only[if_true,Option.some.injEq,Prod.mk.injEq]at h;obtain⟨rfl,rfl⟩:=h;have e4:=λJ=>eX hT J (aA q) [59] (by simp);simp[-ax,-ag,Ui,et,ei,h1,h2,h3,h4,h5,rS,lP,hw,ej,h6,e4,ah,AV.aa,AV.au,AV.af,Sm.aG,pg,Sm.rows]
  |false=>
   rw[h6]at h;simp only[Bool.false_eq_true,if_false]at h;obtain⟨⟨x,r5⟩,h8,h9⟩:=Option.bind_eq_some_iff.1 h;simp only[Option.some.injEq,Prod.mk.injEq]at h9;obtain⟨rfl,rfl⟩:=h9;have e5:=ex0 hT h8;have e4:=λJ=>eX hT J r5 [59] (by simp);have mo:E.rows [x]=[[.int .i64 x.k,.int .i64 x.n,.str x.nm,.str x.on,.int .i64 x.od,bf x.ay,.int .i64 x.a,.int .i64 x.ty.b,.int .i64 x.ty.r,.int .i64 x.ty.d,.int .i64 x.ref]]:=(by simp[E.rows,E.aB]);simp[-ax,-ag,Ui,et,ei,h1,h2,h3,h4,h5,rS,lP,hw,ej,h6,e5,e4,ah,AV.aa,AV.au,AV.af,Sm.aG,Sm.rows];simp[bf,mo]
 |false=>
 rw[h5]at h;simp only[Bool.false_eq_true,if_false]at h;cases h6:fP T q [112,114,105,110,116] with
 |true=>
  rw[h6]at h;simp only[if_true]at h;obtain⟨⟨x,r5⟩,h8,h9⟩:=Option.bind_eq_some_iff.1 h;simp only[Option.some.injEq,Prod.mk.injEq]at h9;obtain⟨rfl,rfl⟩:=h9;have hw:=GC _ h6;have e5:=ex0 hT h8;have e4:=λJ=>eX hT J r5 [59] (by simp);have mo:E.rows [x]=[[.int .i64 x.k,.int .i64 x.n,.str x.nm,.str x.on,.int .i64 x.od,bf x.ay,.int .i64 x.a,.int .i64 x.ty.b,.int .i64 x.ty.r,.int .i64 x.ty.d,.int .i64 x.ref]]:=by simp[E.rows,E.aB]
  simp[-ax,-ag,Ui,et,ei,h1,h2,h3,h4,h5,h6,rS,lP,hw,e5,e4,ah,AV.aa,AV.au,AV.af,Sm.aG,Sm.rows];simp[bf,mo]
 |false=>
  rw[h6]at h;simp only[Bool.false_eq_true,if_false]at h;have e1:=Mh _ _ h;rw[Sm.aB]at e1 ⊢;simp[-ax,-ag,Ui,et,ei,h1,h2,h3,h4,h5,h6,e1,ah,AV.aa,AV.au,AV.af]
theorem EP:∀f,AN l T f/\OkK l T f:=by
 intro f;induction f using Nat.strongRecOn with
 |_ f ih=>
  cases f with
  |zero=>
   refine⟨?_,?_⟩;intro q e r h;simp[oB]at h;intro q e r h;simp[gD]at h
  |succ f=>
   exact⟨ta hT f (ih f (by omega)).2,fM hT f λg h=>(ih g (by omega)).1⟩
theorem I5{f:Nat}{q r:RQ}{s:List Sm}(h:gD T f q=some (s,r))(J:Nat):(aT S).call 0 J 43 [.ptr 0 0 0 0] [q.bC l]=some (cC 9 (Sm.rows s),[r.bC l]):=(EP hT f).2 q s r h J
end
end N7
namespace N7
open Ax Go bX V7 lf
section
variable {l:AV}{T:List Tk}(hT:TL l T)
include hT
theorem Bj{f:Nat}{q rr:RQ}{rc:Rc}(h:lY T f q=some (rc,rr))(J:Nat):(aT S).call 0 J 23 [.ptr 0 0 0 0] [q.bC l]=some (.agg rc.aG,[rr.bC l]):=by
 have hlen:=hT.len;have et:=λJ=>mX hT J q;have en:=λJ=>nM hT J q;have e2:=λJ=>eX hT J (cW T q).2 [123] (by simp);unfold lY at h;obtain⟨⟨fs,r0⟩,h1,h2⟩:=Option.bind_eq_some_iff.1 h;simp only[Option.some.injEq,Prod.mk.injEq]at h2;obtain⟨rfl,rfl⟩:=h2;generalize cH T (cW T q).2 [123]=q2 at *;generalize cW T q=z at *;generalize dQ T q=c at *;simp only[Tk.cells]at et;refine an (sf:=s23) rfl rfl rfl ?_;simp[-ax,-ag,s23,et,en,e2,ah,AV.aa];refine bu TU.eq_1 (λx:RQ×List PD×Nat=>⟨[(0,.val (.ptr 0 0 0 0)),(2,.fp 0 0),(3,.fp 1 0)],[[.str [],.U,.int .i64 0],[.str z.1,cC 4 (x.2.1.map PD.cells),.int .i64 c.a]],[RQ.bC l x.1]⟩)
  (λx=>x.2.1.length<=T.length+1/\(x.1.fe=0->x.2.1.length<=x.1.at_/\x.2.1.length<=T.length)/\gZ T x.2.2 x.2.1 x.1=some (fs,r0)) (λx=>x.2.2) (q2,[],f) rfl ⟨by simp,by simp,h1⟩ ?_
 rintro⟨s,ps,g⟩ ⟨hln,WN,hp⟩ ih;simp only at hln WN hp ih;have ek:=λJ=>Ad (l:=l) J s;have ei:=λJ=>jW hT J s [125] (by simp);have ec:=λJ=>eX hT J r0 [125] (by simp);cases g with
 |zero=>simp[gZ]at hp|succ g=>
  unfold gZ at hp;by_cases f0:s.fe=0;cases hi:fP T s [125] with
  |true=>
   rw[if_neg (by rw[hi];simp)]at hp;simp only[Option.some.injEq,Prod.mk.injEq]at hp;obtain⟨rfl,rfl⟩:=hp;simp[-ax,-ag,ek,f0,ei,hi,ec,ah,AV.aa,AV.au,AV.af,Rc.aG,aK]
  |false=>
   rw[if_pos ⟨f0,hi⟩]at hp;have IZ:=λJ=>mX hT J s;have ahV:=WN f0;have e3:=λJ=>rR hT J s;have e4:=λJ=>eX hT J (cU T s).2 [59] (by simp);simp only[PD.cells]at e3;have qi:=gm (sz:=4) (bytes:=48) (r:=ps.map PD.cells) (new:=[(cU T s).1.cells]) (by simp[bV,PD.cells]) (by simp[dx];omega);have w2:=(vo (T:=T) (q:=s)).trans (aI (s:=[59]));have Pa:=(iy (T:=T) (q:=s)).trans (aI (s:=[59]));by_cases h8:(dQ T s).k=1/\ps.length=8;rw[if_pos h8]at hp;simp only[Option.some.injEq,Prod.mk.injEq]at hp;obtain⟨rfl,rfl⟩:=hp;have ef:=λJ=>eE hT J s 4;obtain⟨h8,h9⟩:=h8;generalize dQ T s=c2 at *;simp only[Tk.cells,h8]at IZ;simp[-ax,-ag,ek,f0,ei,hi,IZ,h9,ef,ec,ah,AV.aa,AV.au,AV.af,Rc.aG,aK];rw[if_neg h8]at hp;have iF:=ih (cH T (cU T s).2 [59],ps++[(cU T s).1],g) ⟨by simp;omega,λf=>by
    have hle:=Pa.le;rcases w2 with w|⟨w,v⟩;exact absurd f w;simp;omega,hp⟩ (by simp only;omega)
   simp only[List.map_append,List.map_cons,List.map_nil]at iF;generalize cH T (cU T s).2 [59]=s4 at *;generalize cU T s=p at *;generalize dQ T s=c2 at *;simp only[PD.cells]at qi iF;simp only[Tk.cells]at IZ;by_cases hk:c2.k=1;have h9:¬(ps.length:Int)=8:=λh=>h8 ⟨hk,by omega⟩;simp[-ax,-ag,ek,f0,ei,hi,IZ,hk,h9,e3,e4,qi,aV,bD,ah,AV.aa,AV.au,AV.af];exact iF;simp[-ax,-ag,ek,f0,ei,hi,IZ,hk,e3,e4,qi,aV,bD,ah,AV.aa,AV.au,AV.af];exact iF
  rw[if_neg (λh=>f0 h.1)]at hp;simp only[Option.some.injEq,Prod.mk.injEq]at hp;obtain⟨rfl,rfl⟩:=hp;simp[-ax,-ag,ek,f0,ec,ah,AV.aa,AV.au,AV.af,Rc.aG,aK]
def tl:bE->bE
 |.seq _ b=>b|c=>c
theorem I6{f:Nat}{q rr:RQ}{fc:Fc}(h:rJ T f q=some (fc,rr))(J:Nat):(aT S).call 0 J 26 [.ptr 0 0 0 0] [q.bC l]=some (.agg fc.aG,[rr.bC l]):=by
 have hlen:=hT.len;have et:=λJ=>mX hT J q;have en:=λJ=>nM hT J q;have e2:=λJ=>eX hT J (cW T q).2 [40] (by simp);unfold rJ at h;obtain⟨⟨fs,r0⟩,h1,h2⟩:=Option.bind_eq_some_iff.1 h;dsimp only at h2;generalize cH T (cW T q).2 [40]=q2 at *;generalize cW T q=z at *;generalize dQ T q=c at *;simp only[Tk.cells]at et;refine an (sf:=s26) rfl rfl rfl ?_;simp[-ax,-ag,s26,et,en,e2,ah,AV.aa];refine bu TV.eq_1 (λx:RQ×List PD×Nat=>⟨[(0,.val (.ptr 0 0 0 0)),(2,.fp 0 0),(3,.fp 1 0)],[[.str [],.U,.bool false,.str [],.int .i64 0,.U,.int .i64 0],[.str z.1,cC 4 (x.2.1.map PD.cells),.bool false,.str [],.int .i64 0,.U,.int .i64 c.a]],[RQ.bC l x.1]⟩)
  (λx=>x.2.1.length<=T.length+1/\(x.1.fe=0->x.2.1.length<=x.1.at_/\x.2.1.length<=T.length)/\gK T x.2.2 x.2.1 x.1=some (fs,r0)) (λx=>x.2.2) (q2,[],f) rfl ⟨by simp,by simp,h1⟩ ?_
 rintro⟨s,ps,g⟩ ⟨hln,WN,hp⟩ ih;simp only at hln WN hp ih;have ek:=λJ=>Ad (l:=l) J s;have ei:=λJ=>jW hT J s [41] (by simp);have out :
   W S 0 1 [.box 2 0 7 true] (M6 [.box 2 0 7 true] Ax.Mode.mR [RQ.bC l q] (.agg fc.aG,[RQ.bC l rr])) [.code (tl (tl (tl (tl (tl s26.body)))))] .normal
    ⟨[(0,.val (.ptr 0 0 0 0)),(2,.fp 0 0),(3,.fp 1 0)],[[.str [],.U,.bool false,.str [],.int .i64 0,.U,.int .i64 0],[.str z.1,cC 4 (fs.map PD.cells),.bool false,.str [],.int .i64 0,.U,.int .i64 c.a]],[RQ.bC l r0]⟩:=by
  have e4:=λJ=>eX hT J r0 [41] (by simp);generalize cH T r0 [41]=r4 at *;have e5:=λJ=>jW hT J r4 [58] (by simp);cases h5:fP T r4 [58] with
  |false=>
   rw[h5]at h2;simp only[Bool.false_eq_true,if_false]at h2;obtain⟨⟨b,r6⟩,h6,h7⟩:=Option.bind_eq_some_iff.1 h2;simp only[Option.some.injEq,Prod.mk.injEq]at h7;obtain⟨rfl,rfl⟩:=h7;have e6:=I5 hT h6;have hv:aR (cC 9 (Sm.rows b))=true:=dz;have Vh:(cC 9 (Sm.rows b)).aa=bF b:=rfl;generalize cC 9 (Sm.rows b)=vb at *;have FD:=bK hv;have Rh:=cm hv;simp[-ax,-ag,s26,tl,e4,e5,h5,e6,hv,Vh,ah,AV.aa,AV.au,AV.af,Fc.aG,aK]
  |true=>
   rw[h5]at h2;simp only[if_true]at h2;obtain⟨⟨b,r6⟩,h6,h7⟩:=Option.bind_eq_some_iff.1 h2;simp only[Option.some.injEq,Prod.mk.injEq]at h7;obtain⟨rfl,rfl⟩:=h7;have i2:=(bh h5).2;have hw:=wk r4.at_ (by omega);have e7:=λJ=>Lq hT J (aA r4);generalize vl T (aA r4)=o at *;have e6:=I5 hT h6;have hv:aR (cC 9 (Sm.rows b))=true:=dz;have Vh:(cC 9 (Sm.rows b)).aa=bF b:=rfl;generalize cC 9 (Sm.rows b)=vb at *;have FD:=bK hv;have Rh:=cm hv;simp[-ax,-ag,s26,tl,e4,e5,h5,rS,lP,hw,e7,e6,hv,Vh,ah,AV.aa,AV.au,AV.af,Fc.aG,aK]
 simp only[s26,tl]at out;cases g with
 |zero=>simp[gK]at hp|succ g=>
  unfold gK at hp;by_cases f0:s.fe=0;cases hi:fP T s [41] with
  |true=>
   rw[if_neg (by rw[hi];simp)]at hp;simp only[Option.some.injEq,Prod.mk.injEq]at hp;obtain⟨rfl,rfl⟩:=hp;simp[-ax,-ag,ek,f0,ei,hi]at out ⊢;exact out
  |false=>
   rw[if_pos ⟨f0,hi⟩]at hp;have IZ:=λJ=>mX hT J s;have ahV:=WN f0;have e3:=λJ=>rR hT J s;simp only[PD.cells]at e3;have qi:=gm (sz:=4) (bytes:=48) (r:=ps.map PD.cells) (new:=[(cU T s).1.cells]) (by simp[bV,PD.cells]) (by simp[dx];omega);have w2:=(vo (T:=T) (q:=s)).trans oQ;have Pa:=(iy (T:=T) (q:=s)).trans oQ;by_cases h8:(dQ T s).k=1/\ps.length=6;rw[if_pos h8]at hp;simp only[Option.some.injEq,Prod.mk.injEq]at hp;obtain⟨rfl,rfl⟩:=hp;have ef:=λJ=>eE hT J s 4;obtain⟨h8,h9⟩:=h8;generalize dQ T s=c2 at *;simp only[Tk.cells,h8]at IZ;simp[-ax,-ag,ek,f0,ei,hi,IZ,h9,ef,AV.aa]at out ⊢;exact out;rw[if_neg h8]at hp;have iF:=ih (vm T (cU T s).2,ps++[(cU T s).1],g) ⟨by simp;omega,λf=>by
    have hle:=Pa.le;rcases w2 with w|⟨w,v⟩;exact absurd f w;simp;omega,hp⟩ (by simp only;omega)
   simp only[List.map_append,List.map_cons,List.map_nil]at iF;clear Pa w2 hp ih out;generalize cU T s=p at *;have e9:=λJ=>jW hT J p.2 [41] (by simp);have e10:=λJ=>eX hT J p.2 [44] (by simp);have e11:=λJ=>jW hT J (cH T p.2 [44]) [41] (by simp);have e12:=λJ=>eE hT J (cH T p.2 [44]) 2;unfold vm at iF;generalize cH T p.2 [44]=s4 at *;generalize dQ T s=c2 at *;simp only[PD.cells]at qi iF;simp only[Tk.cells]at IZ;by_cases hk:c2.k=1;have h9:¬(ps.length:Int)=6:=λh=>h8 ⟨hk,by omega⟩;cases h3:fP T p.2 [41] with
   |true=>
    rw[h3,if_pos rfl]at iF;simp[-ax,-ag,ek,f0,ei,hi,IZ,hk,h9,e3,e9,h3,qi,aV,bD,ah,AV.aa,AV.au,AV.af];exact iF
   |false=>
    rw[h3,if_neg (by simp)]at iF;cases h4:fP T s4 [41] with
    |true=>
     rw[h4,if_pos rfl]at iF;simp[-ax,-ag,ek,f0,ei,hi,IZ,hk,h9,e3,e9,h3,e10,e11,h4,e12,qi,aV,bD,ah,AV.aa,AV.au,AV.af];exact iF
    |false=>
     rw[h4,if_neg (by simp)]at iF;simp[-ax,-ag,ek,f0,ei,hi,IZ,hk,h9,e3,e9,h3,e10,e11,h4,qi,aV,bD,ah,AV.aa,AV.au,AV.af];exact iF
   cases h3:fP T p.2 [41] with
   |true=>
    rw[h3,if_pos rfl]at iF;simp[-ax,-ag,ek,f0,ei,hi,IZ,hk,e3,e9,h3,qi,aV,bD,ah,AV.aa,AV.au,AV.af];exact iF
   |false=>
    rw[h3,if_neg (by simp)]at iF;cases h4:fP T s4 [41] with
    |true=>
     rw[h4,if_pos rfl]at iF;simp[-ax,-ag,ek,f0,ei,hi,IZ,hk,e3,e9,h3,e10,e11,h4,e12,qi,aV,bD,ah,AV.aa,AV.au,AV.af];exact iF
    |false=>
     rw[h4,if_neg (by simp)]at iF;simp[-ax,-ag,ek,f0,ei,hi,IZ,hk,e3,e9,h3,e10,e11,h4,qi,aV,bD,ah,AV.aa,AV.au,AV.af];exact iF
  rw[if_neg (λh=>f0 h.1)]at hp;simp only[Option.some.injEq,Prod.mk.injEq]at hp;obtain⟨rfl,rfl⟩:=hp;simp[-ax,-ag,ek,f0]at out ⊢;exact out
end
end N7
namespace N7
open Ax Go bX V7 lf
def F3(r:List AV):Tk:=match r with | [.int _ k,.str t,.int _ n,.int _ a]=>⟨k,t,n,a⟩|_=>Tk0
def mI(rows:List (List AV)):List Tk:=rows.map F3
def lQ(s:List UInt8):Pg×Int×Int:=if s.length<=6000 then match U2.CE s with
  |(rows,none)=>(oN (mI rows) (40*(mI rows).length+100)).getD (Ca,0,0)|(_,some e)=>(Ca,1,e)
 else (Ca,4,0)
theorem YS(a:Nat)(l:List UInt8):(U2.qa a l).2≠0->∃x:Tk,(U2.qa a l).1=x.cells/\x.a=a:=by
 have mk:∀k t n,∃x:Tk,U2.sq k t n a=x.cells/\x.a=a:=λk t n=>⟨⟨k,t,n,a⟩,rfl,rfl⟩;unfold U2.qa;split;intro h;exact absurd rfl h;split;unfold U2.lX;split;exact λ_=>mk _ _ _;split;exact λ_=>mk _ _ _;intro h;exact absurd rfl h;split;unfold U2.p9;split;intro h;exact absurd rfl h;split;intro h;exact absurd rfl h;exact λ_=>mk _ _ _;unfold U2.qA;split;intro h;exact absurd rfl h;exact λ_=>mk _ _ _
theorem wP:∀(n a:Nat)(l:List UInt8)(rows:List (List AV)),U2.tM n a l=(rows,none)->(∀r∈rows,∃x:Tk,r=x.cells/\0<=x.a/\x.a<=a+l.length)/\rows.length<=n
 |0,_,_,rows,h=>by
  simp only[U2.tM,Prod.mk.injEq,and_true]at h;subst h;exact⟨by simp,Nat.le_refl _⟩
 |n+1,a,[],rows,h=>by
  simp only[U2.tM,Prod.mk.injEq,and_true]at h;subst h;exact⟨by intro r hr;rw[List.mem_singleton]at hr;subst hr;exact⟨⟨0,[],0,a⟩,rfl,by simp,by simp⟩,by simp⟩
 |n+1,a,c::l,rows,h=>by
  simp only[U2.tM]at h;have hle:=U2.OO a (c::l);have ha:=YS a (c::l);generalize U2.qa a (c::l)=z at *;obtain⟨t,k⟩:=z;cases k with
  |zero=>simp at h|succ k=>
   simp only at h ha hle;generalize hy:U2.tM n _ _=y at h;obtain⟨r2,e⟩:=y;cases e with
   |some e=>simp at h|none=>
    simp only[Prod.mk.injEq,and_true]at h;subst h;obtain⟨h1,h2⟩:=wP n _ _ _ hy;refine⟨λr hr=>?_,by simp;omega⟩;rcases List.mem_cons.1 hr with e|e;subst e;obtain⟨x,hx,hxa⟩:=ha (by omega);exact⟨x,hx,by omega,by simp only[List.length_cons];omega⟩;obtain⟨x,h3,h4,h5⟩:=h1 r e;have hb:=U2.zS ((c::l).drop (k+1));simp only[List.length_drop,List.length_cons]at h5 hb hle;refine⟨x,h3,h4,?_⟩;simp only[List.length_cons];omega
theorem I7{s:List UInt8}{rows:List (List AV)}(h:U2.CE s=(rows,none)):(∀r∈rows,∃x:Tk,r=x.cells/\0<=x.a/\x.a<=s.length)/\rows.length<=s.length+1:=by
 unfold U2.CE at h;obtain⟨h1,h2⟩:=wP _ _ _ _ h;have hb:=U2.zS s;refine⟨λr hr=>?_,h2⟩;obtain⟨x,h3,h4,h5⟩:=h1 r hr;rw[List.length_drop]at h5;exact⟨x,h3,h4,by omega⟩
theorem Vi{rows:List (List AV)}{N:Int}(h:∀r∈rows,∃x:Tk,r=x.cells/\0<=x.a/\x.a<=N):rows=(mI rows).map Tk.cells:=by
 unfold mI;rw[List.map_map];conv=>lhs;rw[<-List.map_id rows]
 refine List.map_congr_left λr hr=>?_;obtain⟨x,hx,_⟩:=h r hr;subst hx
 rfl
theorem adl{rows:List (List AV)}{N:Int}(h:∀r∈rows,∃x:Tk,r=x.cells/\0<=x.a/\x.a<=N):∀x∈mI rows,0<=x.a/\x.a<=N:=by
 intro x hx;obtain⟨r,hr,rfl⟩:=List.mem_map.1 hx;obtain⟨y,hy,h1,h2⟩:=h r hr;subst hy;exact⟨h1,h2⟩
theorem Pb(wl J:Nat)(s:List UInt8)(st:ai):(aT S).call wl J 10 [.str s] st=some (.fF [.agg (lQ s).1.aG,.agg [.int .i64 (lQ s).2.1,.int .i64 (lQ s).2.2]],st):=by
 have etk:=λwl J st=>U2.Q5 wl J s st;refine bn (sf:=s10) rfl rfl (by simp) rfl (by simp[Pg.aG,AV.au,AV.af]) ?_;have zero:∀e a:Int,e≠0->lQ s=(Ca,e,a)->U2.ID s=(.U,[.int .i64 e,.int .i64 a])->W S 0 0 s10.results (KN s10.results (.fF [.agg (lQ s).1.aG,.agg [.int .i64 (lQ s).2.1,.int .i64 (lQ s).2.2]])) [.code s10.body] .normal (qZ s10 [.str s] []):=λe a he h1 h2=>by
  rw[h1];rw[h2]at etk;simp[s10,etk,he,aV,bD,ir.b8,Pg.aG,Ca]
 by_cases hl:s.length<=6000
 ·have htv:U2.ID s=U2.K3 (U2.CE s):=by unfold U2.ID;rw[U2.o9,decide_eq_true hl,if_pos rfl]
  have XC:lQ s=match U2.CE s with|(rows,none)=>(oN (mI rows) (40*(mI rows).length+100)).getD (Ca,0,0)|(_,some e)=>(Ca,1,(e:Int)):=by unfold lQ;rw[if_pos hl]
  generalize htp:U2.CE s=z at *;obtain⟨rows,e⟩:=z;cases e with
  |some e=>exact zero 1 e (by decide) XC htv|none=>
   obtain⟨jG,hlen⟩:=I7 htp;have zB:=Vi jG;simp only[U2.K3]at htv;simp only at XC;have hTl:(mI rows).length=rows.length:=(by simp[mI]);obtain⟨x,hx⟩:=pK (mI rows);rw[hx,Option.getD_some]at XC;clear zero;generalize mI rows=T at *;have hT:TL (cC 4 rows) T:=⟨by
    have:bV 4 rows=true:=by rw[zB];simp[bV,Tk.cells]
    unfold cC;split
    rfl
    simp[dg,this],by rw[Ef];exact zB,by omega⟩
   rw[htv]at etk;have ahX:=hT.sl;generalize cC 4 rows=l at *;rw[XC];unfold oN at hx;obtain⟨⟨p,r0⟩,h1,h2⟩:=Option.bind_eq_some_iff.1 hx;simp only[Option.some.injEq]at h2;subst h2;simp[-ax,-ag,s10,etk,ahX,ah,AV.aa];have hTv:TL l.aa T:=⟨by rw[A7];exact hT.sz,by rw[Ed];exact hT.rows,hT.len⟩;have aoK:=hT.len;generalize l.aa=lv at *;refine bu TK.eq_1 (λx:RQ×Pg×Nat=>⟨[(2,.fp 0 0),(3,.fp 1 0),(6,.val (.ptr 0 0 0 0)),(7,.fp 3 0)],
     [[.U,.U,.U],[.int .i64 0,.int .i64 0],[.int .i64 0,.int .i64 0],[cC 3 (x.2.1.bz.map Rc.aG),cC 4 (x.2.1.aH.map PD.cells),cC 7 (x.2.1.funcs.map Fc.aG)]],[RQ.bC lv x.1]⟩)
    (λx=>x.2.1.bz.length<=12/\x.2.1.aH.length<=8/\x.2.1.funcs.length<=16/\gu T x.2.2 x.2.1 x.1=some (p,r0)) (λx=>x.2.2) (⟨0,0,0,0⟩,Ca,_) rfl ⟨by simp[Ca],by simp[Ca],by simp[Ca],h1⟩ ?_
   rintro⟨u,⟨rs,gs,fs⟩,g⟩ ⟨b1,b2,b3,hp⟩ ih;simp only at b1 b2 b3 hp ih;clear h1 XC jG zB etk ahX hT hlen hTl htv htp;have hT:=hTv;have ek:=λJ=>Ad (l:=lv) J u;have et:=λJ=>mX hT J u;have i1:=λJ=>jW hT J u [114,101,99,111,114,100] (by simp);have i2:=λJ=>jW hT J u [103,108,111,98,97,108] (by simp);have i3:=λJ=>jW hT J u [102,117,110,99] (by simp);cases g with
   |zero=>simp[gu]at hp|succ g=>
    unfold gu at hp;simp only[No,Ew,zV]at hp;by_cases f0:u.fe=0
    ·by_cases k0:(dQ T u).k=0;rw[if_neg (λh=>h.2 k0)]at hp;simp only[Option.some.injEq,Prod.mk.injEq]at hp;obtain⟨rfl,rfl⟩:=hp;rw[if_pos f0];generalize dQ T u=c at *;simp only[Tk.cells]at et;simp[-ax,-ag,ek,f0,et,k0,ah,AV.aa,Pg.aG,aK]
     ·rw[if_pos ⟨f0,k0⟩]at hp;have MH:=tN k0;have hw:=wk u.at_ (by omega);have ef:=λJ e=>eE hT J u e;have adm:∀s t:List UInt8,s≠t->fP T u s=true->fP T u t=false:=λs t iR h=>by
       cases h2:fP T u t with
       |false=>rfl|true=>exact absurd ((G7 h).symm.trans (G7 h2)) iR
      cases q1:fP T u [114,101,99,111,114,100] with
      |true=>
       have q2:=adm _ [103,108,111,98,97,108] (by decide) q1;have q3:=adm _ [102,117,110,99] (by decide) q1;simp only[q1,q2,q3,true_and,Bool.false_eq_true,false_and,or_false,if_true,if_false]at hp;by_cases m1:rs.length=12;rw[if_pos m1]at hp;have iF:=ih (jc T u 4,⟨rs,gs,fs⟩,g) ⟨b1,b2,b3,hp⟩ (by simp only;omega);generalize dQ T u=c at *;simp only[Tk.cells]at et;simp[-ax,-ag,ek,f0,et,k0,i1,q1,m1,ef];exact iF;rw[if_neg m1]at hp;obtain⟨⟨x,r2⟩,h3,h4⟩:=Option.bind_eq_some_iff.1 hp;have e3:=Bj hT h3;have m1':¬(rs.length:Int)=12:=(by omega);have qi:=gm (sz:=3) (bytes:=48) (r:=rs.map Rc.aG) (new:=[x.aG]) (by simp[bV,Rc.aG]) (by simp[dx];omega);have iF:=ih (r2,⟨rs++[x],gs,fs⟩,g) ⟨by simp;omega,b2,b3,h4⟩ (by simp only;omega);simp only[List.map_append,List.map_cons,List.map_nil]at iF;simp only[Rc.aG]at e3 qi iF;generalize dQ T u=c at *;simp only[Tk.cells]at et;simp[-ax,-ag,ek,f0,et,k0,i1,q1,i2,q2,i3,q3,m1',rS,lP,hw,e3,qi,aV,bD,ah,AV.aa];exact iF
      |false=>
      cases q2:fP T u [103,108,111,98,97,108] with
      |true=>
       have q3:=adm _ [102,117,110,99] (by decide) q2;simp only[q1,q2,q3,true_and,Bool.false_eq_true,false_and,false_or,or_false,if_true,if_false]at hp;by_cases m1:gs.length=8;rw[if_pos m1]at hp;have iF:=ih (jc T u 4,⟨rs,gs,fs⟩,g) ⟨b1,b2,b3,hp⟩ (by simp only;omega);generalize dQ T u=c at *;simp only[Tk.cells]at et;simp[-ax,-ag,ek,f0,et,k0,i1,q1,i2,q2,m1,ef];exact iF;rw[if_neg m1]at hp;have e3:=λJ=>rR hT J (aA u);have e4:=λJ=>eX hT J (cU T (aA u)).2 [59] (by simp);have m1':¬(gs.length:Int)=8:=(by omega);have qi:=gm (sz:=4) (bytes:=48) (r:=gs.map PD.cells) (new:=[(cU T (aA u)).1.cells]) (by simp[bV,PD.cells]) (by simp[dx];omega);have iF:=ih (cH T (cU T (aA u)).2 [59],⟨rs,gs++[(cU T (aA u)).1],fs⟩,g) ⟨b1,by simp;omega,b3,hp⟩ (by simp only;omega);simp only[List.map_append,List.map_cons,List.map_nil]at iF;generalize cH T (cU T (aA u)).2 [59]=r4 at *;generalize cU T (aA u)=pp at *;simp only[PD.cells]at e3 qi iF;generalize dQ T u=c at *;simp only[Tk.cells]at et;simp[-ax,-ag,ek,f0,et,k0,i1,q1,i2,q2,i3,q3,m1',rS,lP,hw,e3,e4,qi,aV,bD,ah,AV.aa];exact iF
      |false=>
      cases q3:fP T u [102,117,110,99] with
      |true=>
       simp only[q1,q2,q3,true_and,Bool.false_eq_true,false_and,false_or,if_true,if_false]at hp;by_cases m1:fs.length=16;rw[if_pos m1]at hp;have iF:=ih (jc T u 4,⟨rs,gs,fs⟩,g) ⟨b1,b2,b3,hp⟩ (by simp only;omega);generalize dQ T u=c at *;simp only[Tk.cells]at et;simp[-ax,-ag,ek,f0,et,k0,i1,q1,i2,q2,i3,q3,m1,ef];exact iF;rw[if_neg m1]at hp;obtain⟨⟨x,r2⟩,h3,h4⟩:=Option.bind_eq_some_iff.1 hp;have e3:=I6 hT h3;have m1':¬(fs.length:Int)=16:=(by omega);have qi:=gm (sz:=7) (bytes:=104) (r:=fs.map Fc.aG) (new:=[x.aG]) (by simp[bV,Fc.aG]) (by simp[dx];omega);have iF:=ih (r2,⟨rs,gs,fs++[x]⟩,g) ⟨b1,b2,by simp;omega,h4⟩ (by simp only;omega);simp only[List.map_append,List.map_cons,List.map_nil]at iF;simp only[Fc.aG]at e3 qi iF;generalize dQ T u=c at *;simp only[Tk.cells]at et;simp[-ax,-ag,ek,f0,et,k0,i1,q1,i2,q2,i3,q3,m1',rS,lP,hw,e3,qi,aV,bD,ah,AV.aa];exact iF
      |false=>
       simp only[q1,q2,q3,Bool.false_eq_true,false_and,or_self,if_false]at hp;have iF:=ih (jc T u 2,⟨rs,gs,fs⟩,g) ⟨b1,b2,b3,hp⟩ (by simp only;omega);generalize dQ T u=c at *;simp only[Tk.cells]at et;simp[-ax,-ag,ek,f0,et,k0,i1,q1,i2,q2,i3,q3,ef];exact iF
    rw[if_neg (λh=>f0 h.1)]at hp;simp only[Option.some.injEq,Prod.mk.injEq]at hp;obtain⟨rfl,rfl⟩:=hp;rw[if_neg f0];have ea:∀J bx,aP 0 J (.load true 2 false) [.val (.ptr 0 0 0 3)] [RQ.bC lv u] bx=some (.val (.agg [.int .i64 u.fe,.int .i64 u.fa]),[RQ.bC lv u],bx):=λJ bx=>by simp[RQ.bC,cut,AV.aa]
    simp[-ax,-ag,ek,f0,ea,aV,bD,ir.b8,ah,AV.aa,Pg.aG,Ca]
 exact zero 4 0 (by decide) (by unfold lQ;rw[if_neg hl]) (by unfold U2.ID;rw[U2.o9,decide_eq_false hl];rfl)
end N7
namespace N7
open Ax Go bX V7 lf U7
theorem Vj(s:List UInt8):Pg.In 6000 (lQ s).1/\(lQ s).1.few:=by
 unfold lQ;split;rename_i hl;generalize htp:U2.CE s=z;obtain⟨rows,e⟩:=z;cases e with
 |some e=>exact⟨IJ,C7⟩|none=>
  obtain⟨jG,hlen⟩:=I7 htp;obtain⟨x,hx⟩:=pK (mI rows);simp only;rw[hx,Option.getD_some];exact Q9 ⟨by decide,λy hy=>by
   have:=adl jG y hy;omega⟩ hx
 exact⟨IJ,C7⟩
def jX(p:Pg):GD:=⟨aK 3 (p.bz.map Rc.aG),aK 4 (p.aH.map PD.cells),aK 7 (p.funcs.map Fc.aG)⟩
theorem Da{sz:Nat}{r:List (List AV)}:jy (aK sz r)=true:=by simp[aK]
theorem wQ{a:Int}(h:0<=a)(h2:a<=6000):WJ a=true:=by simp only[WJ,Bool.and_eq_true,decide_eq_true_eq];omega
theorem nv{sz:Nat}{r:List (List AV)}(h:bV sz r=true):dg sz (aK sz r)=true:=by
 cases r with
 |nil=>rfl|cons a r=>simp[dg,h]
theorem ER{l:List PD}(h:∀p∈l,II 6000 p):CF (aK 4 (l.map PD.cells))=true:=by
 unfold CF mB;rw[Da,nv (by simp[bV,PD.cells]),aZ];simp only[Bool.and_self,Bool.true_and,List.all_map,List.all_eq_true,Function.comp];intro p hp;obtain⟨h1,h2,h3,h4⟩:=h p hp;simp[OR,PD.cells,wQ h1 (by omega),wQ h3 h4]
theorem ahZ{p:Pg}(h:Pg.In 6000 p):(jX p).ok:=by
 refine⟨?_,ER h.g.2,?_⟩;unfold B8 mB;show (jy (aK 3 (p.bz.map Rc.aG))&&dg 3 (aK 3 (p.bz.map Rc.aG))&&(bg (aK 3 (p.bz.map Rc.aG))).all GV)=true;rw[Da,nv (by simp[bV,Rc.aG]),aZ];simp only[Bool.and_self,Bool.true_and,List.all_map,List.all_eq_true,Function.comp];intro r hr;have i:=h.r.2 r hr;simp[GV,Rc.aG,ER i.f,wQ i.a.1 i.a.2];unfold B9 mB;show (jy (aK 7 (p.funcs.map Fc.aG))&&dg 7 (aK 7 (p.funcs.map Fc.aG))&&(bg (aK 7 (p.funcs.map Fc.aG))).all GX)=true;rw[Da,nv (by simp[bV,Fc.aG]),aZ];simp only[Bool.and_self,Bool.true_and,List.all_map,List.all_eq_true,Function.comp];intro r hr;have i:=h.f.2 r hr;simp[GX,Fc.aG,ER i.f,wQ i.a.1 i.a.2,wQ i.od.1 (by have:=i.od.2;omega),bF,Da]
theorem l9(l:List PD):og (aK 4 (l.map PD.cells))=l:=by
 simp only[og,aZ,List.map_map];conv=>rhs;rw[<-List.map_id l]
 exact List.map_congr_left λp _=>rfl
def qb(r:Rc):CR:=⟨r.name,aK 4 (r.bH.map PD.cells),r.a⟩
def qD(f:Fc):FN:=⟨f.name,aK 4 (f.params.map PD.cells),f.ct,f.on,f.od,bF f.body,f.a⟩
theorem tc(p:Pg):dJ (jX p).bz=p.bz.map qb:=by
 simp only[jX,dJ,aZ,List.map_map];exact List.map_congr_left λp _=>rfl
theorem nV(p:Pg):jz (jX p).funcs=p.funcs.map qD:=by
 simp only[jX,jz,aZ,List.map_map];exact List.map_congr_left λp _=>rfl
theorem ET(p:Pg):og (jX p).aH=p.aH:=l9 _
theorem ah0{p:Pg}(h:Pg.In 6000 p):GD.sm (jX p):=by
 refine⟨?_,?_,?_,?_,?_⟩;rw[tc,List.length_map];have:=h.r.1;omega;intro x hx;rw[tc]at hx;obtain⟨r,hr,rfl⟩:=List.mem_map.1 hx;simp only[qb,l9];have:=(h.r.2 r hr).len;omega;rw[ET];have:=h.g.1;omega;rw[nV,List.length_map];have:=h.f.1;omega;intro x hx;rw[nV]at hx;obtain⟨r,hr,rfl⟩:=List.mem_map.1 hx;simp only[qD,l9];have:=(h.f.2 r hr).len;omega
end N7
