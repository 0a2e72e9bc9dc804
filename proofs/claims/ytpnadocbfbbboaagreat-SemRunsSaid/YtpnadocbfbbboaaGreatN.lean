/- Part of a proof. -/
import Derived.Test.YtpnadocbfbbboaaGreatL
import Derived.Test.YtpnadocbfbbboaaGreatM

open List renaming map_append->ac4,map_cons->abn,map_nil->aeg,length_cons->abr,length_drop->acF,map_map->aes,map_congr_left->acK,mem_map->ab9,all_map->aiH,all_eq_true->aaB,length_map->ac7
open Option renaming bind_eq_some_iff->aai,getD_some->adB
open Nat renaming le_refl->aau,strongRecOn->agB
open Int renaming sub_eq_add_neg->aiz,natCast_zero->ag8,cast_ofNat_Int->aeA,natCast_add->aeo
open Bool renaming true_or->aiG,false_or->ahv,or_self->ahl,false_eq_true->aan,and_self->aet,true_and->aeD
set_option maxRecDepth 100000
set_option maxHeartbeats 8000000
namespace N7
open Ax Go bY V7 kN
section
variable {l:AV}{T:List Tk}(hT:TL l T)(aa:Nat)(q:RQ)
theorem iB:(aZ S).call 0 aa 19 [.ptr 0 0 0 0] [q.aX l]=some (.bool (decide (q.fe=0)),[q.aX l]):=by
 refine aA (sf:=s19) rfl rfl rfl ?_;simp[s19,RQ.aX,cut,AV.ai]
include hT
theorem nI:(aZ S).call 0 aa 20 [.ptr 0 0 0 0] [q.aX l]=some (.agg (gh T q).cells,[q.aX l]):=by
 have hs:=hT.sl;have hz:=hT.sz;have hr:=hT.rows;refine aA (sf:=s20) rfl rfl rfl ?_;have h0:¬(q.at_:Int)<0:=by omega
 by_cases h1:q.at_<T.length;have h2:¬(T.length:Int)<=(q.at_:Int):=by omega
 have hc:gh T q=T[q.at_]:=by simp[gh,h1]
 simp[s20,RQ.aX,cut,h0,h1,h2,hs,hz,hr,hc,Tk.cells,aD,aC,AV.ai];have h2:(T.length:Int)<=(q.at_:Int):=by omega
 have hc:gh T q=Tk0:=by simp[gh,List.getD,List.getElem?_eq_none (Nat.le_of_not_lt h1)]
 simp[s20,RQ.aX,cut,h0,h2,hs,hr,hc,Tk.cells,aD,aC,AV.ai]
theorem kJ(s:List UInt8)(fy:s≠[]):(aZ S).call 0 aa 21 [.ptr 0 0 0 0,.str s] [q.aX l]=some (.bool (iZ T q s),[q.aX l]):=by
 have et:=λaa=>nI hT aa q;have eo:=λaa=>iB (l:=l) aa q;cases s with
 |nil=>exact aU rfl fy|cons c s=>
  obtain⟨v,hv⟩:∃v,iZ T q (c::s)=v:=⟨_,rfl⟩;rw[hv];simp only[iZ]at hv;refine aA (sf:=s21) rfl rfl rfl ?_;generalize gh T q=x at *;simp only[Tk.cells]at et;have nu:∀k:Int,zG (c::s)=k->v=(decide (q.fe=0)&&decide (x.k=k)&&decide (x.t=c::s)):=λk hk=>by rw[<-hv,hk]
  by_cases c1:97<=c.toNat;have d1:(97:Int)<=(c.toNat:Int):=by omega
  by_cases c2:c.toNat<=122;have d2:(c.toNat:Int)<=122:=by omega
  rw[nu 3 (by simp[zG,c1,c2])];by_cases f0:q.fe=0<;>by_cases f1:x.k=3<;>simp[s21,et,eo,d1,d2,f0,f1];have d2:¬(c.toNat:Int)<=122:=by omega
  rw[nu 4 (by simp[zG,c2])];by_cases f0:q.fe=0<;>by_cases f1:x.k=4<;>simp[s21,et,eo,d1,d2,f0,f1];have d1:¬(97:Int)<=(c.toNat:Int):=by omega
  rw[nu 4 (by simp[zG,c1])];by_cases f0:q.fe=0<;>by_cases f1:x.k=4<;>simp[s21,et,eo,d1,f0,f1]
theorem fO(e:Int):(aZ S).call 0 aa 22 [.ptr 0 0 0 0,.int .i64 e] [q.aX l]=some (.fK [],[(jN T q e).aX l]):=by
 have et:=λaa=>nI hT aa q;have eo:=λaa=>iB (l:=l) aa q;refine aA (sf:=s22) rfl rfl rfl ?_;unfold jN;generalize gh T q=x at *;simp only[Tk.cells]at et;by_cases f0:q.fe=0;simp only[RQ.aX,f0]at et eo;simp[s22,eo,et,RQ.aX,f0,cut,aV,AV.ax,AV.aB,au];simp[s22,eo,f0]
theorem gb(s:List UInt8)(fy:s≠[]):(aZ S).call 0 aa 25 [.ptr 0 0 0 0,.str s] [q.aX l]=some (.fK [],[(dZ T q s).aX l]):=by
 have ei:=λaa=>kJ hT aa q s fy;have ef:=λaa e=>fO hT aa q e;have hlen:=hT.len;refine aA (sf:=s25) rfl rfl rfl ?_;unfold dZ;cases hi:iZ T q s with
 |false=>simp[s25,ei,hi,ef]|true=>
  have JY:=(bZ hi).2;have hw:=wk q.at_ (by omega);simp only[RQ.aX,hi]at ei;simp[s25,ei,RQ.aX,cv,cut,aV,AV.ax,AV.aB,au,hw,AV.ai]
theorem sV(s:List UInt8)(fy:s≠[]):(aZ S).call 0 aa 65 [.ptr 0 0 0 0,.str s] [q.aX l]=some (.fK [],[(ki T q s).aX l]):=by
 have ei:=λaa=>kJ hT aa q s fy;have ef:=λaa e=>fO hT aa q e;have et:=λaa=>gb hT aa q s fy;refine aA (sf:=s65) rfl rfl rfl ?_;unfold ki;cases hi:iZ T q s with
 |false=>
  generalize dZ T q s=r at *;simp only[RQ.aX,hi]at ei et;simp[s65,ei,et,RQ.aX,xK,cut,aV,AV.ax,AV.aB,au,AV.ai]
 |true=>
  by_cases h50:50<=q.op;simp only[RQ.aX,hi]at ei ef;simp[s65,ei,ef,RQ.aX,cut,h50,AV.ai];generalize dZ T q s=r at *;simp only[RQ.aX,hi]at ei et;simp[s65,ei,et,RQ.aX,xK,cut,h50,aV,AV.ax,AV.aB,au,AV.ai]
theorem rV(s:List UInt8)(fy:s≠[]):(aZ S).call 0 aa 67 [.ptr 0 0 0 0,.str s] [q.aX l]=some (.fK [],[(mJ T q s).aX l]):=by
 have et:=λaa=>gb hT aa q s fy;have hw:∀n:Int,IntKind.i64.wrap (n-1)=IntKind.i64.wrap (n + -1):=λn=>by rw[aiz]
 refine aA (sf:=s67) rfl rfl rfl ?_;unfold mJ;generalize dZ T q s=r at *;simp only[RQ.aX]at et;simp[s67,et,RQ.aX,xK,cut,aV,AV.ax,AV.aB,au,AV.ai,hw]
theorem om:(aZ S).call 0 aa 41 [.ptr 0 0 0 0] [q.aX l]=some (.str (eW T q).1,[(eW T q).2.aX l]):=by
 have et:=λaa=>nI hT aa q;have eo:=λaa=>iB (l:=l) aa q;have ef:=λaa e=>fO hT aa q e;have hlen:=hT.len;refine aA (sf:=s41) rfl rfl rfl ?_;unfold eW;have ef:=λaa=>ef aa 2;generalize jN T q 2=r at *;generalize hx:gh T q=x at *;simp only[Tk.cells]at et;by_cases f0:q.fe=0;by_cases f1:x.k=1;simp only[RQ.aX,f0]at et eo;have JY:q.at_<T.length:=v9 (by rw[hx,f1];decide);have hw:=wk q.at_ (by omega);simp[s41,et,eo,f0,f1,RQ.aX,cv,cut,aV,AV.ax,AV.aB,au,hw,AV.ai];simp[s41,et,eo,f0,f1,ef];simp[s41,et,eo,f0,ef]
end
end N7
namespace N7
open Ax Go bY V7 kN
theorem ab8{T:List Tk}{k d:Nat}{q:RQ}(h:iZ T q [91]=false):KQ T k d q=(d,q):=by
 cases k with
 |zero=>rfl|succ k=>unfold KQ;rw[h];rfl
section
variable {l:AV}{T:List Tk}(hT:TL l T)(aa:Nat)(q:RQ)
include hT
theorem K6:(aZ S).call 0 aa 42 [.ptr 0 0 0 0] [q.aX l]=some (.agg [.str (zg T q).1.1,.int .i64 (zg T q).1.2],[(zg T q).2.aX l]):=by
 have hlen:=hT.len;refine aA (sf:=s42) rfl rfl rfl ?_;generalize hF:zg T q=F;simp[s42];refine bH Tr.eq_1 (λx:RQ×Nat=>⟨[(0,.val (.ptr 0 0 0 0)),(2,.fp 0 0),(3,.val (.int .i64 x.2))],[[.str [],.int .i64 0],[]],[RQ.aX l x.1]⟩)
  (λx=>∃k,k+x.2=3/\KQ T k x.2 x.1=KQ T 3 0 q) (λx=>3-x.2) (q,0) ?_ ⟨3,rfl,rfl⟩ ?_
 rfl
 rintro⟨r,d⟩ ⟨k,hk,hL⟩ ih;simp only at hk hL ih;have ei:=λaa=>kJ hT aa r [91] (by simp);unfold zg at hF;cases hi:iZ T r [91] with
 |true=>
  obtain⟨i1,i2⟩:=bZ hi;by_cases h3:d=3;have ef:=λaa e=>fO hT aa r e;have ZS:k=0:=by omega
  subst h3 ZS;have hL':KQ T 3 0 q=(3,r):=hL.symm;rw[hL',ah hi]at hF;subst hF;simp[ei,hi,ef];have LO:¬(d:Int)=3:=by omega
  have hw:=wk r.at_ (by omega);have C4:=wk d (by omega);simp only[RQ.aX,hi]at ei;simp[ei,LO,RQ.aX,cut,aV,AV.ax,AV.aB,au,hw,C4,AV.ai];refine ih (cv r,d+1) ⟨k-1,by simp only;omega,?_⟩ (by simp only;omega);rw[<-hL];obtain⟨k',rfl⟩:∃k',k=k'+1:=⟨k-1,by omega⟩;conv=>rhs;unfold KQ
  rw[ah hi]
  rfl
 |false=>
  rw[ab8 hi]at hL;rw[<-hL,U (by rw[hi];simp)]at hF;dsimp only at hF;have en:=λaa=>om hT aa r;have ea:=λaa=>kJ hT aa r [105,110,116] (by simp);have eb:=λaa=>kJ hT aa r [98,111,111,108] (by simp);have et:=λaa=>nI hT aa r;unfold ofN at hF;cases ha:iZ T r [105,110,116] with
  |true=>
   obtain⟨i1,i2⟩:=bZ ha;have hw:=wk r.at_ (by omega);simp only[RQ.aX,hi,ha]at ei ea et;rw[ha]at hF;simp only[aiG,aQ]at hF;generalize hc:gh T r=c at *;simp only[Tk.cells]at et;simp[ei,ea,et,RQ.aX,cut,aV,AV.ax,AV.aB,au,hw,AV.ai];refine bH IC.eq_1 (λx:Nat=>⟨[(0,.val (.ptr 0 0 0 0)),(2,.fp 0 0),(3,.val (.int .i64 d)),(4,.fp 1 0),(5,.val (.int .i64 x))],[[.str [],.int .i64 0],[.str c.t,.int .i64 d]],[RQ.aX l (vZ T (cv r) [93] x)]⟩)
    (λx=>x<=d) (λx=>d-x) 0 ?_ (by simp) ?_
   rfl
   intro x hx ihx;by_cases hxd:x<d;have hwx:=wk x (by omega);have ek:=λaa=>gb hT aa (vZ T (cv r) [93] x) [93] (by simp);have agO:(x:Int)<(d:Int):=(by omega);simp[hxd,ek,hwx];exact ihx (x+1) (by omega) (by omega);have:x=d:=by omega
   subst this;subst hF;simp
   rfl
  |false=>
   cases hb:iZ T r [98,111,111,108] with
   |true=>
    obtain⟨i1,i2⟩:=bZ hb;have hw:=wk r.at_ (by omega);simp only[RQ.aX,hi,ha,hb]at ei ea eb et;rw[ha,hb]at hF;simp only[ahv,aQ]at hF;generalize hc:gh T r=c at *;simp only[Tk.cells]at et;simp[ei,ea,eb,et,RQ.aX,cut,aV,AV.ax,AV.aB,au,hw,AV.ai];refine bH IC.eq_1 (λx:Nat=>⟨[(0,.val (.ptr 0 0 0 0)),(2,.fp 0 0),(3,.val (.int .i64 d)),(4,.fp 1 0),(5,.val (.int .i64 x))],[[.str [],.int .i64 0],[.str c.t,.int .i64 d]],[RQ.aX l (vZ T (cv r) [93] x)]⟩)
     (λx=>x<=d) (λx=>d-x) 0 ?_ (by simp) ?_
    rfl
    intro x hx ihx;by_cases hxd:x<d;have hwx:=wk x (by omega);have ek:=λaa=>gb hT aa (vZ T (cv r) [93] x) [93] (by simp);have agO:(x:Int)<(d:Int):=(by omega);simp[hxd,ek,hwx];exact ihx (x+1) (by omega) (by omega);have:x=d:=by omega
    subst this;subst hF;simp
    rfl
   |false=>
    rw[ha,hb]at hF;simp only[ahl,aan,aS]at hF;generalize eW T r=z at *;simp[ei,ea,eb,hi,ha,hb,en,au];refine bH IC.eq_1 (λx:Nat=>⟨[(0,.val (.ptr 0 0 0 0)),(2,.fp 0 0),(3,.val (.int .i64 d)),(4,.fp 1 0),(5,.val (.int .i64 x))],[[.str [],.int .i64 0],[.str z.1,.int .i64 d]],[RQ.aX l (vZ T z.2 [93] x)]⟩)
     (λx=>x<=d) (λx=>d-x) 0 ?_ (by simp) ?_
    rfl
    intro x hx ihx;by_cases hxd:x<d;have hwx:=wk x (by omega);have ek:=λaa=>gb hT aa (vZ T z.2 [93] x) [93] (by simp);have agO:(x:Int)<(d:Int):=(by omega);simp[hxd,ek,hwx];exact ihx (x+1) (by omega) (by omega);have:x=d:=by omega
    subst this;subst hF;simp
theorem Fk:(aZ S).call 0 aa 24 [.ptr 0 0 0 0] [q.aX l]=some (.agg (eX T q).1.cells,[(eX T q).2.aX l]):=by
 have et:=λaa=>nI hT aa q;have en:=λaa=>om hT aa q;have e2:=λaa=>gb hT aa (eW T q).2 [58] (by simp);have e3:=λaa=>K6 hT aa (dZ T (eW T q).2 [58]);refine aA (sf:=s24) rfl rfl rfl ?_;unfold eX;generalize zg T (dZ T (eW T q).2 [58])=z3 at *;generalize dZ T (eW T q).2 [58]=q2 at *;generalize eW T q=z,gh T q=c at *;simp only[Tk.cells]at et;simp[-aj,-ag,s24,et,en,e2,e3,au,AV.ai,AV.aB,AV.ax,PD.cells]
end
theorem K7(wl aa:Nat)(n:Nat)(hn:n<5)(c:Tk)(st:ay):(aZ S).call wl aa 114 [.int .i64 n,.agg c.cells] st=some (.int .i64 (v7 n c),st):=by
 refine bT (sf:=KF) rfl rfl (by simp[Tk.cells,AV.aB,AV.ax]) rfl (by simp) ?_;unfold v7;by_cases hk:c.k=4;rw[ah hk];have w1:IntKind.i64.wrap 1=1:=rfl;have w2:IntKind.i64.wrap 2=2:=rfl;have w3:IntKind.i64.wrap 3=3:=rfl;have w4:IntKind.i64.wrap 4=4:=rfl;have agP:n=0\/n=1\/n=2\/n=3\/n=4:=by omega
 have w1:IntKind.i64.wrap 1=1:=rfl;have w2:IntKind.i64.wrap 2=2:=rfl;have w3:IntKind.i64.wrap 3=3:=rfl;have w4:IntKind.i64.wrap 4=4:=rfl;rcases agP with h|h|h|h|h;subst h;simp[KF,Tk.cells,hk];refine bH yu.eq_1 (λk:Nat=>⟨[(0,.val (.int .i64 0)),(3,.fp 0 0),(5,.val (.eE 1 [[.eE 1 [[.str [124,124]]]],[.eE 1 [[.str [38,38]]]],[.eE 1 [[.str [60]],[.str [60,61]],[.str [61,61]],[.str [33,61]]]],[.eE 1 [[.str [43]],[.str [45]]]],[.eE 1 [[.str [42]],[.str [47]],[.str [37]]]]])),(6,.val (.eE 1 [[.eE 1 [[.int .i64 24]]],[.eE 1 [[.int .i64 23]]],[.eE 1 [[.int .i64 19],[.int .i64 20],[.int .i64 21],[.int .i64 22]]],[.eE 1 [[.int .i64 14],[.int .i64 15]]],[.eE 1 [[.int .i64 16],[.int .i64 17],[.int .i64 18]]]])),(7,.val (.int .i64 k))],[[.int .i64 4,.str c.t,.int .i64 c.n,.int .i64 c.a]],[]⟩)
  (λk=>k<=1/\iA (fz 0) c.t=iA ((fz 0).drop k) c.t) (λk=>1-k) 0 (by simp) (by simp) ?_
 intro k ⟨JD,hf⟩ ih;have hc:k=0\/k=1:=by omega
 rcases hc with h|h;subst h;by_cases e:[124,124]=c.t;rw[hf];simp[e,aD,aC,AV.ai,fz,iA];simp[e,w1,aD,aC,AV.ai];exact ih 1 ⟨by omega,by rw[hf];simp[fz,iA,e]⟩ (by omega);subst h;rw[hf];simp[AV.ai,fz,iA];subst h;simp[KF,Tk.cells,hk];refine bH yu.eq_1 (λk:Nat=>⟨[(0,.val (.int .i64 1)),(3,.fp 0 0),(5,.val (.eE 1 [[.eE 1 [[.str [124,124]]]],[.eE 1 [[.str [38,38]]]],[.eE 1 [[.str [60]],[.str [60,61]],[.str [61,61]],[.str [33,61]]]],[.eE 1 [[.str [43]],[.str [45]]]],[.eE 1 [[.str [42]],[.str [47]],[.str [37]]]]])),(6,.val (.eE 1 [[.eE 1 [[.int .i64 24]]],[.eE 1 [[.int .i64 23]]],[.eE 1 [[.int .i64 19],[.int .i64 20],[.int .i64 21],[.int .i64 22]]],[.eE 1 [[.int .i64 14],[.int .i64 15]]],[.eE 1 [[.int .i64 16],[.int .i64 17],[.int .i64 18]]]])),(7,.val (.int .i64 k))],[[.int .i64 4,.str c.t,.int .i64 c.n,.int .i64 c.a]],[]⟩)
  (λk=>k<=1/\iA (fz 1) c.t=iA ((fz 1).drop k) c.t) (λk=>1-k) 0 (by simp) (by simp) ?_
 intro k ⟨JD,hf⟩ ih;have hc:k=0\/k=1:=by omega
 rcases hc with h|h;subst h;by_cases e:[38,38]=c.t;rw[hf];simp[e,aD,aC,AV.ai,fz,iA];simp[e,w1,aD,aC,AV.ai];exact ih 1 ⟨by omega,by rw[hf];simp[fz,iA,e]⟩ (by omega);subst h;rw[hf];simp[AV.ai,fz,iA];subst h;simp[KF,Tk.cells,hk];refine bH yu.eq_1 (λk:Nat=>⟨[(0,.val (.int .i64 2)),(3,.fp 0 0),(5,.val (.eE 1 [[.eE 1 [[.str [124,124]]]],[.eE 1 [[.str [38,38]]]],[.eE 1 [[.str [60]],[.str [60,61]],[.str [61,61]],[.str [33,61]]]],[.eE 1 [[.str [43]],[.str [45]]]],[.eE 1 [[.str [42]],[.str [47]],[.str [37]]]]])),(6,.val (.eE 1 [[.eE 1 [[.int .i64 24]]],[.eE 1 [[.int .i64 23]]],[.eE 1 [[.int .i64 19],[.int .i64 20],[.int .i64 21],[.int .i64 22]]],[.eE 1 [[.int .i64 14],[.int .i64 15]]],[.eE 1 [[.int .i64 16],[.int .i64 17],[.int .i64 18]]]])),(7,.val (.int .i64 k))],[[.int .i64 4,.str c.t,.int .i64 c.n,.int .i64 c.a]],[]⟩)
  (λk=>k<=4/\iA (fz 2) c.t=iA ((fz 2).drop k) c.t) (λk=>4-k) 0 (by simp) (by simp) ?_
 intro k ⟨JD,hf⟩ ih;have hc:k=0\/k=1\/k=2\/k=3\/k=4:=by omega
 rcases hc with h|h|h|h|h;subst h;by_cases e:[60]=c.t;rw[hf];simp[e,aD,aC,AV.ai,fz,iA];simp[e,w1,aD,aC,AV.ai];exact ih 1 ⟨by omega,by rw[hf];simp[fz,iA,e]⟩ (by omega);subst h;by_cases e:[60,61]=c.t;rw[hf];simp[e,aD,aC,AV.ai,fz,iA];simp[e,w2,aD,aC,AV.ai];exact ih 2 ⟨by omega,by rw[hf];simp[fz,iA,e]⟩ (by omega);subst h;by_cases e:[61,61]=c.t;rw[hf];simp[e,aD,aC,AV.ai,fz,iA];simp[e,w3,aD,aC,AV.ai];exact ih 3 ⟨by omega,by rw[hf];simp[fz,iA,e]⟩ (by omega);subst h;by_cases e:[33,61]=c.t;rw[hf];simp[e,aD,aC,AV.ai,fz,iA];simp[e,w4,aD,aC,AV.ai];exact ih 4 ⟨by omega,by rw[hf];simp[fz,iA,e]⟩ (by omega);subst h;rw[hf];simp[AV.ai,fz,iA];subst h;simp[KF,Tk.cells,hk];refine bH yu.eq_1 (λk:Nat=>⟨[(0,.val (.int .i64 3)),(3,.fp 0 0),(5,.val (.eE 1 [[.eE 1 [[.str [124,124]]]],[.eE 1 [[.str [38,38]]]],[.eE 1 [[.str [60]],[.str [60,61]],[.str [61,61]],[.str [33,61]]]],[.eE 1 [[.str [43]],[.str [45]]]],[.eE 1 [[.str [42]],[.str [47]],[.str [37]]]]])),(6,.val (.eE 1 [[.eE 1 [[.int .i64 24]]],[.eE 1 [[.int .i64 23]]],[.eE 1 [[.int .i64 19],[.int .i64 20],[.int .i64 21],[.int .i64 22]]],[.eE 1 [[.int .i64 14],[.int .i64 15]]],[.eE 1 [[.int .i64 16],[.int .i64 17],[.int .i64 18]]]])),(7,.val (.int .i64 k))],[[.int .i64 4,.str c.t,.int .i64 c.n,.int .i64 c.a]],[]⟩)
  (λk=>k<=2/\iA (fz 3) c.t=iA ((fz 3).drop k) c.t) (λk=>2-k) 0 (by simp) (by simp) ?_
 intro k ⟨JD,hf⟩ ih;have hc:k=0\/k=1\/k=2:=by omega
 rcases hc with h|h|h;subst h;by_cases e:[43]=c.t;rw[hf];simp[e,aD,aC,AV.ai,fz,iA];simp[e,w1,aD,aC,AV.ai];exact ih 1 ⟨by omega,by rw[hf];simp[fz,iA,e]⟩ (by omega);subst h;by_cases e:[45]=c.t;rw[hf];simp[e,aD,aC,AV.ai,fz,iA];simp[e,w2,aD,aC,AV.ai];exact ih 2 ⟨by omega,by rw[hf];simp[fz,iA,e]⟩ (by omega);subst h;rw[hf];simp[AV.ai,fz,iA];subst h;simp[KF,Tk.cells,hk];refine bH yu.eq_1 (λk:Nat=>⟨[(0,.val (.int .i64 4)),(3,.fp 0 0),(5,.val (.eE 1 [[.eE 1 [[.str [124,124]]]],[.eE 1 [[.str [38,38]]]],[.eE 1 [[.str [60]],[.str [60,61]],[.str [61,61]],[.str [33,61]]]],[.eE 1 [[.str [43]],[.str [45]]]],[.eE 1 [[.str [42]],[.str [47]],[.str [37]]]]])),(6,.val (.eE 1 [[.eE 1 [[.int .i64 24]]],[.eE 1 [[.int .i64 23]]],[.eE 1 [[.int .i64 19],[.int .i64 20],[.int .i64 21],[.int .i64 22]]],[.eE 1 [[.int .i64 14],[.int .i64 15]]],[.eE 1 [[.int .i64 16],[.int .i64 17],[.int .i64 18]]]])),(7,.val (.int .i64 k))],[[.int .i64 4,.str c.t,.int .i64 c.n,.int .i64 c.a]],[]⟩)
  (λk=>k<=3/\iA (fz 4) c.t=iA ((fz 4).drop k) c.t) (λk=>3-k) 0 (by simp) (by simp) ?_
 intro k ⟨JD,hf⟩ ih;have hc:k=0\/k=1\/k=2\/k=3:=by omega
 rcases hc with h|h|h|h;subst h;by_cases e:[42]=c.t;rw[hf];simp[e,aD,aC,AV.ai,fz,iA];simp[e,w1,aD,aC,AV.ai];exact ih 1 ⟨by omega,by rw[hf];simp[fz,iA,e]⟩ (by omega);subst h;by_cases e:[47]=c.t;rw[hf];simp[e,aD,aC,AV.ai,fz,iA];simp[e,w2,aD,aC,AV.ai];exact ih 2 ⟨by omega,by rw[hf];simp[fz,iA,e]⟩ (by omega);subst h;by_cases e:[37]=c.t;rw[hf];simp[e,aD,aC,AV.ai,fz,iA];simp[e,w3,aD,aC,AV.ai];exact ih 3 ⟨by omega,by rw[hf];simp[fz,iA,e]⟩ (by omega);subst h;rw[hf];simp[AV.ai,fz,iA];simp[KF,Tk.cells,hk]
end N7
namespace N7
open Ax Go bY V7 kN
variable{bx:bG}
theorem sW{wl aa:Nat}{l:AV}{q:RQ}:bn wl aa (.load false 1 false) [.val (.ptr 0 0 0 1)] [RQ.aX l q] bx=some (.val (.int .i64 q.at_),[RQ.aX l q],bx):=by
 simp[RQ.aX,cut,AV.ai]
theorem agQ{wl aa:Nat}{l:AV}{q:RQ}:bn wl aa (.load false 1 false) [.val (.ptr 0 0 0 2)] [RQ.aX l q] bx=some (.val (.int .i64 q.op),[RQ.aX l q],bx):=by
 simp[RQ.aX,cut,AV.ai]
theorem mA{aa:Nat}{l:AV}{q:RQ}:bn 0 aa (.store 1) [.val (.ptr 0 0 0 1),.val (.int .i64 ((q.at_:Int)+1))] [RQ.aX l q] bx=some (.none,[RQ.aX l (cv q)],bx):=by
 simp[RQ.aX,cv,aV,AV.ax,AV.aB,au]
theorem OY{aa:Nat}{l:AV}{q:RQ}{n:Int}:bn 0 aa (.store 1) [.val (.ptr 0 0 0 2),.val (.int .i64 n)] [RQ.aX l q] bx=some (.none,[RQ.aX l ⟨q.at_,n,q.fe,q.fa⟩],bx):=by
 simp[RQ.aX,aV,AV.ax,AV.aB,au]
theorem agR(n:Int):IntKind.i64.wrap (n-1)=IntKind.i64.wrap (n + -1):=by rw[aiz]
def uy(e:E)(kv:AV):List AV:=[.int .i64 e.k,.int .i64 e.n,.str e.nm,.str e.on,.int .i64 e.od,kv,.int .i64 e.a,.int .i64 e.ty.b,.int .i64 e.ty.r,.int .i64 e.ty.d,.int .i64 e.ref]
theorem yD(e:E):uy e (aT e.aG)=e.aF:=(E.aE e).symm
def ZT(l:AV)(T:List Tk)(f:Nat):Prop:=∀n q e r,n<=5->jO T f n q=some (e,r)->∀aa,(aZ S).call 0 aa 91 [.ptr 0 0 0 0,.int .i64 (n:Nat)] [q.aX l]=some (.agg e.aF,[r.aX l])
def OkU(l:AV)(T:List Tk)(f:Nat):Prop:=∀q e r,qJ T f q=some (e,r)->∀aa,(aZ S).call 0 aa 113 [.ptr 0 0 0 0] [q.aX l]=some (.agg e.aF,[r.aX l])
def Br(l:AV)(T:List Tk)(f:Nat):Prop:=∀a q e r,kW T f a q=some (e,r)->∀kv,aN kv=true->kv.ai=aT a.aG->∀aa,(aZ S).call 0 aa 137 [.ptr 0 0 0 0,.agg (uy a kv)] [q.aX l]=some (.agg e.aF,[r.aX l])
def OkI(l:AV)(T:List Tk)(f:Nat):Prop:=∀q e r,oo T f q=some (e,r)->∀aa,(aZ S).call 0 aa 162 [.ptr 0 0 0 0] [q.aX l]=some (.agg e.aF,[r.aX l])
def OkF(l:AV)(T:List Tk)(f:Nat):Prop:=∀q e r,qK T f q=some (e,r)->∃kv,aN kv=true/\kv.ai=aT e.aG/\∀aa,(aZ S).call 0 aa 138 [.ptr 0 0 0 0] [q.aX l]=some (.agg (uy e kv),[r.aX l])
def OkN(l:AV)(T:List Tk)(f:Nat):Prop:=∀a q e r,qL T f a q=some (e,r)->∀aa,(aZ S).call 0 aa 161 [.ptr 0 0 0 0,.int .i64 a] [q.aX l]=some (.agg e.aF,[r.aX l])
def OkA(l:AV)(T:List Tk)(f:Nat):Prop:=∀q e r,wG T f q=some (e,r)->∀aa,(aZ S).call 0 aa 163 [.ptr 0 0 0 0] [q.aX l]=some (bK 11 (E.rows e),[r.aX l])
section
variable {l:AV}{T:List Tk}(hT:TL l T)
include hT
theorem UG(f:Nat)(hE:ZT l T f):OkI l T (f+1):=by
 intro q e r h aa;unfold oo at h;obtain⟨⟨x1,x2⟩,h1,h2⟩:=aai.1 h;cases h2;have eo:=λaa=>sV hT aa q [40] (by simp);have e1:=hE 0 _ _ _ (by omega) h1;have ec:=λaa=>rV hT aa x2 [41] (by simp);generalize ki T q [40]=q1,mJ T x2 [41]=r1 at *;obtain⟨k2,n2,Rf,Rg,Rh,wI,a2,CF,C7⟩:=x1;simp only[E.aF,ag8]at e1;refine aA (sf:=abL) rfl rfl rfl ?_;simp[abL,eo,e1,ec,E.aF,au,AV.aB,AV.ax,AV.ai]
theorem UH(f:Nat)(hI:OkI l T f):OkN l T (f+1):=by
 intro at_ q e r h aa;have hlen:=hT.len;unfold qL at h;have ei:=λaa=>kJ hT aa q [91] (by simp);refine aA (sf:=XA) rfl rfl rfl ?_;cases hi:iZ T q [91] with
 |false=>
  rw[hi]at h;simp only[aan,aS,bh,cF]at h;obtain⟨rfl,rfl⟩:=h;have en:=λaa=>om hT aa q;generalize eW T q=z at *;simp[XA,ei,hi,en,Em,E.aF,E.rows,au,AV.aB,AV.ax]
 |true=>
  rw[hi]at h;simp only[aQ]at h;obtain⟨⟨x1,x2⟩,h1,h2⟩:=aai.1 h;cases h2;obtain⟨i1,i2⟩:=bZ hi;have hw:=wk q.at_ (by omega);have e1:=λaa=>K6 hT aa (cv q);have et:=λaa=>gb hT aa (zg T (cv q)).2 [93] (by simp);have e3:=hI _ _ _ h1;generalize dZ T (zg T (cv q)).2 [93]=r2 at *;generalize zg T (cv q)=o at *;obtain⟨k2,n2,Rf,Rg,Rh,wI,a2,CF,C7⟩:=x1;simp only[E.aF]at e3;simp[-aj,-ag,XA,ei,hi,sW,mA,hw,e1,et,e3,Em,E.aF,E.rows,aD,aC,au,AV.aB,AV.ax,AV.ai]
theorem X1(f:Nat)(hE:∀g,g<=f->ZT l T g):OkA l T (f+1):=by
 intro q e r h aa;have hlen:=hT.len;unfold wG at h;have eo:=λaa=>sV hT aa q [40] (by simp);refine aA (sf:=XB) rfl rfl rfl ?_;generalize ki T q [40]=q1 at *;have ei:=λaa=>kJ hT aa q1 [41] (by simp);cases hi:iZ T q1 [41] with
 |true=>
  rw[hi]at h;simp only[aQ,bh,cF]at h;obtain⟨rfl,rfl⟩:=h;have ec:=λaa=>rV hT aa q1 [41] (by simp);generalize mJ T q1 [41]=r1 at *;simp[XB,eo,ei,hi,ec,E.rows,kq]
 |false=>
  rw[hi]at h;simp only[aan,aS]at h;obtain⟨⟨x1,x2⟩,h1,h2⟩:=aai.1 h;have e1:=hE f (aau _) 0 _ _ _ (by omega) h1;have g1:=jx h1;have hx:oP 11 120 .af [x1.aF]=some (bK 11 (E.rows [x1])):=by
   have:=eO (sz:=11) (bytes:=120) (r:=[]) (new:=[x1.aF]) (by simp[cn,E.aE]) (by simp[cN]);simpa [kq,E.rows] using this
  obtain⟨F,hF⟩:∃F,(bK 11 (E.rows e),[RQ.aX l r])=F:=⟨_,rfl⟩;obtain⟨k2,n2,Rf,Rg,Rh,wI,a2,CF,C7⟩:=x1;simp only[E.aF,ag8]at e1 hx;simp[XB,eo,ei,hi,e1,hx,AV.ai];refine bH OF.eq_1 (λx:RQ×List E×Nat=>⟨[(0,.val (.ptr 0 0 0 0)),(3,.val (bK 11 (E.rows x.2.1)))],[],[RQ.aX l x.1]⟩)
   (λx=>x.2.2<=f/\x.2.1.length<=x.1.at_+1/\uZ T x.2.2 x.2.1 x.1=some (e,r)) (λx=>x.2.2) (x2,[E.mk k2 n2 Rf Rg Rh wI a2 CF C7],f) rfl ⟨aau _,by simp,h2⟩ ?_
  rintro⟨s,es,g⟩ ⟨hg,X2,hp⟩ ih;simp only at hg X2 hp ih;have ej:=λaa=>kJ hT aa s [44] (by simp);cases g with
  |zero=>simp[uZ]at hp|succ g=>
   unfold uZ at hp;cases hj:iZ T s [44] with
   |true=>
    rw[hj]at hp;simp only[aQ]at hp;obtain⟨⟨y1,y2⟩,h3,h4⟩:=aai.1 hp;obtain⟨i1,i2⟩:=bZ hj;have wu:=wk s.at_ (by omega);have e2:=hE g (by omega) 0 _ _ _ (by omega) h3;have g2:=(jx h3).le;have B2:=eO (sz:=11) (bytes:=120) (r:=E.rows es) (new:=[y1.aF]) (by simp[cn,E.aE]) (by simp[cN,iC];omega);have X3:E.rows es++[y1.aF]=E.rows (es++[y1]):=(by simp[iC]);rw[X3]at B2;have fD:=ih (y2,es++[y1],g) ⟨by simp only;omega,by simp[cv]at g2 ⊢;omega,h4⟩ (by simp only;omega);generalize E.rows (es++[y1])=R at *;obtain⟨k3,n3,nm3,on3,od3,anp,a3,ty3,aoY⟩:=y1;simp only[E.aF,ag8]at e2 B2;simp[-aj,-ag,ej,hj,sW,mA,wu,e2,B2,AV.ai];exact fD
   |false=>
    rw[hj]at hp;simp only[aan,aS,bh,cF]at hp;obtain⟨rfl,rfl⟩:=hp;have ec:=λaa=>rV hT aa s [41] (by simp);generalize mJ T s [41]=r1 at *;simp[ej,hj,ec]
end
end N7
namespace N7
open Ax Go bY V7 kN
section
variable {l:AV}{T:List Tk}(hT:TL l T)
include hT
theorem UI(f:Nat)(hN:OkN l T f)(hI:OkI l T f)(hA:OkA l T f):OkF l T (f+1):=by
 intro q e r h;have hlen:=hT.len;have et:=λaa=>nI hT aa q;have eo:=λaa=>iB (l:=l) aa q;have ei:=λaa s hs=>kJ hT aa q s hs;have XV:=λs (h:iZ T q s=true)=>Hw h;have JY:(gh T q).k≠0->q.at_<T.length:=v9;unfold qK at h;generalize hc:gh T q=c at *;simp only[Tk.cells]at et;have hw:q.at_<T.length->IntKind.i64.wrap ((q.at_:Int)+1)=((q.at_+1:Nat):Int):=λh=>by rw[eR]<;>omega
 have G9:∀s,iZ T q s=true->IntKind.i64.wrap ((q.at_:Int)+1)=((q.at_+1:Nat):Int):=λs h=>hw (bZ h).2;by_cases c0:q.fe=0/\c.k=2;rw[ah c0]at h;cases h;have hw:=hw (JY (by rw[c0.2];decide));refine⟨.af,rfl,by simp[Em,E.aG,rq,AV.ai],λaa=>?_⟩;refine aA (sf:=sJ) rfl rfl rfl ?_;simp[-aj,-ag,sJ,et,eo,c0.1,c0.2,sW,mA,hw,au,AV.aB,AV.ax,uy,Em,E.k,E.n,E.nm,E.on,E.od,E.a,E.ty,E.ref];rw[U c0]at h;by_cases yS:q.fe=0
 ·have lJ:¬c.k=2:=λh=>c0 ⟨yS,h⟩;cases h1:iZ T q [116,114,117,101] with
  |true=>
   rw[h1]at h;simp only[aiG,aQ,bh,cF]at h;obtain⟨rfl,rfl⟩:=h;have hw:=G9 _ h1;have ht:=XV _ h1;refine⟨.af,rfl,by simp[Em,E.aG,rq,AV.ai],λaa=>?_⟩;refine aA (sf:=sJ) rfl rfl rfl ?_;simp[-aj,-ag,sJ,et,eo,yS,lJ,ei,h1,sW,mA,hw,ht,au,AV.aB,AV.ax,uy,Em,E.k,E.n,E.nm,E.on,E.od,E.a,E.ty,E.ref]
  |false=>
  cases h2:iZ T q [102,97,108,115,101] with
  |true=>
   rw[h1,h2]at h;simp only[ahv,aQ,bh,cF]at h;obtain⟨rfl,rfl⟩:=h;have hw:=G9 _ h2;have ht:=XV _ h2;refine⟨.af,rfl,by simp[Em,E.aG,rq,AV.ai],λaa=>?_⟩;refine aA (sf:=sJ) rfl rfl rfl ?_;simp[-aj,-ag,sJ,et,eo,yS,lJ,ei,h1,h2,sW,mA,hw,ht,au,AV.aB,AV.ax,uy,Em,E.k,E.n,E.nm,E.on,E.od,E.a,E.ty,E.ref]
  |false=>
  rw[h1,h2]at h;simp only[ahl,aan,aS]at h;cases h3:iZ T q [110,117,108,108] with
  |true=>
   rw[h3]at h;simp only[aQ,bh,cF]at h;obtain⟨rfl,rfl⟩:=h;have hw:=G9 _ h3;have e1:=λaa=>K6 hT aa (cv q);generalize zg T (cv q)=o at *;refine⟨.af,rfl,by simp[Em,E.aG,rq,AV.ai],λaa=>?_⟩;refine aA (sf:=sJ) rfl rfl rfl ?_;simp[-aj,-ag,sJ,et,eo,yS,lJ,ei,h1,h2,h3,sW,mA,hw,e1,au,AV.aB,AV.ax,aD,aC,uy,Em,E.k,E.n,E.nm,E.on,E.od,E.a,E.ty,E.ref]
  |false=>
  rw[h3]at h;simp only[aan,aS]at h;cases h4:iZ T q [110,101,119] with
  |true=>
   rw[h4]at h;simp only[aQ]at h;have hw:=G9 _ h4;have e1:=hN _ _ _ _ h;refine⟨aT e.aG,by simp,by simp,λaa=>?_⟩;rw[yD];obtain⟨k2,n2,Rf,Rg,Rh,wI,a2,CF,C7⟩:=e;simp only[E.aF]at e1 ⊢;refine aA (sf:=sJ) rfl rfl rfl ?_;simp[-aj,-ag,sJ,et,eo,yS,lJ,ei,h1,h2,h3,h4,sW,mA,hw,e1,au,AV.aB,AV.ax]
  |false=>
  rw[h4]at h;simp only[aan,aS]at h;cases h5:iZ T q [108,101,110] with
  |true=>
   rw[h5]at h;simp only[aQ]at h;have hw:=G9 _ h5;obtain⟨⟨x1,x2⟩,h8,h9⟩:=aai.1 h;cases h9;have e1:=hI _ _ _ h8;refine⟨_,by simp,bu,λaa=>?_⟩;rw[yD];obtain⟨k2,n2,Rf,Rg,Rh,wI,a2,CF,C7⟩:=x1;simp only[E.aF]at e1;refine aA (sf:=sJ) rfl rfl rfl ?_;simp[-aj,-ag,sJ,et,eo,yS,lJ,ei,h1,h2,h3,h4,h5,sW,mA,hw,e1,au,AV.aB,AV.ax,AV.ai,aD,aC,Em,E.aF,E.rows]
  |false=>
  rw[h5]at h;simp only[aan,aS]at h;cases h6:iZ T q [114,101,97,100] with
  |true=>
   rw[h6]at h;simp only[aQ,bh,cF]at h;obtain⟨rfl,rfl⟩:=h;have hw:=G9 _ h6;have ep:=λaa=>sV hT aa (cv q) [40] (by simp);have eq:=λaa=>rV hT aa (ki T (cv q) [40]) [41] (by simp);refine⟨.af,rfl,by simp[Em,E.aG,rq,AV.ai],λaa=>?_⟩;refine aA (sf:=sJ) rfl rfl rfl ?_;simp[-aj,-ag,sJ,et,eo,yS,lJ,ei,h1,h2,h3,h4,h5,h6,sW,mA,hw,ep,eq,au,AV.aB,AV.ax,uy,Em,E.k,E.n,E.nm,E.on,E.od,E.a,E.ty,E.ref]
  |false=>
  rw[h6]at h;simp only[aan,aS]at h;cases h7:iZ T q [40] with
  |true=>
   rw[h7]at h;simp only[aQ]at h;have e1:=hI _ _ _ h;refine⟨aT e.aG,by simp,by simp,λaa=>?_⟩;rw[yD];obtain⟨k2,n2,Rf,Rg,Rh,wI,a2,CF,C7⟩:=e;simp only[E.aF]at e1 ⊢;refine aA (sf:=sJ) rfl rfl rfl ?_;simp[-aj,-ag,sJ,et,eo,yS,lJ,ei,h1,h2,h3,h4,h5,h6,h7,e1,au,AV.aB,AV.ax]
  |false=>
   rw[h7]at h;simp only[aan,aS]at h;have en:=λaa=>om hT aa q;generalize eW T q=z at *;have ez:=λaa=>kJ hT aa z.2 [40] (by simp);cases h8:iZ T z.2 [40] with
   |false=>
    rw[h8]at h;simp only[aan,aS,bh,cF]at h;obtain⟨rfl,rfl⟩:=h;refine⟨.af,rfl,by simp[Em,E.aG,rq,AV.ai],λaa=>?_⟩;refine aA (sf:=sJ) rfl rfl rfl ?_;simp[-aj,-ag,sJ,et,eo,yS,lJ,ei,h1,h2,h3,h4,h5,h6,h7,en,ez,h8,au,AV.aB,AV.ax,uy,Em,E.k,E.n,E.nm,E.on,E.od,E.a,E.ty,E.ref]
   |true=>
    rw[h8]at h;simp only[aQ]at h;obtain⟨⟨x1,x2⟩,h9,Bx⟩:=aai.1 h;cases Bx;have e1:=hA _ _ _ h9;have hk:aN (bK 11 (E.rows x1))=true:=ct;have hv:(bK 11 (E.rows x1)).ai=aT x1:=rfl;generalize bK 11 (E.rows x1)=kv at *;have hkc:=cy hk;have hkp:=cI hk;refine⟨kv,hk,hv,λaa=>?_⟩;refine aA (sf:=sJ) rfl rfl rfl ?_;simp[-aj,-ag,sJ,et,eo,yS,lJ,ei,h1,h2,h3,h4,h5,h6,h7,en,ez,h8,e1,hk,au,AV.aB,AV.ax,aD,aC,uy,Em,E.k,E.n,E.nm,E.on,E.od,E.a,E.ty,E.ref]
 have iI:∀s,iZ T q s=false:=λs=>XK yS;have en:=λaa=>om hT aa q;have hz:eW T q=([],q):=by simp[eW,yS,jN]
 rw[hz]at en;simp only[iI,hz,ahl,aan,aS,bh,cF]at h;obtain⟨rfl,rfl⟩:=h;refine⟨.af,rfl,by simp[Em,E.aG,rq,AV.ai],λaa=>?_⟩;refine aA (sf:=sJ) rfl rfl rfl ?_;simp[-aj,-ag,sJ,et,eo,yS,ei,iI,en,au,AV.aB,AV.ax,uy,Em,E.k,E.n,E.nm,E.on,E.od,E.a,E.ty,E.ref]
theorem QF(f:Nat)(hE:∀g,g<f->ZT l T g):Br l T f:=by
 intro a0 q e r h kv0 ZS hv0 aa;have hlen:=hT.len;have ali:=cy ZS;refine aA (sf:=abF) rfl rfl rfl ?_;simp[abF,uy,ali];refine bH OE.eq_1 (λx:RQ×E×AV×Nat×List AV×List AV=>⟨[(0,.val (.ptr 0 0 0 0)),(3,.fp 0 0),(4,.fp 1 0)],
   [uy x.2.1 x.2.2.1,[.int .i64 0,.int .i64 0,.str [],.str [],.int .i64 0,.af,.int .i64 0,.int .i64 0,.int .i64 0,.int .i64 0,.int .i64 0],x.2.2.2.2.1,x.2.2.2.2.2],[RQ.aX l x.1]⟩)
  (λx=>x.2.2.2.1<=f/\aN x.2.2.1=true/\x.2.2.1.ai=aT x.2.1.aG/\kW T x.2.2.2.1 x.2.1 x.1=some (e,r)) (λx=>x.2.2.2.1) (q,a0,kv0,f,[],[]) rfl ⟨aau _,ZS,hv0,h⟩ ?_
 rintro⟨s,a,kv,g,b2,b3⟩ ⟨hg,hk,hv,hp⟩ ih;simp only at hg hk hv hp ih;have hkc:=cy hk;have hkp:=cI hk;have ed:=λaa=>kJ hT aa s [46] (by simp);have eb:=λaa=>kJ hT aa s [91] (by simp);have et:=λaa=>nI hT aa s;have dJ:E.rows [a]=[uy a (aT a.aG)]:=by rw[yD];simp[E.rows]
 cases g with
 |zero=>simp[kW]at hp|succ g=>
  unfold kW at hp;cases h1:iZ T s [46] with
  |true=>
   rw[h1]at hp;simp only[aQ]at hp;obtain⟨i1,i2⟩:=bZ h1;have hw:=wk s.at_ (by omega);have en:=λaa=>om hT aa (cv s);generalize eW T (cv s)=z,gh T s=c at *;simp only[Tk.cells]at et;have fD:=λb2 b3=>ih (z.2,Em 5 0 z.1 [] 0 [a] c.a,aT [a],g,b2,b3) ⟨by simp only;omega,by simp,by simp[Em,E.aG],hp⟩ (by simp only;omega);simp[-aj,-ag,ed,h1,et,sW,mA,hw,en,hv,au,AV.ai,aD,aC,uy];have:=fD [.int .i64 c.k,.str c.t,.int .i64 c.n,.int .i64 c.a] b3;simp[uy,Em,E.k,E.n,E.nm,E.on,E.od,E.a,E.ty,E.ref,aT,dJ]at this;exact this
  |false=>
   rw[h1]at hp;simp only[aan,aS]at hp;cases h2:iZ T s [91] with
   |true=>
    rw[h2]at hp;simp only[aQ]at hp;obtain⟨⟨x1,x2⟩,h3,h4⟩:=aai.1 hp;have eo:=λaa=>sV hT aa s [91] (by simp);have e1:=hE g (by omega) 0 _ _ _ (by omega) h3;have ec:=λaa=>rV hT aa x2 [93] (by simp);generalize ki T s [91]=q1 at *;simp only at h4;generalize mJ T x2 [93]=q3,gh T s=c at *;simp only[Tk.cells]at et;have K8:E.rows [a,x1]=[uy a (aT a.aG),x1.aF]:=(by rw[yD];simp[E.rows]);have fD:=λb2 b3=>ih (q3,Em 6 0 [] [] 0 [a,x1] c.a,aT [a,x1],g,b2,b3) ⟨by simp only;omega,by simp,by simp[Em,E.aG],h4⟩ (by simp only;omega);obtain⟨k2,n2,Rf,Rg,Rh,wI,a2,CF,C7⟩:=x1;simp only[E.aF,ag8]at e1 K8;simp[-aj,-ag,ed,eb,h1,h2,et,eo,e1,ec,hv,au,AV.ai,uy];have:=fD [.int .i64 c.k,.str c.t,.int .i64 c.n,.int .i64 c.a] [.int .i64 k2,.int .i64 n2,.str Rf,.str Rg,.int .i64 Rh,aJ 11 (E.rows wI),.int .i64 a2,.int .i64 CF.b,.int .i64 CF.r,.int .i64 CF.d,.int .i64 C7];simp[uy,Em,E.k,E.n,E.nm,E.on,E.od,E.a,E.ty,E.ref,aT,K8]at this;exact this
   |false=>
    rw[h2]at hp;simp only[aan,aS,bh,cF]at hp;obtain⟨rfl,rfl⟩:=hp;rw[<-yD];simp[-aj,-ag,ed,eb,h1,h2,hv,au,AV.aB,AV.ax,uy]
theorem UJ(f:Nat)(hE:ZT l T f)(hF:OkF l T f)(hB:Br l T f):OkU l T (f+1):=by
 intro q e r h aa;have hlen:=hT.len;have et:=λaa=>nI hT aa q;have em:=λaa=>kJ hT aa q [45] (by simp);have en:=λaa=>kJ hT aa q [33] (by simp);unfold qJ at h;refine aA (sf:=T4) rfl rfl rfl ?_;cases h1:iZ T q [45] with
 |true=>
  rw[h1]at h;simp only[aiG,aQ]at h;obtain⟨⟨x1,x2⟩,h3,h4⟩:=aai.1 h;cases h4;have hc:=Hw h1;rw[hc]at h3;have eo:=λaa=>sV hT aa q [45] (by simp);have e1:=hE 5 _ _ _ (by omega) h3;generalize ki T q [45]=q1,gh T q=c at *;obtain⟨k2,n2,Rf,Rg,Rh,wI,a2,CF,C7⟩:=x1;simp only[Tk.cells]at et;simp only[E.aF,aeA]at e1;simp[-aj,-ag,T4,et,em,h1,hc,eo,e1,agQ,OY,xK,agR,au,AV.ai,AV.aB,AV.ax,Em,E.aF,E.rows]
 |false=>
  cases h2:iZ T q [33] with
  |true=>
   rw[h1,h2]at h;simp only[ahv,aQ]at h;obtain⟨⟨x1,x2⟩,h3,h4⟩:=aai.1 h;cases h4;have hc:=Hw h2;rw[hc]at h3;have eo:=λaa=>sV hT aa q [33] (by simp);have e1:=hE 5 _ _ _ (by omega) h3;generalize ki T q [33]=q1,gh T q=c at *;obtain⟨k2,n2,Rf,Rg,Rh,wI,a2,CF,C7⟩:=x1;simp only[Tk.cells]at et;simp only[E.aF,aeA]at e1;simp[-aj,-ag,T4,et,em,en,h1,h2,hc,eo,e1,agQ,OY,xK,agR,au,AV.ai,AV.aB,AV.ax,Em,E.aF,E.rows]
  |false=>
   rw[h1,h2]at h;simp only[ahl,aan,aS]at h;obtain⟨⟨x1,x2⟩,h3,h4⟩:=aai.1 h;obtain⟨kv,hk,hv,e1⟩:=hF _ _ _ h3;have e3:=hB _ _ _ _ h4 kv hk hv;obtain⟨k2,n2,Rf,Rg,Rh,wI,a2,CF,C7⟩:=e;have hkc:=cy hk;have hkp:=cI hk;simp only[E.aF]at e3 ⊢;generalize uy x1 kv=R,gh T q=c at *;simp only[Tk.cells]at et;simp[-aj,-ag,T4,et,em,en,h1,h2,e1,e3,au,AV.aB,AV.ax]
theorem QG(f:Nat)(hE:∀g,g<=f->ZT l T g)(hU:OkU l T f):ZT l T (f+1):=by
 intro n q e r hn h aa;have hlen:=hT.len;unfold jO at h;refine aA (sf:=s91) rfl rfl rfl ?_;by_cases hn5:n=5;subst hn5;rw[ah rfl]at h;have e1:=hU _ _ _ h;obtain⟨k2,n2,Rf,Rg,Rh,wI,a2,CF,C7⟩:=e;simp only[E.aF]at e1 ⊢;simp[-aj,-ag,s91,e1,au,AV.aB,AV.ax];rw[U hn5]at h;obtain⟨⟨x1,x2⟩,h1,h2⟩:=aai.1 h;have alj:¬(n:Int)=5:=by omega
 have hwn:=wk n (by omega);have e1:=hE f (aau _) (n+1) _ _ _ (by omega) h1;have dJ:∀e:E,e.aF=[.int .i64 e.k,.int .i64 e.n,.str e.nm,.str e.on,.int .i64 e.od,aT e.aG,.int .i64 e.a,.int .i64 e.ty.b,.int .i64 e.ty.r,.int .i64 e.ty.d,.int .i64 e.ref]:=E.aE;simp only[dJ,aeo,aeA]at e1;simp[-aj,-ag,s91,alj,hwn,e1,au];refine bH TY.eq_1 (λx:RQ×E×Nat×List AV×List AV=>⟨[(0,.val (.ptr 0 0 0 0)),(1,.val (.int .i64 n)),(4,.fp 0 0),(5,.fp 1 0)],
   [[.int .i64 0,.int .i64 0,.str [],.str [],.int .i64 0,.af,.int .i64 0,.int .i64 0,.int .i64 0,.int .i64 0,.int .i64 0],
    [.int .i64 x.2.1.k,.int .i64 x.2.1.n,.str x.2.1.nm,.str x.2.1.on,.int .i64 x.2.1.od,aT x.2.1.aG,.int .i64 x.2.1.a,.int .i64 x.2.1.ty.b,.int .i64 x.2.1.ty.r,.int .i64 x.2.1.ty.d,.int .i64 x.2.1.ref],x.2.2.2.1,x.2.2.2.2],[RQ.aX l x.1]⟩)
  (λx=>x.2.2.1<=f/\pF T x.2.2.1 n x.2.1 x.1=some (e,r)) (λx=>x.2.2.1) (x2,x1,f,[],[]) rfl ⟨aau _,h2⟩ ?_
 rintro⟨s,a,g,b2,b3⟩ ⟨hg,hp⟩ LP;simp only at hg hp LP;have eo:=λaa=>iB (l:=l) aa s;have et:=λaa=>nI hT aa s;have elp:=λwl aa=>K7 wl aa n (by omega) (gh T s) [RQ.aX l s];cases g with
 |zero=>simp[pF]at hp|succ g=>
  unfold pF at hp;by_cases Wa:s.fe=0/\v7 n (gh T s)≠0;rw[ah Wa]at hp;obtain⟨f0,z0⟩:=Wa;obtain⟨⟨y1,y2⟩,h3,h4⟩:=aai.1 hp;have JY:=AF z0;have hw:=wk s.at_ (by omega);have e3:=hE g (by omega) (n+1) _ _ _ (by omega) h3;have agS:=λwl aa st=>K7 wl aa n (by omega) (gh T s) st;simp only[dJ,aeo,aeA]at e3;have K8:E.rows [a,y1]=[a.aF,y1.aF]:=by simp[E.rows]
  simp only[dJ]at K8;generalize v7 n (gh T s)=z at *;have fD:=λb2 b3=>LP (y2,Em z 0 [] [] 0 [a,y1] (gh T s).a,g,b2,b3) ⟨by simp only;omega,h4⟩ (by simp only;omega);generalize gh T s=c at *;simp only[Tk.cells]at et elp agS;simp[-aj,-ag,eo,f0,et,agS,z0,sW,mA,hw,hwn,e3,au,AV.ai,aD,aC];have:=fD [.int .i64 c.k,.str c.t,.int .i64 c.n,.int .i64 c.a] [.int .i64 y1.k,.int .i64 y1.n,.str y1.nm,.str y1.on,.int .i64 y1.od,aT y1.aG,.int .i64 y1.a,.int .i64 y1.ty.b,.int .i64 y1.ty.r,.int .i64 y1.ty.d,.int .i64 y1.ref];simp only[Em,E.k,E.n,E.nm,E.on,E.od,E.aG,E.a,E.ty,E.ref]at this;simp only[show aT [a,y1]=.eE 11 (E.rows [a,y1]) from rfl,K8]at this;exact this;rw[U Wa]at hp;simp only[bh,cF]at hp;obtain⟨rfl,rfl⟩:=hp;rw[dJ];generalize v7 n (gh T s)=z at *;generalize gh T s=c at *;simp only[Tk.cells]at et elp;by_cases f0:s.fe=0;have z0:z=0:=Classical.byContradiction λh=>Wa ⟨f0,h⟩;subst z0;simp[-aj,-ag,eo,f0,et,elp,au,AV.aB,AV.ax];simp[-aj,-ag,eo,f0,au,AV.aB,AV.ax]
theorem UK:∀f,ZT l T f/\OkU l T f/\OkF l T f/\OkI l T f/\OkN l T f/\OkA l T f:=by
 intro f;induction f using agB with
 |_ f ih=>
  cases f with
  |zero=>
   refine⟨?_,?_,?_,?_,?_,?_⟩;intro n q e r _ h;simp[jO]at h;intro q e r h;simp[qJ]at h;intro q e r h;simp[qK]at h;intro q e r h;simp[oo]at h;intro a q e r h;simp[qL]at h;intro q e r h;simp[wG]at h
  |succ f=>
   obtain⟨hE,hU,hF,hI,hN,hA⟩:=ih f (by omega);have hEl:∀g,g<=f->ZT l T g:=λg h=>(ih g (by omega)).1;exact⟨QG hT f hEl hU,UJ hT f hE hF (QF hT f λg h=>hEl g (by omega)),UI hT f hN hI hA,UG hT f hE,UH hT f hI,X1 hT f hEl⟩
theorem jq{f n:Nat}{q r:RQ}{e:E}(hn:n<=5)(h:jO T f n q=some (e,r))(aa:Nat):(aZ S).call 0 aa 91 [.ptr 0 0 0 0,.int .i64 (n:Nat)] [q.aX l]=some (.agg e.aF,[r.aX l]):=(UK hT f).1 n q e r hn h aa
end
end N7
namespace N7
open Ax Go bY V7 kN
def rD(l:AV)(T:List Tk)(f:Nat):Prop:=∀q s r,wH T f q=some (s,r)->∀aa,(aZ S).call 0 aa 66 [.ptr 0 0 0 0] [q.aX l]=some (.agg s.aF,[r.aX l])
def OkK(l:AV)(T:List Tk)(f:Nat):Prop:=∀q s r,kH T f q=some (s,r)->∀aa,(aZ S).call 0 aa 43 [.ptr 0 0 0 0] [q.aX l]=some (bK 9 (Sm.rows s),[r.aX l])
section
variable {l:AV}{T:List Tk}(hT:TL l T)
include hT
theorem ex0{f:Nat}{q r:RQ}{e:E}(h:jO T f 0 q=some (e,r))(aa:Nat) :
  (aZ S).call 0 aa 91 [.ptr 0 0 0 0,.int .i64 0] [q.aX l]=some (.agg [.int .i64 e.k,.int .i64 e.n,.str e.nm,.str e.on,.int .i64 e.od,aT e.aG,.int .i64 e.a,.int .i64 e.ty.b,.int .i64 e.ty.r,.int .i64 e.ty.d,.int .i64 e.ref],[r.aX l]):=by
 have:=jq hT (n:=0) (by omega) h aa;rw[E.aE]at this;exact this
theorem Fl{f:Nat}{a0:Int}{q r:RQ}{s:Sm}(h:uv T f a0 q=some (s,r))(aa:Nat) :
  (aZ S).call 0 aa 92 [.ptr 0 0 0 0,.agg [.int .i64 0,.str [],.str [],.int .i64 0,.af,.af,.af,.int .i64 a0,.int .i64 0]] [q.aX l]=some (.agg s.aF,[r.aX l]):=by
 have hlen:=hT.len;unfold uv at h;obtain⟨⟨x,r1⟩,h1,h2⟩:=aai.1 h;dsimp only at h2;have e1:=ex0 hT h1;have ei:=λaa s hs=>kJ hT aa r1 s hs;have ef:=λaa=>fO hT aa r1 2;have mT:E.rows [x]=[[.int .i64 x.k,.int .i64 x.n,.str x.nm,.str x.on,.int .i64 x.od,aT x.aG,.int .i64 x.a,.int .i64 x.ty.b,.int .i64 x.ty.r,.int .i64 x.ty.d,.int .i64 x.ref]]:=by simp[E.rows,E.aE]
 refine aA (sf:=ZM) rfl rfl rfl ?_;cases h3:iZ T r1 [61] with
 |false=>
  rw[h3]at h2;simp only[aan,aS,bh,cF]at h2;obtain⟨rfl,rfl⟩:=h2;by_cases h4:iZ T r1 [59]=true/\x.k≠7;rw[ah h4];obtain⟨h4,h5⟩:=h4;have et:=λaa=>gb hT aa (jN T r1 2) [59] (by simp);simp[-aj,-ag,ZM,e1,ei,h3,h4,h5,ef,et,au,AV.ai,AV.aB,AV.ax,Sm.aF,aT,mT,Sm.rows];rw[U h4];have et:=λaa=>gb hT aa r1 [59] (by simp);cases M8:iZ T r1 [59] with
  |false=>
   simp[-aj,-ag,ZM,e1,ei,h3,M8,et,au,AV.ai,AV.aB,AV.ax,Sm.aF,aT,mT,Sm.rows]
  |true=>
   have h5:x.k=7:=Classical.byContradiction λh=>h4 ⟨M8,h⟩;rw[h5]at e1 mT;simp[-aj,-ag,ZM,e1,ei,h3,M8,et,au,AV.ai,AV.aB,AV.ax,Sm.aF,aT,mT,Sm.rows]
 |true=>
  rw[h3]at h2;simp only[aQ]at h2;obtain⟨⟨y,r2⟩,h4,h5⟩:=aai.1 h2;have e2:=ex0 hT h4;have IZ:=λaa=>gb hT aa r2 [59] (by simp);have hry:E.rows [y]=[[.int .i64 y.k,.int .i64 y.n,.str y.nm,.str y.on,.int .i64 y.od,aT y.aG,.int .i64 y.a,.int .i64 y.ty.b,.int .i64 y.ty.r,.int .i64 y.ty.d,.int .i64 y.ref]]:=by simp[E.rows,E.aE]
  have acd:E.rows [x,y]=[[.int .i64 x.k,.int .i64 x.n,.str x.nm,.str x.on,.int .i64 x.od,aT x.aG,.int .i64 x.a,.int .i64 x.ty.b,.int .i64 x.ty.r,.int .i64 x.ty.d,.int .i64 x.ref],[.int .i64 y.k,.int .i64 y.n,.str y.nm,.str y.on,.int .i64 y.od,aT y.aG,.int .i64 y.a,.int .i64 y.ty.b,.int .i64 y.ty.r,.int .i64 y.ty.d,.int .i64 y.ref]]:=by simp[E.rows,E.aE]
  by_cases c4:x.k=4;rw[ah (.inl c4)]at e2;have et:=λaa=>gb hT aa r1 [61] (by simp);simp only[ah c4,bh,cF]at h5;obtain⟨rfl,rfl⟩:=h5;rw[c4]at e1;simp[-aj,-ag,ZM,e1,ei,h3,et,e2,IZ,au,AV.ai,AV.aB,AV.ax,Sm.aF,aT,hry,Sm.rows];simp only[U c4,bh,cF]at h5;obtain⟨rfl,rfl⟩:=h5;by_cases c5:x.k=5\/x.k=6;rw[ah (.inr c5)]at e2;have et:=λaa=>gb hT aa r1 [61] (by simp);rcases c5 with c5|c5<;>
  ·rw[c5]at e1 acd;simp[-aj,-ag,ZM,e1,ei,h3,et,e2,IZ,au,AV.ai,AV.aB,AV.ax,Sm.aF,aT,acd,Sm.rows]
  have c5':x.k≠5:=λh=>c5 (.inl h);have c6':x.k≠6:=λh=>c5 (.inr h);rw[U (λh=>h.elim c4 c5)]at e2;have et:=λaa=>gb hT aa (jN T r1 2) [61] (by simp);simp[-aj,-ag,ZM,e1,ei,h3,ef,et,e2,IZ,c4,c5',c6',au,AV.ai,AV.aB,AV.ax,Sm.aF,aT,acd,Sm.rows]
theorem iL(f:Nat)(hS:∀g,g<f->rD l T g):OkK l T (f+1):=by
 intro q s r h aa;have hlen:=hT.len;have eo:=λaa=>sV hT aa q [123] (by simp);unfold kH at h;refine aA (sf:=s43) rfl rfl rfl ?_;generalize ki T q [123]=q1 at *;simp[-aj,-ag,s43,eo];refine bH Ts.eq_1 (λx:RQ×List Sm×Nat=>⟨[(0,.val (.ptr 0 0 0 0)),(3,.val (bK 9 (Sm.rows x.2.1)))],[],[RQ.aX l x.1]⟩)
  (λx=>x.2.2<=f/\x.2.1.length<=T.length+1/\(x.1.fe=0->x.2.1.length<=x.1.at_/\x.2.1.length<=T.length)/\pG T x.2.2 x.2.1 x.1=some (s,r)) (λx=>x.2.2) (q1,[],f) rfl ⟨aau _,by simp,by simp,h⟩ ?_
 rintro⟨u,ss,g⟩ ⟨hg,X2,LQ,hp⟩ ih;simp only at hg X2 LQ hp ih;have ek:=λaa=>iB (l:=l) aa u;have ei:=λaa=>kJ hT aa u [125] (by simp);cases g with
 |zero=>simp[pG]at hp|succ g=>
  unfold pG at hp;have ec:=λaa=>rV hT aa u [125] (by simp);by_cases f0:u.fe=0;cases hi:iZ T u [125] with
  |true=>
   rw[U (by rw[hi];simp)]at hp;simp only[bh,cF]at hp;obtain⟨rfl,rfl⟩:=hp;simp[-aj,-ag,ek,f0,ei,hi,ec]
  |false=>
   rw[ah ⟨f0,hi⟩]at hp;obtain⟨⟨x,r2⟩,h1,h2⟩:=aai.1 hp;have e2:=hS g (by omega) _ _ _ h1;obtain⟨g2,w2⟩:=(sM T g).1 _ _ _ h1;have agT:=LQ f0;have hle:=g2.le;have B2:=eO (sz:=9) (bytes:=136) (r:=Sm.rows ss) (new:=[x.aF]) (by simp[cn,Sm.aE]) (by simp[cN,kV];omega);have X3:Sm.rows ss++[x.aF]=Sm.rows (ss++[x]):=(by simp[kV]);rw[X3]at B2;have fD:=ih (r2,ss++[x],g) ⟨by simp only;omega,by simp;omega,λf=>by
    rcases w2 with w|⟨w,v⟩;exact aU f w;simp;omega,h2⟩ (by simp only;omega)
   simp only at fD;generalize Sm.rows (ss++[x])=R at *;rw[Sm.aE]at e2 B2;simp[-aj,-ag,ek,f0,ei,hi,e2,B2,AV.ai];exact fD
  rw[U (λh=>f0 h.1)]at hp;simp only[bh,cF]at hp;obtain⟨rfl,rfl⟩:=hp;simp[-aj,-ag,ek,f0,ec]
theorem mO(f:Nat)(hK:OkK l T f):rD l T (f+1):=by
 intro q s r h aa;have hlen:=hT.len;have et:=λaa=>nI hT aa q;have ei:=λaa s hs=>kJ hT aa q s hs;have XV:=λs (h:iZ T q s=true)=>Hw h;have G9:∀s,iZ T q s=true->IntKind.i64.wrap ((q.at_:Int)+1)=((q.at_+1:Nat):Int):=λs h=>by
  have:=(bZ h).2;rw[eR]<;>omega
 unfold wH at h;refine aA (sf:=TK) rfl rfl rfl ?_;have en:=λaa=>om hT aa (cv q);have ec:=λaa=>gb hT aa (eW T (cv q)).2 [58] (by simp);have eo:=λaa=>K6 hT aa (dZ T (eW T (cv q)).2 [58]);have F3:eX T (cv q)=(⟨(eW T (cv q)).1,(zg T (dZ T (eW T (cv q)).2 [58])).1.1,(zg T (dZ T (eW T (cv q)).2 [58])).1.2,(gh T (cv q)).a⟩,(zg T (dZ T (eW T (cv q)).2 [58])).2):=rfl;rw[F3]at h;generalize zg T (dZ T (eW T (cv q)).2 [58])=o at *;generalize dZ T (eW T (cv q)).2 [58]=q2 at *;generalize eW T (cv q)=z at *;clear F3;have GH:=λs r (h:uv T f (gh T q).a q=some (s,r))=>Fl hT h;generalize hc:gh T q=c at *;simp only[Tk.cells]at et;cases h1:iZ T q [118,97,114] with
 |true=>
  rw[h1]at h;simp only[aQ,bh,cF]at h;obtain⟨rfl,rfl⟩:=h;have ht:=XV _ h1;have hw:=G9 _ h1;have e4:=λaa=>gb hT aa o.2 [59] (by simp);simp[-aj,-ag,TK,et,ei,h1,ht,sW,mA,hw,en,ec,eo,e4,au,AV.ai,AV.aB,AV.ax,Sm.aF,rq,Sm.rows]
 |false=>
 rw[h1]at h;simp only[aan,aS]at h;cases h2:iZ T q [108,101,116] with
 |true=>
  rw[h2]at h;simp only[aQ]at h;obtain⟨⟨x,r5⟩,h8,h9⟩:=aai.1 h;simp only[bh,cF]at h9;obtain⟨rfl,rfl⟩:=h9;have ht:=XV _ h2;have hw:=G9 _ h2;have e4:=λaa=>gb hT aa o.2 [61] (by simp);have e5:=ex0 hT h8;have e6:=λaa=>gb hT aa r5 [59] (by simp);have mT:E.rows [x]=[[.int .i64 x.k,.int .i64 x.n,.str x.nm,.str x.on,.int .i64 x.od,aT x.aG,.int .i64 x.a,.int .i64 x.ty.b,.int .i64 x.ty.r,.int .i64 x.ty.d,.int .i64 x.ref]]:=by simp[E.rows,E.aE]
  simp[-aj,-ag,TK,et,ei,h1,h2,ht,sW,mA,hw,en,ec,eo,e4,e5,e6,au,AV.ai,AV.aB,AV.ax,Sm.aF,Sm.rows];simp[aT,mT]
 |false=>
 rw[h2]at h;simp only[aan,aS]at h;cases h3:iZ T q [105,102] with
 |true=>
  rw[h3]at h;simp only[aQ]at h;obtain⟨⟨x,r5⟩,h8,h9⟩:=aai.1 h;obtain⟨⟨y,r6⟩,Bx,z7⟩:=aai.1 h9;have hw:=G9 _ h3;have e5:=ex0 hT h8;have e6:=hK _ _ _ Bx;have hv:aN (bK 9 (Sm.rows y))=true:=ct;have LR:(bK 9 (Sm.rows y)).ai=aJ 9 (Sm.rows y):=rfl;have mT:E.rows [x]=[[.int .i64 x.k,.int .i64 x.n,.str x.nm,.str x.on,.int .i64 x.od,aT x.aG,.int .i64 x.a,.int .i64 x.ty.b,.int .i64 x.ty.r,.int .i64 x.ty.d,.int .i64 x.ref]]:=by simp[E.rows,E.aE]
  generalize bK 9 (Sm.rows y)=vy at *;have Gj:=cy hv;have C8:=cI hv;have ej:=λaa=>kJ hT aa r6 [101,108,115,101] (by simp);dsimp only at z7;cases h4:iZ T r6 [101,108,115,101] with
  |false=>
   rw[h4]at z7;simp only[aan,aS,bh,cF]at z7;obtain⟨rfl,rfl⟩:=z7;simp[-aj,-ag,TK,et,ei,h1,h2,h3,sW,mA,hw,e5,e6,ej,h4,hv,LR,au,AV.ai,AV.aB,AV.ax,Sm.aF,Sm.rows];simp[aT,mT]
  |true=>
   rw[h4]at z7;simp only[aQ]at z7;obtain⟨⟨w,r8⟩,sX,Bs⟩:=aai.1 z7;simp only[bh,cF]at Bs;obtain⟨rfl,rfl⟩:=Bs;have hw6:IntKind.i64.wrap ((r6.at_:Int)+1)=((r6.at_+1:Nat):Int):=by
    have:=(bZ h4).2;rw[eR]<;>omega
   have e8:=hK _ _ _ sX;have hu:aN (bK 9 (Sm.rows w))=true:=ct;have huv:(bK 9 (Sm.rows w)).ai=aJ 9 (Sm.rows w):=rfl;generalize bK 9 (Sm.rows w)=vw at *;have huc:=cy hu;have hup:=cI hu;simp[-aj,-ag,TK,et,ei,h1,h2,h3,sW,mA,hw,hw6,e5,e6,ej,h4,e8,hv,LR,hu,huv,au,AV.ai,AV.aB,AV.ax,Sm.aF];simp[aT,mT]
 |false=>
 rw[h3]at h;simp only[aan,aS]at h;cases h4:iZ T q [119,104,105,108,101] with
 |true=>
  rw[h4]at h;simp only[aQ]at h;obtain⟨⟨x,r5⟩,h8,h9⟩:=aai.1 h;obtain⟨⟨y,r6⟩,Bx,z7⟩:=aai.1 h9;simp only[bh,cF]at z7;obtain⟨rfl,rfl⟩:=z7;have hw:=G9 _ h4;have e5:=ex0 hT h8;have e6:=hK _ _ _ Bx;have hv:aN (bK 9 (Sm.rows y))=true:=ct;have LR:(bK 9 (Sm.rows y)).ai=aJ 9 (Sm.rows y):=rfl;have mT:E.rows [x]=[[.int .i64 x.k,.int .i64 x.n,.str x.nm,.str x.on,.int .i64 x.od,aT x.aG,.int .i64 x.a,.int .i64 x.ty.b,.int .i64 x.ty.r,.int .i64 x.ty.d,.int .i64 x.ref]]:=by simp[E.rows,E.aE]
  generalize bK 9 (Sm.rows y)=vy at *;have Gj:=cy hv;have C8:=cI hv;simp[-aj,-ag,TK,et,ei,h1,h2,h3,h4,sW,mA,hw,e5,e6,hv,LR,au,AV.ai,AV.aB,AV.ax,Sm.aF,Sm.rows];simp[aT,mT]
 |false=>
 rw[h4]at h;simp only[aan,aS]at h;cases h5:iZ T q [114,101,116,117,114,110] with
 |true=>
  rw[h5]at h;simp only[aQ]at h;have hw:=G9 _ h5;have ej:=λaa=>kJ hT aa (cv q) [59] (by simp);cases h6:iZ T (cv q) [59] with
  |true=>
   rw[h6]at h;simp only[aQ,bh,cF]at h;obtain⟨rfl,rfl⟩:=h;have e4:=λaa=>gb hT aa (cv q) [59] (by simp);simp[-aj,-ag,TK,et,ei,h1,h2,h3,h4,h5,sW,mA,hw,ej,h6,e4,au,AV.ai,AV.aB,AV.ax,Sm.aF,rq,Sm.rows]
  |false=>
   rw[h6]at h;simp only[aan,aS]at h;obtain⟨⟨x,r5⟩,h8,h9⟩:=aai.1 h;simp only[bh,cF]at h9;obtain⟨rfl,rfl⟩:=h9;have e5:=ex0 hT h8;have e4:=λaa=>gb hT aa r5 [59] (by simp);have mT:E.rows [x]=[[.int .i64 x.k,.int .i64 x.n,.str x.nm,.str x.on,.int .i64 x.od,aT x.aG,.int .i64 x.a,.int .i64 x.ty.b,.int .i64 x.ty.r,.int .i64 x.ty.d,.int .i64 x.ref]]:=(by simp[E.rows,E.aE]);simp[-aj,-ag,TK,et,ei,h1,h2,h3,h4,h5,sW,mA,hw,ej,h6,e5,e4,au,AV.ai,AV.aB,AV.ax,Sm.aF,Sm.rows];simp[aT,mT]
 |false=>
 rw[h5]at h;simp only[aan,aS]at h;cases h6:iZ T q [112,114,105,110,116] with
 |true=>
  rw[h6]at h;simp only[aQ]at h;obtain⟨⟨x,r5⟩,h8,h9⟩:=aai.1 h;simp only[bh,cF]at h9;obtain⟨rfl,rfl⟩:=h9;have hw:=G9 _ h6;have e5:=ex0 hT h8;have e4:=λaa=>gb hT aa r5 [59] (by simp);have mT:E.rows [x]=[[.int .i64 x.k,.int .i64 x.n,.str x.nm,.str x.on,.int .i64 x.od,aT x.aG,.int .i64 x.a,.int .i64 x.ty.b,.int .i64 x.ty.r,.int .i64 x.ty.d,.int .i64 x.ref]]:=by simp[E.rows,E.aE]
  simp[-aj,-ag,TK,et,ei,h1,h2,h3,h4,h5,h6,sW,mA,hw,e5,e4,au,AV.ai,AV.aB,AV.ax,Sm.aF,Sm.rows];simp[aT,mT]
 |false=>
  rw[h6]at h;simp only[aan,aS]at h;have e1:=GH _ _ h;rw[Sm.aE]at e1 ⊢;simp[-aj,-ag,TK,et,ei,h1,h2,h3,h4,h5,h6,e1,au,AV.ai,AV.aB,AV.ax]
theorem UL:∀f,rD l T f/\OkK l T f:=by
 intro f;induction f using agB with
 |_ f ih=>
  cases f with
  |zero=>
   refine⟨?_,?_⟩;intro q e r h;simp[wH]at h;intro q e r h;simp[kH]at h
  |succ f=>
   exact⟨mO hT f (ih f (by omega)).2,iL hT f λg h=>(ih g (by omega)).1⟩
theorem B3{f:Nat}{q r:RQ}{s:List Sm}(h:kH T f q=some (s,r))(aa:Nat):(aZ S).call 0 aa 43 [.ptr 0 0 0 0] [q.aX l]=some (bK 9 (Sm.rows s),[r.aX l]):=(UL hT f).2 q s r h aa
end
end N7
namespace N7
open Ax Go bY V7 kN
section
variable {l:AV}{T:List Tk}(hT:TL l T)
include hT
theorem QH{f:Nat}{q rr:RQ}{rc:Rc}(h:ru T f q=some (rc,rr))(aa:Nat):(aZ S).call 0 aa 23 [.ptr 0 0 0 0] [q.aX l]=some (.agg rc.aF,[rr.aX l]):=by
 have hlen:=hT.len;have et:=λaa=>nI hT aa q;have en:=λaa=>om hT aa q;have e2:=λaa=>gb hT aa (eW T q).2 [123] (by simp);unfold ru at h;obtain⟨⟨fs,r0⟩,h1,h2⟩:=aai.1 h;simp only[bh,cF]at h2;obtain⟨rfl,rfl⟩:=h2;generalize dZ T (eW T q).2 [123]=q2 at *;generalize eW T q=z,gh T q=c at *;simp only[Tk.cells]at et;refine aA (sf:=s23) rfl rfl rfl ?_;simp[-aj,-ag,s23,et,en,e2,au,AV.ai];refine bH Tf.eq_1 (λx:RQ×List PD×Nat=>⟨[(0,.val (.ptr 0 0 0 0)),(2,.fp 0 0),(3,.fp 1 0)],[[.str [],.af,.int .i64 0],[.str z.1,bK 4 (x.2.1.map PD.cells),.int .i64 c.a]],[RQ.aX l x.1]⟩)
  (λx=>x.2.1.length<=T.length+1/\(x.1.fe=0->x.2.1.length<=x.1.at_/\x.2.1.length<=T.length)/\mK T x.2.2 x.2.1 x.1=some (fs,r0)) (λx=>x.2.2) (q2,[],f) rfl ⟨by simp,by simp,h1⟩ ?_
 rintro⟨s,ps,g⟩ ⟨X2,LQ,hp⟩ ih;simp only at X2 LQ hp ih;have ek:=λaa=>iB (l:=l) aa s;have ei:=λaa=>kJ hT aa s [125] (by simp);have ec:=λaa=>gb hT aa r0 [125] (by simp);cases g with
 |zero=>simp[mK]at hp|succ g=>
  unfold mK at hp;by_cases f0:s.fe=0;cases hi:iZ T s [125] with
  |true=>
   rw[U (by rw[hi];simp)]at hp;simp only[bh,cF]at hp;obtain⟨rfl,rfl⟩:=hp;simp[-aj,-ag,ek,f0,ei,hi,ec,au,AV.ai,AV.aB,AV.ax,Rc.aF,aJ]
  |false=>
   rw[ah ⟨f0,hi⟩]at hp;have IZ:=λaa=>nI hT aa s;have agT:=LQ f0;have e3:=λaa=>Fk hT aa s;have e4:=λaa=>gb hT aa (eX T s).2 [59] (by simp);simp only[PD.cells]at e3;have lW:=eO (sz:=4) (bytes:=48) (r:=ps.map PD.cells) (new:=[(eX T s).1.cells]) (by simp[cn,PD.cells]) (by simp[cN];omega);have w2:=(wh (T:=T) (q:=s)).trans (bX (s:=[59]));have Gu:=(jF (T:=T) (q:=s)).trans (bX (s:=[59]));by_cases h8:(gh T s).k=1/\ps.length=8;rw[ah h8]at hp;simp only[bh,cF]at hp;obtain⟨rfl,rfl⟩:=hp;have ef:=λaa=>fO hT aa s 4;obtain⟨h8,h9⟩:=h8;generalize gh T s=c2 at *;simp only[Tk.cells,h8]at IZ;simp[-aj,-ag,ek,f0,ei,hi,IZ,h9,ef,ec,au,AV.ai,AV.aB,AV.ax,Rc.aF,aJ];rw[U h8]at hp;have fD:=ih (dZ T (eX T s).2 [59],ps++[(eX T s).1],g) ⟨by simp;omega,λf=>by
    have hle:=Gu.le;rcases w2 with w|⟨w,v⟩;exact aU f w;simp;omega,hp⟩ (by simp only;omega)
   simp only[ac4,abn,aeg]at fD;generalize dZ T (eX T s).2 [59]=s4 at *;generalize eX T s=p,gh T s=c2 at *;simp only[PD.cells]at lW fD;simp only[Tk.cells]at IZ;by_cases hk:c2.k=1;have h9:¬(ps.length:Int)=8:=λh=>h8 ⟨hk,by omega⟩;simp[-aj,-ag,ek,f0,ei,hi,IZ,hk,h9,e3,e4,lW,bg,bO,au,AV.ai,AV.aB,AV.ax];exact fD;simp[-aj,-ag,ek,f0,ei,hi,IZ,hk,e3,e4,lW,bg,bO,au,AV.ai,AV.aB,AV.ax];exact fD
  rw[U (λh=>f0 h.1)]at hp;simp only[bh,cF]at hp;obtain⟨rfl,rfl⟩:=hp;simp[-aj,-ag,ek,f0,ec,au,AV.ai,AV.aB,AV.ax,Rc.aF,aJ]
def tl:bN->bN
 |.seq _ b=>b|c=>c
theorem X4{f:Nat}{q rr:RQ}{fc:Fc}(h:xL T f q=some (fc,rr))(aa:Nat):(aZ S).call 0 aa 26 [.ptr 0 0 0 0] [q.aX l]=some (.agg fc.aF,[rr.aX l]):=by
 have hlen:=hT.len;have et:=λaa=>nI hT aa q;have en:=λaa=>om hT aa q;have e2:=λaa=>gb hT aa (eW T q).2 [40] (by simp);unfold xL at h;obtain⟨⟨fs,r0⟩,h1,h2⟩:=aai.1 h;dsimp only at h2;generalize dZ T (eW T q).2 [40]=q2 at *;generalize eW T q=z,gh T q=c at *;simp only[Tk.cells]at et;refine aA (sf:=s26) rfl rfl rfl ?_;simp[-aj,-ag,s26,et,en,e2,au,AV.ai];refine bH Tg.eq_1 (λx:RQ×List PD×Nat=>⟨[(0,.val (.ptr 0 0 0 0)),(2,.fp 0 0),(3,.fp 1 0)],[[.str [],.af,.bool false,.str [],.int .i64 0,.af,.int .i64 0],[.str z.1,bK 4 (x.2.1.map PD.cells),.bool false,.str [],.int .i64 0,.af,.int .i64 c.a]],[RQ.aX l x.1]⟩)
  (λx=>x.2.1.length<=T.length+1/\(x.1.fe=0->x.2.1.length<=x.1.at_/\x.2.1.length<=T.length)/\mL T x.2.2 x.2.1 x.1=some (fs,r0)) (λx=>x.2.2) (q2,[],f) rfl ⟨by simp,by simp,h1⟩ ?_
 rintro⟨s,ps,g⟩ ⟨X2,LQ,hp⟩ ih;simp only at X2 LQ hp ih;have ek:=λaa=>iB (l:=l) aa s;have ei:=λaa=>kJ hT aa s [41] (by simp);have out :
   W S 0 1 [.box 2 0 7 true] (BH [.box 2 0 7 true] Ax.Mode.jY [RQ.aX l q] (.agg fc.aF,[RQ.aX l rr])) [.code (tl (tl (tl (tl (tl s26.body)))))] .normal
    ⟨[(0,.val (.ptr 0 0 0 0)),(2,.fp 0 0),(3,.fp 1 0)],[[.str [],.af,.bool false,.str [],.int .i64 0,.af,.int .i64 0],[.str z.1,bK 4 (fs.map PD.cells),.bool false,.str [],.int .i64 0,.af,.int .i64 c.a]],[RQ.aX l r0]⟩:=by
  have e4:=λaa=>gb hT aa r0 [41] (by simp);generalize dZ T r0 [41]=r4 at *;have e5:=λaa=>kJ hT aa r4 [58] (by simp);cases h5:iZ T r4 [58] with
  |false=>
   rw[h5]at h2;simp only[aan,aS]at h2;obtain⟨⟨b,r6⟩,h6,h7⟩:=aai.1 h2;simp only[bh,cF]at h7;obtain⟨rfl,rfl⟩:=h7;have e6:=B3 hT h6;have hv:aN (bK 9 (Sm.rows b))=true:=ct;have LR:(bK 9 (Sm.rows b)).ai=bp b:=rfl;generalize bK 9 (Sm.rows b)=vb at *;have Gj:=cy hv;have C8:=cI hv;simp[-aj,-ag,s26,tl,e4,e5,h5,e6,hv,LR,au,AV.ai,AV.aB,AV.ax,Fc.aF,aJ]
  |true=>
   rw[h5]at h2;simp only[aQ]at h2;obtain⟨⟨b,r6⟩,h6,h7⟩:=aai.1 h2;simp only[bh,cF]at h7;obtain⟨rfl,rfl⟩:=h7;have i2:=(bZ h5).2;have hw:=wk r4.at_ (by omega);have e7:=λaa=>K6 hT aa (cv r4);generalize zg T (cv r4)=o at *;have e6:=B3 hT h6;have hv:aN (bK 9 (Sm.rows b))=true:=ct;have LR:(bK 9 (Sm.rows b)).ai=bp b:=rfl;generalize bK 9 (Sm.rows b)=vb at *;have Gj:=cy hv;have C8:=cI hv;simp[-aj,-ag,s26,tl,e4,e5,h5,sW,mA,hw,e7,e6,hv,LR,au,AV.ai,AV.aB,AV.ax,Fc.aF,aJ]
 simp only[s26,tl]at out;cases g with
 |zero=>simp[mL]at hp|succ g=>
  unfold mL at hp;by_cases f0:s.fe=0;cases hi:iZ T s [41] with
  |true=>
   rw[U (by rw[hi];simp)]at hp;simp only[bh,cF]at hp;obtain⟨rfl,rfl⟩:=hp;simp[-aj,-ag,ek,f0,ei,hi]at out ⊢;exact out
  |false=>
   rw[ah ⟨f0,hi⟩]at hp;have IZ:=λaa=>nI hT aa s;have agT:=LQ f0;have e3:=λaa=>Fk hT aa s;simp only[PD.cells]at e3;have lW:=eO (sz:=4) (bytes:=48) (r:=ps.map PD.cells) (new:=[(eX T s).1.cells]) (by simp[cn,PD.cells]) (by simp[cN];omega);have w2:=(wh (T:=T) (q:=s)).trans sN;have Gu:=(jF (T:=T) (q:=s)).trans sN;by_cases h8:(gh T s).k=1/\ps.length=6;rw[ah h8]at hp;simp only[bh,cF]at hp;obtain⟨rfl,rfl⟩:=hp;have ef:=λaa=>fO hT aa s 4;obtain⟨h8,h9⟩:=h8;generalize gh T s=c2 at *;simp only[Tk.cells,h8]at IZ;simp[-aj,-ag,ek,f0,ei,hi,IZ,h9,ef,AV.ai]at out ⊢;exact out;rw[U h8]at hp;have fD:=ih (E5 T (eX T s).2,ps++[(eX T s).1],g) ⟨by simp;omega,λf=>by
    have hle:=Gu.le;rcases w2 with w|⟨w,v⟩;exact aU f w;simp;omega,hp⟩ (by simp only;omega)
   simp only[ac4,abn,aeg]at fD;clear Gu w2 hp ih out;generalize eX T s=p at *;have e9:=λaa=>kJ hT aa p.2 [41] (by simp);have e10:=λaa=>gb hT aa p.2 [44] (by simp);have e11:=λaa=>kJ hT aa (dZ T p.2 [44]) [41] (by simp);have e12:=λaa=>fO hT aa (dZ T p.2 [44]) 2;unfold E5 at fD;generalize dZ T p.2 [44]=s4,gh T s=c2 at *;simp only[PD.cells]at lW fD;simp only[Tk.cells]at IZ;by_cases hk:c2.k=1;have h9:¬(ps.length:Int)=6:=λh=>h8 ⟨hk,by omega⟩;cases h3:iZ T p.2 [41] with
   |true=>
    rw[h3,ah rfl]at fD;simp[-aj,-ag,ek,f0,ei,hi,IZ,hk,h9,e3,e9,h3,lW,bg,bO,au,AV.ai,AV.aB,AV.ax];exact fD
   |false=>
    rw[h3,U (by simp)]at fD;cases h4:iZ T s4 [41] with
    |true=>
     rw[h4,ah rfl]at fD;simp[-aj,-ag,ek,f0,ei,hi,IZ,hk,h9,e3,e9,h3,e10,e11,h4,e12,lW,bg,bO,au,AV.ai,AV.aB,AV.ax];exact fD
    |false=>
     rw[h4,U (by simp)]at fD;simp[-aj,-ag,ek,f0,ei,hi,IZ,hk,h9,e3,e9,h3,e10,e11,h4,lW,bg,bO,au,AV.ai,AV.aB,AV.ax];exact fD
   cases h3:iZ T p.2 [41] with
   |true=>
    rw[h3,ah rfl]at fD;simp[-aj,-ag,ek,f0,ei,hi,IZ,hk,e3,e9,h3,lW,bg,bO,au,AV.ai,AV.aB,AV.ax];exact fD
   |false=>
    rw[h3,U (by simp)]at fD;cases h4:iZ T s4 [41] with
    |true=>
     rw[h4,ah rfl]at fD;simp[-aj,-ag,ek,f0,ei,hi,IZ,hk,e3,e9,h3,e10,e11,h4,e12,lW,bg,bO,au,AV.ai,AV.aB,AV.ax];exact fD
    |false=>
     rw[h4,U (by simp)]at fD;simp[-aj,-ag,ek,f0,ei,hi,IZ,hk,e3,e9,h3,e10,e11,h4,lW,bg,bO,au,AV.ai,AV.aB,AV.ax];exact fD
  rw[U (λh=>f0 h.1)]at hp;simp only[bh,cF]at hp;obtain⟨rfl,rfl⟩:=hp;simp[-aj,-ag,ek,f0]at out ⊢;exact out
end
end N7
namespace N7
open Ax Go bY V7 kN
def alo(r:List AV):Tk:=match r with | [.int _ k,.str t,.int _ n,.int _ a]=>⟨k,t,n,a⟩|_=>Tk0
def sY(rows:List (List AV)):List Tk:=rows.map alo
def qu(s:List UInt8):Pg×Int×Int:=if s.length<=6000 then match U2.Gt s with
  |(rows,none)=>(v8 (sY rows) (40*(sY rows).length+100)).getD (Dx,0,0)|(_,some e)=>(Dx,1,e)
 else (Dx,4,0)
theorem X5(a:Nat)(l:List UInt8):(U2.ur a l).2≠0->∃x:Tk,(U2.ur a l).1=x.cells/\x.a=a:=by
 have mk:∀k t n,∃x:Tk,U2.wP k t n a=x.cells/\x.a=a:=λk t n=>⟨⟨k,t,n,a⟩,rfl,rfl⟩;unfold U2.ur;split;intro h;exact aU rfl h;split;unfold U2.tR;split;exact λ_=>mk _ _ _;split;exact λ_=>mk _ _ _;intro h;exact aU rfl h;split;unfold U2.vW;split;intro h;exact aU rfl h;split;intro h;exact aU rfl h;exact λ_=>mk _ _ _;unfold U2.vY;split;intro h;exact aU rfl h;exact λ_=>mk _ _ _
theorem La:∀(n a:Nat)(l:List UInt8)(rows:List (List AV)),U2.zE n a l=(rows,none)->(∀r∈rows,∃x:Tk,r=x.cells/\0<=x.a/\x.a<=a+l.length)/\rows.length<=n
 |0,_,_,rows,h=>by
  simp only[U2.zE,cF,and_true]at h;subst h;exact⟨by simp,aau _⟩
 |n+1,a,[],rows,h=>by
  simp only[U2.zE,cF,and_true]at h;subst h;exact⟨by intro r hr;rw[List.mem_singleton]at hr;subst hr;exact⟨⟨0,[],0,a⟩,rfl,by simp,by simp⟩,by simp⟩
 |n+1,a,c::l,rows,h=>by
  simp only[U2.zE]at h;have hle:=U2.OM a (c::l);have ha:=X5 a (c::l);generalize U2.ur a (c::l)=z at *;obtain⟨t,k⟩:=z;cases k with
  |zero=>simp at h|succ k=>
   simp only at h ha hle;generalize hy:U2.zE n _ _=y at h;obtain⟨r2,e⟩:=y;cases e with
   |some e=>simp at h|none=>
    simp only[cF,and_true]at h;subst h;obtain⟨h1,h2⟩:=La n _ _ _ hy;refine⟨λr hr=>?_,by simp;omega⟩;rcases List.mem_cons.1 hr with e|e;subst e;obtain⟨x,hx,hxa⟩:=ha (by omega);exact⟨x,hx,by omega,by simp only[abr];omega⟩;obtain⟨x,h3,h4,h5⟩:=h1 r e;have hb:=U2.AA ((c::l).drop (k+1));simp only[acF,abr]at h5 hb hle;refine⟨x,h3,h4,?_⟩;simp only[abr];omega
variable{rows:List (List AV)}
theorem I0{s:List UInt8}(h:U2.Gt s=(rows,none)):(∀r∈rows,∃x:Tk,r=x.cells/\0<=x.a/\x.a<=s.length)/\rows.length<=s.length+1:=by
 unfold U2.Gt at h;obtain⟨h1,h2⟩:=La _ _ _ _ h;have hb:=U2.AA s;refine⟨λr hr=>?_,h2⟩;obtain⟨x,h3,h4,h5⟩:=h1 r hr;rw[acF]at h5;exact⟨x,h3,h4,by omega⟩
theorem UM{N:Int}(h:∀r∈rows,∃x:Tk,r=x.cells/\0<=x.a/\x.a<=N):rows=(sY rows).map Tk.cells:=by
 unfold sY;rw[aes];conv=>lhs;rw[<-List.map_id rows]
 refine acK λr hr=>?_;obtain⟨x,hx,_⟩:=h r hr;subst hx
 rfl
theorem ace{N:Int}(h:∀r∈rows,∃x:Tk,r=x.cells/\0<=x.a/\x.a<=N):∀x∈sY rows,0<=x.a/\x.a<=N:=by
 intro x hx;obtain⟨r,hr,rfl⟩:=ab9.1 hx;obtain⟨y,hy,h1,h2⟩:=h r hr;subst hy;exact⟨h1,h2⟩
theorem X6(wl aa:Nat)(s:List UInt8)(st:ay):(aZ S).call wl aa 10 [.str s] st=some (.fK [.agg (qu s).1.aF,.agg [.int .i64 (qu s).2.1,.int .i64 (qu s).2.2]],st):=by
 have etk:=λwl aa st=>U2.Qu wl aa s st;refine bT (sf:=ze) rfl rfl (by simp) rfl (by simp[Pg.aF,AV.aB,AV.ax]) ?_;have zero:∀e a:Int,e≠0->qu s=(Dx,e,a)->U2.IM s=(.af,[.int .i64 e,.int .i64 a])->W S 0 0 ze.results (Kw ze.results (.fK [.agg (qu s).1.aF,.agg [.int .i64 (qu s).2.1,.int .i64 (qu s).2.2]])) [.code ze.body] .normal (qc ze [.str s] []):=λe a he h1 h2=>by
  rw[h1];rw[h2]at etk;simp[ze,etk,he,bg,bO,gq.bV,Pg.aF,Dx]
 by_cases hl:s.length<=6000
 ·have htv:U2.IM s=U2.KM (U2.Gt s):=by unfold U2.IM;rw[U2.pX,bM hl,ah rfl]
  have Sq:qu s=match U2.Gt s with|(rows,none)=>(v8 (sY rows) (40*(sY rows).length+100)).getD (Dx,0,0)|(_,some e)=>(Dx,1,(e:Int)):=by unfold qu;rw[ah hl]
  generalize htp:U2.Gt s=z at *;obtain⟨rows,e⟩:=z;cases e with
  |some e=>exact zero 1 e (by decide) Sq htv|none=>
   obtain⟨ko,hlen⟩:=I0 htp;have Ks:=UM ko;simp only[U2.KM]at htv;simp only at Sq;have hTl:(sY rows).length=rows.length:=(by simp[sY]);obtain⟨x,hx⟩:=xN (sY rows);rw[hx,adB]at Sq;clear zero;generalize sY rows=T at *;have hT:TL (bK 4 rows) T:=⟨by
    have:cn 4 rows=true:=by rw[Ks];simp[cn,Tk.cells]
    unfold bK;split
    rfl
    simp[cJ,this],by rw[sH];exact Ks,by omega⟩
   rw[htv]at etk;have agV:=hT.sl;generalize bK 4 rows=l at *;rw[Sq];unfold v8 at hx;obtain⟨⟨p,r0⟩,h1,h2⟩:=aai.1 hx;simp only[bh]at h2;subst h2;simp[-aj,-ag,ze,etk,agV,au,AV.ai];have hTv:TL l.ai T:=⟨by rw[BI];exact hT.sz,by rw[EH];exact hT.rows,hT.len⟩;have anu:=hT.len;generalize l.ai=lv at *;refine bH Tc.eq_1 (λx:RQ×Pg×Nat=>⟨[(2,.fp 0 0),(3,.fp 1 0),(6,.val (.ptr 0 0 0 0)),(7,.fp 3 0)],
     [[.af,.af,.af],[.int .i64 0,.int .i64 0],[.int .i64 0,.int .i64 0],[bK 3 (x.2.1.bJ.map Rc.aF),bK 4 (x.2.1.aI.map PD.cells),bK 7 (x.2.1.funcs.map Fc.aF)]],[RQ.aX lv x.1]⟩)
    (λx=>x.2.1.bJ.length<=12/\x.2.1.aI.length<=8/\x.2.1.funcs.length<=16/\qp T x.2.2 x.2.1 x.1=some (p,r0)) (λx=>x.2.2) (⟨0,0,0,0⟩,Dx,_) rfl ⟨by simp[Dx],by simp[Dx],by simp[Dx],h1⟩ ?_
   rintro⟨u,⟨rs,gs,fs⟩,g⟩ ⟨b1,b2,b3,hp⟩ ih;simp only at b1 b2 b3 hp ih;clear h1 Sq ko Ks etk agV hT hlen hTl htv htp;have hT:=hTv;have ek:=λaa=>iB (l:=lv) aa u;have et:=λaa=>nI hT aa u;have i1:=λaa=>kJ hT aa u [114,101,99,111,114,100] (by simp);have i2:=λaa=>kJ hT aa u [103,108,111,98,97,108] (by simp);have i3:=λaa=>kJ hT aa u [102,117,110,99] (by simp);cases g with
   |zero=>simp[qp]at hp|succ g=>
    unfold qp at hp;simp only[abW,Ut,Uu]at hp;by_cases f0:u.fe=0
    ·by_cases k0:(gh T u).k=0;rw[U (λh=>h.2 k0)]at hp;simp only[bh,cF]at hp;obtain⟨rfl,rfl⟩:=hp;rw[ah f0];generalize gh T u=c at *;simp only[Tk.cells]at et;simp[-aj,-ag,ek,f0,et,k0,au,AV.ai,Pg.aF,aJ]
     ·rw[ah ⟨f0,k0⟩]at hp;have JY:=v9 k0;have hw:=wk u.at_ (by omega);have ef:=λaa e=>fO hT aa u e;have acf:∀s t:List UInt8,s≠t->iZ T u s=true->iZ T u t=false:=λs t fy h=>by
       cases h2:iZ T u t with
       |false=>rfl|true=>exact aU ((Hw h).symm.trans (Hw h2)) fy
      cases q1:iZ T u [114,101,99,111,114,100] with
      |true=>
       have q2:=acf _ [103,108,111,98,97,108] (by decide) q1;have q3:=acf _ [102,117,110,99] (by decide) q1;simp only[q1,q2,q3,true_and,aan,false_and,or_false,aQ,aS]at hp;by_cases m1:rs.length=12;rw[ah m1]at hp;have fD:=ih (jN T u 4,⟨rs,gs,fs⟩,g) ⟨b1,b2,b3,hp⟩ (by simp only;omega);generalize gh T u=c at *;simp only[Tk.cells]at et;simp[-aj,-ag,ek,f0,et,k0,i1,q1,m1,ef];exact fD;rw[U m1]at hp;obtain⟨⟨x,r2⟩,h3,h4⟩:=aai.1 hp;have e3:=QH hT h3;have m1':¬(rs.length:Int)=12:=(by omega);have lW:=eO (sz:=3) (bytes:=48) (r:=rs.map Rc.aF) (new:=[x.aF]) (by simp[cn,Rc.aF]) (by simp[cN];omega);have fD:=ih (r2,⟨rs++[x],gs,fs⟩,g) ⟨by simp;omega,b2,b3,h4⟩ (by simp only;omega);simp only[ac4,abn,aeg]at fD;simp only[Rc.aF]at e3 lW fD;generalize gh T u=c at *;simp only[Tk.cells]at et;simp[-aj,-ag,ek,f0,et,k0,i1,q1,i2,q2,i3,q3,m1',sW,mA,hw,e3,lW,bg,bO,au,AV.ai];exact fD
      |false=>
      cases q2:iZ T u [103,108,111,98,97,108] with
      |true=>
       have q3:=acf _ [102,117,110,99] (by decide) q2;simp only[q1,q2,q3,true_and,aan,false_and,false_or,or_false,aQ,aS]at hp;by_cases m1:gs.length=8;rw[ah m1]at hp;have fD:=ih (jN T u 4,⟨rs,gs,fs⟩,g) ⟨b1,b2,b3,hp⟩ (by simp only;omega);generalize gh T u=c at *;simp only[Tk.cells]at et;simp[-aj,-ag,ek,f0,et,k0,i1,q1,i2,q2,m1,ef];exact fD;rw[U m1]at hp;have e3:=λaa=>Fk hT aa (cv u);have e4:=λaa=>gb hT aa (eX T (cv u)).2 [59] (by simp);have m1':¬(gs.length:Int)=8:=(by omega);have lW:=eO (sz:=4) (bytes:=48) (r:=gs.map PD.cells) (new:=[(eX T (cv u)).1.cells]) (by simp[cn,PD.cells]) (by simp[cN];omega);have fD:=ih (dZ T (eX T (cv u)).2 [59],⟨rs,gs++[(eX T (cv u)).1],fs⟩,g) ⟨b1,by simp;omega,b3,hp⟩ (by simp only;omega);simp only[ac4,abn,aeg]at fD;generalize dZ T (eX T (cv u)).2 [59]=r4 at *;generalize eX T (cv u)=pp at *;simp only[PD.cells]at e3 lW fD;generalize gh T u=c at *;simp only[Tk.cells]at et;simp[-aj,-ag,ek,f0,et,k0,i1,q1,i2,q2,i3,q3,m1',sW,mA,hw,e3,e4,lW,bg,bO,au,AV.ai];exact fD
      |false=>
      cases q3:iZ T u [102,117,110,99] with
      |true=>
       simp only[q1,q2,q3,true_and,aan,false_and,false_or,aQ,aS]at hp;by_cases m1:fs.length=16;rw[ah m1]at hp;have fD:=ih (jN T u 4,⟨rs,gs,fs⟩,g) ⟨b1,b2,b3,hp⟩ (by simp only;omega);generalize gh T u=c at *;simp only[Tk.cells]at et;simp[-aj,-ag,ek,f0,et,k0,i1,q1,i2,q2,i3,q3,m1,ef];exact fD;rw[U m1]at hp;obtain⟨⟨x,r2⟩,h3,h4⟩:=aai.1 hp;have e3:=X4 hT h3;have m1':¬(fs.length:Int)=16:=(by omega);have lW:=eO (sz:=7) (bytes:=104) (r:=fs.map Fc.aF) (new:=[x.aF]) (by simp[cn,Fc.aF]) (by simp[cN];omega);have fD:=ih (r2,⟨rs,gs,fs++[x]⟩,g) ⟨b1,b2,by simp;omega,h4⟩ (by simp only;omega);simp only[ac4,abn,aeg]at fD;simp only[Fc.aF]at e3 lW fD;generalize gh T u=c at *;simp only[Tk.cells]at et;simp[-aj,-ag,ek,f0,et,k0,i1,q1,i2,q2,i3,q3,m1',sW,mA,hw,e3,lW,bg,bO,au,AV.ai];exact fD
      |false=>
       simp only[q1,q2,q3,aan,false_and,or_self,aS]at hp;have fD:=ih (jN T u 2,⟨rs,gs,fs⟩,g) ⟨b1,b2,b3,hp⟩ (by simp only;omega);generalize gh T u=c at *;simp only[Tk.cells]at et;simp[-aj,-ag,ek,f0,et,k0,i1,q1,i2,q2,i3,q3,ef];exact fD
    rw[U (λh=>f0 h.1)]at hp;simp only[bh,cF]at hp;obtain⟨rfl,rfl⟩:=hp;rw[U f0];have ea:∀aa bx,bn 0 aa (.load true 2 false) [.val (.ptr 0 0 0 3)] [RQ.aX lv u] bx=some (.val (.agg [.int .i64 u.fe,.int .i64 u.fa]),[RQ.aX lv u],bx):=λaa bx=>by simp[RQ.aX,cut,AV.ai]
    simp[-aj,-ag,ek,f0,ea,bg,bO,gq.bV,au,AV.ai,Pg.aF,Dx]
 exact zero 4 0 (by decide) (by unfold qu;rw[U hl]) (by unfold U2.IM;rw[U2.pX,cu hl];rfl)
end N7
namespace N7
open Ax Go bY V7 kN U7
theorem UN(s:List UInt8):Pg.In 6000 (qu s).1/\(qu s).1.few:=by
 unfold qu;split;rename_i hl;generalize htp:U2.Gt s=z;obtain⟨rows,e⟩:=z;cases e with
 |some e=>exact⟨IT,DA⟩|none=>
  obtain⟨ko,hlen⟩:=I0 htp;obtain⟨x,hx⟩:=xN (sY rows);simp only;rw[hx,adB];exact Qy ⟨by decide,λy hy=>by
   have:=ace ko y hy;omega⟩ hx
 exact⟨IT,DA⟩
def j7(p:Pg):GD:=⟨aJ 3 (p.bJ.map Rc.aF),aJ 4 (p.aI.map PD.cells),aJ 7 (p.funcs.map Fc.aF)⟩
variable{sz:Nat}{r:List (List AV)}
theorem AX:iQ (aJ sz r)=true:=by simp[aJ]
theorem xR{a:Int}(h:0<=a)(h2:a<=6000):VO a=true:=by simp only[VO,Bool.and_eq_true,aK];omega
theorem yE(h:cn sz r=true):cJ sz (aJ sz r)=true:=by
 cases r with
 |nil=>rfl|cons a r=>simp[cJ,h]
theorem Fo{l:List PD}(h:∀p∈l,IS 6000 p):BR (aJ 4 (l.map PD.cells))=true:=by
 unfold BR mq;rw[AX,yE (by simp[cn,PD.cells]),aW];simp only[aet,aeD,aiH,aaB,Function.comp];intro p hp;obtain⟨h1,h2,h3,h4⟩:=h p hp;simp[OQ,PD.cells,xR h1 (by omega),xR h3 h4]
theorem ZU{p:Pg}(h:Pg.In 6000 p):(j7 p).ok:=by
 refine⟨?_,Fo h.g.2,?_⟩;unfold Cy mq;show (iQ (aJ 3 (p.bJ.map Rc.aF))&&cJ 3 (aJ 3 (p.bJ.map Rc.aF))&&(bt (aJ 3 (p.bJ.map Rc.aF))).all Hr)=true;rw[AX,yE (by simp[cn,Rc.aF]),aW];simp only[aet,aeD,aiH,aaB,Function.comp];intro r hr;have i:=h.r.2 r hr;simp[Hr,Rc.aF,Fo i.f,xR i.a.1 i.a.2];unfold Cz mq;show (iQ (aJ 7 (p.funcs.map Fc.aF))&&cJ 7 (aJ 7 (p.funcs.map Fc.aF))&&(bt (aJ 7 (p.funcs.map Fc.aF))).all Hs)=true;rw[AX,yE (by simp[cn,Fc.aF]),aW];simp only[aet,aeD,aiH,aaB,Function.comp];intro r hr;have i:=h.f.2 r hr;simp[Hs,Fc.aF,Fo i.f,xR i.a.1 i.a.2,xR i.od.1 (by have:=i.od.2;omega),bp,AX]
theorem rE(l:List PD):jg (aJ 4 (l.map PD.cells))=l:=by
 simp only[jg,aW,aes];conv=>rhs;rw[<-List.map_id l]
 exact acK λp _=>rfl
def Lc(r:Rc):CR:=⟨r.name,aJ 4 (r.jo.map PD.cells),r.a⟩
def M9(f:Fc):FN:=⟨f.name,aJ 4 (f.params.map PD.cells),f.cP,f.on,f.od,bp f.body,f.a⟩
theorem tU(p:Pg):cx (j7 p).bJ=p.bJ.map Lc:=by
 simp only[j7,cx,aW,aes];exact acK λp _=>rfl
theorem p0(p:Pg):eu (j7 p).funcs=p.funcs.map M9:=by
 simp only[j7,eu,aW,aes];exact acK λp _=>rfl
theorem I5(p:Pg):jg (j7 p).aI=p.aI:=rE _
theorem ZV{p:Pg}(h:Pg.In 6000 p):GD.sm (j7 p):=by
 refine⟨?_,?_,?_,?_,?_⟩;rw[tU,ac7];have:=h.r.1;omega;intro x hx;rw[tU]at hx;obtain⟨r,hr,rfl⟩:=ab9.1 hx;simp only[Lc,rE];have:=(h.r.2 r hr).len;omega;rw[I5];have:=h.g.1;omega;rw[p0,ac7];have:=h.f.1;omega;intro x hx;rw[p0]at hx;obtain⟨r,hr,rfl⟩:=ab9.1 hx;simp only[M9,rE];have:=(h.f.2 r hr).len;omega
end N7
