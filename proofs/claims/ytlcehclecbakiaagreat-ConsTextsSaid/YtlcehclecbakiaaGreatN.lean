/- Part of a proof. -/
import Derived.Test.YtlcehclecbakiaaGreatCode2
import Derived.Test.YtlcehclecbakiaaGreatP
import Derived.Test.YtlcehclecbakiaaGreatL
import Derived.Test.YtlcehclecbakiaaGreatM

open List renaming map_append→abT,map_cons→abh,map_nil→ad5,length_cons→abq,length_drop→acf,map_map→ab4,map_congr_left→ab1,mem_map→aa5,all_map→afB,all_eq_true→aaS,length_map→abM
open Option renaming bind_eq_some_iff→aap,getD_some→aeR
open Nat renaming le_refl→aaH,strongRecOn→agM
open Int renaming sub_eq_add_neg→ajo,natCast_zero→ahj,cast_ofNat_Int→afy,natCast_add→aes
open Bool renaming true_or→ajO,false_or→agV,or_self→aht,false_eq_true→aaq,and_self→aet,true_and→aeb
set_option maxRecDepth 100000
set_option maxHeartbeats 8000000
namespace N7
open Ax Go aF V7 jw
section
variable {l:AV}{T:List Tk}(hT:TL l T)(aa:Nat)(q:RQ)
theorem gw:(aP S).call 0 aa 32 [.ptr 0 0 0 0] [q.aZ l]=some (.bool (decide (q.fe=0)),[q.aZ l]):=by
 refine aO (sf:=s32) rfl rfl rfl ?_;simp[s32,RQ.aZ,cut,AV.view]
include hT
theorem nL:(aP S).call 0 aa 33 [.ptr 0 0 0 0] [q.aZ l]=some (.agg (fC T q).cells,[q.aZ l]):=by
 have hs:=hT.sl;have hz:=hT.sz;have hr:=hT.rows;refine aO (sf:=s33) rfl rfl rfl ?_;have h0:¬(q.at_:Int)<0:=by omega
 by_cases h1:q.at_<T.length;have h2:¬(T.length:Int)<=(q.at_:Int):=by omega
 have hc:fC T q=T[q.at_]:=by simp[fC,h1]
 simp[s33,RQ.aZ,cut,h0,h1,h2,hs,hz,hr,hc,Tk.cells,ai,ah,AV.view];have h2:(T.length:Int)<=(q.at_:Int):=by omega
 have hc:fC T q=Tk0:=by simp[fC,List.getD,List.getElem?_eq_none (Nat.le_of_not_lt h1)]
 simp[s33,RQ.aZ,cut,h0,h2,hs,hr,hc,Tk.cells,ai,ah,AV.view]
theorem ji(s:List UInt8)(jJ:s≠[]):(aP S).call 0 aa 34 [.ptr 0 0 0 0,.str s] [q.aZ l]=some (.bool (iC T q s),[q.aZ l]):=by
 have et:=λaa=>nL hT aa q;have eo:=λaa=>gw (l:=l) aa q;cases s with
 |nil=>exact absurd rfl jJ|cons c s=>
  obtain⟨v,hv⟩:∃v,iC T q (c::s)=v:=⟨_,rfl⟩;rw[hv];simp only[iC]at hv;refine aO (sf:=s34) rfl rfl rfl ?_;generalize fC T q=x at *;simp only[Tk.cells]at et;have nZ:∀k:Int,zM (c::s)=k->v=(decide (q.fe=0)&&decide (x.k=k)&&decide (x.t=c::s)):=λk hk=>by rw[<-hv,hk]
  by_cases c1:97<=c.toNat;have d1:(97:Int)<=(c.toNat:Int):=by omega
  by_cases c2:c.toNat<=122;have d2:(c.toNat:Int)<=122:=by omega
  rw[nZ 3 (by simp[zM,c1,c2])];by_cases f0:q.fe=0<;>by_cases f1:x.k=3<;>simp[s34,et,eo,d1,d2,f0,f1];have d2:¬(c.toNat:Int)<=122:=by omega
  rw[nZ 4 (by simp[zM,c2])];by_cases f0:q.fe=0<;>by_cases f1:x.k=4<;>simp[s34,et,eo,d1,d2,f0,f1];have d1:¬(97:Int)<=(c.toNat:Int):=by omega
  rw[nZ 4 (by simp[zM,c1])];by_cases f0:q.fe=0<;>by_cases f1:x.k=4<;>simp[s34,et,eo,d1,f0,f1]
theorem rz(e:Int):(aP S).call 0 aa 35 [.ptr 0 0 0 0,.int .i64 e] [q.aZ l]=some (.ir [],[(jr T q e).aZ l]):=by
 have et:=λaa=>nL hT aa q;have eo:=λaa=>gw (l:=l) aa q;refine aO (sf:=s35) rfl rfl rfl ?_;unfold jr;generalize fC T q=x at *;simp only[Tk.cells]at et;by_cases f0:q.fe=0;simp only[RQ.aZ,f0]at et eo;simp[s35,eo,et,RQ.aZ,f0,cut,bD,AV.au,AV.ay,aj];simp[s35,eo,f0]
theorem eU(s:List UInt8)(jJ:s≠[]):(aP S).call 0 aa 38 [.ptr 0 0 0 0,.str s] [q.aZ l]=some (.ir [],[(dn T q s).aZ l]):=by
 have ei:=λaa=>ji hT aa q s jJ;have ef:=λaa e=>rz hT aa q e;have hlen:=hT.len;refine aO (sf:=s38) rfl rfl rfl ?_;unfold dn;cases hi:iC T q s with
 |false=>simp[s38,ei,hi,ef]|true=>
  have M6:=(bu hi).2;have hw:=wk q.at_ (by omega);simp only[RQ.aZ,hi]at ei;simp[s38,ei,RQ.aZ,bK,cut,bD,AV.au,AV.ay,aj,hw,AV.view]
theorem sG(s:List UInt8)(jJ:s≠[]):(aP S).call 0 aa 96 [.ptr 0 0 0 0,.str s] [q.aZ l]=some (.ir [],[(jT T q s).aZ l]):=by
 have ei:=λaa=>ji hT aa q s jJ;have ef:=λaa e=>rz hT aa q e;have et:=λaa=>eU hT aa q s jJ;refine aO (sf:=s96) rfl rfl rfl ?_;unfold jT;cases hi:iC T q s with
 |false=>
  generalize dn T q s=r at *;simp only[RQ.aZ,hi]at ei et;simp[s96,ei,et,RQ.aZ,xy,cut,bD,AV.au,AV.ay,aj,AV.view]
 |true=>
  by_cases h50:50<=q.op;simp only[RQ.aZ,hi]at ei ef;simp[s96,ei,ef,RQ.aZ,cut,h50,AV.view];generalize dn T q s=r at *;simp only[RQ.aZ,hi]at ei et;simp[s96,ei,et,RQ.aZ,xy,cut,h50,bD,AV.au,AV.ay,aj,AV.view]
theorem rP(s:List UInt8)(jJ:s≠[]):(aP S).call 0 aa 98 [.ptr 0 0 0 0,.str s] [q.aZ l]=some (.ir [],[(mD T q s).aZ l]):=by
 have et:=λaa=>eU hT aa q s jJ;have hw:∀n:Int,IntKind.i64.wrap (n-1)=IntKind.i64.wrap (n + -1):=λn=>by rw[ajo]
 refine aO (sf:=s98) rfl rfl rfl ?_;unfold mD;generalize dn T q s=r at *;simp only[RQ.aZ]at et;simp[s98,et,RQ.aZ,xy,cut,bD,AV.au,AV.ay,aj,AV.view,hw]
theorem oy:(aP S).call 0 aa 66 [.ptr 0 0 0 0] [q.aZ l]=some (.str (dL T q).1,[(dL T q).2.aZ l]):=by
 have et:=λaa=>nL hT aa q;have eo:=λaa=>gw (l:=l) aa q;have ef:=λaa e=>rz hT aa q e;have hlen:=hT.len;refine aO (sf:=s66) rfl rfl rfl ?_;unfold dL;have ef:=λaa=>ef aa 2;generalize jr T q 2=r at *;generalize hx:fC T q=x at *;simp only[Tk.cells]at et;by_cases f0:q.fe=0;by_cases f1:x.k=1;simp only[RQ.aZ,f0]at et eo;have M6:q.at_<T.length:=vL (by rw[hx,f1];decide);have hw:=wk q.at_ (by omega);simp[s66,et,eo,f0,f1,RQ.aZ,bK,cut,bD,AV.au,AV.ay,aj,hw,AV.view];simp[s66,et,eo,f0,f1,ef];simp[s66,et,eo,f0,ef]
end
end N7
namespace N7
open Ax Go aF V7 jw
theorem ad4{T:List Tk}{k d:Nat}{q:RQ}(h:iC T q [91]=false):Lp T k d q=(d,q):=by
 cases k with
 |zero=>rfl|succ k=>unfold Lp;rw[h];rfl
section
variable {l:AV}{T:List Tk}(hT:TL l T)(aa:Nat)(q:RQ)
include hT
theorem xH:(aP S).call 0 aa 67 [.ptr 0 0 0 0] [q.aZ l]=some (.agg [.str (zi T q).1.1,.int .i64 (zi T q).1.2],[(zi T q).2.aZ l]):=by
 have hlen:=hT.len;refine aO (sf:=s67) rfl rfl rfl ?_;generalize hF:zi T q=F;simp[s67];refine aT Ve.eq_1 (λx:RQ×Nat=>⟨[(0,.val (.ptr 0 0 0 0)),(2,.fp 0 0),(3,.val (.int .i64 x.2))],[[.str [],.int .i64 0],[]],[RQ.aZ l x.1]⟩)
  (λx=>∃k,k+x.2=3/\Lp T k x.2 x.1=Lp T 3 0 q) (λx=>3-x.2) (q,0) ?_ ⟨3,rfl,rfl⟩ ?_
 rfl
 rintro⟨r,d⟩ ⟨k,hk,hL⟩ ih;simp only at hk hL ih;have ei:=λaa=>ji hT aa r [91] (by simp);unfold zi at hF;cases hi:iC T r [91] with
 |true=>
  obtain⟨i1,i2⟩:=bu hi;by_cases h3:d=3;have ef:=λaa e=>rz hT aa r e;have hk0:k=0:=by omega
  subst h3 hk0;have hL':Lp T 3 0 q=(3,r):=hL.symm;rw[hL',if_pos hi]at hF;subst hF;simp[ei,hi,ef];have Gh:¬(d:Int)=3:=by omega
  have hw:=wk r.at_ (by omega);have nR:=wk d (by omega);simp only[RQ.aZ,hi]at ei;simp[ei,Gh,RQ.aZ,cut,bD,AV.au,AV.ay,aj,hw,nR,AV.view];refine ih (bK r,d+1) ⟨k-1,by simp only;omega,?_⟩ (by simp only;omega);rw[<-hL];obtain⟨k',rfl⟩:∃k',k=k'+1:=⟨k-1,by omega⟩;conv=>rhs;unfold Lp
  rw[if_pos hi]
  rfl
 |false=>
  rw[ad4 hi]at hL;rw[<-hL,if_neg (by rw[hi];simp)]at hF;dsimp only at hF;have en:=λaa=>oy hT aa r;have ea:=λaa=>ji hT aa r [105,110,116] (by simp);have eb:=λaa=>ji hT aa r [98,111,111,108] (by simp);have et:=λaa=>nL hT aa r;unfold ofN at hF;cases ha:iC T r [105,110,116] with
  |true=>
   obtain⟨i1,i2⟩:=bu ha;have hw:=wk r.at_ (by omega);simp only[RQ.aZ,hi,ha]at ei ea et;rw[ha]at hF;simp only[ajO,if_true]at hF;generalize hc:fC T r=c at *;simp only[Tk.cells]at et;simp[ei,ea,et,RQ.aZ,cut,bD,AV.au,AV.ay,aj,hw,AV.view];refine aT IS.eq_1 (λx:Nat=>⟨[(0,.val (.ptr 0 0 0 0)),(2,.fp 0 0),(3,.val (.int .i64 d)),(4,.fp 1 0),(5,.val (.int .i64 x))],[[.str [],.int .i64 0],[.str c.t,.int .i64 d]],[RQ.aZ l (vI T (bK r) [93] x)]⟩)
    (λx=>x<=d) (λx=>d-x) 0 ?_ (by simp) ?_
   rfl
   intro x hx ihx;by_cases hxd:x<d;have hwx:=wk x (by omega);have ek:=λaa=>eU hT aa (vI T (bK r) [93] x) [93] (by simp);have aiN:(x:Int)<(d:Int):=(by omega);simp[hxd,ek,hwx];exact ihx (x+1) (by omega) (by omega);have:x=d:=by omega
   subst this;subst hF;simp
   rfl
  |false=>
   cases hb:iC T r [98,111,111,108] with
   |true=>
    obtain⟨i1,i2⟩:=bu hb;have hw:=wk r.at_ (by omega);simp only[RQ.aZ,hi,ha,hb]at ei ea eb et;rw[ha,hb]at hF;simp only[agV,if_true]at hF;generalize hc:fC T r=c at *;simp only[Tk.cells]at et;simp[ei,ea,eb,et,RQ.aZ,cut,bD,AV.au,AV.ay,aj,hw,AV.view];refine aT IS.eq_1 (λx:Nat=>⟨[(0,.val (.ptr 0 0 0 0)),(2,.fp 0 0),(3,.val (.int .i64 d)),(4,.fp 1 0),(5,.val (.int .i64 x))],[[.str [],.int .i64 0],[.str c.t,.int .i64 d]],[RQ.aZ l (vI T (bK r) [93] x)]⟩)
     (λx=>x<=d) (λx=>d-x) 0 ?_ (by simp) ?_
    rfl
    intro x hx ihx;by_cases hxd:x<d;have hwx:=wk x (by omega);have ek:=λaa=>eU hT aa (vI T (bK r) [93] x) [93] (by simp);have aiN:(x:Int)<(d:Int):=(by omega);simp[hxd,ek,hwx];exact ihx (x+1) (by omega) (by omega);have:x=d:=by omega
    subst this;subst hF;simp
    rfl
   |false=>
    rw[ha,hb]at hF;simp only[aht,aaq,if_false]at hF;generalize dL T r=z at *;simp[ei,ea,eb,hi,ha,hb,en,aj];refine aT IS.eq_1 (λx:Nat=>⟨[(0,.val (.ptr 0 0 0 0)),(2,.fp 0 0),(3,.val (.int .i64 d)),(4,.fp 1 0),(5,.val (.int .i64 x))],[[.str [],.int .i64 0],[.str z.1,.int .i64 d]],[RQ.aZ l (vI T z.2 [93] x)]⟩)
     (λx=>x<=d) (λx=>d-x) 0 ?_ (by simp) ?_
    rfl
    intro x hx ihx;by_cases hxd:x<d;have hwx:=wk x (by omega);have ek:=λaa=>eU hT aa (vI T z.2 [93] x) [93] (by simp);have aiN:(x:Int)<(d:Int):=(by omega);simp[hxd,ek,hwx];exact ihx (x+1) (by omega) (by omega);have:x=d:=by omega
    subst this;subst hF;simp
theorem Fj:(aP S).call 0 aa 37 [.ptr 0 0 0 0] [q.aZ l]=some (.agg (dM T q).1.cells,[(dM T q).2.aZ l]):=by
 have et:=λaa=>nL hT aa q;have en:=λaa=>oy hT aa q;have e2:=λaa=>eU hT aa (dL T q).2 [58] (by simp);have e3:=λaa=>xH hT aa (dn T (dL T q).2 [58]);refine aO (sf:=s37) rfl rfl rfl ?_;unfold dM;generalize zi T (dn T (dL T q).2 [58])=z3 at *;generalize dn T (dL T q).2 [58]=q2 at *;generalize dL T q=z at *;generalize fC T q=c at *;simp only[Tk.cells]at et;simp[-an,-af,s37,et,en,e2,e3,aj,AV.view,AV.ay,AV.au,PD.cells]
end
theorem Ly(wl aa:Nat)(n:Nat)(hn:n<5)(c:Tk)(st:ag):(aP S).call wl aa 123 [.int .i64 n,.agg c.cells] st=some (.int .i64 (vJ n c),st):=by
 refine aH (sf:=Ld) rfl rfl (by simp[Tk.cells,AV.ay,AV.au]) rfl (by simp) ?_;unfold vJ;by_cases hk:c.k=4;rw[if_pos hk];have w1:IntKind.i64.wrap 1=1:=rfl;have w2:IntKind.i64.wrap 2=2:=rfl;have w3:IntKind.i64.wrap 3=3:=rfl;have w4:IntKind.i64.wrap 4=4:=rfl;have V8:n=0\/n=1\/n=2\/n=3\/n=4:=by omega
 have w1:IntKind.i64.wrap 1=1:=rfl;have w2:IntKind.i64.wrap 2=2:=rfl;have w3:IntKind.i64.wrap 3=3:=rfl;have w4:IntKind.i64.wrap 4=4:=rfl;rcases V8 with h|h|h|h|h;subst h;simp[Ld,Tk.cells,hk];refine aT yf.eq_1 (λk:Nat=>⟨[(0,.val (.int .i64 0)),(3,.fp 0 0),(5,.val (.dh 1 [[.dh 1 [[.str [124,124]]]],[.dh 1 [[.str [38,38]]]],[.dh 1 [[.str [60]],[.str [60,61]],[.str [61,61]],[.str [33,61]]]],[.dh 1 [[.str [43]],[.str [45]]]],[.dh 1 [[.str [42]],[.str [47]],[.str [37]]]]])),(6,.val (.dh 1 [[.dh 1 [[.int .i64 24]]],[.dh 1 [[.int .i64 23]]],[.dh 1 [[.int .i64 19],[.int .i64 20],[.int .i64 21],[.int .i64 22]]],[.dh 1 [[.int .i64 14],[.int .i64 15]]],[.dh 1 [[.int .i64 16],[.int .i64 17],[.int .i64 18]]]])),(7,.val (.int .i64 k))],[[.int .i64 4,.str c.t,.int .i64 c.n,.int .i64 c.a]],[]⟩)
  (λk=>k<=1/\gu (eA 0) c.t=gu ((eA 0).drop k) c.t) (λk=>1-k) 0 (by simp) (by simp) ?_
 intro k ⟨Du,hf⟩ ih;have hc:k=0\/k=1:=by omega
 rcases hc with h|h;subst h;by_cases e:[124,124]=c.t;rw[hf];simp[e,ai,ah,AV.view,eA,gu];simp[e,w1,ai,ah,AV.view];exact ih 1 ⟨by omega,by rw[hf];simp[eA,gu,e]⟩ (by omega);subst h;rw[hf];simp[AV.view,eA,gu];subst h;simp[Ld,Tk.cells,hk];refine aT yf.eq_1 (λk:Nat=>⟨[(0,.val (.int .i64 1)),(3,.fp 0 0),(5,.val (.dh 1 [[.dh 1 [[.str [124,124]]]],[.dh 1 [[.str [38,38]]]],[.dh 1 [[.str [60]],[.str [60,61]],[.str [61,61]],[.str [33,61]]]],[.dh 1 [[.str [43]],[.str [45]]]],[.dh 1 [[.str [42]],[.str [47]],[.str [37]]]]])),(6,.val (.dh 1 [[.dh 1 [[.int .i64 24]]],[.dh 1 [[.int .i64 23]]],[.dh 1 [[.int .i64 19],[.int .i64 20],[.int .i64 21],[.int .i64 22]]],[.dh 1 [[.int .i64 14],[.int .i64 15]]],[.dh 1 [[.int .i64 16],[.int .i64 17],[.int .i64 18]]]])),(7,.val (.int .i64 k))],[[.int .i64 4,.str c.t,.int .i64 c.n,.int .i64 c.a]],[]⟩)
  (λk=>k<=1/\gu (eA 1) c.t=gu ((eA 1).drop k) c.t) (λk=>1-k) 0 (by simp) (by simp) ?_
 intro k ⟨Du,hf⟩ ih;have hc:k=0\/k=1:=by omega
 rcases hc with h|h;subst h;by_cases e:[38,38]=c.t;rw[hf];simp[e,ai,ah,AV.view,eA,gu];simp[e,w1,ai,ah,AV.view];exact ih 1 ⟨by omega,by rw[hf];simp[eA,gu,e]⟩ (by omega);subst h;rw[hf];simp[AV.view,eA,gu];subst h;simp[Ld,Tk.cells,hk];refine aT yf.eq_1 (λk:Nat=>⟨[(0,.val (.int .i64 2)),(3,.fp 0 0),(5,.val (.dh 1 [[.dh 1 [[.str [124,124]]]],[.dh 1 [[.str [38,38]]]],[.dh 1 [[.str [60]],[.str [60,61]],[.str [61,61]],[.str [33,61]]]],[.dh 1 [[.str [43]],[.str [45]]]],[.dh 1 [[.str [42]],[.str [47]],[.str [37]]]]])),(6,.val (.dh 1 [[.dh 1 [[.int .i64 24]]],[.dh 1 [[.int .i64 23]]],[.dh 1 [[.int .i64 19],[.int .i64 20],[.int .i64 21],[.int .i64 22]]],[.dh 1 [[.int .i64 14],[.int .i64 15]]],[.dh 1 [[.int .i64 16],[.int .i64 17],[.int .i64 18]]]])),(7,.val (.int .i64 k))],[[.int .i64 4,.str c.t,.int .i64 c.n,.int .i64 c.a]],[]⟩)
  (λk=>k<=4/\gu (eA 2) c.t=gu ((eA 2).drop k) c.t) (λk=>4-k) 0 (by simp) (by simp) ?_
 intro k ⟨Du,hf⟩ ih;have hc:k=0\/k=1\/k=2\/k=3\/k=4:=by omega
 rcases hc with h|h|h|h|h;subst h;by_cases e:[60]=c.t;rw[hf];simp[e,ai,ah,AV.view,eA,gu];simp[e,w1,ai,ah,AV.view];exact ih 1 ⟨by omega,by rw[hf];simp[eA,gu,e]⟩ (by omega);subst h;by_cases e:[60,61]=c.t;rw[hf];simp[e,ai,ah,AV.view,eA,gu];simp[e,w2,ai,ah,AV.view];exact ih 2 ⟨by omega,by rw[hf];simp[eA,gu,e]⟩ (by omega);subst h;by_cases e:[61,61]=c.t;rw[hf];simp[e,ai,ah,AV.view,eA,gu];simp[e,w3,ai,ah,AV.view];exact ih 3 ⟨by omega,by rw[hf];simp[eA,gu,e]⟩ (by omega);subst h;by_cases e:[33,61]=c.t;rw[hf];simp[e,ai,ah,AV.view,eA,gu];simp[e,w4,ai,ah,AV.view];exact ih 4 ⟨by omega,by rw[hf];simp[eA,gu,e]⟩ (by omega);subst h;rw[hf];simp[AV.view,eA,gu];subst h;simp[Ld,Tk.cells,hk];refine aT yf.eq_1 (λk:Nat=>⟨[(0,.val (.int .i64 3)),(3,.fp 0 0),(5,.val (.dh 1 [[.dh 1 [[.str [124,124]]]],[.dh 1 [[.str [38,38]]]],[.dh 1 [[.str [60]],[.str [60,61]],[.str [61,61]],[.str [33,61]]]],[.dh 1 [[.str [43]],[.str [45]]]],[.dh 1 [[.str [42]],[.str [47]],[.str [37]]]]])),(6,.val (.dh 1 [[.dh 1 [[.int .i64 24]]],[.dh 1 [[.int .i64 23]]],[.dh 1 [[.int .i64 19],[.int .i64 20],[.int .i64 21],[.int .i64 22]]],[.dh 1 [[.int .i64 14],[.int .i64 15]]],[.dh 1 [[.int .i64 16],[.int .i64 17],[.int .i64 18]]]])),(7,.val (.int .i64 k))],[[.int .i64 4,.str c.t,.int .i64 c.n,.int .i64 c.a]],[]⟩)
  (λk=>k<=2/\gu (eA 3) c.t=gu ((eA 3).drop k) c.t) (λk=>2-k) 0 (by simp) (by simp) ?_
 intro k ⟨Du,hf⟩ ih;have hc:k=0\/k=1\/k=2:=by omega
 rcases hc with h|h|h;subst h;by_cases e:[43]=c.t;rw[hf];simp[e,ai,ah,AV.view,eA,gu];simp[e,w1,ai,ah,AV.view];exact ih 1 ⟨by omega,by rw[hf];simp[eA,gu,e]⟩ (by omega);subst h;by_cases e:[45]=c.t;rw[hf];simp[e,ai,ah,AV.view,eA,gu];simp[e,w2,ai,ah,AV.view];exact ih 2 ⟨by omega,by rw[hf];simp[eA,gu,e]⟩ (by omega);subst h;rw[hf];simp[AV.view,eA,gu];subst h;simp[Ld,Tk.cells,hk];refine aT yf.eq_1 (λk:Nat=>⟨[(0,.val (.int .i64 4)),(3,.fp 0 0),(5,.val (.dh 1 [[.dh 1 [[.str [124,124]]]],[.dh 1 [[.str [38,38]]]],[.dh 1 [[.str [60]],[.str [60,61]],[.str [61,61]],[.str [33,61]]]],[.dh 1 [[.str [43]],[.str [45]]]],[.dh 1 [[.str [42]],[.str [47]],[.str [37]]]]])),(6,.val (.dh 1 [[.dh 1 [[.int .i64 24]]],[.dh 1 [[.int .i64 23]]],[.dh 1 [[.int .i64 19],[.int .i64 20],[.int .i64 21],[.int .i64 22]]],[.dh 1 [[.int .i64 14],[.int .i64 15]]],[.dh 1 [[.int .i64 16],[.int .i64 17],[.int .i64 18]]]])),(7,.val (.int .i64 k))],[[.int .i64 4,.str c.t,.int .i64 c.n,.int .i64 c.a]],[]⟩)
  (λk=>k<=3/\gu (eA 4) c.t=gu ((eA 4).drop k) c.t) (λk=>3-k) 0 (by simp) (by simp) ?_
 intro k ⟨Du,hf⟩ ih;have hc:k=0\/k=1\/k=2\/k=3:=by omega
 rcases hc with h|h|h|h;subst h;by_cases e:[42]=c.t;rw[hf];simp[e,ai,ah,AV.view,eA,gu];simp[e,w1,ai,ah,AV.view];exact ih 1 ⟨by omega,by rw[hf];simp[eA,gu,e]⟩ (by omega);subst h;by_cases e:[47]=c.t;rw[hf];simp[e,ai,ah,AV.view,eA,gu];simp[e,w2,ai,ah,AV.view];exact ih 2 ⟨by omega,by rw[hf];simp[eA,gu,e]⟩ (by omega);subst h;by_cases e:[37]=c.t;rw[hf];simp[e,ai,ah,AV.view,eA,gu];simp[e,w3,ai,ah,AV.view];exact ih 3 ⟨by omega,by rw[hf];simp[eA,gu,e]⟩ (by omega);subst h;rw[hf];simp[AV.view,eA,gu];simp[Ld,Tk.cells,hk]
end N7
namespace N7
open Ax Go aF V7 jw
theorem sH{wl aa:Nat}{l:AV}{q:RQ}{bx:br}:aU wl aa (.load false 1 false) [.val (.ptr 0 0 0 1)] [RQ.aZ l q] bx=some (.val (.int .i64 q.at_),[RQ.aZ l q],bx):=by
 simp[RQ.aZ,cut,AV.view]
theorem aiO{wl aa:Nat}{l:AV}{q:RQ}{bx:br}:aU wl aa (.load false 1 false) [.val (.ptr 0 0 0 2)] [RQ.aZ l q] bx=some (.val (.int .i64 q.op),[RQ.aZ l q],bx):=by
 simp[RQ.aZ,cut,AV.view]
theorem mc{aa:Nat}{l:AV}{q:RQ}{bx:br}:aU 0 aa (.store 1) [.val (.ptr 0 0 0 1),.val (.int .i64 ((q.at_:Int)+1))] [RQ.aZ l q] bx=some (.none,[RQ.aZ l (bK q)],bx):=by
 simp[RQ.aZ,bK,bD,AV.au,AV.ay,aj]
theorem PU{aa:Nat}{l:AV}{q:RQ}{n:Int}{bx:br}:aU 0 aa (.store 1) [.val (.ptr 0 0 0 2),.val (.int .i64 n)] [RQ.aZ l q] bx=some (.none,[RQ.aZ l ⟨q.at_,n,q.fe,q.fa⟩],bx):=by
 simp[RQ.aZ,bD,AV.au,AV.ay,aj]
theorem aiP(n:Int):IntKind.i64.wrap (n-1)=IntKind.i64.wrap (n + -1):=by rw[ajo]
def tW(e:E)(kv:AV):List AV:=[.int .i64 e.k,.int .i64 e.n,.str e.nm,.str e.on,.int .i64 e.od,kv,.int .i64 e.a,.int .i64 e.ty.b,.int .i64 e.ty.r,.int .i64 e.ty.d,.int .i64 e.dz]
theorem yx(e:E):tW e (bf e.aK)=e.row:=(E.aE e).symm
def OkE(l:AV)(T:List Tk)(f:Nat):Prop:=∀n q e r,n<=5->js T f n q=some (e,r)->∀aa,(aP S).call 0 aa 110 [.ptr 0 0 0 0,.int .i64 (n:Nat)] [q.aZ l]=some (.agg e.row,[r.aZ l])
def OkU(l:AV)(T:List Tk)(f:Nat):Prop:=∀q e r,qz T f q=some (e,r)->∀aa,(aP S).call 0 aa 122 [.ptr 0 0 0 0] [q.aZ l]=some (.agg e.row,[r.aZ l])
def MA(l:AV)(T:List Tk)(f:Nat):Prop:=∀a q e r,kM T f a q=some (e,r)->∀kv,aL kv=true->kv.view=bf a.aK->∀aa,(aP S).call 0 aa 137 [.ptr 0 0 0 0,.agg (tW a kv)] [q.aZ l]=some (.agg e.row,[r.aZ l])
def vU(l:AV)(T:List Tk)(f:Nat):Prop:=∀q e r,oz T f q=some (e,r)->∀aa,(aP S).call 0 aa 144 [.ptr 0 0 0 0] [q.aZ l]=some (.agg e.row,[r.aZ l])
def OkF(l:AV)(T:List Tk)(f:Nat):Prop:=∀q e r,qA T f q=some (e,r)->∃kv,aL kv=true/\kv.view=bf e.aK/\∀aa,(aP S).call 0 aa 138 [.ptr 0 0 0 0] [q.aZ l]=some (.agg (tW e kv),[r.aZ l])
def OkN(l:AV)(T:List Tk)(f:Nat):Prop:=∀a q e r,qB T f a q=some (e,r)->∀aa,(aP S).call 0 aa 143 [.ptr 0 0 0 0,.int .i64 a] [q.aZ l]=some (.agg e.row,[r.aZ l])
def OkA(l:AV)(T:List Tk)(f:Nat):Prop:=∀q e r,wm T f q=some (e,r)->∀aa,(aP S).call 0 aa 145 [.ptr 0 0 0 0] [q.aZ l]=some (bF 11 (E.rows e),[r.aZ l])
section
variable {l:AV}{T:List Tk}(hT:TL l T)
include hT
theorem V9(f:Nat)(hE:OkE l T f):vU l T (f+1):=by
 intro q e r h aa;unfold oz at h;obtain⟨⟨x1,x2⟩,h1,h2⟩:=aap.1 h;cases h2;have eo:=λaa=>sG hT aa q [40] (by simp);have e1:=hE 0 _ _ _ (by omega) h1;have ec:=λaa=>rP hT aa x2 [41] (by simp);generalize jT T q [40]=q1 at *;generalize mD T x2 [41]=r1 at *;obtain⟨k2,n2,SX,SY,SZ,wz,a2,E9,C1⟩:=x1;simp only[E.row,ahj]at e1;refine aO (sf:=adP) rfl rfl rfl ?_;simp[adP,eo,e1,ec,E.row,aj,AV.ay,AV.au,AV.view]
theorem Wa(f:Nat)(hI:vU l T f):OkN l T (f+1):=by
 intro at_ q e r h aa;have hlen:=hT.len;unfold qB at h;have ei:=λaa=>ji hT aa q [91] (by simp);refine aO (sf:=ZI) rfl rfl rfl ?_;cases hi:iC T q [91] with
 |false=>
  rw[hi]at h;simp only[aaq,if_false,Option.some.injEq,Prod.mk.injEq]at h;obtain⟨rfl,rfl⟩:=h;have en:=λaa=>oy hT aa q;generalize dL T q=z at *;simp[ZI,ei,hi,en,Em,E.row,E.rows,aj,AV.ay,AV.au]
 |true=>
  rw[hi]at h;simp only[if_true]at h;obtain⟨⟨x1,x2⟩,h1,h2⟩:=aap.1 h;cases h2;obtain⟨i1,i2⟩:=bu hi;have hw:=wk q.at_ (by omega);have e1:=λaa=>xH hT aa (bK q);have et:=λaa=>eU hT aa (zi T (bK q)).2 [93] (by simp);have e3:=hI _ _ _ h1;generalize dn T (zi T (bK q)).2 [93]=r2 at *;generalize zi T (bK q)=o at *;obtain⟨k2,n2,SX,SY,SZ,wz,a2,E9,C1⟩:=x1;simp only[E.row]at e3;simp[-an,-af,ZI,ei,hi,sH,mc,hw,e1,et,e3,Em,E.row,E.rows,ai,ah,aj,AV.ay,AV.au,AV.view]
theorem Z8(f:Nat)(hE:∀g,g<=f->OkE l T g):OkA l T (f+1):=by
 intro q e r h aa;have hlen:=hT.len;unfold wm at h;have eo:=λaa=>sG hT aa q [40] (by simp);refine aO (sf:=ZJ) rfl rfl rfl ?_;generalize jT T q [40]=q1 at *;have ei:=λaa=>ji hT aa q1 [41] (by simp);cases hi:iC T q1 [41] with
 |true=>
  rw[hi]at h;simp only[if_true,Option.some.injEq,Prod.mk.injEq]at h;obtain⟨rfl,rfl⟩:=h;have ec:=λaa=>rP hT aa q1 [41] (by simp);generalize mD T q1 [41]=r1 at *;simp[ZJ,eo,ei,hi,ec,E.rows,fY]
 |false=>
  rw[hi]at h;simp only[aaq,if_false]at h;obtain⟨⟨x1,x2⟩,h1,h2⟩:=aap.1 h;have e1:=hE f (aaH _) 0 _ _ _ (by omega) h1;have g1:=jd h1;have hx:qY 11 120 .U [x1.row]=some (bF 11 (E.rows [x1])):=by
   have:=eB (sz:=11) (bytes:=120) (r:=[]) (new:=[x1.row]) (by simp[bw,E.aE]) (by simp[dQ]);simpa [fY,E.rows] using this
  obtain⟨F,hF⟩:∃F,(bF 11 (E.rows e),[RQ.aZ l r])=F:=⟨_,rfl⟩;obtain⟨k2,n2,SX,SY,SZ,wz,a2,E9,C1⟩:=x1;simp only[E.row,ahj]at e1 hx;simp[ZJ,eo,ei,hi,e1,hx,AV.view];refine aT Pq.eq_1 (λx:RQ×List E×Nat=>⟨[(0,.val (.ptr 0 0 0 0)),(3,.val (bF 11 (E.rows x.2.1)))],[],[RQ.aZ l x.1]⟩)
   (λx=>x.2.2<=f/\x.2.1.length<=x.1.at_+1/\uC T x.2.2 x.2.1 x.1=some (e,r)) (λx=>x.2.2) (x2,[E.mk k2 n2 SX SY SZ wz a2 E9 C1],f) rfl ⟨aaH _,by simp,h2⟩ ?_
  rintro⟨s,es,g⟩ ⟨hg,zN,hp⟩ ih;simp only at hg zN hp ih;have ej:=λaa=>ji hT aa s [44] (by simp);cases g with
  |zero=>simp[uC]at hp|succ g=>
   unfold uC at hp;cases hj:iC T s [44] with
   |true=>
    rw[hj]at hp;simp only[if_true]at hp;obtain⟨⟨y1,y2⟩,h3,h4⟩:=aap.1 hp;obtain⟨i1,i2⟩:=bu hj;have wA:=wk s.at_ (by omega);have e2:=hE g (by omega) 0 _ _ _ (by omega) h3;have g2:=(jd h3).le;have Gl:=eB (sz:=11) (bytes:=120) (r:=E.rows es) (new:=[y1.row]) (by simp[bw,E.aE]) (by simp[dQ,iJ];omega);have hrw:E.rows es++[y1.row]=E.rows (es++[y1]):=(by simp[iJ]);rw[hrw]at Gl;have fA:=ih (y2,es++[y1],g) ⟨by simp only;omega,by simp[bK]at g2 ⊢;omega,h4⟩ (by simp only;omega);generalize E.rows (es++[y1])=R at *;obtain⟨k3,n3,nm3,on3,od3,apu,a3,ty3,ark⟩:=y1;simp only[E.row,ahj]at e2 Gl;simp[-an,-af,ej,hj,sH,mc,wA,e2,Gl,AV.view];exact fA
   |false=>
    rw[hj]at hp;simp only[aaq,if_false,Option.some.injEq,Prod.mk.injEq]at hp;obtain⟨rfl,rfl⟩:=hp;have ec:=λaa=>rP hT aa s [41] (by simp);generalize mD T s [41]=r1 at *;simp[ej,hj,ec]
end
end N7
namespace N7
open Ax Go aF V7 jw
section
variable {l:AV}{T:List Tk}(hT:TL l T)
include hT
theorem Wb(f:Nat)(hN:OkN l T f)(hI:vU l T f)(hA:OkA l T f):OkF l T (f+1):=by
 intro q e r h;have hlen:=hT.len;have et:=λaa=>nL hT aa q;have eo:=λaa=>gw (l:=l) aa q;have ei:=λaa s hs=>ji hT aa q s hs;have hct:=λs (h:iC T q s=true)=>Hq h;have M6:(fC T q).k≠0->q.at_<T.length:=vL;unfold qA at h;generalize hc:fC T q=c at *;simp only[Tk.cells]at et;have hw:q.at_<T.length->IntKind.i64.wrap ((q.at_:Int)+1)=((q.at_+1:Nat):Int):=λh=>by rw[cI]<;>omega
 have G4:∀s,iC T q s=true->IntKind.i64.wrap ((q.at_:Int)+1)=((q.at_+1:Nat):Int):=λs h=>hw (bu h).2;by_cases c0:q.fe=0/\c.k=2;rw[if_pos c0]at h;cases h;have hw:=hw (M6 (by rw[c0.2];decide));refine⟨.U,rfl,by simp[Em,E.aK,ri,AV.view],λaa=>?_⟩;refine aO (sf:=sy) rfl rfl rfl ?_;simp[-an,-af,sy,et,eo,c0.1,c0.2,sH,mc,hw,aj,AV.ay,AV.au,tW,Em,E.k,E.n,E.nm,E.on,E.od,E.a,E.ty,E.dz];rw[if_neg c0]at h;by_cases Bm:q.fe=0
 ·have SN:¬c.k=2:=λh=>c0 ⟨Bm,h⟩;cases h1:iC T q [116,114,117,101] with
  |true=>
   rw[h1]at h;simp only[ajO,if_true,Option.some.injEq,Prod.mk.injEq]at h;obtain⟨rfl,rfl⟩:=h;have hw:=G4 _ h1;have ht:=hct _ h1;refine⟨.U,rfl,by simp[Em,E.aK,ri,AV.view],λaa=>?_⟩;refine aO (sf:=sy) rfl rfl rfl ?_;simp[-an,-af,sy,et,eo,Bm,SN,ei,h1,sH,mc,hw,ht,aj,AV.ay,AV.au,tW,Em,E.k,E.n,E.nm,E.on,E.od,E.a,E.ty,E.dz]
  |false=>
  cases h2:iC T q [102,97,108,115,101] with
  |true=>
   rw[h1,h2]at h;simp only[agV,if_true,Option.some.injEq,Prod.mk.injEq]at h;obtain⟨rfl,rfl⟩:=h;have hw:=G4 _ h2;have ht:=hct _ h2;refine⟨.U,rfl,by simp[Em,E.aK,ri,AV.view],λaa=>?_⟩;refine aO (sf:=sy) rfl rfl rfl ?_;simp[-an,-af,sy,et,eo,Bm,SN,ei,h1,h2,sH,mc,hw,ht,aj,AV.ay,AV.au,tW,Em,E.k,E.n,E.nm,E.on,E.od,E.a,E.ty,E.dz]
  |false=>
  rw[h1,h2]at h;simp only[aht,aaq,if_false]at h;cases h3:iC T q [110,117,108,108] with
  |true=>
   rw[h3]at h;simp only[if_true,Option.some.injEq,Prod.mk.injEq]at h;obtain⟨rfl,rfl⟩:=h;have hw:=G4 _ h3;have e1:=λaa=>xH hT aa (bK q);generalize zi T (bK q)=o at *;refine⟨.U,rfl,by simp[Em,E.aK,ri,AV.view],λaa=>?_⟩;refine aO (sf:=sy) rfl rfl rfl ?_;simp[-an,-af,sy,et,eo,Bm,SN,ei,h1,h2,h3,sH,mc,hw,e1,aj,AV.ay,AV.au,ai,ah,tW,Em,E.k,E.n,E.nm,E.on,E.od,E.a,E.ty,E.dz]
  |false=>
  rw[h3]at h;simp only[aaq,if_false]at h;cases h4:iC T q [110,101,119] with
  |true=>
   rw[h4]at h;simp only[if_true]at h;have hw:=G4 _ h4;have e1:=hN _ _ _ _ h;refine⟨bf e.aK,by simp,by simp,λaa=>?_⟩;rw[yx];obtain⟨k2,n2,SX,SY,SZ,wz,a2,E9,C1⟩:=e;simp only[E.row]at e1 ⊢;refine aO (sf:=sy) rfl rfl rfl ?_;simp[-an,-af,sy,et,eo,Bm,SN,ei,h1,h2,h3,h4,sH,mc,hw,e1,aj,AV.ay,AV.au]
  |false=>
  rw[h4]at h;simp only[aaq,if_false]at h;cases h5:iC T q [108,101,110] with
  |true=>
   rw[h5]at h;simp only[if_true]at h;have hw:=G4 _ h5;obtain⟨⟨x1,x2⟩,h8,h9⟩:=aap.1 h;cases h9;have e1:=hI _ _ _ h8;refine⟨_,by simp,bH,λaa=>?_⟩;rw[yx];obtain⟨k2,n2,SX,SY,SZ,wz,a2,E9,C1⟩:=x1;simp only[E.row]at e1;refine aO (sf:=sy) rfl rfl rfl ?_;simp[-an,-af,sy,et,eo,Bm,SN,ei,h1,h2,h3,h4,h5,sH,mc,hw,e1,aj,AV.ay,AV.au,AV.view,ai,ah,Em,E.row,E.rows]
  |false=>
  rw[h5]at h;simp only[aaq,if_false]at h;cases h6:iC T q [114,101,97,100] with
  |true=>
   rw[h6]at h;simp only[if_true,Option.some.injEq,Prod.mk.injEq]at h;obtain⟨rfl,rfl⟩:=h;have hw:=G4 _ h6;have ep:=λaa=>sG hT aa (bK q) [40] (by simp);have eq:=λaa=>rP hT aa (jT T (bK q) [40]) [41] (by simp);refine⟨.U,rfl,by simp[Em,E.aK,ri,AV.view],λaa=>?_⟩;refine aO (sf:=sy) rfl rfl rfl ?_;simp[-an,-af,sy,et,eo,Bm,SN,ei,h1,h2,h3,h4,h5,h6,sH,mc,hw,ep,eq,aj,AV.ay,AV.au,tW,Em,E.k,E.n,E.nm,E.on,E.od,E.a,E.ty,E.dz]
  |false=>
  rw[h6]at h;simp only[aaq,if_false]at h;cases h7:iC T q [40] with
  |true=>
   rw[h7]at h;simp only[if_true]at h;have e1:=hI _ _ _ h;refine⟨bf e.aK,by simp,by simp,λaa=>?_⟩;rw[yx];obtain⟨k2,n2,SX,SY,SZ,wz,a2,E9,C1⟩:=e;simp only[E.row]at e1 ⊢;refine aO (sf:=sy) rfl rfl rfl ?_;simp[-an,-af,sy,et,eo,Bm,SN,ei,h1,h2,h3,h4,h5,h6,h7,e1,aj,AV.ay,AV.au]
  |false=>
   rw[h7]at h;simp only[aaq,if_false]at h;have en:=λaa=>oy hT aa q;generalize dL T q=z at *;have ez:=λaa=>ji hT aa z.2 [40] (by simp);cases h8:iC T z.2 [40] with
   |false=>
    rw[h8]at h;simp only[aaq,if_false,Option.some.injEq,Prod.mk.injEq]at h;obtain⟨rfl,rfl⟩:=h;refine⟨.U,rfl,by simp[Em,E.aK,ri,AV.view],λaa=>?_⟩;refine aO (sf:=sy) rfl rfl rfl ?_;simp[-an,-af,sy,et,eo,Bm,SN,ei,h1,h2,h3,h4,h5,h6,h7,en,ez,h8,aj,AV.ay,AV.au,tW,Em,E.k,E.n,E.nm,E.on,E.od,E.a,E.ty,E.dz]
   |true=>
    rw[h8]at h;simp only[if_true]at h;obtain⟨⟨x1,x2⟩,h9,Bi⟩:=aap.1 h;cases Bi;have e1:=hA _ _ _ h9;have hk:aL (bF 11 (E.rows x1))=true:=cP;have hv:(bF 11 (E.rows x1)).view=bf x1:=rfl;generalize bF 11 (E.rows x1)=kv at *;have RA:=iH hk;have hkp:=cD hk;refine⟨kv,hk,hv,λaa=>?_⟩;refine aO (sf:=sy) rfl rfl rfl ?_;simp[-an,-af,sy,et,eo,Bm,SN,ei,h1,h2,h3,h4,h5,h6,h7,en,ez,h8,e1,hk,aj,AV.ay,AV.au,ai,ah,tW,Em,E.k,E.n,E.nm,E.on,E.od,E.a,E.ty,E.dz]
 have iu:∀s,iC T q s=false:=λs=>ZU Bm;have en:=λaa=>oy hT aa q;have hz:dL T q=([],q):=by simp[dL,Bm,jr]
 rw[hz]at en;simp only[iu,hz,aht,aaq,if_false,Option.some.injEq,Prod.mk.injEq]at h;obtain⟨rfl,rfl⟩:=h;refine⟨.U,rfl,by simp[Em,E.aK,ri,AV.view],λaa=>?_⟩;refine aO (sf:=sy) rfl rfl rfl ?_;simp[-an,-af,sy,et,eo,Bm,ei,iu,en,aj,AV.ay,AV.au,tW,Em,E.k,E.n,E.nm,E.on,E.od,E.a,E.ty,E.dz]
theorem RB(f:Nat)(hE:∀g,g<f->OkE l T g):MA l T f:=by
 intro a0 q e r h kv0 hk0 hv0 aa;have hlen:=hT.len;have anF:=iH hk0;refine aO (sf:=adO) rfl rfl rfl ?_;simp[adO,tW,anF];refine aT Po.eq_1 (λx:RQ×E×AV×Nat×List AV×List AV=>⟨[(0,.val (.ptr 0 0 0 0)),(3,.fp 0 0),(4,.fp 1 0)],
   [tW x.2.1 x.2.2.1,[.int .i64 0,.int .i64 0,.str [],.str [],.int .i64 0,.U,.int .i64 0,.int .i64 0,.int .i64 0,.int .i64 0,.int .i64 0],x.2.2.2.2.1,x.2.2.2.2.2],[RQ.aZ l x.1]⟩)
  (λx=>x.2.2.2.1<=f/\aL x.2.2.1=true/\x.2.2.1.view=bf x.2.1.aK/\kM T x.2.2.2.1 x.2.1 x.1=some (e,r)) (λx=>x.2.2.2.1) (q,a0,kv0,f,[],[]) rfl ⟨aaH _,hk0,hv0,h⟩ ?_
 rintro⟨s,a,kv,g,b2,b3⟩ ⟨hg,hk,hv,hp⟩ ih;simp only at hg hk hv hp ih;have RA:=iH hk;have hkp:=cD hk;have ed:=λaa=>ji hT aa s [46] (by simp);have eb:=λaa=>ji hT aa s [91] (by simp);have et:=λaa=>nL hT aa s;have ff:E.rows [a]=[tW a (bf a.aK)]:=by rw[yx];simp[E.rows]
 cases g with
 |zero=>simp[kM]at hp|succ g=>
  unfold kM at hp;cases h1:iC T s [46] with
  |true=>
   rw[h1]at hp;simp only[if_true]at hp;obtain⟨i1,i2⟩:=bu h1;have hw:=wk s.at_ (by omega);have en:=λaa=>oy hT aa (bK s);generalize dL T (bK s)=z at *;generalize fC T s=c at *;simp only[Tk.cells]at et;have fA:=λb2 b3=>ih (z.2,Em 5 0 z.1 [] 0 [a] c.a,bf [a],g,b2,b3) ⟨by simp only;omega,by simp,by simp[Em,E.aK],hp⟩ (by simp only;omega);simp[-an,-af,ed,h1,et,sH,mc,hw,en,hv,aj,AV.view,ai,ah,tW];have:=fA [.int .i64 c.k,.str c.t,.int .i64 c.n,.int .i64 c.a] b3;simp[tW,Em,E.k,E.n,E.nm,E.on,E.od,E.a,E.ty,E.dz,bf,ff]at this;exact this
  |false=>
   rw[h1]at hp;simp only[aaq,if_false]at hp;cases h2:iC T s [91] with
   |true=>
    rw[h2]at hp;simp only[if_true]at hp;obtain⟨⟨x1,x2⟩,h3,h4⟩:=aap.1 hp;have eo:=λaa=>sG hT aa s [91] (by simp);have e1:=hE g (by omega) 0 _ _ _ (by omega) h3;have ec:=λaa=>rP hT aa x2 [93] (by simp);generalize jT T s [91]=q1 at *;simp only at h4;generalize mD T x2 [93]=q3 at *;generalize fC T s=c at *;simp only[Tk.cells]at et;have Lz:E.rows [a,x1]=[tW a (bf a.aK),x1.row]:=(by rw[yx];simp[E.rows]);have fA:=λb2 b3=>ih (q3,Em 6 0 [] [] 0 [a,x1] c.a,bf [a,x1],g,b2,b3) ⟨by simp only;omega,by simp,by simp[Em,E.aK],h4⟩ (by simp only;omega);obtain⟨k2,n2,SX,SY,SZ,wz,a2,E9,C1⟩:=x1;simp only[E.row,ahj]at e1 Lz;simp[-an,-af,ed,eb,h1,h2,et,eo,e1,ec,hv,aj,AV.view,tW];have:=fA [.int .i64 c.k,.str c.t,.int .i64 c.n,.int .i64 c.a] [.int .i64 k2,.int .i64 n2,.str SX,.str SY,.int .i64 SZ,aB 11 (E.rows wz),.int .i64 a2,.int .i64 E9.b,.int .i64 E9.r,.int .i64 E9.d,.int .i64 C1];simp[tW,Em,E.k,E.n,E.nm,E.on,E.od,E.a,E.ty,E.dz,bf,Lz]at this;exact this
   |false=>
    rw[h2]at hp;simp only[aaq,if_false,Option.some.injEq,Prod.mk.injEq]at hp;obtain⟨rfl,rfl⟩:=hp;rw[<-yx];simp[-an,-af,ed,eb,h1,h2,hv,aj,AV.ay,AV.au,tW]
theorem Wc(f:Nat)(hE:OkE l T f)(hF:OkF l T f)(hB:MA l T f):OkU l T (f+1):=by
 intro q e r h aa;have hlen:=hT.len;have et:=λaa=>nL hT aa q;have em:=λaa=>ji hT aa q [45] (by simp);have en:=λaa=>ji hT aa q [33] (by simp);unfold qz at h;refine aO (sf:=Vv) rfl rfl rfl ?_;cases h1:iC T q [45] with
 |true=>
  rw[h1]at h;simp only[ajO,if_true]at h;obtain⟨⟨x1,x2⟩,h3,h4⟩:=aap.1 h;cases h4;have hc:=Hq h1;rw[hc]at h3;have eo:=λaa=>sG hT aa q [45] (by simp);have e1:=hE 5 _ _ _ (by omega) h3;generalize jT T q [45]=q1 at *;generalize fC T q=c at *;obtain⟨k2,n2,SX,SY,SZ,wz,a2,E9,C1⟩:=x1;simp only[Tk.cells]at et;simp only[E.row,afy]at e1;simp[-an,-af,Vv,et,em,h1,hc,eo,e1,aiO,PU,xy,aiP,aj,AV.view,AV.ay,AV.au,Em,E.row,E.rows]
 |false=>
  cases h2:iC T q [33] with
  |true=>
   rw[h1,h2]at h;simp only[agV,if_true]at h;obtain⟨⟨x1,x2⟩,h3,h4⟩:=aap.1 h;cases h4;have hc:=Hq h2;rw[hc]at h3;have eo:=λaa=>sG hT aa q [33] (by simp);have e1:=hE 5 _ _ _ (by omega) h3;generalize jT T q [33]=q1 at *;generalize fC T q=c at *;obtain⟨k2,n2,SX,SY,SZ,wz,a2,E9,C1⟩:=x1;simp only[Tk.cells]at et;simp only[E.row,afy]at e1;simp[-an,-af,Vv,et,em,en,h1,h2,hc,eo,e1,aiO,PU,xy,aiP,aj,AV.view,AV.ay,AV.au,Em,E.row,E.rows]
  |false=>
   rw[h1,h2]at h;simp only[aht,aaq,if_false]at h;obtain⟨⟨x1,x2⟩,h3,h4⟩:=aap.1 h;obtain⟨kv,hk,hv,e1⟩:=hF _ _ _ h3;have e3:=hB _ _ _ _ h4 kv hk hv;obtain⟨k2,n2,SX,SY,SZ,wz,a2,E9,C1⟩:=e;have RA:=iH hk;have hkp:=cD hk;simp only[E.row]at e3 ⊢;generalize tW x1 kv=R at *;generalize fC T q=c at *;simp only[Tk.cells]at et;simp[-an,-af,Vv,et,em,en,h1,h2,e1,e3,aj,AV.ay,AV.au]
theorem RC(f:Nat)(hE:∀g,g<=f->OkE l T g)(hU:OkU l T f):OkE l T (f+1):=by
 intro n q e r hn h aa;have hlen:=hT.len;unfold js at h;refine aO (sf:=ZD) rfl rfl rfl ?_;by_cases hn5:n=5;subst hn5;rw[if_pos rfl]at h;have e1:=hU _ _ _ h;obtain⟨k2,n2,SX,SY,SZ,wz,a2,E9,C1⟩:=e;simp only[E.row]at e1 ⊢;simp[-an,-af,ZD,e1,aj,AV.ay,AV.au];rw[if_neg hn5]at h;obtain⟨⟨x1,x2⟩,h1,h2⟩:=aap.1 h;have anG:¬(n:Int)=5:=by omega
 have RG:=wk n (by omega);have e1:=hE f (aaH _) (n+1) _ _ _ (by omega) h1;have ff:∀e:E,e.row=[.int .i64 e.k,.int .i64 e.n,.str e.nm,.str e.on,.int .i64 e.od,bf e.aK,.int .i64 e.a,.int .i64 e.ty.b,.int .i64 e.ty.r,.int .i64 e.ty.d,.int .i64 e.dz]:=E.aE;simp only[ff,aes,afy]at e1;simp[-an,-af,ZD,anG,RG,e1,aj];refine aT Ph.eq_1 (λx:RQ×E×Nat×List AV×List AV=>⟨[(0,.val (.ptr 0 0 0 0)),(1,.val (.int .i64 n)),(4,.fp 0 0),(5,.fp 1 0)],
   [[.int .i64 0,.int .i64 0,.str [],.str [],.int .i64 0,.U,.int .i64 0,.int .i64 0,.int .i64 0,.int .i64 0,.int .i64 0],
    [.int .i64 x.2.1.k,.int .i64 x.2.1.n,.str x.2.1.nm,.str x.2.1.on,.int .i64 x.2.1.od,bf x.2.1.aK,.int .i64 x.2.1.a,.int .i64 x.2.1.ty.b,.int .i64 x.2.1.ty.r,.int .i64 x.2.1.ty.d,.int .i64 x.2.1.dz],x.2.2.2.1,x.2.2.2.2],[RQ.aZ l x.1]⟩)
  (λx=>x.2.2.1<=f/\pC T x.2.2.1 n x.2.1 x.1=some (e,r)) (λx=>x.2.2.1) (x2,x1,f,[],[]) rfl ⟨aaH _,h2⟩ ?_
 rintro⟨s,a,g,b2,b3⟩ ⟨hg,hp⟩ RH;simp only at hg hp RH;have eo:=λaa=>gw (l:=l) aa s;have et:=λaa=>nL hT aa s;have elp:=λwl aa=>Ly wl aa n (by omega) (fC T s) [RQ.aZ l s];cases g with
 |zero=>simp[pC]at hp|succ g=>
  unfold pC at hp;by_cases hgo:s.fe=0/\vJ n (fC T s)≠0;rw[if_pos hgo]at hp;obtain⟨f0,z0⟩:=hgo;obtain⟨⟨y1,y2⟩,h3,h4⟩:=aap.1 hp;have M6:=AF z0;have hw:=wk s.at_ (by omega);have e3:=hE g (by omega) (n+1) _ _ _ (by omega) h3;have aiR:=λwl aa st=>Ly wl aa n (by omega) (fC T s) st;simp only[ff,aes,afy]at e3;have Lz:E.rows [a,y1]=[a.row,y1.row]:=by simp[E.rows]
  simp only[ff]at Lz;generalize vJ n (fC T s)=z at *;have fA:=λb2 b3=>RH (y2,Em z 0 [] [] 0 [a,y1] (fC T s).a,g,b2,b3) ⟨by simp only;omega,h4⟩ (by simp only;omega);generalize fC T s=c at *;simp only[Tk.cells]at et elp aiR;simp[-an,-af,eo,f0,et,aiR,z0,sH,mc,hw,RG,e3,aj,AV.view,ai,ah];have:=fA [.int .i64 c.k,.str c.t,.int .i64 c.n,.int .i64 c.a] [.int .i64 y1.k,.int .i64 y1.n,.str y1.nm,.str y1.on,.int .i64 y1.od,bf y1.aK,.int .i64 y1.a,.int .i64 y1.ty.b,.int .i64 y1.ty.r,.int .i64 y1.ty.d,.int .i64 y1.dz];simp only[Em,E.k,E.n,E.nm,E.on,E.od,E.aK,E.a,E.ty,E.dz]at this;simp only[show bf [a,y1]=.dh 11 (E.rows [a,y1]) from rfl,Lz]at this;exact this;rw[if_neg hgo]at hp;simp only[Option.some.injEq,Prod.mk.injEq]at hp;obtain⟨rfl,rfl⟩:=hp;rw[ff];generalize vJ n (fC T s)=z at *;generalize fC T s=c at *;simp only[Tk.cells]at et elp;by_cases f0:s.fe=0;have z0:z=0:=Classical.byContradiction λh=>hgo ⟨f0,h⟩;subst z0;simp[-an,-af,eo,f0,et,elp,aj,AV.ay,AV.au];simp[-an,-af,eo,f0,aj,AV.ay,AV.au]
theorem Wd:∀f,OkE l T f/\OkU l T f/\OkF l T f/\vU l T f/\OkN l T f/\OkA l T f:=by
 intro f;induction f using agM with
 |_ f ih=>
  cases f with
  |zero=>
   refine⟨?_,?_,?_,?_,?_,?_⟩;intro n q e r _ h;simp[js]at h;intro q e r h;simp[qz]at h;intro q e r h;simp[qA]at h;intro q e r h;simp[oz]at h;intro a q e r h;simp[qB]at h;intro q e r h;simp[wm]at h
  |succ f=>
   obtain⟨hE,hU,hF,hI,hN,hA⟩:=ih f (by omega);have hEl:∀g,g<=f->OkE l T g:=λg h=>(ih g (by omega)).1;exact⟨RC hT f hEl hU,Wc hT f hE hF (RB hT f λg h=>hEl g (by omega)),Wb hT f hN hI hA,V9 hT f hE,Wa hT f hI,Z8 hT f hEl⟩
theorem nE{f n:Nat}{q r:RQ}{e:E}(hn:n<=5)(h:js T f n q=some (e,r))(aa:Nat):(aP S).call 0 aa 110 [.ptr 0 0 0 0,.int .i64 (n:Nat)] [q.aZ l]=some (.agg e.row,[r.aZ l]):=(Wd hT f).1 n q e r hn h aa
end
end N7
namespace N7
open Ax Go aF V7 jw
def C2(l:AV)(T:List Tk)(f:Nat):Prop:=∀q s r,wo T f q=some (s,r)->∀aa,(aP S).call 0 aa 97 [.ptr 0 0 0 0] [q.aZ l]=some (.agg s.row,[r.aZ l])
def OkK(l:AV)(T:List Tk)(f:Nat):Prop:=∀q s r,ki T f q=some (s,r)->∀aa,(aP S).call 0 aa 68 [.ptr 0 0 0 0] [q.aZ l]=some (bF 9 (Sm.rows s),[r.aZ l])
section
variable {l:AV}{T:List Tk}(hT:TL l T)
include hT
theorem ex0{f:Nat}{q r:RQ}{e:E}(h:js T f 0 q=some (e,r))(aa:Nat) :
  (aP S).call 0 aa 110 [.ptr 0 0 0 0,.int .i64 0] [q.aZ l]=some (.agg [.int .i64 e.k,.int .i64 e.n,.str e.nm,.str e.on,.int .i64 e.od,bf e.aK,.int .i64 e.a,.int .i64 e.ty.b,.int .i64 e.ty.r,.int .i64 e.ty.d,.int .i64 e.dz],[r.aZ l]):=by
 have:=nE hT (n:=0) (by omega) h aa;rw[E.aE]at this;exact this
theorem Fk{f:Nat}{a0:Int}{q r:RQ}{s:Sm}(h:tV T f a0 q=some (s,r))(aa:Nat) :
  (aP S).call 0 aa 111 [.ptr 0 0 0 0,.agg [.int .i64 0,.str [],.str [],.int .i64 0,.U,.U,.U,.int .i64 a0,.int .i64 0]] [q.aZ l]=some (.agg s.row,[r.aZ l]):=by
 have hlen:=hT.len;unfold tV at h;obtain⟨⟨x,r1⟩,h1,h2⟩:=aap.1 h;dsimp only at h2;have e1:=ex0 hT h1;have ei:=λaa s hs=>ji hT aa r1 s hs;have ef:=λaa=>rz hT aa r1 2;have zB:E.rows [x]=[[.int .i64 x.k,.int .i64 x.n,.str x.nm,.str x.on,.int .i64 x.od,bf x.aK,.int .i64 x.a,.int .i64 x.ty.b,.int .i64 x.ty.r,.int .i64 x.ty.d,.int .i64 x.dz]]:=by simp[E.rows,E.aE]
 refine aO (sf:=Lc) rfl rfl rfl ?_;cases h3:iC T r1 [61] with
 |false=>
  rw[h3]at h2;simp only[aaq,if_false,Option.some.injEq,Prod.mk.injEq]at h2;obtain⟨rfl,rfl⟩:=h2;by_cases h4:iC T r1 [59]=true/\x.k≠7;rw[if_pos h4];obtain⟨h4,h5⟩:=h4;have et:=λaa=>eU hT aa (jr T r1 2) [59] (by simp);simp[-an,-af,Lc,e1,ei,h3,h4,h5,ef,et,aj,AV.view,AV.ay,AV.au,Sm.row,bf,zB,Sm.rows];rw[if_neg h4];have et:=λaa=>eU hT aa r1 [59] (by simp);cases h4':iC T r1 [59] with
  |false=>
   simp[-an,-af,Lc,e1,ei,h3,h4',et,aj,AV.view,AV.ay,AV.au,Sm.row,bf,zB,Sm.rows]
  |true=>
   have h5:x.k=7:=Classical.byContradiction λh=>h4 ⟨h4',h⟩;rw[h5]at e1 zB;simp[-an,-af,Lc,e1,ei,h3,h4',et,aj,AV.view,AV.ay,AV.au,Sm.row,bf,zB,Sm.rows]
 |true=>
  rw[h3]at h2;simp only[if_true]at h2;obtain⟨⟨y,r2⟩,h4,h5⟩:=aap.1 h2;have e2:=ex0 hT h4;have Jg:=λaa=>eU hT aa r2 [59] (by simp);have hry:E.rows [y]=[[.int .i64 y.k,.int .i64 y.n,.str y.nm,.str y.on,.int .i64 y.od,bf y.aK,.int .i64 y.a,.int .i64 y.ty.b,.int .i64 y.ty.r,.int .i64 y.ty.d,.int .i64 y.dz]]:=by simp[E.rows,E.aE]
  have ad7:E.rows [x,y]=[[.int .i64 x.k,.int .i64 x.n,.str x.nm,.str x.on,.int .i64 x.od,bf x.aK,.int .i64 x.a,.int .i64 x.ty.b,.int .i64 x.ty.r,.int .i64 x.ty.d,.int .i64 x.dz],[.int .i64 y.k,.int .i64 y.n,.str y.nm,.str y.on,.int .i64 y.od,bf y.aK,.int .i64 y.a,.int .i64 y.ty.b,.int .i64 y.ty.r,.int .i64 y.ty.d,.int .i64 y.dz]]:=by simp[E.rows,E.aE]
  by_cases c4:x.k=4;rw[if_pos (.inl c4)]at e2;have et:=λaa=>eU hT aa r1 [61] (by simp);simp only[if_pos c4,Option.some.injEq,Prod.mk.injEq]at h5;obtain⟨rfl,rfl⟩:=h5;rw[c4]at e1;simp[-an,-af,Lc,e1,ei,h3,et,e2,Jg,aj,AV.view,AV.ay,AV.au,Sm.row,bf,hry,Sm.rows];simp only[if_neg c4,Option.some.injEq,Prod.mk.injEq]at h5;obtain⟨rfl,rfl⟩:=h5;by_cases c5:x.k=5\/x.k=6;rw[if_pos (.inr c5)]at e2;have et:=λaa=>eU hT aa r1 [61] (by simp);rcases c5 with c5|c5<;>
  ·rw[c5]at e1 ad7;simp[-an,-af,Lc,e1,ei,h3,et,e2,Jg,aj,AV.view,AV.ay,AV.au,Sm.row,bf,ad7,Sm.rows]
  have c5':x.k≠5:=λh=>c5 (.inl h);have c6':x.k≠6:=λh=>c5 (.inr h);rw[if_neg (λh=>h.elim c4 c5)]at e2;have et:=λaa=>eU hT aa (jr T r1 2) [61] (by simp);simp[-an,-af,Lc,e1,ei,h3,ef,et,e2,Jg,c4,c5',c6',aj,AV.view,AV.ay,AV.au,Sm.row,bf,ad7,Sm.rows]
theorem m9(f:Nat)(hS:∀g,g<f->C2 l T g):OkK l T (f+1):=by
 intro q s r h aa;have hlen:=hT.len;have eo:=λaa=>sG hT aa q [123] (by simp);unfold ki at h;refine aO (sf:=s68) rfl rfl rfl ?_;generalize jT T q [123]=q1 at *;simp[-an,-af,s68,eo];refine aT Vf.eq_1 (λx:RQ×List Sm×Nat=>⟨[(0,.val (.ptr 0 0 0 0)),(3,.val (bF 9 (Sm.rows x.2.1)))],[],[RQ.aZ l x.1]⟩)
  (λx=>x.2.2<=f/\x.2.1.length<=T.length+1/\(x.1.fe=0->x.2.1.length<=x.1.at_/\x.2.1.length<=T.length)/\pD T x.2.2 x.2.1 x.1=some (s,r)) (λx=>x.2.2) (q1,[],f) rfl ⟨aaH _,by simp,by simp,h⟩ ?_
 rintro⟨u,ss,g⟩ ⟨hg,zN,hl0,hp⟩ ih;simp only at hg zN hl0 hp ih;have ek:=λaa=>gw (l:=l) aa u;have ei:=λaa=>ji hT aa u [125] (by simp);cases g with
 |zero=>simp[pD]at hp|succ g=>
  unfold pD at hp;have ec:=λaa=>rP hT aa u [125] (by simp);by_cases f0:u.fe=0;cases hi:iC T u [125] with
  |true=>
   rw[if_neg (by rw[hi];simp)]at hp;simp only[Option.some.injEq,Prod.mk.injEq]at hp;obtain⟨rfl,rfl⟩:=hp;simp[-an,-af,ek,f0,ei,hi,ec]
  |false=>
   rw[if_pos ⟨f0,hi⟩]at hp;obtain⟨⟨x,r2⟩,h1,h2⟩:=aap.1 hp;have e2:=hS g (by omega) _ _ _ h1;obtain⟨g2,w2⟩:=(sC T g).1 _ _ _ h1;have aiS:=hl0 f0;have hle:=g2.le;have Gl:=eB (sz:=9) (bytes:=136) (r:=Sm.rows ss) (new:=[x.row]) (by simp[bw,Sm.aE]) (by simp[dQ,iP];omega);have hrw:Sm.rows ss++[x.row]=Sm.rows (ss++[x]):=(by simp[iP]);rw[hrw]at Gl;have fA:=ih (r2,ss++[x],g) ⟨by simp only;omega,by simp;omega,λf=>by
    rcases w2 with w|⟨w,v⟩;exact absurd f w;simp;omega,h2⟩ (by simp only;omega)
   simp only at fA;generalize Sm.rows (ss++[x])=R at *;rw[Sm.aE]at e2 Gl;simp[-an,-af,ek,f0,ei,hi,e2,Gl,AV.view];exact fA
  rw[if_neg (λh=>f0 h.1)]at hp;simp only[Option.some.injEq,Prod.mk.injEq]at hp;obtain⟨rfl,rfl⟩:=hp;simp[-an,-af,ek,f0,ec]
theorem AM(f:Nat)(hK:OkK l T f):C2 l T (f+1):=by
 intro q s r h aa;have hlen:=hT.len;have et:=λaa=>nL hT aa q;have ei:=λaa s hs=>ji hT aa q s hs;have hct:=λs (h:iC T q s=true)=>Hq h;have G4:∀s,iC T q s=true->IntKind.i64.wrap ((q.at_:Int)+1)=((q.at_+1:Nat):Int):=λs h=>by
  have:=(bu h).2;rw[cI]<;>omega
 unfold wo at h;refine aO (sf:=Vt) rfl rfl rfl ?_;have en:=λaa=>oy hT aa (bK q);have ec:=λaa=>eU hT aa (dL T (bK q)).2 [58] (by simp);have eo:=λaa=>xH hT aa (dn T (dL T (bK q)).2 [58]);have XR:dM T (bK q)=(⟨(dL T (bK q)).1,(zi T (dn T (dL T (bK q)).2 [58])).1.1,(zi T (dn T (dL T (bK q)).2 [58])).1.2,(fC T (bK q)).a⟩,(zi T (dn T (dL T (bK q)).2 [58])).2):=rfl;rw[XR]at h;generalize zi T (dn T (dL T (bK q)).2 [58])=o at *;generalize dn T (dL T (bK q)).2 [58]=q2 at *;generalize dL T (bK q)=z at *;clear XR;have Ij:=λs r (h:tV T f (fC T q).a q=some (s,r))=>Fk hT h;generalize hc:fC T q=c at *;simp only[Tk.cells]at et;cases h1:iC T q [118,97,114] with
 |true=>
  rw[h1]at h;simp only[if_true,Option.some.injEq,Prod.mk.injEq]at h;obtain⟨rfl,rfl⟩:=h;have ht:=hct _ h1;have hw:=G4 _ h1;have e4:=λaa=>eU hT aa o.2 [59] (by simp);simp[-an,-af,Vt,et,ei,h1,ht,sH,mc,hw,en,ec,eo,e4,aj,AV.view,AV.ay,AV.au,Sm.row,ri,Sm.rows]
 |false=>
 rw[h1]at h;simp only[aaq,if_false]at h;cases h2:iC T q [108,101,116] with
 |true=>
  rw[h2]at h;simp only[if_true]at h;obtain⟨⟨x,r5⟩,h8,h9⟩:=aap.1 h;simp only[Option.some.injEq,Prod.mk.injEq]at h9;obtain⟨rfl,rfl⟩:=h9;have ht:=hct _ h2;have hw:=G4 _ h2;have e4:=λaa=>eU hT aa o.2 [61] (by simp);have e5:=ex0 hT h8;have e6:=λaa=>eU hT aa r5 [59] (by simp);have zB:E.rows [x]=[[.int .i64 x.k,.int .i64 x.n,.str x.nm,.str x.on,.int .i64 x.od,bf x.aK,.int .i64 x.a,.int .i64 x.ty.b,.int .i64 x.ty.r,.int .i64 x.ty.d,.int .i64 x.dz]]:=by simp[E.rows,E.aE]
  simp[-an,-af,Vt,et,ei,h1,h2,ht,sH,mc,hw,en,ec,eo,e4,e5,e6,aj,AV.view,AV.ay,AV.au,Sm.row,Sm.rows];simp[bf,zB]
 |false=>
 rw[h2]at h;simp only[aaq,if_false]at h;cases h3:iC T q [105,102] with
 |true=>
  rw[h3]at h;simp only[if_true]at h;obtain⟨⟨x,r5⟩,h8,h9⟩:=aap.1 h;obtain⟨⟨y,r6⟩,Bi,yN⟩:=aap.1 h9;have hw:=G4 _ h3;have e5:=ex0 hT h8;have e6:=hK _ _ _ Bi;have hv:aL (bF 9 (Sm.rows y))=true:=cP;have hvv:(bF 9 (Sm.rows y)).view=aB 9 (Sm.rows y):=rfl;have zB:E.rows [x]=[[.int .i64 x.k,.int .i64 x.n,.str x.nm,.str x.on,.int .i64 x.od,bf x.aK,.int .i64 x.a,.int .i64 x.ty.b,.int .i64 x.ty.r,.int .i64 x.ty.d,.int .i64 x.dz]]:=by simp[E.rows,E.aE]
  generalize bF 9 (Sm.rows y)=vy at *;have Tu:=iH hv;have NQ:=cD hv;have ej:=λaa=>ji hT aa r6 [101,108,115,101] (by simp);dsimp only at yN;cases h4:iC T r6 [101,108,115,101] with
  |false=>
   rw[h4]at yN;simp only[aaq,if_false,Option.some.injEq,Prod.mk.injEq]at yN;obtain⟨rfl,rfl⟩:=yN;simp[-an,-af,Vt,et,ei,h1,h2,h3,sH,mc,hw,e5,e6,ej,h4,hv,hvv,aj,AV.view,AV.ay,AV.au,Sm.row,Sm.rows];simp[bf,zB]
  |true=>
   rw[h4]at yN;simp only[if_true]at yN;obtain⟨⟨w,r8⟩,tX,Cw⟩:=aap.1 yN;simp only[Option.some.injEq,Prod.mk.injEq]at Cw;obtain⟨rfl,rfl⟩:=Cw;have hw6:IntKind.i64.wrap ((r6.at_:Int)+1)=((r6.at_+1:Nat):Int):=by
    have:=(bu h4).2;rw[cI]<;>omega
   have e8:=hK _ _ _ tX;have hu:aL (bF 9 (Sm.rows w))=true:=cP;have huv:(bF 9 (Sm.rows w)).view=aB 9 (Sm.rows w):=rfl;generalize bF 9 (Sm.rows w)=vw at *;have huc:=iH hu;have hup:=cD hu;simp[-an,-af,Vt,et,ei,h1,h2,h3,sH,mc,hw,hw6,e5,e6,ej,h4,e8,hv,hvv,hu,huv,aj,AV.view,AV.ay,AV.au,Sm.row];simp[bf,zB]
 |false=>
 rw[h3]at h;simp only[aaq,if_false]at h;cases h4:iC T q [119,104,105,108,101] with
 |true=>
  rw[h4]at h;simp only[if_true]at h;obtain⟨⟨x,r5⟩,h8,h9⟩:=aap.1 h;obtain⟨⟨y,r6⟩,Bi,yN⟩:=aap.1 h9;simp only[Option.some.injEq,Prod.mk.injEq]at yN;obtain⟨rfl,rfl⟩:=yN;have hw:=G4 _ h4;have e5:=ex0 hT h8;have e6:=hK _ _ _ Bi;have hv:aL (bF 9 (Sm.rows y))=true:=cP;have hvv:(bF 9 (Sm.rows y)).view=aB 9 (Sm.rows y):=rfl;have zB:E.rows [x]=[[.int .i64 x.k,.int .i64 x.n,.str x.nm,.str x.on,.int .i64 x.od,bf x.aK,.int .i64 x.a,.int .i64 x.ty.b,.int .i64 x.ty.r,.int .i64 x.ty.d,.int .i64 x.dz]]:=by simp[E.rows,E.aE]
  generalize bF 9 (Sm.rows y)=vy at *;have Tu:=iH hv;have NQ:=cD hv;simp[-an,-af,Vt,et,ei,h1,h2,h3,h4,sH,mc,hw,e5,e6,hv,hvv,aj,AV.view,AV.ay,AV.au,Sm.row,Sm.rows];simp[bf,zB]
 |false=>
 rw[h4]at h;simp only[aaq,if_false]at h;cases h5:iC T q [114,101,116,117,114,110] with
 |true=>
  rw[h5]at h;simp only[if_true]at h;have hw:=G4 _ h5;have ej:=λaa=>ji hT aa (bK q) [59] (by simp);cases h6:iC T (bK q) [59] with
  |true=>
   rw[h6]at h;simp only[if_true,Option.some.injEq,Prod.mk.injEq]at h;obtain⟨rfl,rfl⟩:=h;have e4:=λaa=>eU hT aa (bK q) [59] (by simp);simp[-an,-af,Vt,et,ei,h1,h2,h3,h4,h5,sH,mc,hw,ej,h6,e4,aj,AV.view,AV.ay,AV.au,Sm.row,ri,Sm.rows]
  |false=>
   rw[h6]at h;simp only[aaq,if_false]at h;obtain⟨⟨x,r5⟩,h8,h9⟩:=aap.1 h;simp only[Option.some.injEq,Prod.mk.injEq]at h9;obtain⟨rfl,rfl⟩:=h9;have e5:=ex0 hT h8;have e4:=λaa=>eU hT aa r5 [59] (by simp);have zB:E.rows [x]=[[.int .i64 x.k,.int .i64 x.n,.str x.nm,.str x.on,.int .i64 x.od,bf x.aK,.int .i64 x.a,.int .i64 x.ty.b,.int .i64 x.ty.r,.int .i64 x.ty.d,.int .i64 x.dz]]:=(by simp[E.rows,E.aE]);simp[-an,-af,Vt,et,ei,h1,h2,h3,h4,h5,sH,mc,hw,ej,h6,e5,e4,aj,AV.view,AV.ay,AV.au,Sm.row,Sm.rows];simp[bf,zB]
 |false=>
 rw[h5]at h;simp only[aaq,if_false]at h;cases h6:iC T q [112,114,105,110,116] with
 |true=>
  rw[h6]at h;simp only[if_true]at h;obtain⟨⟨x,r5⟩,h8,h9⟩:=aap.1 h;simp only[Option.some.injEq,Prod.mk.injEq]at h9;obtain⟨rfl,rfl⟩:=h9;have hw:=G4 _ h6;have e5:=ex0 hT h8;have e4:=λaa=>eU hT aa r5 [59] (by simp);have zB:E.rows [x]=[[.int .i64 x.k,.int .i64 x.n,.str x.nm,.str x.on,.int .i64 x.od,bf x.aK,.int .i64 x.a,.int .i64 x.ty.b,.int .i64 x.ty.r,.int .i64 x.ty.d,.int .i64 x.dz]]:=by simp[E.rows,E.aE]
  simp[-an,-af,Vt,et,ei,h1,h2,h3,h4,h5,h6,sH,mc,hw,e5,e4,aj,AV.view,AV.ay,AV.au,Sm.row,Sm.rows];simp[bf,zB]
 |false=>
  rw[h6]at h;simp only[aaq,if_false]at h;have e1:=Ij _ _ h;rw[Sm.aE]at e1 ⊢;simp[-an,-af,Vt,et,ei,h1,h2,h3,h4,h5,h6,e1,aj,AV.view,AV.ay,AV.au]
theorem We:∀f,C2 l T f/\OkK l T f:=by
 intro f;induction f using agM with
 |_ f ih=>
  cases f with
  |zero=>
   refine⟨?_,?_⟩;intro q e r h;simp[wo]at h;intro q e r h;simp[ki]at h
  |succ f=>
   exact⟨AM hT f (ih f (by omega)).2,m9 hT f λg h=>(ih g (by omega)).1⟩
theorem Jh{f:Nat}{q r:RQ}{s:List Sm}(h:ki T f q=some (s,r))(aa:Nat):(aP S).call 0 aa 68 [.ptr 0 0 0 0] [q.aZ l]=some (bF 9 (Sm.rows s),[r.aZ l]):=(We hT f).2 q s r h aa
end
end N7
namespace N7
open Ax Go aF V7 jw
section
variable {l:AV}{T:List Tk}(hT:TL l T)
include hT
theorem RI{f:Nat}{q rr:RQ}{rc:Rc}(h:rj T f q=some (rc,rr))(aa:Nat):(aP S).call 0 aa 36 [.ptr 0 0 0 0] [q.aZ l]=some (.agg rc.row,[rr.aZ l]):=by
 have hlen:=hT.len;have et:=λaa=>nL hT aa q;have en:=λaa=>oy hT aa q;have e2:=λaa=>eU hT aa (dL T q).2 [123] (by simp);unfold rj at h;obtain⟨⟨fs,r0⟩,h1,h2⟩:=aap.1 h;simp only[Option.some.injEq,Prod.mk.injEq]at h2;obtain⟨rfl,rfl⟩:=h2;generalize dn T (dL T q).2 [123]=q2 at *;generalize dL T q=z at *;generalize fC T q=c at *;simp only[Tk.cells]at et;refine aO (sf:=s36) rfl rfl rfl ?_;simp[-an,-af,s36,et,en,e2,aj,AV.view];refine aT US.eq_1 (λx:RQ×List PD×Nat=>⟨[(0,.val (.ptr 0 0 0 0)),(2,.fp 0 0),(3,.fp 1 0)],[[.str [],.U,.int .i64 0],[.str z.1,bF 4 (x.2.1.map PD.cells),.int .i64 c.a]],[RQ.aZ l x.1]⟩)
  (λx=>x.2.1.length<=T.length+1/\(x.1.fe=0->x.2.1.length<=x.1.at_/\x.2.1.length<=T.length)/\mE T x.2.2 x.2.1 x.1=some (fs,r0)) (λx=>x.2.2) (q2,[],f) rfl ⟨by simp,by simp,h1⟩ ?_
 rintro⟨s,ps,g⟩ ⟨zN,hl0,hp⟩ ih;simp only at zN hl0 hp ih;have ek:=λaa=>gw (l:=l) aa s;have ei:=λaa=>ji hT aa s [125] (by simp);have ec:=λaa=>eU hT aa r0 [125] (by simp);cases g with
 |zero=>simp[mE]at hp|succ g=>
  unfold mE at hp;by_cases f0:s.fe=0;cases hi:iC T s [125] with
  |true=>
   rw[if_neg (by rw[hi];simp)]at hp;simp only[Option.some.injEq,Prod.mk.injEq]at hp;obtain⟨rfl,rfl⟩:=hp;simp[-an,-af,ek,f0,ei,hi,ec,aj,AV.view,AV.ay,AV.au,Rc.row,aB]
  |false=>
   rw[if_pos ⟨f0,hi⟩]at hp;have Jg:=λaa=>nL hT aa s;have aiS:=hl0 f0;have e3:=λaa=>Fj hT aa s;have e4:=λaa=>eU hT aa (dM T s).2 [59] (by simp);simp only[PD.cells]at e3;have nC:=eB (sz:=4) (bytes:=48) (r:=ps.map PD.cells) (new:=[(dM T s).1.cells]) (by simp[bw,PD.cells]) (by simp[dQ];omega);have w2:=(vN (T:=T) (q:=s)).trans (bn (s:=[59]));have hg2:=(jh (T:=T) (q:=s)).trans (bn (s:=[59]));by_cases h8:(fC T s).k=1/\ps.length=8;rw[if_pos h8]at hp;simp only[Option.some.injEq,Prod.mk.injEq]at hp;obtain⟨rfl,rfl⟩:=hp;have ef:=λaa=>rz hT aa s 4;obtain⟨h8,h9⟩:=h8;generalize fC T s=c2 at *;simp only[Tk.cells,h8]at Jg;simp[-an,-af,ek,f0,ei,hi,Jg,h9,ef,ec,aj,AV.view,AV.ay,AV.au,Rc.row,aB];rw[if_neg h8]at hp;have fA:=ih (dn T (dM T s).2 [59],ps++[(dM T s).1],g) ⟨by simp;omega,λf=>by
    have hle:=hg2.le;rcases w2 with w|⟨w,v⟩;exact absurd f w;simp;omega,hp⟩ (by simp only;omega)
   simp only[abT,abh,ad5]at fA;generalize dn T (dM T s).2 [59]=s4 at *;generalize dM T s=p at *;generalize fC T s=c2 at *;simp only[PD.cells]at nC fA;simp only[Tk.cells]at Jg;by_cases hk:c2.k=1;have h9:¬(ps.length:Int)=8:=λh=>h8 ⟨hk,by omega⟩;simp[-an,-af,ek,f0,ei,hi,Jg,hk,h9,e3,e4,nC,aN,bp,aj,AV.view,AV.ay,AV.au];exact fA;simp[-an,-af,ek,f0,ei,hi,Jg,hk,e3,e4,nC,aN,bp,aj,AV.view,AV.ay,AV.au];exact fA
  rw[if_neg (λh=>f0 h.1)]at hp;simp only[Option.some.injEq,Prod.mk.injEq]at hp;obtain⟨rfl,rfl⟩:=hp;simp[-an,-af,ek,f0,ec,aj,AV.view,AV.ay,AV.au,Rc.row,aB]
def tl:aX->aX
 |.seq _ b=>b|c=>c
theorem aac{f:Nat}{q rr:RQ}{fc:Fc}(h:xz T f q=some (fc,rr))(aa:Nat):(aP S).call 0 aa 39 [.ptr 0 0 0 0] [q.aZ l]=some (.agg fc.row,[rr.aZ l]):=by
 have hlen:=hT.len;have et:=λaa=>nL hT aa q;have en:=λaa=>oy hT aa q;have e2:=λaa=>eU hT aa (dL T q).2 [40] (by simp);unfold xz at h;obtain⟨⟨fs,r0⟩,h1,h2⟩:=aap.1 h;dsimp only at h2;generalize dn T (dL T q).2 [40]=q2 at *;generalize dL T q=z at *;generalize fC T q=c at *;simp only[Tk.cells]at et;refine aO (sf:=s39) rfl rfl rfl ?_;simp[-an,-af,s39,et,en,e2,aj,AV.view];refine aT UT.eq_1 (λx:RQ×List PD×Nat=>⟨[(0,.val (.ptr 0 0 0 0)),(2,.fp 0 0),(3,.fp 1 0)],[[.str [],.U,.bool false,.str [],.int .i64 0,.U,.int .i64 0],[.str z.1,bF 4 (x.2.1.map PD.cells),.bool false,.str [],.int .i64 0,.U,.int .i64 c.a]],[RQ.aZ l x.1]⟩)
  (λx=>x.2.1.length<=T.length+1/\(x.1.fe=0->x.2.1.length<=x.1.at_/\x.2.1.length<=T.length)/\mF T x.2.2 x.2.1 x.1=some (fs,r0)) (λx=>x.2.2) (q2,[],f) rfl ⟨by simp,by simp,h1⟩ ?_
 rintro⟨s,ps,g⟩ ⟨zN,hl0,hp⟩ ih;simp only at zN hl0 hp ih;have ek:=λaa=>gw (l:=l) aa s;have ei:=λaa=>ji hT aa s [41] (by simp);have out :
   W S 0 1 [.box 2 0 7 true] (CU [.box 2 0 7 true] Ax.Mode.oP [RQ.aZ l q] (.agg fc.row,[RQ.aZ l rr])) [.code (tl (tl (tl (tl (tl s39.body)))))] .normal
    ⟨[(0,.val (.ptr 0 0 0 0)),(2,.fp 0 0),(3,.fp 1 0)],[[.str [],.U,.bool false,.str [],.int .i64 0,.U,.int .i64 0],[.str z.1,bF 4 (fs.map PD.cells),.bool false,.str [],.int .i64 0,.U,.int .i64 c.a]],[RQ.aZ l r0]⟩:=by
  have e4:=λaa=>eU hT aa r0 [41] (by simp);generalize dn T r0 [41]=r4 at *;have e5:=λaa=>ji hT aa r4 [58] (by simp);cases h5:iC T r4 [58] with
  |false=>
   rw[h5]at h2;simp only[aaq,if_false]at h2;obtain⟨⟨b,r6⟩,h6,h7⟩:=aap.1 h2;simp only[Option.some.injEq,Prod.mk.injEq]at h7;obtain⟨rfl,rfl⟩:=h7;have e6:=Jh hT h6;have hv:aL (bF 9 (Sm.rows b))=true:=cP;have hvv:(bF 9 (Sm.rows b)).view=bN b:=rfl;generalize bF 9 (Sm.rows b)=vb at *;have Tu:=iH hv;have NQ:=cD hv;simp[-an,-af,s39,tl,e4,e5,h5,e6,hv,hvv,aj,AV.view,AV.ay,AV.au,Fc.row,aB]
  |true=>
   rw[h5]at h2;simp only[if_true]at h2;obtain⟨⟨b,r6⟩,h6,h7⟩:=aap.1 h2;simp only[Option.some.injEq,Prod.mk.injEq]at h7;obtain⟨rfl,rfl⟩:=h7;have i2:=(bu h5).2;have hw:=wk r4.at_ (by omega);have e7:=λaa=>xH hT aa (bK r4);generalize zi T (bK r4)=o at *;have e6:=Jh hT h6;have hv:aL (bF 9 (Sm.rows b))=true:=cP;have hvv:(bF 9 (Sm.rows b)).view=bN b:=rfl;generalize bF 9 (Sm.rows b)=vb at *;have Tu:=iH hv;have NQ:=cD hv;simp[-an,-af,s39,tl,e4,e5,h5,sH,mc,hw,e7,e6,hv,hvv,aj,AV.view,AV.ay,AV.au,Fc.row,aB]
 simp only[s39,tl]at out;cases g with
 |zero=>simp[mF]at hp|succ g=>
  unfold mF at hp;by_cases f0:s.fe=0;cases hi:iC T s [41] with
  |true=>
   rw[if_neg (by rw[hi];simp)]at hp;simp only[Option.some.injEq,Prod.mk.injEq]at hp;obtain⟨rfl,rfl⟩:=hp;simp[-an,-af,ek,f0,ei,hi]at out ⊢;exact out
  |false=>
   rw[if_pos ⟨f0,hi⟩]at hp;have Jg:=λaa=>nL hT aa s;have aiS:=hl0 f0;have e3:=λaa=>Fj hT aa s;simp only[PD.cells]at e3;have nC:=eB (sz:=4) (bytes:=48) (r:=ps.map PD.cells) (new:=[(dM T s).1.cells]) (by simp[bw,PD.cells]) (by simp[dQ];omega);have w2:=(vN (T:=T) (q:=s)).trans sD;have hg2:=(jh (T:=T) (q:=s)).trans sD;by_cases h8:(fC T s).k=1/\ps.length=6;rw[if_pos h8]at hp;simp only[Option.some.injEq,Prod.mk.injEq]at hp;obtain⟨rfl,rfl⟩:=hp;have ef:=λaa=>rz hT aa s 4;obtain⟨h8,h9⟩:=h8;generalize fC T s=c2 at *;simp only[Tk.cells,h8]at Jg;simp[-an,-af,ek,f0,ei,hi,Jg,h9,ef,AV.view]at out ⊢;exact out;rw[if_neg h8]at hp;have fA:=ih (E2 T (dM T s).2,ps++[(dM T s).1],g) ⟨by simp;omega,λf=>by
    have hle:=hg2.le;rcases w2 with w|⟨w,v⟩;exact absurd f w;simp;omega,hp⟩ (by simp only;omega)
   simp only[abT,abh,ad5]at fA;clear hg2 w2 hp ih out;generalize dM T s=p at *;have e9:=λaa=>ji hT aa p.2 [41] (by simp);have e10:=λaa=>eU hT aa p.2 [44] (by simp);have e11:=λaa=>ji hT aa (dn T p.2 [44]) [41] (by simp);have e12:=λaa=>rz hT aa (dn T p.2 [44]) 2;unfold E2 at fA;generalize dn T p.2 [44]=s4 at *;generalize fC T s=c2 at *;simp only[PD.cells]at nC fA;simp only[Tk.cells]at Jg;by_cases hk:c2.k=1;have h9:¬(ps.length:Int)=6:=λh=>h8 ⟨hk,by omega⟩;cases h3:iC T p.2 [41] with
   |true=>
    rw[h3,if_pos rfl]at fA;simp[-an,-af,ek,f0,ei,hi,Jg,hk,h9,e3,e9,h3,nC,aN,bp,aj,AV.view,AV.ay,AV.au];exact fA
   |false=>
    rw[h3,if_neg (by simp)]at fA;cases h4:iC T s4 [41] with
    |true=>
     rw[h4,if_pos rfl]at fA;simp[-an,-af,ek,f0,ei,hi,Jg,hk,h9,e3,e9,h3,e10,e11,h4,e12,nC,aN,bp,aj,AV.view,AV.ay,AV.au];exact fA
    |false=>
     rw[h4,if_neg (by simp)]at fA;simp[-an,-af,ek,f0,ei,hi,Jg,hk,h9,e3,e9,h3,e10,e11,h4,nC,aN,bp,aj,AV.view,AV.ay,AV.au];exact fA
   cases h3:iC T p.2 [41] with
   |true=>
    rw[h3,if_pos rfl]at fA;simp[-an,-af,ek,f0,ei,hi,Jg,hk,e3,e9,h3,nC,aN,bp,aj,AV.view,AV.ay,AV.au];exact fA
   |false=>
    rw[h3,if_neg (by simp)]at fA;cases h4:iC T s4 [41] with
    |true=>
     rw[h4,if_pos rfl]at fA;simp[-an,-af,ek,f0,ei,hi,Jg,hk,e3,e9,h3,e10,e11,h4,e12,nC,aN,bp,aj,AV.view,AV.ay,AV.au];exact fA
    |false=>
     rw[h4,if_neg (by simp)]at fA;simp[-an,-af,ek,f0,ei,hi,Jg,hk,e3,e9,h3,e10,e11,h4,nC,aN,bp,aj,AV.view,AV.ay,AV.au];exact fA
  rw[if_neg (λh=>f0 h.1)]at hp;simp only[Option.some.injEq,Prod.mk.injEq]at hp;obtain⟨rfl,rfl⟩:=hp;simp[-an,-af,ek,f0]at out ⊢;exact out
end
end N7
namespace N7
open Ax Go aF V7 jw
def anK(r:List AV):Tk:=match r with | [.int _ k,.str t,.int _ n,.int _ a]=>⟨k,t,n,a⟩|_=>Tk0
def sI(rows:List (List AV)):List Tk:=rows.map anK
def oG(s:List UInt8):Pg×Int×Int:=if s.length<=6000 then match U2.Gi s with
  |(rows,none)=>(vK (sI rows) (40*(sI rows).length+100)).getD (Dr,0,0)|(_,some e)=>(Dr,1,e)
 else (Dr,4,0)
theorem aad(a:Nat)(l:List UInt8):(U2.tU a l).2≠0->∃x:Tk,(U2.tU a l).1=x.cells/\x.a=a:=by
 have mk:∀k t n,∃x:Tk,U2.wE k t n a=x.cells/\x.a=a:=λk t n=>⟨⟨k,t,n,a⟩,rfl,rfl⟩;unfold U2.tU;split;intro h;exact absurd rfl h;split;unfold U2.tA;split;exact λ_=>mk _ _ _;split;exact λ_=>mk _ _ _;intro h;exact absurd rfl h;split;unfold U2.vG;split;intro h;exact absurd rfl h;split;intro h;exact absurd rfl h;exact λ_=>mk _ _ _;unfold U2.vH;split;intro h;exact absurd rfl h;exact λ_=>mk _ _ _
theorem LA:∀(n a:Nat)(l:List UInt8)(rows:List (List AV)),U2.zK n a l=(rows,none)->(∀r∈rows,∃x:Tk,r=x.cells/\0<=x.a/\x.a<=a+l.length)/\rows.length<=n
 |0,_,_,rows,h=>by
  simp only[U2.zK,Prod.mk.injEq,and_true]at h;subst h;exact⟨by simp,aaH _⟩
 |n+1,a,[],rows,h=>by
  simp only[U2.zK,Prod.mk.injEq,and_true]at h;subst h;exact⟨by intro r hr;rw[List.mem_singleton]at hr;subst hr;exact⟨⟨0,[],0,a⟩,rfl,by simp,by simp⟩,by simp⟩
 |n+1,a,c::l,rows,h=>by
  simp only[U2.zK]at h;have hle:=U2.Px a (c::l);have ha:=aad a (c::l);generalize U2.tU a (c::l)=z at *;obtain⟨t,k⟩:=z;cases k with
  |zero=>simp at h|succ k=>
   simp only at h ha hle;generalize hy:U2.zK n _ _=y at h;obtain⟨r2,e⟩:=y;cases e with
   |some e=>simp at h|none=>
    simp only[Prod.mk.injEq,and_true]at h;subst h;obtain⟨h1,h2⟩:=LA n _ _ _ hy;refine⟨λr hr=>?_,by simp;omega⟩;rcases List.mem_cons.1 hr with e|e;subst e;obtain⟨x,hx,hxa⟩:=ha (by omega);exact⟨x,hx,by omega,by simp only[abq];omega⟩;obtain⟨x,h3,h4,h5⟩:=h1 r e;have hb:=U2.AD ((c::l).drop (k+1));simp only[acf,abq]at h5 hb hle;refine⟨x,h3,h4,?_⟩;simp only[abq];omega
theorem Ji{s:List UInt8}{rows:List (List AV)}(h:U2.Gi s=(rows,none)):(∀r∈rows,∃x:Tk,r=x.cells/\0<=x.a/\x.a<=s.length)/\rows.length<=s.length+1:=by
 unfold U2.Gi at h;obtain⟨h1,h2⟩:=LA _ _ _ _ h;have hb:=U2.AD s;refine⟨λr hr=>?_,h2⟩;obtain⟨x,h3,h4,h5⟩:=h1 r hr;rw[acf]at h5;exact⟨x,h3,h4,by omega⟩
theorem Wf{rows:List (List AV)}{N:Int}(h:∀r∈rows,∃x:Tk,r=x.cells/\0<=x.a/\x.a<=N):rows=(sI rows).map Tk.cells:=by
 unfold sI;rw[ab4];conv=>lhs;rw[<-List.map_id rows]
 refine ab1 λr hr=>?_;obtain⟨x,hx,_⟩:=h r hr;subst hx
 rfl
theorem ad8{rows:List (List AV)}{N:Int}(h:∀r∈rows,∃x:Tk,r=x.cells/\0<=x.a/\x.a<=N):∀x∈sI rows,0<=x.a/\x.a<=N:=by
 intro x hx;obtain⟨r,hr,rfl⟩:=aa5.1 hx;obtain⟨y,hy,h1,h2⟩:=h r hr;subst hy;exact⟨h1,h2⟩
theorem aae(wl aa:Nat)(s:List UInt8)(st:ag):(aP S).call wl aa 15 [.str s] st=some (.ir [.agg (oG s).1.row,.agg [.int .i64 (oG s).2.1,.int .i64 (oG s).2.2]],st):=by
 have etk:=λwl aa st=>U2.Rl wl aa s st;refine aH (sf:=wH) rfl rfl (by simp) rfl (by simp[Pg.row,AV.ay,AV.au]) ?_;have zero:∀e a:Int,e≠0->oG s=(Dr,e,a)->U2.I1 s=(.U,[.int .i64 e,.int .i64 a])->W S 0 0 wH.results (K3 wH.results (.ir [.agg (oG s).1.row,.agg [.int .i64 (oG s).2.1,.int .i64 (oG s).2.2]])) [.code wH.body] .normal (qM wH [.str s] []):=λe a he h1 h2=>by
  rw[h1];rw[h2]at etk;simp[wH,etk,he,aN,bp,dG.aI,Pg.row,Dr]
 by_cases hl:s.length<=6000
 ·have htv:U2.I1 s=U2.Li (U2.Gi s):=by unfold U2.I1;rw[U2.pT,decide_eq_true hl,if_pos rfl]
  have YL:oG s=match U2.Gi s with|(rows,none)=>(vK (sI rows) (40*(sI rows).length+100)).getD (Dr,0,0)|(_,some e)=>(Dr,1,(e:Int)):=by unfold oG;rw[if_pos hl]
  generalize htp:U2.Gi s=z at *;obtain⟨rows,e⟩:=z;cases e with
  |some e=>exact zero 1 e (by decide) YL htv|none=>
   obtain⟨jZ,hlen⟩:=Ji htp;have K0:=Wf jZ;simp only[U2.Li]at htv;simp only at YL;have Bn:(sI rows).length=rows.length:=(by simp[sI]);obtain⟨x,hx⟩:=xB (sI rows);rw[hx,aeR]at YL;clear zero;generalize sI rows=T at *;have hT:TL (bF 4 rows) T:=⟨by
    have:bw 4 rows=true:=by rw[K0];simp[bw,Tk.cells]
    unfold bF;split
    rfl
    simp[bY,this],by rw[qi];exact K0,by omega⟩
   rw[htv]at etk;have aiU:=hT.sl;generalize bF 4 rows=l at *;rw[YL];unfold vK at hx;obtain⟨⟨p,r0⟩,h1,h2⟩:=aap.1 hx;simp only[Option.some.injEq]at h2;subst h2;simp[-an,-af,wH,etk,aiU,aj,AV.view];have mU:TL l.view T:=⟨by rw[He];exact hT.sz,by rw[EF];exact hT.rows,hT.len⟩;have apy:=hT.len;generalize l.view=lv at *;refine aT UD.eq_1 (λx:RQ×Pg×Nat=>⟨[(2,.fp 0 0),(3,.fp 1 0),(6,.val (.ptr 0 0 0 0)),(7,.fp 3 0)],
     [[.U,.U,.U],[.int .i64 0,.int .i64 0],[.int .i64 0,.int .i64 0],[bF 3 (x.2.1.aD.map Rc.row),bF 4 (x.2.1.globals.map PD.cells),bF 7 (x.2.1.funcs.map Fc.row)]],[RQ.aZ lv x.1]⟩)
    (λx=>x.2.1.aD.length<=12/\x.2.1.globals.length<=8/\x.2.1.funcs.length<=16/\qj T x.2.2 x.2.1 x.1=some (p,r0)) (λx=>x.2.2) (⟨0,0,0,0⟩,Dr,_) rfl ⟨by simp[Dr],by simp[Dr],by simp[Dr],h1⟩ ?_
   rintro⟨u,⟨rs,gs,fs⟩,g⟩ ⟨b1,b2,b3,hp⟩ ih;simp only at b1 b2 b3 hp ih;clear h1 YL jZ K0 etk aiU hT hlen Bn htv htp;have hT:=mU;have ek:=λaa=>gw (l:=lv) aa u;have et:=λaa=>nL hT aa u;have i1:=λaa=>ji hT aa u [114,101,99,111,114,100] (by simp);have i2:=λaa=>ji hT aa u [103,108,111,98,97,108] (by simp);have i3:=λaa=>ji hT aa u [102,117,110,99] (by simp);cases g with
   |zero=>simp[qj]at hp|succ g=>
    unfold qj at hp;simp only[adV,VN,VO]at hp;by_cases f0:u.fe=0
    ·by_cases k0:(fC T u).k=0;rw[if_neg (λh=>h.2 k0)]at hp;simp only[Option.some.injEq,Prod.mk.injEq]at hp;obtain⟨rfl,rfl⟩:=hp;rw[if_pos f0];generalize fC T u=c at *;simp only[Tk.cells]at et;simp[-an,-af,ek,f0,et,k0,aj,AV.view,Pg.row,aB]
     ·rw[if_pos ⟨f0,k0⟩]at hp;have M6:=vL k0;have hw:=wk u.at_ (by omega);have ef:=λaa e=>rz hT aa u e;have ad9:∀s t:List UInt8,s≠t->iC T u s=true->iC T u t=false:=λs t jJ h=>by
       cases h2:iC T u t with
       |false=>rfl|true=>exact absurd ((Hq h).symm.trans (Hq h2)) jJ
      cases q1:iC T u [114,101,99,111,114,100] with
      |true=>
       have q2:=ad9 _ [103,108,111,98,97,108] (by decide) q1;have q3:=ad9 _ [102,117,110,99] (by decide) q1;simp only[q1,q2,q3,true_and,aaq,false_and,or_false,if_true,if_false]at hp;by_cases m1:rs.length=12;rw[if_pos m1]at hp;have fA:=ih (jr T u 4,⟨rs,gs,fs⟩,g) ⟨b1,b2,b3,hp⟩ (by simp only;omega);generalize fC T u=c at *;simp only[Tk.cells]at et;simp[-an,-af,ek,f0,et,k0,i1,q1,m1,ef];exact fA;rw[if_neg m1]at hp;obtain⟨⟨x,r2⟩,h3,h4⟩:=aap.1 hp;have e3:=RI hT h3;have m1':¬(rs.length:Int)=12:=(by omega);have nC:=eB (sz:=3) (bytes:=48) (r:=rs.map Rc.row) (new:=[x.row]) (by simp[bw,Rc.row]) (by simp[dQ];omega);have fA:=ih (r2,⟨rs++[x],gs,fs⟩,g) ⟨by simp;omega,b2,b3,h4⟩ (by simp only;omega);simp only[abT,abh,ad5]at fA;simp only[Rc.row]at e3 nC fA;generalize fC T u=c at *;simp only[Tk.cells]at et;simp[-an,-af,ek,f0,et,k0,i1,q1,i2,q2,i3,q3,m1',sH,mc,hw,e3,nC,aN,bp,aj,AV.view];exact fA
      |false=>
      cases q2:iC T u [103,108,111,98,97,108] with
      |true=>
       have q3:=ad9 _ [102,117,110,99] (by decide) q2;simp only[q1,q2,q3,true_and,aaq,false_and,false_or,or_false,if_true,if_false]at hp;by_cases m1:gs.length=8;rw[if_pos m1]at hp;have fA:=ih (jr T u 4,⟨rs,gs,fs⟩,g) ⟨b1,b2,b3,hp⟩ (by simp only;omega);generalize fC T u=c at *;simp only[Tk.cells]at et;simp[-an,-af,ek,f0,et,k0,i1,q1,i2,q2,m1,ef];exact fA;rw[if_neg m1]at hp;have e3:=λaa=>Fj hT aa (bK u);have e4:=λaa=>eU hT aa (dM T (bK u)).2 [59] (by simp);have m1':¬(gs.length:Int)=8:=(by omega);have nC:=eB (sz:=4) (bytes:=48) (r:=gs.map PD.cells) (new:=[(dM T (bK u)).1.cells]) (by simp[bw,PD.cells]) (by simp[dQ];omega);have fA:=ih (dn T (dM T (bK u)).2 [59],⟨rs,gs++[(dM T (bK u)).1],fs⟩,g) ⟨b1,by simp;omega,b3,hp⟩ (by simp only;omega);simp only[abT,abh,ad5]at fA;generalize dn T (dM T (bK u)).2 [59]=r4 at *;generalize dM T (bK u)=pp at *;simp only[PD.cells]at e3 nC fA;generalize fC T u=c at *;simp only[Tk.cells]at et;simp[-an,-af,ek,f0,et,k0,i1,q1,i2,q2,i3,q3,m1',sH,mc,hw,e3,e4,nC,aN,bp,aj,AV.view];exact fA
      |false=>
      cases q3:iC T u [102,117,110,99] with
      |true=>
       simp only[q1,q2,q3,true_and,aaq,false_and,false_or,if_true,if_false]at hp;by_cases m1:fs.length=16;rw[if_pos m1]at hp;have fA:=ih (jr T u 4,⟨rs,gs,fs⟩,g) ⟨b1,b2,b3,hp⟩ (by simp only;omega);generalize fC T u=c at *;simp only[Tk.cells]at et;simp[-an,-af,ek,f0,et,k0,i1,q1,i2,q2,i3,q3,m1,ef];exact fA;rw[if_neg m1]at hp;obtain⟨⟨x,r2⟩,h3,h4⟩:=aap.1 hp;have e3:=aac hT h3;have m1':¬(fs.length:Int)=16:=(by omega);have nC:=eB (sz:=7) (bytes:=104) (r:=fs.map Fc.row) (new:=[x.row]) (by simp[bw,Fc.row]) (by simp[dQ];omega);have fA:=ih (r2,⟨rs,gs,fs++[x]⟩,g) ⟨b1,b2,by simp;omega,h4⟩ (by simp only;omega);simp only[abT,abh,ad5]at fA;simp only[Fc.row]at e3 nC fA;generalize fC T u=c at *;simp only[Tk.cells]at et;simp[-an,-af,ek,f0,et,k0,i1,q1,i2,q2,i3,q3,m1',sH,mc,hw,e3,nC,aN,bp,aj,AV.view];exact fA
      |false=>
       simp only[q1,q2,q3,aaq,false_and,or_self,if_false]at hp;have fA:=ih (jr T u 2,⟨rs,gs,fs⟩,g) ⟨b1,b2,b3,hp⟩ (by simp only;omega);generalize fC T u=c at *;simp only[Tk.cells]at et;simp[-an,-af,ek,f0,et,k0,i1,q1,i2,q2,i3,q3,ef];exact fA
    rw[if_neg (λh=>f0 h.1)]at hp;simp only[Option.some.injEq,Prod.mk.injEq]at hp;obtain⟨rfl,rfl⟩:=hp;rw[if_neg f0];have ea:∀aa bx,aU 0 aa (.load true 2 false) [.val (.ptr 0 0 0 3)] [RQ.aZ lv u] bx=some (.val (.agg [.int .i64 u.fe,.int .i64 u.fa]),[RQ.aZ lv u],bx):=λaa bx=>by simp[RQ.aZ,cut,AV.view]
    simp[-an,-af,ek,f0,ea,aN,bp,dG.aI,aj,AV.view,Pg.row,Dr]
 exact zero 4 0 (by decide) (by unfold oG;rw[if_neg hl]) (by unfold U2.I1;rw[U2.pT,decide_eq_false hl];rfl)
end N7
namespace N7
open Ax Go aF V7 jw U7
theorem Wg(s:List UInt8):Pg.In 6000 (oG s).1/\(oG s).1.few:=by
 unfold oG;split;rename_i hl;generalize htp:U2.Gi s=z;obtain⟨rows,e⟩:=z;cases e with
 |some e=>exact⟨I7,Ds⟩|none=>
  obtain⟨jZ,hlen⟩:=Ji htp;obtain⟨x,hx⟩:=xB (sI rows);simp only;rw[hx,aeR];exact Rt ⟨by decide,λy hy=>by
   have:=ad8 jZ y hy;omega⟩ hx
 exact⟨I7,Ds⟩
def kO(p:Pg):GD:=⟨aB 3 (p.aD.map Rc.row),aB 4 (p.globals.map PD.cells),aB 7 (p.funcs.map Fc.row)⟩
theorem AN{sz:Nat}{r:List (List AV)}:fZ (aB sz r)=true:=by simp[aB]
theorem xI{a:Int}(h:0<=a)(h2:a<=6000):pU a=true:=by simp only[pU,Bool.and_eq_true,decide_eq_true_eq];omega
theorem yy{sz:Nat}{r:List (List AV)}(h:bw sz r=true):bY sz (aB sz r)=true:=by
 cases r with
 |nil=>rfl|cons a r=>simp[bY,h]
theorem Fl{l:List PD}(h:∀p∈l,I6 6000 p):CW (aB 4 (l.map PD.cells))=true:=by
 unfold CW fj;rw[AN,yy (by simp[bw,PD.cells]),aM];simp only[aet,aeb,afB,aaS,Function.comp];intro p hp;obtain⟨h1,h2,h3,h4⟩:=h p hp;simp[PC,PD.cells,xI h1 (by omega),xI h3 h4]
theorem aiW{p:Pg}(h:Pg.In 6000 p):(kO p).ok:=by
 refine⟨?_,Fl h.g.2,?_⟩;unfold EZ fj;show (fZ (aB 3 (p.aD.map Rc.row))&&bY 3 (aB 3 (p.aD.map Rc.row))&&(aJ (aB 3 (p.aD.map Rc.row))).all Ho)=true;rw[AN,yy (by simp[bw,Rc.row]),aM];simp only[aet,aeb,afB,aaS,Function.comp];intro r hr;have i:=h.r.2 r hr;simp[Ho,Rc.row,Fl i.f,xI i.a.1 i.a.2];unfold E1 fj;show (fZ (aB 7 (p.funcs.map Fc.row))&&bY 7 (aB 7 (p.funcs.map Fc.row))&&(aJ (aB 7 (p.funcs.map Fc.row))).all Hp)=true;rw[AN,yy (by simp[bw,Fc.row]),aM];simp only[aet,aeb,afB,aaS,Function.comp];intro r hr;have i:=h.f.2 r hr;simp[Hp,Fc.row,Fl i.f,xI i.a.1 i.a.2,xI i.od.1 (by have:=i.od.2;omega),bN,AN]
theorem pW(l:List PD):lR (aB 4 (l.map PD.cells))=l:=by
 simp only[lR,aM,ab4];conv=>rhs;rw[<-List.map_id l]
 exact ab1 λp _=>rfl
def LD(r:Rc):CR:=⟨r.name,aB 4 (r.bM.map PD.cells),r.a⟩
def C3(f:Fc):FN:=⟨f.name,aB 4 (f.params.map PD.cells),f.bg,f.on,f.od,bN f.body,f.a⟩
theorem tG(p:Pg):di (kO p).aD=p.aD.map LD:=by
 simp only[kO,di,aM,ab4];exact ab1 λp _=>rfl
theorem rA(p:Pg):fN (kO p).funcs=p.funcs.map C3:=by
 simp only[kO,fN,aM,ab4];exact ab1 λp _=>rfl
theorem Jj(p:Pg):lR (kO p).globals=p.globals:=pW _
theorem aiX{p:Pg}(h:Pg.In 6000 p):GD.sm (kO p):=by
 refine⟨?_,?_,?_,?_,?_⟩;rw[tG,abM];have:=h.r.1;omega;intro x hx;rw[tG]at hx;obtain⟨r,hr,rfl⟩:=aa5.1 hx;simp only[LD,pW];have:=(h.r.2 r hr).len;omega;rw[Jj];have:=h.g.1;omega;rw[rA,abM];have:=h.f.1;omega;intro x hx;rw[rA]at hx;obtain⟨r,hr,rfl⟩:=aa5.1 hx;simp only[C3,pW];have:=(h.f.2 r hr).len;omega
end N7
