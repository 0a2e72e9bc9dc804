/- Part of a proof. -/
import Derived.Test.YtgblgbgjmgjfkaaGreatL
import Derived.Test.YtgblgbgjmgjfkaaGreatM

open List renaming map_append->ae6,map_cons->aei,map_nil->ais,map_map->aeR,map_congr_left->aeY,mem_map->ad7,all_map->ajn,all_eq_true->ac3,length_map->aes
open Option renaming bind_eq_some_iff->ack,getD_some->ahB
open Nat renaming le_refl->acO,strongRecOn->amd
open Int renaming natCast_zero->anf,cast_ofNat_Int->ajm,natCast_add->aiH
open Bool renaming true_or->aoK,false_or->amp,or_self->anl,false_eq_true->acC,and_self->ah8,true_and->agC
set_option maxRecDepth 100000
set_option maxHeartbeats 8000000
namespace N7
open Ax Go aO V7 iQ
section
variable {l:AV}{T:List Tk}(hT:TL l T)(ah:Nat)(q:RQ)
theorem iS:(aZ S).call 0 ah 26 [.ptr 0 0 0 0] [q.bO l]=some (.bool (decide (q.fe=0)),[q.bO l]):=by
 refine aG (sf:=s26) rfl rfl rfl ?_;simp[s26,RQ.bO,cut,AV.ai]
include hT
theorem qk:(aZ S).call 0 ah 27 [.ptr 0 0 0 0] [q.bO l]=some (.agg (gD T q).cells,[q.bO l]):=by
 have k:=hT.sl;have m:=hT.sz;have j:=hT.rows;refine aG (sf:=s27) rfl rfl rfl ?_;have r:¬(q.at_:Int)<0:=by omega
 by_cases h:q.at_<T.length;have H:¬(T.length:Int)<=(q.at_:Int):=by omega
 have g:gD T q=T[q.at_]:=by simp[gD,h]
 simp[s27,RQ.bO,cut,r,h,H,k,m,j,g,Tk.cells,aD,aC,AV.ai];have H:(T.length:Int)<=(q.at_:Int):=by omega
 have g:gD T q=Tk0:=by simp[gD,List.getD,List.getElem?_eq_none (Nat.le_of_not_lt h)]
 simp[s27,RQ.bO,cut,r,H,k,j,g,Tk.cells,aD,aC,AV.ai]
theorem kI(s:List UInt8)(M:s≠[]):(aZ S).call 0 ah 28 [.ptr 0 0 0 0,.str s] [q.bO l]=some (.bool (jF T q s),[q.bO l]):=by
 have E:=λah=>qk hT ah q;have h:=λah=>iS (l:=l) ah q;cases s with
 |nil=>exact au rfl M|cons c s=>
  obtain⟨v,p⟩:∃v,jF T q (c::s)=v:=⟨_,rfl⟩;rw[p];simp only[jF]at p;refine aG (sf:=s28) rfl rfl rfl ?_;generalize gD T q=x at *;simp only[Tk.cells]at E;have I:∀k:Int,DI (c::s)=k->v=(decide (q.fe=0)&&decide (x.k=k)&&decide (x.t=c::s)):=λk j=>by rw[<-p,j]
  by_cases c1:97<=c.toNat;have D:(97:Int)<=(c.toNat:Int):=by omega
  by_cases c2:c.toNat<=122;have g:(c.toNat:Int)<=122:=by omega
  rw[I 3 (by simp[DI,c1,c2])];by_cases f0:q.fe=0<;>by_cases F:x.k=3<;>simp[s28,E,h,D,g,f0,F];have g:¬(c.toNat:Int)<=122:=by omega
  rw[I 4 (by simp[DI,c2])];by_cases f0:q.fe=0<;>by_cases F:x.k=4<;>simp[s28,E,h,D,g,f0,F];have D:¬(97:Int)<=(c.toNat:Int):=by omega
  rw[I 4 (by simp[DI,c1])];by_cases f0:q.fe=0<;>by_cases F:x.k=4<;>simp[s28,E,h,D,f0,F]
theorem uX(e:Int):(aZ S).call 0 ah 29 [.ptr 0 0 0 0,.int .i64 e] [q.bO l]=some (.eY [],[(kO T q e).bO l]):=by
 have E:=λah=>qk hT ah q;have h:=λah=>iS (l:=l) ah q;refine aG (sf:=s29) rfl rfl rfl ?_;unfold kO;generalize gD T q=x at *;simp only[Tk.cells]at E;by_cases f0:q.fe=0;simp only[RQ.bO,f0]at E h;simp[s29,h,E,RQ.bO,f0,cut,bu,AV.aB,AV.aH,ay];simp[s29,h,f0]
theorem gy(s:List UInt8)(M:s≠[]):(aZ S).call 0 ah 32 [.ptr 0 0 0 0,.str s] [q.bO l]=some (.eY [],[(eF T q s).bO l]):=by
 have E:=λah=>kI hT ah q s M;have g:=λah e=>uX hT ah q e;have m:=hT.len;refine aG (sf:=s32) rfl rfl rfl ?_;unfold eF;cases h:jF T q s with
 |false=>simp[s32,E,h,g]|true=>
  have O:=(cg h).2;have H:=wk q.at_ (by omega);simp only[RQ.bO,h]at E;simp[s32,E,RQ.bO,cx,cut,bu,AV.aB,AV.aH,ay,H,AV.ai]
theorem wB(s:List UInt8)(M:s≠[]):(aZ S).call 0 ah 128 [.ptr 0 0 0 0,.str s] [q.bO l]=some (.eY [],[(lS T q s).bO l]):=by
 have E:=λah=>kI hT ah q s M;have j:=λah e=>uX hT ah q e;have g:=λah=>gy hT ah q s M;refine aG (sf:=abm) rfl rfl rfl ?_;unfold lS;cases H:jF T q s with
 |false=>
  generalize eF T q s=r at *;simp only[RQ.bO,H]at E g;simp[abm,E,g,RQ.bO,Bc,cut,bu,AV.aB,AV.aH,ay,AV.ai]
 |true=>
  by_cases h:50<=q.op;simp only[RQ.bO,H]at E j;simp[abm,E,j,RQ.bO,cut,h,AV.ai];generalize eF T q s=r at *;simp only[RQ.bO,H]at E g;simp[abm,E,g,RQ.bO,Bc,cut,h,bu,AV.aB,AV.aH,ay,AV.ai]
theorem vA(s:List UInt8)(M:s≠[]):(aZ S).call 0 ah 130 [.ptr 0 0 0 0,.str s] [q.bO l]=some (.eY [],[(qV T q s).bO l]):=by
 have E:=λah=>gy hT ah q s M;have H:∀n:Int,IntKind.i64.wrap (n-1)=IntKind.i64.wrap (n + -1):=λn=>by rw[Int.sub_eq_add_neg]
 refine aG (sf:=akD) rfl rfl rfl ?_;unfold qV;generalize eF T q s=r at *;simp only[RQ.bO]at E;simp[akD,E,RQ.bO,Bc,cut,bu,AV.aB,AV.aH,ay,AV.ai,H]
theorem qU:(aZ S).call 0 ah 83 [.ptr 0 0 0 0] [q.bO l]=some (.str (ff T q).1,[(ff T q).2.bO l]):=by
 have E:=λah=>qk hT ah q;have h:=λah=>iS (l:=l) ah q;have g:=λah e=>uX hT ah q e;have m:=hT.len;refine aG (sf:=s83) rfl rfl rfl ?_;unfold ff;have g:=λah=>g ah 2;generalize kO T q 2=r at *;generalize j:gD T q=x at *;simp only[Tk.cells]at E;by_cases f0:q.fe=0;by_cases F:x.k=1;simp only[RQ.bO,f0]at E h;have O:q.at_<T.length:=zB (by rw[j,F];decide);have H:=wk q.at_ (by omega);simp[s83,E,h,f0,F,RQ.bO,cx,cut,bu,AV.aB,AV.aH,ay,H,AV.ai];simp[s83,E,h,f0,F,g];simp[s83,E,h,f0,g]
end
end N7
namespace N7
open Ax Go aO V7 iQ
theorem alg{T:List Tk}{k d:Nat}{q:RQ}(h:jF T q [91]=false):QN T k d q=(d,q):=by
 cases k with
 |zero=>rfl|succ k=>unfold QN;rw[h];rfl
section
variable {l:AV}{T:List Tk}(hT:TL l T)(ah:Nat)(q:RQ)
include hT
theorem Bm:(aZ S).call 0 ah 84 [.ptr 0 0 0 0] [q.bO l]=some (.agg [.str (De T q).1.1,.int .i64 (De T q).1.2],[(De T q).2.bO l]):=by
 have D:=hT.len;refine aG (sf:=s84) rfl rfl rfl ?_;generalize h:De T q=F;simp[s84];refine bN abC.eq_1 (λx:RQ×Nat=>⟨[(0,.val (.ptr 0 0 0 0)),(2,.fp 0 0),(3,.val (.int .i64 x.2))],[[.str [],.int .i64 0],[]],[RQ.bO l x.1]⟩)
  (λx=>∃k,k+x.2=3/\QN T k x.2 x.1=QN T 3 0 q) (λx=>3-x.2) (q,0) ?_ ⟨3,rfl,rfl⟩ ?_
 rfl
 rintro⟨r,d⟩ ⟨k,V,R⟩ L;simp only at V R L;have E:=λah=>kI hT ah r [91] (by simp);unfold De at h;cases m:jF T r [91] with
 |true=>
  obtain⟨J,K⟩:=cg m;by_cases P:d=3;have W:=λah e=>uX hT ah r e;have C:k=0:=by omega
  subst P C;have B:QN T 3 0 q=(3,r):=R.symm;rw[B,af m]at h;subst h;simp_all;have N:¬(d:Int)=3:=by omega
  have w:=wk r.at_ (by omega);have X:=wk d (by omega);simp only[RQ.bO,m]at E;simp[E,N,RQ.bO,cut,bu,AV.aB,AV.aH,ay,w,X,AV.ai];refine L (cx r,d+1) ⟨k-1,by grind,?_⟩ (by grind);rw[<-R];obtain⟨M,rfl⟩:∃M,k=M+1:=⟨k-1,by omega⟩;conv=>rhs;unfold QN
  grind
 |false=>
  rw[alg m]at R;rw[<-R,U (by grind)]at h;dsimp only at h;have O:=λah=>qU hT ah r;have p:=λah=>kI hT ah r [105,110,116] (by simp);have y:=λah=>kI hT ah r [98,111,111,108] (by simp);have n:=λah=>qk hT ah r;unfold ofN at h;cases j:jF T r [105,110,116] with
  |true=>
   obtain⟨J,K⟩:=cg j;have w:=wk r.at_ (by omega);simp only[RQ.bO,m,j]at E p n;rw[j]at h;simp only[aoK,bh]at h;generalize Q:gD T r=c at *;simp only[Tk.cells]at n;simp[E,p,n,RQ.bO,cut,bu,AV.aB,AV.aH,ay,w,AV.ai];refine bN ND.eq_1 (λx:Nat=>⟨[(0,.val (.ptr 0 0 0 0)),(2,.fp 0 0),(3,.val (.int .i64 d)),(4,.fp 1 0),(5,.val (.int .i64 x))],[[.str [],.int .i64 0],[.str c.t,.int .i64 d]],[RQ.bO l (zx T (cx r) [93] x)]⟩)
    (λx=>x<=d) (λx=>d-x) 0 ?_ (by simp) ?_
   rfl
   intro x G I;by_cases g:x<d;have H:=wk x (by omega);have s:=λah=>gy hT ah (zx T (cx r) [93] x) [93] (by simp);have o:(x:Int)<(d:Int):=(by omega);simp[g,s,H];exact I (x+1) (by omega) (by omega);have:x=d:=by omega
   subst this;subst h;simp
   rfl
  |false=>
   cases v:jF T r [98,111,111,108] with
   |true=>
    obtain⟨J,K⟩:=cg v;have w:=wk r.at_ (by omega);simp only[RQ.bO,m,j,v]at E p y n;rw[j,v]at h;simp only[amp,bh]at h;generalize Q:gD T r=c at *;simp only[Tk.cells]at n;simp[E,p,y,n,RQ.bO,cut,bu,AV.aB,AV.aH,ay,w,AV.ai];refine bN ND.eq_1 (λx:Nat=>⟨[(0,.val (.ptr 0 0 0 0)),(2,.fp 0 0),(3,.val (.int .i64 d)),(4,.fp 1 0),(5,.val (.int .i64 x))],[[.str [],.int .i64 0],[.str c.t,.int .i64 d]],[RQ.bO l (zx T (cx r) [93] x)]⟩)
     (λx=>x<=d) (λx=>d-x) 0 ?_ (by simp) ?_
    rfl
    intro x G I;by_cases g:x<d;have H:=wk x (by omega);have s:=λah=>gy hT ah (zx T (cx r) [93] x) [93] (by simp);have o:(x:Int)<(d:Int):=(by omega);simp[g,s,H];exact I (x+1) (by omega) (by omega);have:x=d:=by omega
    subst this;subst h;simp
    rfl
   |false=>
    rw[j,v]at h;simp only[anl,acC,br]at h;generalize ff T r=z at *;simp[E,p,y,m,j,v,O,ay];refine bN ND.eq_1 (λx:Nat=>⟨[(0,.val (.ptr 0 0 0 0)),(2,.fp 0 0),(3,.val (.int .i64 d)),(4,.fp 1 0),(5,.val (.int .i64 x))],[[.str [],.int .i64 0],[.str z.1,.int .i64 d]],[RQ.bO l (zx T z.2 [93] x)]⟩)
     (λx=>x<=d) (λx=>d-x) 0 ?_ (by simp) ?_
    rfl
    intro x G I;by_cases g:x<d;have H:=wk x (by omega);have s:=λah=>gy hT ah (zx T z.2 [93] x) [93] (by simp);have o:(x:Int)<(d:Int):=(by omega);simp[g,s,H];exact I (x+1) (by omega) (by omega);have:x=d:=by omega
    subst this;subst h;simp
theorem Kj:(aZ S).call 0 ah 31 [.ptr 0 0 0 0] [q.bO l]=some (.agg (fh T q).1.cells,[(fh T q).2.bO l]):=by
 have E:=λah=>qk hT ah q;have O:=λah=>qU hT ah q;have g:=λah=>gy hT ah (ff T q).2 [58] (by simp);have k:=λah=>Bm hT ah (eF T (ff T q).2 [58]);refine aG (sf:=s31) rfl rfl rfl ?_;unfold fh;generalize De T (eF T (ff T q).2 [58])=Z at *;generalize eF T (ff T q).2 [58]=q2 at *;generalize ff T q=z,gD T q=c at *;simp only[Tk.cells]at E;simp[-aE,-ax,s31,E,O,g,k,ay,AV.ai,AV.aH,AV.aB,PD.cells]
end
theorem QZ(s ah:Nat)(n:Nat)(v:n<5)(c:Tk)(st:aj):(aZ S).call s ah 165 [.int .i64 n,.agg c.cells] st=some (.int .i64 (zy n c),st):=by
 refine bE (sf:=QC) rfl rfl (by simp[Tk.cells,AV.aH,AV.aB]) rfl (by simp) ?_;unfold zy;by_cases j:c.k=4;rw[af j];have W:IntKind.i64.wrap 1=1:=rfl;have p:IntKind.i64.wrap 2=2:=rfl;have w:IntKind.i64.wrap 3=3:=rfl;have r:IntKind.i64.wrap 4=4:=rfl;have o:n=0\/n=1\/n=2\/n=3\/n=4:=by omega
 have W:IntKind.i64.wrap 1=1:=rfl;have p:IntKind.i64.wrap 2=2:=rfl;have w:IntKind.i64.wrap 3=3:=rfl;have r:IntKind.i64.wrap 4=4:=rfl;rcases o with h|h|h|h|h;subst h;simp[QC,Tk.cells,j];refine bN B8.eq_1 (λk:Nat=>⟨[(0,.val (.int .i64 0)),(3,.fp 0 0),(5,.val (.dV 1 [[.dV 1 [[.str [124,124]]]],[.dV 1 [[.str [38,38]]]],[.dV 1 [[.str [60]],[.str [60,61]],[.str [61,61]],[.str [33,61]]]],[.dV 1 [[.str [43]],[.str [45]]]],[.dV 1 [[.str [42]],[.str [47]],[.str [37]]]]])),(6,.val (.dV 1 [[.dV 1 [[.int .i64 24]]],[.dV 1 [[.int .i64 23]]],[.dV 1 [[.int .i64 19],[.int .i64 20],[.int .i64 21],[.int .i64 22]]],[.dV 1 [[.int .i64 14],[.int .i64 15]]],[.dV 1 [[.int .i64 16],[.int .i64 17],[.int .i64 18]]]])),(7,.val (.int .i64 k))],[[.int .i64 4,.str c.t,.int .i64 c.n,.int .i64 c.a]],[]⟩)
  (λk=>k<=1/\iR (fK 0) c.t=iR ((fK 0).drop k) c.t) (λk=>1-k) 0 (by simp) (by simp) ?_
 intro k ⟨m,H⟩ I;have g:k=0\/k=1:=by omega
 rcases g with h|h;subst h;by_cases e:[124,124]=c.t;rw[H];simp[e,aD,aC,AV.ai,fK,iR];simp[e,W,aD,aC,AV.ai];exact I 1 ⟨by omega,by rw[H];simp[fK,iR,e]⟩ (by omega);simp_all [fK,iR];subst h;simp[QC,Tk.cells,j];refine bN B8.eq_1 (λk:Nat=>⟨[(0,.val (.int .i64 1)),(3,.fp 0 0),(5,.val (.dV 1 [[.dV 1 [[.str [124,124]]]],[.dV 1 [[.str [38,38]]]],[.dV 1 [[.str [60]],[.str [60,61]],[.str [61,61]],[.str [33,61]]]],[.dV 1 [[.str [43]],[.str [45]]]],[.dV 1 [[.str [42]],[.str [47]],[.str [37]]]]])),(6,.val (.dV 1 [[.dV 1 [[.int .i64 24]]],[.dV 1 [[.int .i64 23]]],[.dV 1 [[.int .i64 19],[.int .i64 20],[.int .i64 21],[.int .i64 22]]],[.dV 1 [[.int .i64 14],[.int .i64 15]]],[.dV 1 [[.int .i64 16],[.int .i64 17],[.int .i64 18]]]])),(7,.val (.int .i64 k))],[[.int .i64 4,.str c.t,.int .i64 c.n,.int .i64 c.a]],[]⟩)
  (λk=>k<=1/\iR (fK 1) c.t=iR ((fK 1).drop k) c.t) (λk=>1-k) 0 (by simp) (by simp) ?_
 intro k ⟨m,H⟩ I;have g:k=0\/k=1:=by omega
 rcases g with h|h;subst h;by_cases e:[38,38]=c.t;rw[H];simp[e,aD,aC,AV.ai,fK,iR];simp[e,W,aD,aC,AV.ai];exact I 1 ⟨by omega,by rw[H];simp[fK,iR,e]⟩ (by omega);simp_all [fK,iR];subst h;simp[QC,Tk.cells,j];refine bN B8.eq_1 (λk:Nat=>⟨[(0,.val (.int .i64 2)),(3,.fp 0 0),(5,.val (.dV 1 [[.dV 1 [[.str [124,124]]]],[.dV 1 [[.str [38,38]]]],[.dV 1 [[.str [60]],[.str [60,61]],[.str [61,61]],[.str [33,61]]]],[.dV 1 [[.str [43]],[.str [45]]]],[.dV 1 [[.str [42]],[.str [47]],[.str [37]]]]])),(6,.val (.dV 1 [[.dV 1 [[.int .i64 24]]],[.dV 1 [[.int .i64 23]]],[.dV 1 [[.int .i64 19],[.int .i64 20],[.int .i64 21],[.int .i64 22]]],[.dV 1 [[.int .i64 14],[.int .i64 15]]],[.dV 1 [[.int .i64 16],[.int .i64 17],[.int .i64 18]]]])),(7,.val (.int .i64 k))],[[.int .i64 4,.str c.t,.int .i64 c.n,.int .i64 c.a]],[]⟩)
  (λk=>k<=4/\iR (fK 2) c.t=iR ((fK 2).drop k) c.t) (λk=>4-k) 0 (by simp) (by simp) ?_
 intro k ⟨m,H⟩ I;have g:k=0\/k=1\/k=2\/k=3\/k=4:=by omega
 rcases g with h|h|h|h|h;subst h;by_cases e:[60]=c.t;rw[H];simp[e,aD,aC,AV.ai,fK,iR];simp[e,W,aD,aC,AV.ai];exact I 1 ⟨by omega,by rw[H];simp[fK,iR,e]⟩ (by omega);subst h;by_cases e:[60,61]=c.t;rw[H];simp[e,aD,aC,AV.ai,fK,iR];simp[e,p,aD,aC,AV.ai];exact I 2 ⟨by omega,by rw[H];simp[fK,iR,e]⟩ (by omega);subst h;by_cases e:[61,61]=c.t;rw[H];simp[e,aD,aC,AV.ai,fK,iR];simp[e,w,aD,aC,AV.ai];exact I 3 ⟨by omega,by rw[H];simp[fK,iR,e]⟩ (by omega);subst h;by_cases e:[33,61]=c.t;rw[H];simp[e,aD,aC,AV.ai,fK,iR];simp[e,r,aD,aC,AV.ai];exact I 4 ⟨by omega,by rw[H];simp[fK,iR,e]⟩ (by omega);subst h;rw[H];simp[AV.ai,fK,iR];subst h;simp[QC,Tk.cells,j];refine bN B8.eq_1 (λk:Nat=>⟨[(0,.val (.int .i64 3)),(3,.fp 0 0),(5,.val (.dV 1 [[.dV 1 [[.str [124,124]]]],[.dV 1 [[.str [38,38]]]],[.dV 1 [[.str [60]],[.str [60,61]],[.str [61,61]],[.str [33,61]]]],[.dV 1 [[.str [43]],[.str [45]]]],[.dV 1 [[.str [42]],[.str [47]],[.str [37]]]]])),(6,.val (.dV 1 [[.dV 1 [[.int .i64 24]]],[.dV 1 [[.int .i64 23]]],[.dV 1 [[.int .i64 19],[.int .i64 20],[.int .i64 21],[.int .i64 22]]],[.dV 1 [[.int .i64 14],[.int .i64 15]]],[.dV 1 [[.int .i64 16],[.int .i64 17],[.int .i64 18]]]])),(7,.val (.int .i64 k))],[[.int .i64 4,.str c.t,.int .i64 c.n,.int .i64 c.a]],[]⟩)
  (λk=>k<=2/\iR (fK 3) c.t=iR ((fK 3).drop k) c.t) (λk=>2-k) 0 (by simp) (by simp) ?_
 intro k ⟨m,H⟩ I;have g:k=0\/k=1\/k=2:=by omega
 rcases g with h|h|h;subst h;by_cases e:[43]=c.t;rw[H];simp[e,aD,aC,AV.ai,fK,iR];simp[e,W,aD,aC,AV.ai];exact I 1 ⟨by omega,by rw[H];simp[fK,iR,e]⟩ (by omega);subst h;by_cases e:[45]=c.t;rw[H];simp[e,aD,aC,AV.ai,fK,iR];simp[e,p,aD,aC,AV.ai];exact I 2 ⟨by omega,by rw[H];simp[fK,iR,e]⟩ (by omega);simp_all [fK,iR];subst h;simp[QC,Tk.cells,j];refine bN B8.eq_1 (λk:Nat=>⟨[(0,.val (.int .i64 4)),(3,.fp 0 0),(5,.val (.dV 1 [[.dV 1 [[.str [124,124]]]],[.dV 1 [[.str [38,38]]]],[.dV 1 [[.str [60]],[.str [60,61]],[.str [61,61]],[.str [33,61]]]],[.dV 1 [[.str [43]],[.str [45]]]],[.dV 1 [[.str [42]],[.str [47]],[.str [37]]]]])),(6,.val (.dV 1 [[.dV 1 [[.int .i64 24]]],[.dV 1 [[.int .i64 23]]],[.dV 1 [[.int .i64 19],[.int .i64 20],[.int .i64 21],[.int .i64 22]]],[.dV 1 [[.int .i64 14],[.int .i64 15]]],[.dV 1 [[.int .i64 16],[.int .i64 17],[.int .i64 18]]]])),(7,.val (.int .i64 k))],[[.int .i64 4,.str c.t,.int .i64 c.n,.int .i64 c.a]],[]⟩)
  (λk=>k<=3/\iR (fK 4) c.t=iR ((fK 4).drop k) c.t) (λk=>3-k) 0 (by simp) (by simp) ?_
 intro k ⟨m,H⟩ I;have g:k=0\/k=1\/k=2\/k=3:=by omega
 rcases g with h|h|h|h;subst h;by_cases e:[42]=c.t;rw[H];simp[e,aD,aC,AV.ai,fK,iR];simp[e,W,aD,aC,AV.ai];exact I 1 ⟨by omega,by rw[H];simp[fK,iR,e]⟩ (by omega);subst h;by_cases e:[47]=c.t;rw[H];simp[e,aD,aC,AV.ai,fK,iR];simp[e,p,aD,aC,AV.ai];exact I 2 ⟨by omega,by rw[H];simp[fK,iR,e]⟩ (by omega);subst h;by_cases e:[37]=c.t;rw[H];simp[e,aD,aC,AV.ai,fK,iR];simp[e,w,aD,aC,AV.ai];exact I 3 ⟨by omega,by rw[H];simp[fK,iR,e]⟩ (by omega);simp_all [fK,iR];simp[QC,Tk.cells,j]
end N7
namespace N7
open Ax Go aO V7 iQ
variable{B:bK}
theorem wC{w ah:Nat}{l:AV}{q:RQ}:bz w ah (.load false 1 false) [.val (.ptr 0 0 0 1)] [RQ.bO l q] B=some (.val (.int .i64 q.at_),[RQ.bO l q],B):=by
 simp[RQ.bO,cut,AV.ai]
theorem aqM{w ah:Nat}{l:AV}{q:RQ}:bz w ah (.load false 1 false) [.val (.ptr 0 0 0 2)] [RQ.bO l q] B=some (.val (.int .i64 q.op),[RQ.bO l q],B):=by
 simp[RQ.bO,cut,AV.ai]
theorem oo{ah:Nat}{l:AV}{q:RQ}:bz 0 ah (.store 1) [.val (.ptr 0 0 0 1),.val (.int .i64 ((q.at_:Int)+1))] [RQ.bO l q] B=some (.none,[RQ.bO l (cx q)],B):=by
 simp[RQ.bO,cx,bu,AV.aB,AV.aH,ay]
theorem V3{ah:Nat}{l:AV}{q:RQ}{n:Int}:bz 0 ah (.store 1) [.val (.ptr 0 0 0 2),.val (.int .i64 n)] [RQ.bO l q] B=some (.none,[RQ.bO l ⟨q.at_,n,q.fe,q.fa⟩],B):=by
 simp[RQ.bO,bu,AV.aB,AV.aH,ay]
theorem aqN(n:Int):IntKind.i64.wrap (n-1)=IntKind.i64.wrap (n + -1):=by grind
def x9(e:E)(K:AV):List AV:=[.int .i64 e.k,.int .i64 e.n,.str e.nm,.str e.on,.int .i64 e.od,K,.int .i64 e.a,.int .i64 e.ty.b,.int .i64 e.ty.r,.int .i64 e.ty.d,.int .i64 e.ref]
theorem Ci(e:E):x9 e (bG e.aN)=e.aI:=(E.aQ e).symm
def OkE(l:AV)(T:List Tk)(f:Nat):Prop:=∀n q e r,n<=5->kP T f n q=some (e,r)->∀ah,(aZ S).call 0 ah 148 [.ptr 0 0 0 0,.int .i64 (n:Nat)] [q.bO l]=some (.agg e.aI,[r.bO l])
def OkU(l:AV)(T:List Tk)(f:Nat):Prop:=∀q e r,ua T f q=some (e,r)->∀ah,(aZ S).call 0 ah 164 [.ptr 0 0 0 0] [q.bO l]=some (.agg e.aI,[r.bO l])
def Sn(l:AV)(T:List Tk)(f:Nat):Prop:=∀a q e r,mP T f a q=some (e,r)->∀K,bf K=true->K.ai=bG a.aN->∀ah,(aZ S).call 0 ah 180 [.ptr 0 0 0 0,.agg (x9 a K)] [q.bO l]=some (.agg e.aI,[r.bO l])
def zK(l:AV)(T:List Tk)(f:Nat):Prop:=∀q e r,qW T f q=some (e,r)->∀ah,(aZ S).call 0 ah 187 [.ptr 0 0 0 0] [q.bO l]=some (.agg e.aI,[r.bO l])
def OkF(l:AV)(T:List Tk)(f:Nat):Prop:=∀q e r,uc T f q=some (e,r)->∃K,bf K=true/\K.ai=bG e.aN/\∀ah,(aZ S).call 0 ah 181 [.ptr 0 0 0 0] [q.bO l]=some (.agg (x9 e K),[r.bO l])
def OkN(l:AV)(T:List Tk)(f:Nat):Prop:=∀a q e r,ud T f a q=some (e,r)->∀ah,(aZ S).call 0 ah 186 [.ptr 0 0 0 0,.int .i64 a] [q.bO l]=some (.agg e.aI,[r.bO l])
def OkA(l:AV)(T:List Tk)(f:Nat):Prop:=∀q e r,Af T f q=some (e,r)->∀ah,(aZ S).call 0 ah 188 [.ptr 0 0 0 0] [q.bO l]=some (cq 11 (E.rows e),[r.bO l])
section
variable {l:AV}{T:List Tk}(hT:TL l T)
include hT
theorem ab9(f:Nat)(n:OkE l T f):zK l T (f+1):=by
 intro q e r h ah;unfold qW at h;obtain⟨⟨x,X⟩,H,m⟩:=ack.1 h;cases m;have k:=λah=>wB hT ah q [40] (by simp);have g:=n 0 _ _ _ (by omega) H;have j:=λah=>vA hT ah X [41] (by simp);generalize lS T q [40]=q1,qV T X [41]=R at *;obtain⟨K,N,z,Z,s,o,S,J9,p⟩:=x;simp only[E.aI,anf]at g;refine aG (sf:=akx) rfl rfl rfl ?_;simp[akx,k,g,j,E.aI,ay,AV.aH,AV.aB,AV.ai]
theorem acd(f:Nat)(t:zK l T f):OkN l T (f+1):=by
 intro at_ q e r h ah;have m:=hT.len;unfold ud at h;have g:=λah=>kI hT ah q [91] (by simp);refine aG (sf:=af8) rfl rfl rfl ?_;cases H:jF T q [91] with
 |false=>
  rw[H]at h;simp only[acC,br,bw,cL]at h;obtain⟨rfl,rfl⟩:=h;have O:=λah=>qU hT ah q;generalize ff T q=z at *;simp[af8,g,H,O,Em,E.aI,E.rows,ay,AV.aH,AV.aB]
 |true=>
  rw[H]at h;simp only[bh]at h;obtain⟨⟨x,X⟩,p,s⟩:=ack.1 h;cases s;obtain⟨I,D⟩:=cg H;have v:=wk q.at_ (by omega);have j:=λah=>Bm hT ah (cx q);have n:=λah=>gy hT ah (De T (cx q)).2 [93] (by simp);have k:=t _ _ _ p;generalize eF T (De T (cx q)).2 [93]=R at *;generalize De T (cx q)=o at *;obtain⟨K,N,Z,B,C,w,S,J9,y⟩:=x;simp only[E.aI]at k;simp[-aE,-ax,af8,g,H,wC,oo,v,j,n,k,Em,E.aI,E.rows,aD,aC,ay,AV.aH,AV.aB,AV.ai]
theorem agw(f:Nat)(w:∀g,g<=f->OkE l T g):OkA l T (f+1):=by
 intro q e r h ah;have z:=hT.len;unfold Af at h;have V:=λah=>wB hT ah q [40] (by simp);refine aG (sf:=af4) rfl rfl rfl ?_;generalize lS T q [40]=q1 at *;have Q:=λah=>kI hT ah q1 [41] (by simp);cases H:jF T q1 [41] with
 |true=>
  rw[H]at h;simp only[bh,bw,cL]at h;obtain⟨rfl,rfl⟩:=h;have P:=λah=>vA hT ah q1 [41] (by simp);simp_all [af4,E.rows,sQ]
 |false=>
  rw[H]at h;simp only[acC,br]at h;obtain⟨⟨m,x2⟩,t,Y⟩:=ack.1 h;have o:=w f (acO _) 0 _ _ _ (by omega) t;have g1:=ku t;have B:v8 11 120 .aF [m.aI]=some (cq 11 (E.rows [m])):=by
   have:=gP (sz:=11) (bytes:=120) (r:=[]) (new:=[m.aI]) (by simp[cr,E.aQ]) (by simp[cZ]);simpa [sQ,E.rows] using this
  obtain⟨F,hF⟩:∃F,(cq 11 (E.rows e),[RQ.bO l r])=F:=⟨_,rfl⟩;obtain⟨k2,n2,Z,J,K,C,S,J9,G⟩:=m;simp only[E.aI,anf]at o B;simp[af4,V,Q,H,o,B,AV.ai];refine bN Vy.eq_1 (λx:RQ×List E×Nat=>⟨[(0,.val (.ptr 0 0 0 0)),(3,.val (cq 11 (E.rows x.2.1)))],[],[RQ.bO l x.1]⟩)
   (λx=>x.2.2<=f/\x.2.1.length<=x.1.at_+1/\yF T x.2.2 x.2.1 x.1=some (e,r)) (λx=>x.2.2) (x2,[E.mk k2 n2 Z J K C S J9 G],f) rfl ⟨acO _,by simp,Y⟩ ?_
  rintro⟨s,k,g⟩ ⟨hg,M,j⟩ I;simp only at hg M j I;have U:=λah=>kI hT ah s [44] (by simp);cases g with
  |zero=>simp[yF]at j|succ g=>
   unfold yF at j;cases X:jF T s [44] with
   |true=>
    rw[X]at j;simp only[bh]at j;obtain⟨⟨y,y2⟩,v,h4⟩:=ack.1 j;obtain⟨i1,i2⟩:=cg X;have D:=wk s.at_ (by omega);have p:=w g (by omega) 0 _ _ _ (by omega) v;have g2:=(ku v).le;have L:=gP (sz:=11) (bytes:=120) (r:=E.rows k) (new:=[y.aI]) (by simp[cr,E.aQ]) (by simp[cZ,jq];omega);have n:E.rows k++[y.aI]=E.rows (k++[y]):=(by simp[jq]);rw[n]at L;have W:=I (y2,k++[y],g) ⟨by grind,by grind [cx],h4⟩ (by grind);generalize E.rows (k++[y])=R at *;obtain⟨k3,n3,nm3,on3,od3,O,a3,ty3,N⟩:=y;simp only[E.aI,anf]at p L;simp[-aE,-ax,U,X,wC,oo,D,p,L,AV.ai];exact W
   |false=>
    rw[X]at j;simp only[acC,br,bw,cL]at j;obtain⟨rfl,rfl⟩:=j;have P:=λah=>vA hT ah s [41] (by simp);simp_all
end
end N7
namespace N7
open Ax Go aO V7 iQ
section
variable {l:AV}{T:List Tk}(hT:TL l T)
include hT
theorem ace(f:Nat)(hN:OkN l T f)(hI:zK l T f)(hA:OkA l T f):OkF l T (f+1):=by
 intro q e r h;have hlen:=hT.len;have m:=λah=>qk hT ah q;have t:=λah=>iS (l:=l) ah q;have v:=λah s hs=>kI hT ah q s hs;have D:=λs (h:jF T q s=true)=>QO h;have Ld:(gD T q).k≠0->q.at_<T.length:=zB;unfold uc at h;generalize hc:gD T q=c at *;simp only[Tk.cells]at m;have H:q.at_<T.length->IntKind.i64.wrap ((q.at_:Int)+1)=((q.at_+1:Nat):Int):=λh=>by rw[dY]<;>omega
 have K:∀s,jF T q s=true->IntKind.i64.wrap ((q.at_:Int)+1)=((q.at_+1:Nat):Int):=λs h=>H (cg h).2;by_cases C:q.fe=0/\c.k=2;rw[af C]at h;cases h;have H:=H (Ld (by grind));refine⟨.aF,rfl,by simp[Em,E.aN,uT,AV.ai],λah=>?_⟩;refine aG (sf:=v9) rfl rfl rfl ?_;simp[-aE,-ax,v9,m,t,C.1,C.2,wC,oo,H,ay,AV.aH,AV.aB,x9,Em,E.k,E.n,E.nm,E.on,E.od,E.a,E.ty,E.ref];rw[U C]at h;by_cases F:q.fe=0
 ·have Q:¬c.k=2:=λh=>C ⟨F,h⟩;cases g:jF T q [116,114,117,101] with
  |true=>
   rw[g]at h;simp only[aoK,bh,bw,cL]at h;obtain⟨rfl,rfl⟩:=h;have H:=K _ g;have J:=D _ g;refine⟨.aF,rfl,by simp[Em,E.aN,uT,AV.ai],λah=>?_⟩;refine aG (sf:=v9) rfl rfl rfl ?_;simp[-aE,-ax,v9,m,t,F,Q,v,g,wC,oo,H,J,ay,AV.aH,AV.aB,x9,Em,E.k,E.n,E.nm,E.on,E.od,E.a,E.ty,E.ref]
  |false=>
  cases p:jF T q [102,97,108,115,101] with
  |true=>
   rw[g,p]at h;simp only[amp,bh,bw,cL]at h;obtain⟨rfl,rfl⟩:=h;have H:=K _ p;have J:=D _ p;refine⟨.aF,rfl,by simp[Em,E.aN,uT,AV.ai],λah=>?_⟩;refine aG (sf:=v9) rfl rfl rfl ?_;simp[-aE,-ax,v9,m,t,F,Q,v,g,p,wC,oo,H,J,ay,AV.aH,AV.aB,x9,Em,E.k,E.n,E.nm,E.on,E.od,E.a,E.ty,E.ref]
  |false=>
  rw[g,p]at h;simp only[anl,acC,br]at h;cases w:jF T q [110,117,108,108] with
  |true=>
   rw[w]at h;simp only[bh,bw,cL]at h;obtain⟨rfl,rfl⟩:=h;have H:=K _ w;have j:=λah=>Bm hT ah (cx q);generalize De T (cx q)=o at *;refine⟨.aF,rfl,by simp[Em,E.aN,uT,AV.ai],λah=>?_⟩;refine aG (sf:=v9) rfl rfl rfl ?_;simp[-aE,-ax,v9,m,t,F,Q,v,g,p,w,wC,oo,H,j,ay,AV.aH,AV.aB,aD,aC,x9,Em,E.k,E.n,E.nm,E.on,E.od,E.a,E.ty,E.ref]
  |false=>
  rw[w]at h;simp only[acC,br]at h;cases x:jF T q [110,101,119] with
  |true=>
   rw[x]at h;simp only[bh]at h;have H:=K _ x;have j:=hN _ _ _ _ h;refine⟨bG e.aN,by simp,by simp,λah=>?_⟩;rw[Ci];obtain⟨k2,n2,Z,N,P,L,S,J9,M⟩:=e;simp only[E.aI]at j ⊢;refine aG (sf:=v9) rfl rfl rfl ?_;simp[-aE,-ax,v9,m,t,F,Q,v,g,p,w,x,wC,oo,H,j,ay,AV.aH,AV.aB]
  |false=>
  rw[x]at h;simp only[acC,br]at h;cases V:jF T q [108,101,110] with
  |true=>
   rw[V]at h;simp only[bh]at h;have H:=K _ V;obtain⟨⟨X,x2⟩,B,I⟩:=ack.1 h;cases I;have j:=hI _ _ _ B;refine⟨_,by simp,bY,λah=>?_⟩;rw[Ci];obtain⟨k2,n2,Z,N,P,L,S,J9,M⟩:=X;simp only[E.aI]at j;refine aG (sf:=v9) rfl rfl rfl ?_;simp[-aE,-ax,v9,m,t,F,Q,v,g,p,w,x,V,wC,oo,H,j,ay,AV.aH,AV.aB,AV.ai,aD,aC,Em,E.aI,E.rows]
  |false=>
  rw[V]at h;simp only[acC,br]at h;cases y:jF T q [114,101,97,100] with
  |true=>
   rw[y]at h;simp only[bh,bw,cL]at h;obtain⟨rfl,rfl⟩:=h;have H:=K _ y;have ep:=λah=>wB hT ah (cx q) [40] (by simp);have eq:=λah=>vA hT ah (lS T (cx q) [40]) [41] (by simp);refine⟨.aF,rfl,by simp[Em,E.aN,uT,AV.ai],λah=>?_⟩;refine aG (sf:=v9) rfl rfl rfl ?_;simp[-aE,-ax,v9,m,t,F,Q,v,g,p,w,x,V,y,wC,oo,H,ep,eq,ay,AV.aH,AV.aB,x9,Em,E.k,E.n,E.nm,E.on,E.od,E.a,E.ty,E.ref]
  |false=>
  rw[y]at h;simp only[acC,br]at h;cases Y:jF T q [40] with
  |true=>
   rw[Y]at h;simp only[bh]at h;have j:=hI _ _ _ h;refine⟨bG e.aN,by simp,by simp,λah=>?_⟩;rw[Ci];obtain⟨k2,n2,Z,N,P,L,S,J9,M⟩:=e;simp only[E.aI]at j ⊢;refine aG (sf:=v9) rfl rfl rfl ?_;simp[-aE,-ax,v9,m,t,F,Q,v,g,p,w,x,V,y,Y,j,ay,AV.aH,AV.aB]
  |false=>
   rw[Y]at h;simp only[acC,br]at h;have O:=λah=>qU hT ah q;generalize ff T q=z at *;have W:=λah=>kI hT ah z.2 [40] (by simp);cases B:jF T z.2 [40] with
   |false=>
    rw[B]at h;simp only[acC,br,bw,cL]at h;obtain⟨rfl,rfl⟩:=h;refine⟨.aF,rfl,by simp[Em,E.aN,uT,AV.ai],λah=>?_⟩;refine aG (sf:=v9) rfl rfl rfl ?_;simp[-aE,-ax,v9,m,t,F,Q,v,g,p,w,x,V,y,Y,O,W,B,ay,AV.aH,AV.aB,x9,Em,E.k,E.n,E.nm,E.on,E.od,E.a,E.ty,E.ref]
   |true=>
    rw[B]at h;simp only[bh]at h;obtain⟨⟨X,x2⟩,I,DQ⟩:=ack.1 h;cases DQ;have j:=hA _ _ _ I;have G:bf (cq 11 (E.rows X))=true:=dM;have hv:(cq 11 (E.rows X)).ai=bG X:=rfl;generalize cq 11 (E.rows X)=kv at *;have hkc:=jI G;have hkp:=eC G;refine⟨kv,G,hv,λah=>?_⟩;refine aG (sf:=v9) rfl rfl rfl ?_;simp[-aE,-ax,v9,m,t,F,Q,v,g,p,w,x,V,y,Y,O,W,B,j,G,ay,AV.aH,AV.aB,aD,aC,x9,Em,E.k,E.n,E.nm,E.on,E.od,E.a,E.ty,E.ref]
 have R:∀s,jF T q s=false:=λs=>agk F;have O:=λah=>qU hT ah q;have hz:ff T q=([],q):=by simp[ff,F,kO]
 rw[hz]at O;simp only[R,hz,anl,acC,br,bw,cL]at h;obtain⟨rfl,rfl⟩:=h;refine⟨.aF,rfl,by simp[Em,E.aN,uT,AV.ai],λah=>?_⟩;refine aG (sf:=v9) rfl rfl rfl ?_;simp[-aE,-ax,v9,m,t,F,v,R,O,ay,AV.aH,AV.aB,x9,Em,E.k,E.n,E.nm,E.on,E.od,E.a,E.ty,E.ref]
theorem Yf(f:Nat)(hE:∀g,g<f->OkE l T g):Sn l T f:=by
 intro U q e r h K C F ah;have M:=hT.len;have w:=jI C;refine aG (sf:=akv) rfl rfl rfl ?_;simp[akv,x9,w];refine bN Vn.eq_1 (λx:RQ×E×AV×Nat×List AV×List AV=>⟨[(0,.val (.ptr 0 0 0 0)),(3,.fp 0 0),(4,.fp 1 0)],
   [x9 x.2.1 x.2.2.1,[.int .i64 0,.int .i64 0,.str [],.str [],.int .i64 0,.aF,.int .i64 0,.int .i64 0,.int .i64 0,.int .i64 0,.int .i64 0],x.2.2.2.2.1,x.2.2.2.2.2],[RQ.bO l x.1]⟩)
  (λx=>x.2.2.2.1<=f/\bf x.2.2.1=true/\x.2.2.1.ai=bG x.2.1.aN/\mP T x.2.2.2.1 x.2.1 x.1=some (e,r)) (λx=>x.2.2.2.1) (q,U,K,f,[],[]) rfl ⟨acO _,C,F,h⟩ ?_
 rintro⟨s,a,kv,g,m,B⟩ ⟨hg,D,v,j⟩ I;simp only at hg D v j I;have hkc:=jI D;have hkp:=eC D;have y:=λah=>kI hT ah s [46] (by simp);have J:=λah=>kI hT ah s [91] (by simp);have o:=λah=>qk hT ah s;have g9:E.rows [a]=[x9 a (bG a.aN)]:=by rw[Ci];simp[E.rows]
 cases g with
 |zero=>simp[mP]at j|succ g=>
  unfold mP at j;cases H:jF T s [46] with
  |true=>
   rw[H]at j;simp only[bh]at j;obtain⟨i1,i2⟩:=cg H;have hw:=wk s.at_ (by omega);have en:=λah=>qU hT ah (cx s);generalize ff T (cx s)=z,gD T s=c at *;simp only[Tk.cells]at o;have W:=λm B=>I (z.2,Em 5 0 z.1 [] 0 [a] c.a,bG [a],g,m,B) ⟨by grind,by simp,by simp[Em,E.aN],j⟩ (by grind);simp[-aE,-ax,y,H,o,wC,oo,hw,en,v,ay,AV.ai,aD,aC,x9];have:=W [.int .i64 c.k,.str c.t,.int .i64 c.n,.int .i64 c.a] B;simp[x9,Em,E.k,E.n,E.nm,E.on,E.od,E.a,E.ty,E.ref,bG,g9]at this;exact this
  |false=>
   rw[H]at j;simp only[acC,br]at j;cases p:jF T s [91] with
   |true=>
    rw[p]at j;simp only[bh]at j;obtain⟨⟨X,N⟩,h3,L⟩:=ack.1 j;have eo:=λah=>wB hT ah s [91] (by simp);have G:=hE g (by omega) 0 _ _ _ (by omega) h3;have Y:=λah=>vA hT ah N [93] (by simp);generalize lS T s [91]=q1 at *;simp only at L;generalize qV T N [93]=q3,gD T s=c at *;simp only[Tk.cells]at o;have Q:E.rows [a,X]=[x9 a (bG a.aN),X.aI]:=(by rw[Ci];simp[E.rows]);have W:=λm B=>I (q3,Em 6 0 [] [] 0 [a,X] c.a,bG [a,X],g,m,B) ⟨by grind,by simp,by simp[Em,E.aN],L⟩ (by grind);obtain⟨k2,n2,Z,R,S,O,V,J9,P⟩:=X;simp only[E.aI,anf]at G Q;simp[-aE,-ax,y,J,H,p,o,eo,G,Y,v,ay,AV.ai,x9];have:=W [.int .i64 c.k,.str c.t,.int .i64 c.n,.int .i64 c.a] [.int .i64 k2,.int .i64 n2,.str Z,.str R,.int .i64 S,aM 11 (E.rows O),.int .i64 V,.int .i64 J9.b,.int .i64 J9.r,.int .i64 J9.d,.int .i64 P];simp[x9,Em,E.k,E.n,E.nm,E.on,E.od,E.a,E.ty,E.ref,bG,Q]at this;exact this
   |false=>
    rw[p]at j;simp only[acC,br,bw,cL]at j;obtain⟨rfl,rfl⟩:=j;rw[<-Ci];simp[-aE,-ax,y,J,H,p,v,ay,AV.aH,AV.aB,x9]
theorem acf(f:Nat)(B:OkE l T f)(G:OkF l T f)(F:Sn l T f):OkU l T (f+1):=by
 intro q e r h ah;have C:=hT.len;have k:=λah=>qk hT ah q;have em:=λah=>kI hT ah q [45] (by simp);have O:=λah=>kI hT ah q [33] (by simp);unfold ua at h;refine aG (sf:=abv) rfl rfl rfl ?_;cases H:jF T q [45] with
 |true=>
  rw[H]at h;simp only[aoK,bh]at h;obtain⟨⟨x,X⟩,j,n⟩:=ack.1 h;cases n;have o:=QO H;rw[o]at j;have p:=λah=>wB hT ah q [45] (by simp);have g:=B 5 _ _ _ (by omega) j;generalize lS T q [45]=q1,gD T q=c at *;obtain⟨K,N,z,Z,w,t,S,J9,v⟩:=x;simp only[Tk.cells]at k;simp only[E.aI,ajm]at g;simp[-aE,-ax,abv,k,em,H,o,p,g,aqM,V3,Bc,aqN,ay,AV.ai,AV.aH,AV.aB,Em,E.aI,E.rows]
 |false=>
  cases m:jF T q [33] with
  |true=>
   rw[H,m]at h;simp only[amp,bh]at h;obtain⟨⟨x,X⟩,j,n⟩:=ack.1 h;cases n;have o:=QO m;rw[o]at j;have p:=λah=>wB hT ah q [33] (by simp);have g:=B 5 _ _ _ (by omega) j;generalize lS T q [33]=q1,gD T q=c at *;obtain⟨K,N,z,Z,w,t,S,J9,v⟩:=x;simp only[Tk.cells]at k;simp only[E.aI,ajm]at g;simp[-aE,-ax,abv,k,em,O,H,m,o,p,g,aqM,V3,Bc,aqN,ay,AV.ai,AV.aH,AV.aB,Em,E.aI,E.rows]
  |false=>
   rw[H,m]at h;simp only[anl,acC,br]at h;obtain⟨⟨x,X⟩,j,n⟩:=ack.1 h;obtain⟨D,s,L,g⟩:=G _ _ _ j;have y:=F _ _ _ _ n D s L;obtain⟨K,N,z,Z,w,t,S,J9,v⟩:=e;have I:=jI s;have J:=eC s;simp only[E.aI]at y ⊢;generalize x9 x D=R,gD T q=c at *;simp only[Tk.cells]at k;simp[-aE,-ax,abv,k,em,O,H,m,g,y,ay,AV.aH,AV.aB]
theorem Yg(f:Nat)(J:∀g,g<=f->OkE l T g)(S:OkU l T f):OkE l T (f+1):=by
 intro n q e r hn h ah;have K:=hT.len;unfold kP at h;refine aG (sf:=af3) rfl rfl rfl ?_;by_cases H:n=5;subst H;rw[af rfl]at h;have p:=S _ _ _ h;obtain⟨k2,n2,Zk,Zl,Zm,Ai,a2,J9,HM⟩:=e;simp only[E.aI]at p ⊢;simp[-aE,-ax,af3,p,ay,AV.aH,AV.aB];rw[U H]at h;obtain⟨⟨x1,x2⟩,N,O⟩:=ack.1 h;have w:¬(n:Int)=5:=by omega
 have Y:=wk n (by omega);have p:=J f (acO _) (n+1) _ _ _ (by omega) N;have G:∀e:E,e.aI=[.int .i64 e.k,.int .i64 e.n,.str e.nm,.str e.on,.int .i64 e.od,bG e.aN,.int .i64 e.a,.int .i64 e.ty.b,.int .i64 e.ty.r,.int .i64 e.ty.d,.int .i64 e.ref]:=E.aQ;simp only[G,aiH,ajm]at p;simp[-aE,-ax,af3,w,Y,p,ay];refine bN Vu.eq_1 (λx:RQ×E×Nat×List AV×List AV=>⟨[(0,.val (.ptr 0 0 0 0)),(1,.val (.int .i64 n)),(4,.fp 0 0),(5,.fp 1 0)],
   [[.int .i64 0,.int .i64 0,.str [],.str [],.int .i64 0,.aF,.int .i64 0,.int .i64 0,.int .i64 0,.int .i64 0,.int .i64 0],
    [.int .i64 x.2.1.k,.int .i64 x.2.1.n,.str x.2.1.nm,.str x.2.1.on,.int .i64 x.2.1.od,bG x.2.1.aN,.int .i64 x.2.1.a,.int .i64 x.2.1.ty.b,.int .i64 x.2.1.ty.r,.int .i64 x.2.1.ty.d,.int .i64 x.2.1.ref],x.2.2.2.1,x.2.2.2.2],[RQ.bO l x.1]⟩)
  (λx=>x.2.2.1<=f/\rX T x.2.2.1 n x.2.1 x.1=some (e,r)) (λx=>x.2.2.1) (x2,x1,f,[],[]) rfl ⟨acO _,O⟩ ?_
 rintro⟨s,a,g,D,F⟩ ⟨V,j⟩ C;simp only at V j C;have B:=λah=>iS (l:=l) ah s;have v:=λah=>qk hT ah s;have m:=λW ah=>QZ W ah n (by omega) (gD T s) [RQ.bO l s];cases g with
 |zero=>simp[rX]at j|succ g=>
  unfold rX at j;by_cases M:s.fe=0/\zy n (gD T s)≠0;rw[af M]at j;obtain⟨f0,Z⟩:=M;obtain⟨⟨y,y2⟩,P,R⟩:=ack.1 j;have Ld:=Eu Z;have X:=wk s.at_ (by omega);have I:=J g (by omega) (n+1) _ _ _ (by omega) P;have o:=λW ah st=>QZ W ah n (by omega) (gD T s) st;simp only[G,aiH,ajm]at I;have Q:E.rows [a,y]=[a.aI,y.aI]:=by simp[E.rows]
  simp only[G]at Q;generalize zy n (gD T s)=z at *;have L:=λD F=>C (y2,Em z 0 [] [] 0 [a,y] (gD T s).a,g,D,F) ⟨by grind,R⟩ (by grind);generalize gD T s=c at *;simp only[Tk.cells]at v m o;simp[-aE,-ax,B,f0,v,o,Z,wC,oo,X,Y,I,ay,AV.ai,aD,aC];have:=L [.int .i64 c.k,.str c.t,.int .i64 c.n,.int .i64 c.a] [.int .i64 y.k,.int .i64 y.n,.str y.nm,.str y.on,.int .i64 y.od,bG y.aN,.int .i64 y.a,.int .i64 y.ty.b,.int .i64 y.ty.r,.int .i64 y.ty.d,.int .i64 y.ref];simp only[Em,E.k,E.n,E.nm,E.on,E.od,E.aN,E.a,E.ty,E.ref]at this;simp only[show bG [a,y]=.dV 11 (E.rows [a,y]) from rfl,Q]at this;exact this;rw[U M]at j;simp only[bw,cL]at j;obtain⟨rfl,rfl⟩:=j;rw[G];generalize zy n (gD T s)=z at *;generalize gD T s=c at *;simp only[Tk.cells]at v m;by_cases f0:s.fe=0;have Z:z=0:=Classical.byContradiction λh=>M ⟨f0,h⟩;subst Z;simp[-aE,-ax,B,f0,v,m,ay,AV.aH,AV.aB];simp[-aE,-ax,B,f0,ay,AV.aH,AV.aB]
theorem acg:∀f,OkE l T f/\OkU l T f/\OkF l T f/\zK l T f/\OkN l T f/\OkA l T f:=by
 intro f;induction f using amd with
 |_ f I=>
  cases f with
  |zero=>
   refine⟨?_,?_,?_,?_,?_,?_⟩;intro n q e r _ h;simp[kP]at h;intro q e r h;simp[ua]at h;intro q e r h;simp[uc]at h;intro q e r h;simp[qW]at h;intro a q e r h;simp[ud]at h;intro q e r h;simp[Af]at h
  |succ f=>
   obtain⟨j,v,m,k,o,L⟩:=I f (by omega);have H:∀g,g<=f->OkE l T g:=λg h=>(I g (by omega)).1;exact⟨Yg hT f H v,acf hT f j m (Yf hT f λg h=>H g (by omega)),ace hT f o k L,ab9 hT f j,acd hT f k,agw hT f H⟩
theorem mS{f n:Nat}{q r:RQ}{e:E}(g:n<=5)(h:kP T f n q=some (e,r))(ah:Nat):(aZ S).call 0 ah 148 [.ptr 0 0 0 0,.int .i64 (n:Nat)] [q.bO l]=some (.agg e.aI,[r.bO l]):=(acg hT f).1 n q e r g h ah
end
end N7
namespace N7
open Ax Go aO V7 iQ
def HO(l:AV)(T:List Tk)(f:Nat):Prop:=∀q s r,Ag T f q=some (s,r)->∀ah,(aZ S).call 0 ah 129 [.ptr 0 0 0 0] [q.bO l]=some (.agg s.aI,[r.bO l])
def OkK(l:AV)(T:List Tk)(f:Nat):Prop:=∀q s r,mj T f q=some (s,r)->∀ah,(aZ S).call 0 ah 85 [.ptr 0 0 0 0] [q.bO l]=some (cq 9 (Sm.rows s),[r.bO l])
section
variable {l:AV}{T:List Tk}(hT:TL l T)
include hT
theorem ex0{f:Nat}{q r:RQ}{e:E}(h:kP T f 0 q=some (e,r))(ah:Nat) :
  (aZ S).call 0 ah 148 [.ptr 0 0 0 0,.int .i64 0] [q.bO l]=some (.agg [.int .i64 e.k,.int .i64 e.n,.str e.nm,.str e.on,.int .i64 e.od,bG e.aN,.int .i64 e.a,.int .i64 e.ty.b,.int .i64 e.ty.r,.int .i64 e.ty.d,.int .i64 e.ref],[r.bO l]):=by
 have:=mS hT (n:=0) (by omega) h ah
 grind [E.aQ]
theorem Kk{f:Nat}{G:Int}{q r:RQ}{s:Sm}(h:xW T f G q=some (s,r))(ah:Nat) :
  (aZ S).call 0 ah 149 [.ptr 0 0 0 0,.agg [.int .i64 0,.str [],.str [],.int .i64 0,.aF,.aF,.aF,.int .i64 G,.int .i64 0]] [q.bO l]=some (.agg s.aI,[r.bO l]):=by
 have J:=hT.len;unfold xW at h;obtain⟨⟨x,R⟩,K,p⟩:=ack.1 h;dsimp only at p;have j:=ex0 hT K;have w:=λah s L=>kI hT ah R s L;have I:=λah=>uX hT ah R 2;have D:E.rows [x]=[[.int .i64 x.k,.int .i64 x.n,.str x.nm,.str x.on,.int .i64 x.od,bG x.aN,.int .i64 x.a,.int .i64 x.ty.b,.int .i64 x.ty.r,.int .i64 x.ty.d,.int .i64 x.ref]]:=by simp[E.rows,E.aQ]
 refine aG (sf:=QD) rfl rfl rfl ?_;cases H:jF T R [61] with
 |false=>
  rw[H]at p;simp only[acC,br,bw,cL]at p;obtain⟨rfl,rfl⟩:=p;by_cases m:jF T R [59]=true/\x.k≠7;rw[af m];obtain⟨m,V⟩:=m;have g:=λah=>gy hT ah (kO T R 2) [59] (by simp);simp[-aE,-ax,QD,j,w,H,m,V,I,g,ay,AV.ai,AV.aH,AV.aB,Sm.aI,bG,D,Sm.rows];rw[U m];have g:=λah=>gy hT ah R [59] (by simp);cases t:jF T R [59] with
  |false=>
   simp[-aE,-ax,QD,j,w,H,t,g,ay,AV.ai,AV.aH,AV.aB,Sm.aI,bG,D,Sm.rows]
  |true=>
   have V:x.k=7:=Classical.byContradiction λh=>m ⟨t,h⟩;rw[V]at j D;simp[-aE,-ax,QD,j,w,H,t,g,ay,AV.ai,AV.aH,AV.aB,Sm.aI,bG,D,Sm.rows]
 |true=>
  rw[H]at p;simp only[bh]at p;obtain⟨⟨y,M⟩,m,V⟩:=ack.1 p;have v:=ex0 hT m;have N:=λah=>gy hT ah M [59] (by simp);have F:E.rows [y]=[[.int .i64 y.k,.int .i64 y.n,.str y.nm,.str y.on,.int .i64 y.od,bG y.aN,.int .i64 y.a,.int .i64 y.ty.b,.int .i64 y.ty.r,.int .i64 y.ty.d,.int .i64 y.ref]]:=by simp[E.rows,E.aQ]
  have o:E.rows [x,y]=[[.int .i64 x.k,.int .i64 x.n,.str x.nm,.str x.on,.int .i64 x.od,bG x.aN,.int .i64 x.a,.int .i64 x.ty.b,.int .i64 x.ty.r,.int .i64 x.ty.d,.int .i64 x.ref],[.int .i64 y.k,.int .i64 y.n,.str y.nm,.str y.on,.int .i64 y.od,bG y.aN,.int .i64 y.a,.int .i64 y.ty.b,.int .i64 y.ty.r,.int .i64 y.ty.d,.int .i64 y.ref]]:=by simp[E.rows,E.aQ]
  by_cases c4:x.k=4;rw[af (.inl c4)]at v;have g:=λah=>gy hT ah R [61] (by simp);simp only[af c4,bw,cL]at V;obtain⟨rfl,rfl⟩:=V;rw[c4]at j;simp[-aE,-ax,QD,j,w,H,g,v,N,ay,AV.ai,AV.aH,AV.aB,Sm.aI,bG,F,Sm.rows];simp only[U c4,bw,cL]at V;obtain⟨rfl,rfl⟩:=V;by_cases C:x.k=5\/x.k=6;rw[af (.inr C)]at v;have g:=λah=>gy hT ah R [61] (by simp);rcases C with C|C<;>
  ·rw[C]at j o;simp[-aE,-ax,QD,j,w,H,g,v,N,ay,AV.ai,AV.aH,AV.aB,Sm.aI,bG,o,Sm.rows]
  have z:x.k≠5:=λh=>C (.inl h);have B:x.k≠6:=λh=>C (.inr h);rw[U (λh=>h.elim c4 C)]at v;have g:=λah=>gy hT ah (kO T R 2) [61] (by simp);simp[-aE,-ax,QD,j,w,H,I,g,v,N,c4,z,B,ay,AV.ai,AV.aH,AV.aB,Sm.aI,bG,o,Sm.rows]
theorem pL(f:Nat)(D:∀g,g<f->HO l T g):OkK l T (f+1):=by
 intro q s r h ah;have t:=hT.len;have B:=λah=>wB hT ah q [123] (by simp);unfold mj at h;refine aG (sf:=s85) rfl rfl rfl ?_;generalize lS T q [123]=q1 at *;simp[-aE,-ax,s85,B];refine bN aa8.eq_1 (λx:RQ×List Sm×Nat=>⟨[(0,.val (.ptr 0 0 0 0)),(3,.val (cq 9 (Sm.rows x.2.1)))],[],[RQ.bO l x.1]⟩)
  (λx=>x.2.2<=f/\x.2.1.length<=T.length+1/\(x.1.fe=0->x.2.1.length<=x.1.at_/\x.2.1.length<=T.length)/\rY T x.2.2 x.2.1 x.1=some (s,r)) (λx=>x.2.2) (q1,[],f) rfl ⟨acO _,by simp,by simp,h⟩ ?_
 rintro⟨u,S,g⟩ ⟨O,M,p,j⟩ I;simp only at O M p j I;have m:=λah=>iS (l:=l) ah u;have k:=λah=>kI hT ah u [125] (by simp);cases g with
 |zero=>simp[rY]at j|succ g=>
  unfold rY at j;have z:=λah=>vA hT ah u [125] (by simp);by_cases f0:u.fe=0
  ·cases H:jF T u [125] with
   |true=>
    rw[U (by grind)]at j;simp only[bw,cL]at j;obtain⟨rfl,rfl⟩:=j;simp[-aE,-ax,m,f0,k,H,z]
   |false=>
    rw[af ⟨f0,H⟩]at j;obtain⟨⟨x,J⟩,o,C⟩:=ack.1 j;have E:=D g (by omega) _ _ _ o;obtain⟨G,K⟩:=(wm T g).1 _ _ _ o;have y:=p f0;have F:=G.le;have L:=gP (sz:=9) (bytes:=136) (r:=Sm.rows S) (new:=[x.aI]) (by simp[cr,Sm.aQ]) (by simp[cZ,jQ];omega);have n:Sm.rows S++[x.aI]=Sm.rows (S++[x]):=(by simp[jQ]);rw[n]at L;have W:=I (J,S++[x],g) ⟨by grind,by simp;omega,λf=>by
     rcases K with w|⟨w,v⟩;all_goals grind,C⟩ (by grind)
    simp only at W;generalize Sm.rows (S++[x])=R at *;rw[Sm.aQ]at E L;simp[-aE,-ax,m,f0,k,H,E,L,AV.ai];exact W
  simp_all
theorem xE(f:Nat)(Q:OkK l T f):HO l T (f+1):=by
 intro q s r h ah;have hlen:=hT.len;have B:=λah=>qk hT ah q;have I:=λah s hs=>kI hT ah q s hs;have N:=λs (h:jF T q s=true)=>QO h;have L:∀s,jF T q s=true->IntKind.i64.wrap ((q.at_:Int)+1)=((q.at_+1:Nat):Int):=λs h=>by
  have:=(cg h).2;rw[dY]<;>omega
 unfold Ag at h;refine aG (sf:=JR) rfl rfl rfl ?_;have en:=λah=>qU hT ah (cx q);have ec:=λah=>gy hT ah (ff T (cx q)).2 [58] (by simp);have eo:=λah=>Bm hT ah (eF T (ff T (cx q)).2 [58]);have PK:fh T (cx q)=(⟨(ff T (cx q)).1,(De T (eF T (ff T (cx q)).2 [58])).1.1,(De T (eF T (ff T (cx q)).2 [58])).1.2,(gD T (cx q)).a⟩,(De T (eF T (ff T (cx q)).2 [58])).2):=rfl;rw[PK]at h;generalize De T (eF T (ff T (cx q)).2 [58])=o at *;generalize eF T (ff T (cx q)).2 [58]=q2 at *;generalize ff T (cx q)=z at *;clear PK;have MU:=λs r (h:xW T f (gD T q).a q=some (s,r))=>Kk hT h;generalize hc:gD T q=c at *;simp only[Tk.cells]at B;cases g:jF T q [118,97,114] with
 |true=>
  rw[g]at h;simp only[bh,bw,cL]at h;obtain⟨rfl,rfl⟩:=h;have X:=N _ g;have j:=L _ g;have G:=λah=>gy hT ah o.2 [59] (by simp);simp[-aE,-ax,JR,B,I,g,X,wC,oo,j,en,ec,eo,G,ay,AV.ai,AV.aH,AV.aB,Sm.aI,uT,Sm.rows]
 |false=>
 rw[g]at h;simp only[acC,br]at h;cases m:jF T q [108,101,116] with
 |true=>
  rw[m]at h;simp only[bh]at h;obtain⟨⟨x,R⟩,J,p⟩:=ack.1 h;simp only[bw,cL]at p;obtain⟨rfl,rfl⟩:=p;have X:=N _ m;have j:=L _ m;have G:=λah=>gy hT ah o.2 [61] (by simp);have v:=ex0 hT J;have M:=λah=>gy hT ah R [59] (by simp);have D:E.rows [x]=[[.int .i64 x.k,.int .i64 x.n,.str x.nm,.str x.on,.int .i64 x.od,bG x.aN,.int .i64 x.a,.int .i64 x.ty.b,.int .i64 x.ty.r,.int .i64 x.ty.d,.int .i64 x.ref]]:=by simp[E.rows,E.aQ]
  simp[-aE,-ax,JR,B,I,g,m,X,wC,oo,j,en,ec,eo,G,v,M,ay,AV.ai,AV.aH,AV.aB,Sm.aI,Sm.rows];simp[bG,D]
 |false=>
 rw[m]at h;simp only[acC,br]at h;cases C:jF T q [105,102] with
 |true=>
  rw[C]at h;simp only[bh]at h;obtain⟨⟨x,R⟩,J,p⟩:=ack.1 h;obtain⟨⟨y,O⟩,P,t⟩:=ack.1 p;have j:=L _ C;have v:=ex0 hT J;have M:=Q _ _ _ P;have K:bf (cq 9 (Sm.rows y))=true:=dM;have Y:(cq 9 (Sm.rows y)).ai=aM 9 (Sm.rows y):=rfl;have D:E.rows [x]=[[.int .i64 x.k,.int .i64 x.n,.str x.nm,.str x.on,.int .i64 x.od,bG x.aN,.int .i64 x.a,.int .i64 x.ty.b,.int .i64 x.ty.r,.int .i64 x.ty.d,.int .i64 x.ref]]:=by simp[E.rows,E.aQ]
  generalize cq 9 (Sm.rows y)=vy at *;have ZW:=jI K;have TR:=eC K;have U:=λah=>kI hT ah O [101,108,115,101] (by simp);dsimp only at t;cases H:jF T O [101,108,115,101] with
  |false=>
   rw[H]at t;simp only[acC,br,bw,cL]at t;obtain⟨rfl,rfl⟩:=t;simp[-aE,-ax,JR,B,I,g,m,C,wC,oo,j,v,M,U,H,K,Y,ay,AV.ai,AV.aH,AV.aB,Sm.aI,Sm.rows];simp[bG,D]
  |true=>
   rw[H]at t;simp only[bh]at t;obtain⟨⟨w,r8⟩,tP,CP⟩:=ack.1 t;simp only[bw,cL]at CP;obtain⟨rfl,rfl⟩:=CP;have Z:IntKind.i64.wrap ((O.at_:Int)+1)=((O.at_+1:Nat):Int):=by
    have:=(cg H).2;rw[dY]<;>omega
   have e8:=Q _ _ _ tP;have S:bf (cq 9 (Sm.rows w))=true:=dM;have W:(cq 9 (Sm.rows w)).ai=aM 9 (Sm.rows w):=rfl;generalize cq 9 (Sm.rows w)=vw at *;have huc:=jI S;have hup:=eC S;simp[-aE,-ax,JR,B,I,g,m,C,wC,oo,j,Z,v,M,U,H,e8,K,Y,S,W,ay,AV.ai,AV.aH,AV.aB,Sm.aI];simp[bG,D]
 |false=>
 rw[C]at h;simp only[acC,br]at h;cases H:jF T q [119,104,105,108,101] with
 |true=>
  rw[H]at h;simp only[bh]at h;obtain⟨⟨x,R⟩,J,p⟩:=ack.1 h;obtain⟨⟨y,O⟩,P,t⟩:=ack.1 p;simp only[bw,cL]at t;obtain⟨rfl,rfl⟩:=t;have j:=L _ H;have v:=ex0 hT J;have M:=Q _ _ _ P;have K:bf (cq 9 (Sm.rows y))=true:=dM;have Y:(cq 9 (Sm.rows y)).ai=aM 9 (Sm.rows y):=rfl;have D:E.rows [x]=[[.int .i64 x.k,.int .i64 x.n,.str x.nm,.str x.on,.int .i64 x.od,bG x.aN,.int .i64 x.a,.int .i64 x.ty.b,.int .i64 x.ty.r,.int .i64 x.ty.d,.int .i64 x.ref]]:=by simp[E.rows,E.aQ]
  generalize cq 9 (Sm.rows y)=vy at *;have ZW:=jI K;have TR:=eC K;simp[-aE,-ax,JR,B,I,g,m,C,H,wC,oo,j,v,M,K,Y,ay,AV.ai,AV.aH,AV.aB,Sm.aI,Sm.rows];simp[bG,D]
 |false=>
 rw[H]at h;simp only[acC,br]at h;cases V:jF T q [114,101,116,117,114,110] with
 |true=>
  rw[V]at h;simp only[bh]at h;have j:=L _ V;have U:=λah=>kI hT ah (cx q) [59] (by simp);cases F:jF T (cx q) [59] with
  |true=>
   rw[F]at h;simp only[bh,bw,cL]at h;obtain⟨rfl,rfl⟩:=h;have G:=λah=>gy hT ah (cx q) [59] (by simp);simp[-aE,-ax,JR,B,I,g,m,C,H,V,wC,oo,j,U,F,G,ay,AV.ai,AV.aH,AV.aB,Sm.aI,uT,Sm.rows]
  |false=>
   rw[F]at h;simp only[acC,br]at h;obtain⟨⟨x,R⟩,J,p⟩:=ack.1 h;simp only[bw,cL]at p;obtain⟨rfl,rfl⟩:=p;have v:=ex0 hT J;have G:=λah=>gy hT ah R [59] (by simp);have D:E.rows [x]=[[.int .i64 x.k,.int .i64 x.n,.str x.nm,.str x.on,.int .i64 x.od,bG x.aN,.int .i64 x.a,.int .i64 x.ty.b,.int .i64 x.ty.r,.int .i64 x.ty.d,.int .i64 x.ref]]:=(by simp[E.rows,E.aQ]);simp[-aE,-ax,JR,B,I,g,m,C,H,V,wC,oo,j,U,F,v,G,ay,AV.ai,AV.aH,AV.aB,Sm.aI,Sm.rows];simp[bG,D]
 |false=>
 rw[V]at h;simp only[acC,br]at h;cases F:jF T q [112,114,105,110,116] with
 |true=>
  rw[F]at h;simp only[bh]at h;obtain⟨⟨x,R⟩,J,p⟩:=ack.1 h;simp only[bw,cL]at p;obtain⟨rfl,rfl⟩:=p;have j:=L _ F;have v:=ex0 hT J;have G:=λah=>gy hT ah R [59] (by simp);have D:E.rows [x]=[[.int .i64 x.k,.int .i64 x.n,.str x.nm,.str x.on,.int .i64 x.od,bG x.aN,.int .i64 x.a,.int .i64 x.ty.b,.int .i64 x.ty.r,.int .i64 x.ty.d,.int .i64 x.ref]]:=by simp[E.rows,E.aQ]
  simp[-aE,-ax,JR,B,I,g,m,C,H,V,F,wC,oo,j,v,G,ay,AV.ai,AV.aH,AV.aB,Sm.aI,Sm.rows];simp[bG,D]
 |false=>
  rw[F]at h;simp only[acC,br]at h;have e1:=MU _ _ h;rw[Sm.aQ]at e1 ⊢;simp[-aE,-ax,JR,B,I,g,m,C,H,V,F,e1,ay,AV.ai,AV.aH,AV.aB]
theorem ach:∀f,HO l T f/\OkK l T f:=by
 intro f;induction f using amd with
 |_ f I=>
  cases f with
  |zero=>
   refine⟨?_,?_⟩;intro q e r h;simp[Ag]at h;intro q e r h;simp[mj]at h
  |succ f=>
   grind [xE,pL]
theorem N8{f:Nat}{q r:RQ}{s:List Sm}(h:mj T f q=some (s,r))(ah:Nat):(aZ S).call 0 ah 85 [.ptr 0 0 0 0] [q.bO l]=some (cq 9 (Sm.rows s),[r.bO l]):=(ach hT f).2 q s r h ah
end
end N7
namespace N7
open Ax Go aO V7 iQ
section
variable {l:AV}{T:List Tk}(hT:TL l T)
include hT
theorem F0{f:Nat}{q L:RQ}{R:Rc}(h:uU T f q=some (R,L))(ah:Nat):(aZ S).call 0 ah 30 [.ptr 0 0 0 0] [q.bO l]=some (.agg R.aI,[L.bO l]):=by
 have J:=hT.len;have G:=λah=>qk hT ah q;have X:=λah=>qU hT ah q;have Q:=λah=>gy hT ah (ff T q).2 [123] (by simp);unfold uU at h;obtain⟨⟨fs,r0⟩,Y,I⟩:=ack.1 h;simp only[bw,cL]at I;obtain⟨rfl,rfl⟩:=I;generalize eF T (ff T q).2 [123]=q2 at *;generalize ff T q=z,gD T q=c at *;simp only[Tk.cells]at G;refine aG (sf:=s30) rfl rfl rfl ?_;simp[-aE,-ax,s30,G,X,Q,ay,AV.ai];refine bN aa5.eq_1 (λx:RQ×List PD×Nat=>⟨[(0,.val (.ptr 0 0 0 0)),(2,.fp 0 0),(3,.fp 1 0)],[[.str [],.aF,.int .i64 0],[.str z.1,cq 4 (x.2.1.map PD.cells),.int .i64 c.a]],[RQ.bO l x.1]⟩)
  (λx=>x.2.1.length<=T.length+1/\(x.1.fe=0->x.2.1.length<=x.1.at_/\x.2.1.length<=T.length)/\oO T x.2.2 x.2.1 x.1=some (fs,r0)) (λx=>x.2.2) (q2,[],f) rfl ⟨by simp,by simp,Y⟩ ?_
 rintro⟨s,ps,g⟩ ⟨M,P,j⟩ K;simp only at M P j K;have E:=λah=>iS (l:=l) ah s;have m:=λah=>kI hT ah s [125] (by simp);have t:=λah=>gy hT ah r0 [125] (by simp);cases g with
 |zero=>simp[oO]at j|succ g=>
  unfold oO at j;by_cases f0:s.fe=0
  ·cases H:jF T s [125] with
   |true=>
    rw[U (by grind)]at j;simp only[bw,cL]at j;obtain⟨rfl,rfl⟩:=j;simp[-aE,-ax,E,f0,m,H,t,ay,AV.ai,AV.aH,AV.aB,Rc.aI,aM]
   |false=>
    rw[af ⟨f0,H⟩]at j;have N:=λah=>qk hT ah s;have O:=P f0;have o:=λah=>Kj hT ah s;have F:=λah=>gy hT ah (fh T s).2 [59] (by simp);simp only[PD.cells]at o;have D:=gP (sz:=4) (bytes:=48) (r:=ps.map PD.cells) (new:=[(fh T s).1.cells]) (by simp[cr,PD.cells]) (by simp[cZ];omega);have w2:=(zD (T:=T) (q:=s)).trans (bX (s:=[59]));have B:=(kH (T:=T) (q:=s)).trans (bX (s:=[59]));by_cases n:(gD T s).k=1/\ps.length=8;rw[af n]at j;simp only[bw,cL]at j;obtain⟨rfl,rfl⟩:=j;have V:=λah=>uX hT ah s 4;obtain⟨n,y⟩:=n;generalize gD T s=c2 at *;simp only[Tk.cells,n]at N;simp[-aE,-ax,E,f0,m,H,N,y,V,t,ay,AV.ai,AV.aH,AV.aB,Rc.aI,aM]
    ·rw[U n]at j;have W:=K (eF T (fh T s).2 [59],ps++[(fh T s).1],g) ⟨by simp;omega,λf=>by
      have Z:=B.le;rcases w2 with w|⟨w,v⟩;all_goals grind,j⟩ (by grind)
     simp only[ae6,aei,ais]at W;generalize eF T (fh T s).2 [59]=s4 at *;generalize fh T s=p,gD T s=c2 at *;simp only[PD.cells]at D W;simp only[Tk.cells]at N;by_cases C:c2.k=1;have y:¬(ps.length:Int)=8:=λh=>n ⟨C,by omega⟩;simp[-aE,-ax,E,f0,m,H,N,C,y,o,F,D,dX,di,ay,AV.ai,AV.aH,AV.aB];exact W;simp[-aE,-ax,E,f0,m,H,N,C,o,F,D,dX,di,ay,AV.ai,AV.aH,AV.aB];exact W
  rw[U (λh=>f0 h.1)]at j;simp only[bw,cL]at j;obtain⟨rfl,rfl⟩:=j;simp[-aE,-ax,E,f0,t,ay,AV.ai,AV.aH,AV.aB,Rc.aI,aM]
def tl:aT->aT
 |.seq _ b=>b|c=>c
theorem agy{f:Nat}{q rr:RQ}{Z:Fc}(h:Be T f q=some (Z,rr))(ah:Nat):(aZ S).call 0 ah 33 [.ptr 0 0 0 0] [q.bO l]=some (.agg Z.aI,[rr.bO l]):=by
 have hlen:=hT.len;have et:=λah=>qk hT ah q;have en:=λah=>qU hT ah q;have e2:=λah=>gy hT ah (ff T q).2 [40] (by simp);unfold Be at h;obtain⟨⟨fs,r0⟩,h1,D⟩:=ack.1 h;dsimp only at D;generalize eF T (ff T q).2 [40]=q2 at *;generalize ff T q=z,gD T q=c at *;simp only[Tk.cells]at et;refine aG (sf:=s33) rfl rfl rfl ?_;simp[-aE,-ax,s33,et,en,e2,ay,AV.ai];refine bN abq.eq_1 (λx:RQ×List PD×Nat=>⟨[(0,.val (.ptr 0 0 0 0)),(2,.fp 0 0),(3,.fp 1 0)],[[.str [],.aF,.bool false,.str [],.int .i64 0,.aF,.int .i64 0],[.str z.1,cq 4 (x.2.1.map PD.cells),.bool false,.str [],.int .i64 0,.aF,.int .i64 c.a]],[RQ.bO l x.1]⟩)
  (λx=>x.2.1.length<=T.length+1/\(x.1.fe=0->x.2.1.length<=x.1.at_/\x.2.1.length<=T.length)/\oP T x.2.2 x.2.1 x.1=some (fs,r0)) (λx=>x.2.2) (q2,[],f) rfl ⟨by simp,by simp,h1⟩ ?_
 rintro⟨s,ps,g⟩ ⟨Mt,Pf,j⟩ ih;simp only at Mt Pf j ih;have n:=λah=>iS (l:=l) ah s;have B:=λah=>kI hT ah s [41] (by simp);have out :
   W S 0 1 [.box 2 0 7 true] (HH [.box 2 0 7 true] Ax.Mode.mH [RQ.bO l q] (.agg Z.aI,[RQ.bO l rr])) [.code (tl (tl (tl (tl (tl s33.body)))))] .normal
    ⟨[(0,.val (.ptr 0 0 0 0)),(2,.fp 0 0),(3,.fp 1 0)],[[.str [],.aF,.bool false,.str [],.int .i64 0,.aF,.int .i64 0],[.str z.1,cq 4 (fs.map PD.cells),.bool false,.str [],.int .i64 0,.aF,.int .i64 c.a]],[RQ.bO l r0]⟩:=by
  have e4:=λah=>gy hT ah r0 [41] (by simp);generalize eF T r0 [41]=R at *;have e5:=λah=>kI hT ah R [58] (by simp);cases V:jF T R [58] with
  |false=>
   rw[V]at D;simp only[acC,br]at D;obtain⟨⟨b,r6⟩,h6,Y⟩:=ack.1 D;simp only[bw,cL]at Y;obtain⟨rfl,rfl⟩:=Y;have X:=N8 hT h6;have I:bf (cq 9 (Sm.rows b))=true:=dM;have Q:(cq 9 (Sm.rows b)).ai=bZ b:=rfl;generalize cq 9 (Sm.rows b)=vb at *;have ZW:=jI I;have TR:=eC I;simp[-aE,-ax,s33,tl,e4,e5,V,X,I,Q,ay,AV.ai,AV.aH,AV.aB,Fc.aI,aM]
  |true=>
   rw[V]at D;simp only[bh]at D;obtain⟨⟨b,r6⟩,h6,Y⟩:=ack.1 D;simp only[bw,cL]at Y;obtain⟨rfl,rfl⟩:=Y;have i2:=(cg V).2;have hw:=wk R.at_ (by omega);have e7:=λah=>Bm hT ah (cx R);generalize De T (cx R)=o at *;have X:=N8 hT h6;have I:bf (cq 9 (Sm.rows b))=true:=dM;have Q:(cq 9 (Sm.rows b)).ai=bZ b:=rfl;generalize cq 9 (Sm.rows b)=vb at *;have ZW:=jI I;have TR:=eC I;simp[-aE,-ax,s33,tl,e4,e5,V,wC,oo,hw,e7,X,I,Q,ay,AV.ai,AV.aH,AV.aB,Fc.aI,aM]
 simp only[s33,tl]at out;cases g with
 |zero=>simp[oP]at j|succ g=>
  unfold oP at j;by_cases f0:s.fe=0;cases y:jF T s [41] with
  |true=>
   rw[U (by grind)]at j;simp only[bw,cL]at j;obtain⟨rfl,rfl⟩:=j;simp[-aE,-ax,n,f0,B,y]at out ⊢;exact out
  |false=>
   rw[af ⟨f0,y⟩]at j;have N:=λah=>qk hT ah s;have aqQ:=Pf f0;have C:=λah=>Kj hT ah s;simp only[PD.cells]at C;have J:=gP (sz:=4) (bytes:=48) (r:=ps.map PD.cells) (new:=[(fh T s).1.cells]) (by simp[cr,PD.cells]) (by simp[cZ];omega);have w2:=(zD (T:=T) (q:=s)).trans wo;have P:=(kH (T:=T) (q:=s)).trans wo;by_cases L:(gD T s).k=1/\ps.length=6;rw[af L]at j;simp only[bw,cL]at j;obtain⟨rfl,rfl⟩:=j;have ef:=λah=>uX hT ah s 4;obtain⟨L,O⟩:=L;generalize gD T s=c2 at *;simp only[Tk.cells,L]at N;simp[-aE,-ax,n,f0,B,y,N,O,ef,AV.ai]at out ⊢;exact out;rw[U L]at j;have G:=ih (J2 T (fh T s).2,ps++[(fh T s).1],g) ⟨by simp;omega,λf=>by
    have hle:=P.le;rcases w2 with w|⟨w,v⟩
    grind
    simp;omega,j⟩ (by grind)
   simp only[ae6,aei,ais]at G;clear P w2 j ih out;generalize fh T s=p at *;have K:=λah=>kI hT ah p.2 [41] (by simp);have E:=λah=>gy hT ah p.2 [44] (by simp);have m:=λah=>kI hT ah (eF T p.2 [44]) [41] (by simp);have M:=λah=>uX hT ah (eF T p.2 [44]) 2;unfold J2 at G;generalize eF T p.2 [44]=s4,gD T s=c2 at *;simp only[PD.cells]at J G;simp only[Tk.cells]at N;by_cases F:c2.k=1;have O:¬(ps.length:Int)=6:=λh=>L ⟨F,by omega⟩;cases H:jF T p.2 [41] with
   |true=>
    rw[H,af rfl]at G;simp[-aE,-ax,n,f0,B,y,N,F,O,C,K,H,J,dX,di,ay,AV.ai,AV.aH,AV.aB];exact G
   |false=>
    rw[H,U (by simp)]at G;cases t:jF T s4 [41] with
    |true=>
     rw[t,af rfl]at G;simp[-aE,-ax,n,f0,B,y,N,F,O,C,K,H,E,m,t,M,J,dX,di,ay,AV.ai,AV.aH,AV.aB];exact G
    |false=>
     rw[t,U (by simp)]at G;simp[-aE,-ax,n,f0,B,y,N,F,O,C,K,H,E,m,t,J,dX,di,ay,AV.ai,AV.aH,AV.aB];exact G
   cases H:jF T p.2 [41] with
   |true=>
    rw[H,af rfl]at G;simp[-aE,-ax,n,f0,B,y,N,F,C,K,H,J,dX,di,ay,AV.ai,AV.aH,AV.aB];exact G
   |false=>
    rw[H,U (by simp)]at G;cases t:jF T s4 [41] with
    |true=>
     rw[t,af rfl]at G;simp[-aE,-ax,n,f0,B,y,N,F,C,K,H,E,m,t,M,J,dX,di,ay,AV.ai,AV.aH,AV.aB];exact G
    |false=>
     rw[t,U (by simp)]at G;simp[-aE,-ax,n,f0,B,y,N,F,C,K,H,E,m,t,J,dX,di,ay,AV.ai,AV.aH,AV.aB];exact G
  rw[U (λh=>f0 h.1)]at j;simp only[bw,cL]at j;obtain⟨rfl,rfl⟩:=j;simp[-aE,-ax,n,f0]at out ⊢;exact out
end
end N7
namespace N7
open Ax Go aO V7 iQ
def awf(r:List AV):Tk:=match r with | [.int _ k,.str t,.int _ n,.int _ a]=>⟨k,t,n,a⟩|_=>Tk0
def wD(rows:List (List AV)):List Tk:=rows.map awf
def rI(s:List UInt8):Pg×Int×Int:=if s.length<=6000 then match U2.Lp s with
  |(rows,none)=>(zA (wD rows) (40*(wD rows).length+100)).getD (Ik,0,0)|(_,some e)=>(Ik,1,e)
 else (Ik,4,0)
theorem agz(a:Nat)(l:List UInt8):(U2.yD a l).2≠0->∃x:Tk,(U2.yD a l).1=x.cells/\x.a=a:=by
 have mk:∀k t n,∃x:Tk,U2.Aq k t n a=x.cells/\x.a=a:=λk t n=>⟨⟨k,t,n,a⟩,rfl,rfl⟩;unfold U2.yD;split
 grind
 ·split
  ·unfold U2.xy;split;simp_all
   ·split;all_goals simp_all
  ·split
   ·unfold U2.zv;split
    grind
    ·split;all_goals simp_all
   ·unfold U2.zw;split;all_goals simp_all
theorem Q1:∀(n a:Nat)(l:List UInt8)(rows:List (List AV)),U2.Es n a l=(rows,none)->(∀r∈rows,∃x:Tk,r=x.cells/\0<=x.a/\x.a<=a+l.length)/\rows.length<=n
 |0,_,_,rows,h=>by
  simp_all [U2.Es]
 |n+1,a,[],rows,h=>by
  simp only[U2.Es,cL,and_true]at h;subst h;exact⟨by intro r g;rw[List.mem_singleton]at g;subst g;exact⟨⟨0,[],0,a⟩,rfl,by simp,by simp⟩,by simp⟩
 |n+1,a,c::l,rows,h=>by
  simp only[U2.Es]at h;have H:=U2.VL a (c::l);have j:=agz a (c::l);generalize U2.yD a (c::l)=z at *;obtain⟨t,k⟩:=z;cases k with
  |zero=>simp at h|succ k=>
   simp only at h j H;generalize m:U2.Es n _ _=y at h;obtain⟨R,e⟩:=y;cases e with
   |some e=>simp at h|none=>
    simp only[cL,and_true]at h;subst h;obtain⟨o,p⟩:=Q1 n _ _ _ m
    grind [U2.Er]
variable{rows:List (List AV)}
theorem N9{s:List UInt8}(h:U2.Lp s=(rows,none)):(∀r∈rows,∃x:Tk,r=x.cells/\0<=x.a/\x.a<=s.length)/\rows.length<=s.length+1:=by
 unfold U2.Lp at h;obtain⟨H,g⟩:=Q1 _ _ _ _ h
 grind [U2.Er]
theorem aci{N:Int}(h:∀r∈rows,∃x:Tk,r=x.cells/\0<=x.a/\x.a<=N):rows=(wD rows).map Tk.cells:=by
 unfold wD;rw[aeR];conv=>lhs;rw[<-List.map_id rows]
 refine aeY λr H=>?_;obtain⟨x,g,_⟩:=h r H;subst g
 rfl
theorem alj{N:Int}(h:∀r∈rows,∃x:Tk,r=x.cells/\0<=x.a/\x.a<=N):∀x∈wD rows,0<=x.a/\x.a<=N:=by
 intro x k;obtain⟨r,j,rfl⟩:=ad7.1 k;obtain⟨y,m,H,g⟩:=h r j;subst m;exact⟨H,g⟩
theorem agA(wl ah:Nat)(s:List UInt8)(st:aj):(aZ S).call wl ah 11 [.str s] st=some (.eY [.agg (rI s).1.aI,.agg [.int .i64 (rI s).2.1,.int .i64 (rI s).2.2]],st):=by
 have J:=λwl ah st=>U2.XU wl ah s st;refine bE (sf:=AB) rfl rfl (by simp) rfl (by simp[Pg.aI,AV.aH,AV.aB]) ?_;have zero:∀e a:Int,e≠0->rI s=(Ik,e,a)->U2.NJ s=(.aF,[.int .i64 e,.int .i64 a])->W S 0 0 AB.results (Qv AB.results (.eY [.agg (rI s).1.aI,.agg [.int .i64 (rI s).2.1,.int .i64 (rI s).2.2]])) [.code AB.body] .normal (uG AB [.str s] []):=λe a he Y h2=>by
  rw[Y];simp_all [AB,dX,di,Pg.aI,Ik]
 by_cases hl:s.length<=6000
 ·have H:U2.NJ s=U2.QI (U2.Lp s):=by unfold U2.NJ;simp_all
  have Q:rI s=match U2.Lp s with|(rows,none)=>(zA (wD rows) (40*(wD rows).length+100)).getD (Ik,0,0)|(_,some e)=>(Ik,1,(e:Int)):=by unfold rI;grind
  generalize R:U2.Lp s=z at *;obtain⟨rows,e⟩:=z;cases e with
  |some e=>exact zero 1 e (by decide) Q H|none=>
   obtain⟨lQ,P⟩:=N9 R;have Qr:=aci lQ;simp only[U2.QI]at H;simp only at Q;have Yk:(wD rows).length=rows.length:=(by simp[wD]);obtain⟨x,hx⟩:=Bg (wD rows);rw[hx,ahB]at Q;clear zero;generalize wD rows=T at *;have hT:TL (cq 4 rows) T:=⟨by
    have:cr 4 rows=true:=by rw[Qr];simp[cr,Tk.cells]
    grind [cq,cN],by rw[oe];exact Qr,by omega⟩
   rw[H]at J;have O:=hT.sl;generalize cq 4 rows=l at *;rw[Q];unfold zA at hx;obtain⟨⟨p,r0⟩,Y,h2⟩:=ack.1 hx;simp only[bw]at h2;subst h2;simp[-aE,-ax,AB,J,O,ay,AV.ai];have F1:TL l.ai T:=⟨by rw[Mc];exact hT.sz,by rw[JI];exact hT.rows,hT.len⟩;have ay1:=hT.len;generalize l.ai=Z at *;refine bN abD.eq_1 (λx:RQ×Pg×Nat=>⟨[(2,.fp 0 0),(3,.fp 1 0),(6,.val (.ptr 0 0 0 0)),(7,.fp 3 0)],
     [[.aF,.aF,.aF],[.int .i64 0,.int .i64 0],[.int .i64 0,.int .i64 0],[cq 3 (x.2.1.aU.map Rc.aI),cq 4 (x.2.1.az.map PD.cells),cq 7 (x.2.1.funcs.map Fc.aI)]],[RQ.bO Z x.1]⟩)
    (λx=>x.2.1.aU.length<=12/\x.2.1.az.length<=8/\x.2.1.funcs.length<=16/\tD T x.2.2 x.2.1 x.1=some (p,r0)) (λx=>x.2.2) (⟨0,0,0,0⟩,Ik,_) rfl ⟨by simp[Ik],by simp[Ik],by simp[Ik],Y⟩ ?_
   rintro⟨u,⟨rs,o,fs⟩,g⟩ ⟨C,D,F,j⟩ I;simp only at C D F j I;clear Y Q lQ Qr J O hT P Yk H R;have hT:=F1;have v:=λah=>iS (l:=Z) ah u;have E:=λah=>qk hT ah u;have L:=λah=>kI hT ah u [114,101,99,111,114,100] (by simp);have N:=λah=>kI hT ah u [103,108,111,98,97,108] (by simp);have V:=λah=>kI hT ah u [102,117,110,99] (by simp);cases g with
   |zero=>simp[tD]at j|succ g=>
    unfold tD at j;simp only[ak6,abX,abY]at j;by_cases f0:u.fe=0
    ·by_cases K:(gD T u).k=0;rw[U (λh=>h.2 K)]at j;simp only[bw,cL]at j;obtain⟨rfl,rfl⟩:=j;rw[af f0];generalize gD T u=c at *;simp only[Tk.cells]at E;simp[-aE,-ax,v,f0,E,K,ay,AV.ai,Pg.aI,aM]
     ·rw[af ⟨f0,K⟩]at j;have Ld:=zB K;have hw:=wk u.at_ (by omega);have X:=λah e=>uX hT ah u e;have B:∀s t:List UInt8,s≠t->jF T u s=true->jF T u t=false:=λs t iO h=>by
       grind [QO]
      cases q1:jF T u [114,101,99,111,114,100] with
      |true=>
       have q2:=B _ [103,108,111,98,97,108] (by decide) q1;have n:=B _ [102,117,110,99] (by decide) q1;simp only[q1,q2,n,true_and,acC,false_and,or_false,bh,br]at j;by_cases m:rs.length=12;rw[af m]at j;have G:=I (kO T u 4,⟨rs,o,fs⟩,g) ⟨C,D,F,j⟩ (by grind);generalize gD T u=c at *;simp only[Tk.cells]at E;simp[-aE,-ax,v,f0,E,K,L,q1,m,X];exact G;rw[U m]at j;obtain⟨⟨x,r2⟩,h3,h4⟩:=ack.1 j;have w:=F0 hT h3;have M:¬(rs.length:Int)=12:=(by omega);have y:=gP (sz:=3) (bytes:=48) (r:=rs.map Rc.aI) (new:=[x.aI]) (by simp[cr,Rc.aI]) (by simp[cZ];omega);have G:=I (r2,⟨rs++[x],o,fs⟩,g) ⟨by simp;omega,D,F,h4⟩ (by grind);simp only[ae6,aei,ais]at G;simp only[Rc.aI]at w y G;generalize gD T u=c at *;simp only[Tk.cells]at E;simp[-aE,-ax,v,f0,E,K,L,q1,N,q2,V,n,M,wC,oo,hw,w,y,dX,di,ay,AV.ai];exact G
      |false=>
      cases q2:jF T u [103,108,111,98,97,108] with
      |true=>
       have n:=B _ [102,117,110,99] (by decide) q2;simp only[q1,q2,n,true_and,acC,false_and,false_or,or_false,bh,br]at j;by_cases m:o.length=8;rw[af m]at j;have G:=I (kO T u 4,⟨rs,o,fs⟩,g) ⟨C,D,F,j⟩ (by grind);generalize gD T u=c at *;simp only[Tk.cells]at E;simp[-aE,-ax,v,f0,E,K,L,q1,N,q2,m,X];exact G;rw[U m]at j;have w:=λah=>Kj hT ah (cx u);have e4:=λah=>gy hT ah (fh T (cx u)).2 [59] (by simp);have M:¬(o.length:Int)=8:=(by omega);have y:=gP (sz:=4) (bytes:=48) (r:=o.map PD.cells) (new:=[(fh T (cx u)).1.cells]) (by simp[cr,PD.cells]) (by simp[cZ];omega);have G:=I (eF T (fh T (cx u)).2 [59],⟨rs,o++[(fh T (cx u)).1],fs⟩,g) ⟨C,by simp;omega,F,j⟩ (by grind);simp only[ae6,aei,ais]at G;generalize eF T (fh T (cx u)).2 [59]=r4 at *;generalize fh T (cx u)=pp at *;simp only[PD.cells]at w y G;generalize gD T u=c at *;simp only[Tk.cells]at E;simp[-aE,-ax,v,f0,E,K,L,q1,N,q2,V,n,M,wC,oo,hw,w,e4,y,dX,di,ay,AV.ai];exact G
      |false=>
      cases n:jF T u [102,117,110,99] with
      |true=>
       simp only[q1,q2,n,true_and,acC,false_and,false_or,bh,br]at j;by_cases m:fs.length=16;rw[af m]at j;have G:=I (kO T u 4,⟨rs,o,fs⟩,g) ⟨C,D,F,j⟩ (by grind);generalize gD T u=c at *;simp only[Tk.cells]at E;simp[-aE,-ax,v,f0,E,K,L,q1,N,q2,V,n,m,X];exact G;rw[U m]at j;obtain⟨⟨x,r2⟩,h3,h4⟩:=ack.1 j;have w:=agy hT h3;have M:¬(fs.length:Int)=16:=(by omega);have y:=gP (sz:=7) (bytes:=104) (r:=fs.map Fc.aI) (new:=[x.aI]) (by simp[cr,Fc.aI]) (by simp[cZ];omega);have G:=I (r2,⟨rs,o,fs++[x]⟩,g) ⟨C,D,by simp;omega,h4⟩ (by grind);simp only[ae6,aei,ais]at G;simp only[Fc.aI]at w y G;generalize gD T u=c at *;simp only[Tk.cells]at E;simp[-aE,-ax,v,f0,E,K,L,q1,N,q2,V,n,M,wC,oo,hw,w,y,dX,di,ay,AV.ai];exact G
      |false=>
       simp only[q1,q2,n,acC,false_and,or_self,br]at j;have G:=I (kO T u 2,⟨rs,o,fs⟩,g) ⟨C,D,F,j⟩ (by grind);generalize gD T u=c at *;simp only[Tk.cells]at E;simp[-aE,-ax,v,f0,E,K,L,q1,N,q2,V,n,X];exact G
    rw[U (λh=>f0 h.1)]at j;simp only[bw,cL]at j;obtain⟨rfl,rfl⟩:=j;rw[U f0];have ea:∀ah bx,bz 0 ah (.load true 2 false) [.val (.ptr 0 0 0 3)] [RQ.bO Z u] bx=some (.val (.agg [.int .i64 u.fe,.int .i64 u.fa]),[RQ.bO Z u],bx):=λah bx=>by simp[RQ.bO,cut,AV.ai]
    simp[-aE,-ax,v,f0,ea,dX,di,fZ.bM,ay,AV.ai,Pg.aI,Ik]
 simp_all [rI,U,U2.NJ]
end N7
namespace N7
open Ax Go aO V7 iQ U7
theorem acj(s:List UInt8):Pg.In 6000 (rI s).1/\(rI s).1.few:=by
 unfold rI;split;rename_i H;generalize R:U2.Lp s=z;obtain⟨rows,e⟩:=z;cases e with
 |some e=>exact⟨TK,NR⟩|none=>
  obtain⟨g,m⟩:=N9 R;obtain⟨x,h⟩:=Bg (wD rows);simp only;rw[h,ahB];exact X8 ⟨by decide,λy k=>by
   have:=alj g y k;omega⟩ h
 exact⟨TK,NR⟩
def lG(p:Pg):GD:=⟨aM 3 (p.aU.map Rc.aI),aM 4 (p.az.map PD.cells),aM 7 (p.funcs.map Fc.aI)⟩
variable{r:List (List AV)}
theorem EC{s:Nat}:cJ (aM s r)=true:=by simp[aM]
theorem Bn{a:Int}(h:0<=a)(H:a<=6000):sS a=true:=by simp only[sS,Bool.and_eq_true,aA];omega
theorem Cj{s:Nat}(h:cr s r=true):cN s (aM s r)=true:=by
 cases r with
 |nil=>rfl|cons a r=>simp[cN,h]
theorem Kl{l:List PD}(h:∀p∈l,NQ 6000 p):HJ (aM 4 (l.map PD.cells))=true:=by
 unfold HJ gH;rw[EC,Cj (by simp[cr,PD.cells]),bn];simp only[ah8,agC,ajn,ac3,Function.comp];intro p k;obtain⟨H,m,j,g⟩:=h p k;simp[VQ,PD.cells,Bn H (by omega),Bn j g]
theorem aiO{p:Pg}(h:Pg.In 6000 p):(lG p).ok:=by
 refine⟨?_,Kl h.g.2,?_⟩;unfold J0 gH;show (cJ (aM 3 (p.aU.map Rc.aI))&&cN 3 (aM 3 (p.aU.map Rc.aI))&&(aY (aM 3 (p.aU.map Rc.aI))).all Mj)=true;rw[EC,Cj (by simp[cr,Rc.aI]),bn];simp only[ah8,agC,ajn,ac3,Function.comp];intro r H;have i:=h.r.2 r H;simp[Mj,Rc.aI,Kl i.f,Bn i.a.1 i.a.2];unfold J1 gH;show (cJ (aM 7 (p.funcs.map Fc.aI))&&cN 7 (aM 7 (p.funcs.map Fc.aI))&&(aY (aM 7 (p.funcs.map Fc.aI))).all Ml)=true;rw[EC,Cj (by simp[cr,Fc.aI]),bn];simp only[ah8,agC,ajn,ac3,Function.comp];intro r H;have i:=h.f.2 r H;simp[Ml,Fc.aI,Kl i.f,Bn i.a.1 i.a.2,Bn i.od.1 (by have:=i.od.2;omega),bZ,EC]
theorem sV(l:List PD):nK (aM 4 (l.map PD.cells))=l:=by
 simp only[nK,bn,aeR];conv=>rhs;rw[<-List.map_id l]
 exact aeY λp _=>rfl
def Q2(r:Rc):CR:=⟨r.name,aM 4 (r.cF.map PD.cells),r.a⟩
def HP(f:Fc):FN:=⟨f.name,aM 4 (f.params.map PD.cells),f.bR,f.on,f.od,bZ f.body,f.a⟩
theorem xF(p:Pg):eE (lG p).aU=p.aU.map Q2:=by
 simp only[lG,eE,bn,aeR];exact aeY λp _=>rfl
theorem sW(p:Pg):gT (lG p).funcs=p.funcs.map HP:=by
 simp only[lG,gT,bn,aeR];exact aeY λp _=>rfl
theorem Oa(p:Pg):nK (lG p).az=p.az:=sV _
theorem aiP{p:Pg}(h:Pg.In 6000 p):GD.sm (lG p):=by
 refine⟨?_,?_,?_,?_,?_⟩;rw[xF,aes];have:=h.r.1;omega;intro x H;rw[xF]at H;obtain⟨r,j,rfl⟩:=ad7.1 H;simp only[Q2,sV];have:=(h.r.2 r j).len;omega;rw[Oa];have:=h.g.1;omega;rw[sW,aes];have:=h.f.1;omega;intro x H;rw[sW]at H;obtain⟨r,j,rfl⟩:=ad7.1 H;simp only[HP,sV];have:=(h.f.2 r j).len;omega
end N7
