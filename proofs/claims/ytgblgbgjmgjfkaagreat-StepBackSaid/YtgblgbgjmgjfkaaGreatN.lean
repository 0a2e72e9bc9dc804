/- Part of a proof. -/
import Derived.Test.YtgblgbgjmgjfkaaGreatL
import Derived.Test.YtgblgbgjmgjfkaaGreatM

open List renaming length->Q
open Option renaming some->Z,none->K
open Bool renaming true->Y,false->X
open Decidable renaming decide->V
open List renaming map_append->afn,map_cons->aaZ,map_nil->afL,map_map->ae5,map_congr_left->afj,mem_map->aap,all_map->aii,all_eq_true->aam,length_map->adW
open Option renaming bind_eq_some_iff->aaf,getD_some->afA
open Nat renaming le_refl->aal,strongRecOn->akm
open Int renaming natCast_zero->ak3,cast_ofNat_Int->aib,natCast_add->af9
open Bool renaming true_or->aoS,false_or->aks,or_self->al8,false_eq_true->aai,and_self->afH,true_and->afp
set_option maxRecDepth 100000
set_option maxHeartbeats 8000000
namespace N7
open Ax Go aM V7 jb
section
variable {l:AV}{T:List Tk}(hT:TL l T)(ai:Nat)(q:RQ)
theorem jj:(bh S).call 0 ai 26 [.ptr 0 0 0 0] [q.bX l]=Z (.bool (V (q.fe=0)),[q.bX l]):=by
 refine aG rfl rfl rfl ?_;simp[s26,RQ.bX,cut,AV.aj]
include hT
theorem qV:(bh S).call 0 ai 27 [.ptr 0 0 0 0] [q.bX l]=Z (.agg (g9 T q).cells,[q.bX l]):=by
 have k:=hT.sl;have m:=hT.sz;have j:=hT.rows;refine aG rfl rfl rfl ?_;have B:¬(q.at_:Int)<0:=by omega
 by_cases h:q.at_<Q T;have H:¬(Q T:Int)<=q.at_:=by omega
 have g:g9 T q=T[q.at_]:=by simp[g9,h]
 simp[s27,RQ.bX,cut,B,h,H,k,m,j,g,Tk.cells,aA,ay,AV.aj];have H:(Q T:Int)<=q.at_:=by omega
 have g:g9 T q=Tk0:=by simp[g9,List.getD,List.getElem?_eq_none (Nat.le_of_not_lt h)]
 simp[s27,RQ.bX,cut,B,H,k,j,g,Tk.cells,aA,ay,AV.aj]
theorem lE(s)(I:s≠[]):(bh S).call 0 ai 28 [.ptr 0 0 0 0,.str s] [q.bX l]=Z (.bool (jZ T q s),[q.bX l]):=by
 have E:=λai=>qV hT ai q;have h:=λai=>jj (l:=l) ai q;cases s with
 |nil=>grind|cons c s=>
  obtain⟨v,p⟩:∃v,jZ T q (c::s)=v:=⟨_,rfl⟩;rw[p];simp[jZ]at p;refine aG rfl rfl rfl ?_;generalize g9 T q=x at *;simp[Tk.cells]at E;have M:∀k:Int,Ev (c::s)=k->v=(V (q.fe=0)&&V (x.k=k)&&V (x.t=c::s)):=λk m=>by grind
  by_cases c1:97<=c.toNat;have D:(97:Int)<=c.toNat:=by omega
  by_cases c2:c.toNat<=122;have g:(c.toNat:Int)<=122:=by omega
  rw[M 3 (by simp[Ev,c1,c2])];by_cases f0:q.fe=0<;>by_cases F:x.k=3<;>simp[s28,E,h,D,g,f0,F];have g:¬(c.toNat:Int)<=122:=by omega
  rw[M 4 (by simp[Ev,c2])];by_cases f0:q.fe=0<;>by_cases F:x.k=4<;>simp[s28,E,h,D,g,f0,F];have D:¬(97:Int)<=c.toNat:=by omega
  rw[M 4 (by simp[Ev,c1])];by_cases f0:q.fe=0<;>by_cases F:x.k=4<;>simp[s28,E,h,D,f0,F]
theorem vQ(e):(bh S).call 0 ai 29 [.ptr 0 0 0 0,.int .i64 e] [q.bX l]=Z (.fC [],[(lM T q e).bX l]):=by
 have E:=λai=>qV hT ai q;have h:=λai=>jj (l:=l) ai q;refine aG rfl rfl rfl ?_;unfold lM;simp[Tk.cells]at E;by_cases f0:q.fe=0;simp only[RQ.bX,f0]at E h;simp[s29,h,E,RQ.bX,f0,cut,bw,AV.aD,AV.aH,aB];simp[s29,h,f0]
theorem gY(s)(I:s≠[]):(bh S).call 0 ai 32 [.ptr 0 0 0 0,.str s] [q.bX l]=Z (.fC [],[(eU T q s).bX l]):=by
 have E:=λai=>lE hT ai q s I;have g:=λai e=>vQ hT ai q e;have m:=hT.len;refine aG rfl rfl rfl ?_;unfold eU;cases h:jZ T q s with
 |false=>simp[s32,E,h,g]|true=>
  have L:=(cm h).2;have H:IntKind.i64.wrap (q.at_+1)=((q.at_+1:Nat)):=by rw[dg]<;>omega
  simp[RQ.bX,h]at E;simp[s32,E,RQ.bX,cD,cut,bw,AV.aD,AV.aH,aB,H,AV.aj]
theorem xg(s)(I:s≠[]):(bh S).call 0 ai 128 [.ptr 0 0 0 0,.str s] [q.bX l]=Z (.fC [],[(mL T q s).bX l]):=by
 have E:=λai=>lE hT ai q s I;have j:=λai e=>vQ hT ai q e;have g:=λai=>gY hT ai q s I;refine aG rfl rfl rfl ?_;unfold mL;cases H:jZ T q s with
 |false=>
  simp[RQ.bX,H]at E g;simp[ahn,E,g,RQ.bX,B6,cut,bw,AV.aD,AV.aH,aB,AV.aj]
 |true=>
  by_cases h:50<=q.op;simp[RQ.bX,H]at E j;simp[ahn,E,j,RQ.bX,cut,h,AV.aj];generalize eU T q s=r at *;simp[RQ.bX,H]at E g;simp[ahn,E,g,RQ.bX,B6,cut,h,bw,AV.aD,AV.aH,aB,AV.aj]
theorem wA(s)(I:s≠[]):(bh S).call 0 ai 130 [.ptr 0 0 0 0,.str s] [q.bX l]=Z (.fC [],[(rY T q s).bX l]):=by
 have E:=λai=>gY hT ai q s I;have H:∀n:Int,IntKind.i64.wrap (n-1)=IntKind.i64.wrap (n + -1):=λn=>by grind
 refine aG rfl rfl rfl ?_;unfold rY;simp[RQ.bX]at E;simp[ar4,E,RQ.bX,B6,cut,bw,AV.aD,AV.aH,aB,AV.aj,H]
theorem rX:(bh S).call 0 ai 83 [.ptr 0 0 0 0] [q.bX l]=Z (.str (fG T q).1,[(fG T q).2.bX l]):=by
 have E:=λai=>qV hT ai q;have h:=λai=>jj (l:=l) ai q;have g:=λai e=>vQ hT ai q e;have m:=hT.len;refine aG rfl rfl rfl ?_;unfold fG;have g:=λai=>g ai 2;generalize lM T q 2=r at *;generalize j:g9 T q=x at *;simp[Tk.cells]at E;by_cases f0:q.fe=0;by_cases F:x.k=1;simp only[RQ.bX,f0]at E h;have L:q.at_<Q T:=Aw (by grind);have H:IntKind.i64.wrap (q.at_+1)=((q.at_+1:Nat)):=by rw[dg]<;>omega
 simp[s83,E,h,f0,F,RQ.bX,cD,cut,bw,AV.aD,AV.aH,aB,H,AV.aj];simp_all [s83];simp_all [s83]
end
end N7
namespace N7
open Ax Go aM V7 jb
theorem amL{T k d q}(h:jZ T q [91]=X):RB T k d q=(d,q):=by
 cases k with
 |zero=>rfl|succ k=>unfold RB;rw[h];rfl
section
variable {l:AV}{T:List Tk}(hT:TL l T)(ai:Nat)(q:RQ)
include hT
theorem Cf:(bh S).call 0 ai 84 [.ptr 0 0 0 0] [q.bX l]=Z (.agg [.str (D3 T q).1.1,.int .i64 (D3 T q).1.2],[(D3 T q).2.bX l]):=by
 have D:=hT.len;refine aG (sf:=s84) rfl rfl rfl ?_;generalize h:D3 T q=F;simp[s84];refine bM acN.eq_1 (λx:RQ×Nat=>⟨[(0,.val (.ptr 0 0 0 0)),(2,.fp 0 0),(3,.val (.int .i64 x.2))],[[.str [],.int .i64 0],[]],[RQ.bX l x.1]⟩)
  (λx=>∃k,k+x.2=3/\RB T k x.2 x.1=RB T 3 0 q) (λx=>3-x.2) (q,0) ?_ ⟨3,rfl,rfl⟩ ?_
 rfl
 rintro⟨r,d⟩ ⟨k,hk,W⟩ M;simp only at hk W M;have E:=λai=>lE hT ai r [91] (by simp);unfold D3 at h;cases m:jZ T r [91] with
 |true=>
  obtain⟨J,L⟩:=cm m;by_cases R:d=3;have ef:=λai e=>vQ hT ai r e;have C:k=0:=by omega
  subst R C;have B:RB T 3 0 q=(3,r):=W.symm;rw[B,af m]at h;subst h;simp_all;have O:¬(d:Int)=3:=by omega
  have w:=wk r.at_ (by omega);have rJ:=wk d (by omega);simp only[RQ.bX,m]at E;simp[E,O,RQ.bX,cut,bw,AV.aD,AV.aH,aB,w,rJ,AV.aj];refine M (cD r,d+1) ⟨k-1,by grind,?_⟩ (by grind);rw[<-W];obtain⟨N,rfl⟩:∃N,k=N+1:=⟨k-1,by omega⟩;conv=>rhs;unfold RB
  grind
 |false=>
  rw[amL m]at W;rw[<-W,U (by grind)]at h;dsimp only at h;have P:=λai=>rX hT ai r;have p:=λai=>lE hT ai r [105,110,116] (by simp);have y:=λai=>lE hT ai r [98,111,111,108] (by simp);have n:=λai=>qV hT ai r;unfold ofN at h;cases j:jZ T r [105,110,116] with
  |true=>
   obtain⟨J,L⟩:=cm j;have w:=wk r.at_ (by omega);simp only[RQ.bX,m,j]at E p n;rw[j]at h;simp only[aoS,bz]at h;generalize hc:g9 T r=c at *;simp only[Tk.cells]at n;simp[E,p,n,RQ.bX,cut,bw,AV.aD,AV.aH,aB,w,AV.aj];refine bM Oz.eq_1 (λx:Nat=>⟨[(0,.val (.ptr 0 0 0 0)),(2,.fp 0 0),(3,.val (.int .i64 d)),(4,.fp 1 0),(5,.val (.int .i64 x))],[[.str [],.int .i64 0],[.str c.t,.int .i64 d]],[RQ.bX l (As T (cD r) [93] x)]⟩)
    (λx=>x<=d) (λx=>d-x) 0 ?_ (by simp) ?_
   rfl
   intro x G I;by_cases g:x<d;have H:=wk x (by omega);have s:=λai=>gY hT ai (As T (cD r) [93] x) [93] (by simp);have o:(x:Int)<(d:Int):=(by omega);simp[g,s,H];exact I (x+1) (by omega) (by omega);have:x=d:=by omega
   subst this;subst h;simp
   rfl
  |false=>
   cases v:jZ T r [98,111,111,108] with
   |true=>
    obtain⟨J,L⟩:=cm v;have w:=wk r.at_ (by omega);simp only[RQ.bX,m,j,v]at E p y n;rw[j,v]at h;simp only[aks,bz]at h;generalize hc:g9 T r=c at *;simp only[Tk.cells]at n;simp[E,p,y,n,RQ.bX,cut,bw,AV.aD,AV.aH,aB,w,AV.aj];refine bM Oz.eq_1 (λx:Nat=>⟨[(0,.val (.ptr 0 0 0 0)),(2,.fp 0 0),(3,.val (.int .i64 d)),(4,.fp 1 0),(5,.val (.int .i64 x))],[[.str [],.int .i64 0],[.str c.t,.int .i64 d]],[RQ.bX l (As T (cD r) [93] x)]⟩)
     (λx=>x<=d) (λx=>d-x) 0 ?_ (by simp) ?_
    rfl
    intro x G I;by_cases g:x<d;have H:=wk x (by omega);have s:=λai=>gY hT ai (As T (cD r) [93] x) [93] (by simp);have o:(x:Int)<(d:Int):=(by omega);simp[g,s,H];exact I (x+1) (by omega) (by omega);have:x=d:=by omega
    subst this;subst h;simp
    rfl
   |false=>
    rw[j,v]at h;simp only[al8,aai,bC]at h;generalize fG T r=z at *;simp[E,p,y,m,j,v,P,aB];refine bM Oz.eq_1 (λx:Nat=>⟨[(0,.val (.ptr 0 0 0 0)),(2,.fp 0 0),(3,.val (.int .i64 d)),(4,.fp 1 0),(5,.val (.int .i64 x))],[[.str [],.int .i64 0],[.str z.1,.int .i64 d]],[RQ.bX l (As T z.2 [93] x)]⟩)
     (λx=>x<=d) (λx=>d-x) 0 ?_ (by simp) ?_
    rfl
    intro x G I;by_cases g:x<d;have H:=wk x (by omega);have s:=λai=>gY hT ai (As T z.2 [93] x) [93] (by simp);have o:(x:Int)<(d:Int):=(by omega);simp[g,s,H];exact I (x+1) (by omega) (by omega);have:x=d:=by omega
    subst this;subst h;simp
theorem K0:(bh S).call 0 ai 31 [.ptr 0 0 0 0] [q.bX l]=Z (.agg (fJ T q).1.cells,[(fJ T q).2.bX l]):=by
 have E:=λai=>qV hT ai q;have P:=λai=>rX hT ai q;have r:=λai=>gY hT ai (fG T q).2 [58] (by simp);have g:=λai=>Cf hT ai (eU T (fG T q).2 [58]);refine aG (sf:=s31) rfl rfl rfl ?_;unfold fJ;generalize D3 T (eU T (fG T q).2 [58])=h at *;generalize eU T (fG T q).2 [58]=q2 at *;generalize fG T q=z,g9 T q=c at *;simp only[Tk.cells]at E;simp[-aE,-az,s31,E,P,r,g,aB,AV.aj,AV.aH,AV.aD,PD.cells]
end
theorem RO(C ai)(n:Nat)(r:n<5)(c st):(bh S).call C ai 165 [.int .i64 n,.agg c.cells] st=Z (.int .i64 (Au n c),st):=by
 refine bu (sf:=Rm) rfl rfl (by simp[Tk.cells,AV.aH,AV.aD]) rfl (by simp) ?_;unfold Au;by_cases m:c.k=4;rw[af m];have W:IntKind.i64.wrap 1=1:=rfl;have p:IntKind.i64.wrap 2=2:=rfl;have w:IntKind.i64.wrap 3=3:=rfl;have o:IntKind.i64.wrap 4=4:=rfl;have j:n=0\/n=1\/n=2\/n=3\/n=4:=by omega
 have W:IntKind.i64.wrap 1=1:=rfl;have p:IntKind.i64.wrap 2=2:=rfl;have w:IntKind.i64.wrap 3=3:=rfl;have o:IntKind.i64.wrap 4=4:=rfl;rcases j with h|h|h|h|h;subst h;simp[Rm,Tk.cells,m];refine bM C1.eq_1 (λk:Nat=>⟨[(0,.val (.int .i64 0)),(3,.fp 0 0),(5,.val (.eE 1 [[.eE 1 [[.str [124,124]]]],[.eE 1 [[.str [38,38]]]],[.eE 1 [[.str [60]],[.str [60,61]],[.str [61,61]],[.str [33,61]]]],[.eE 1 [[.str [43]],[.str [45]]]],[.eE 1 [[.str [42]],[.str [47]],[.str [37]]]]])),(6,.val (.eE 1 [[.eE 1 [[.int .i64 24]]],[.eE 1 [[.int .i64 23]]],[.eE 1 [[.int .i64 19],[.int .i64 20],[.int .i64 21],[.int .i64 22]]],[.eE 1 [[.int .i64 14],[.int .i64 15]]],[.eE 1 [[.int .i64 16],[.int .i64 17],[.int .i64 18]]]])),(7,.val (.int .i64 k))],[[.int .i64 4,.str c.t,.int .i64 c.n,.int .i64 c.a]],[]⟩)
  (λk=>k<=1/\ji (fV 0) c.t=ji ((fV 0).drop k) c.t) (λk=>1-k) 0 (by simp) (by simp) ?_
 intro k ⟨N,H⟩ I;have g:k=0\/k=1:=by omega
 rcases g with h|h;subst h;by_cases e:[124,124]=c.t;rw[H];simp[e,aA,ay,AV.aj,fV,ji];simp[e,W,aA,ay,AV.aj];exact I 1 ⟨by omega,by rw[H];simp[fV,ji,e]⟩ (by omega);simp_all [fV,ji];subst h;simp[Rm,Tk.cells,m];refine bM C1.eq_1 (λk:Nat=>⟨[(0,.val (.int .i64 1)),(3,.fp 0 0),(5,.val (.eE 1 [[.eE 1 [[.str [124,124]]]],[.eE 1 [[.str [38,38]]]],[.eE 1 [[.str [60]],[.str [60,61]],[.str [61,61]],[.str [33,61]]]],[.eE 1 [[.str [43]],[.str [45]]]],[.eE 1 [[.str [42]],[.str [47]],[.str [37]]]]])),(6,.val (.eE 1 [[.eE 1 [[.int .i64 24]]],[.eE 1 [[.int .i64 23]]],[.eE 1 [[.int .i64 19],[.int .i64 20],[.int .i64 21],[.int .i64 22]]],[.eE 1 [[.int .i64 14],[.int .i64 15]]],[.eE 1 [[.int .i64 16],[.int .i64 17],[.int .i64 18]]]])),(7,.val (.int .i64 k))],[[.int .i64 4,.str c.t,.int .i64 c.n,.int .i64 c.a]],[]⟩)
  (λk=>k<=1/\ji (fV 1) c.t=ji ((fV 1).drop k) c.t) (λk=>1-k) 0 (by simp) (by simp) ?_
 intro k ⟨N,H⟩ I;have g:k=0\/k=1:=by omega
 rcases g with h|h;subst h;by_cases e:[38,38]=c.t;rw[H];simp[e,aA,ay,AV.aj,fV,ji];simp[e,W,aA,ay,AV.aj];exact I 1 ⟨by omega,by rw[H];simp[fV,ji,e]⟩ (by omega);simp_all [fV,ji];subst h;simp[Rm,Tk.cells,m];refine bM C1.eq_1 (λk:Nat=>⟨[(0,.val (.int .i64 2)),(3,.fp 0 0),(5,.val (.eE 1 [[.eE 1 [[.str [124,124]]]],[.eE 1 [[.str [38,38]]]],[.eE 1 [[.str [60]],[.str [60,61]],[.str [61,61]],[.str [33,61]]]],[.eE 1 [[.str [43]],[.str [45]]]],[.eE 1 [[.str [42]],[.str [47]],[.str [37]]]]])),(6,.val (.eE 1 [[.eE 1 [[.int .i64 24]]],[.eE 1 [[.int .i64 23]]],[.eE 1 [[.int .i64 19],[.int .i64 20],[.int .i64 21],[.int .i64 22]]],[.eE 1 [[.int .i64 14],[.int .i64 15]]],[.eE 1 [[.int .i64 16],[.int .i64 17],[.int .i64 18]]]])),(7,.val (.int .i64 k))],[[.int .i64 4,.str c.t,.int .i64 c.n,.int .i64 c.a]],[]⟩)
  (λk=>k<=4/\ji (fV 2) c.t=ji ((fV 2).drop k) c.t) (λk=>4-k) 0 (by simp) (by simp) ?_
 intro k ⟨N,H⟩ I;have g:k=0\/k=1\/k=2\/k=3\/k=4:=by omega
 rcases g with h|h|h|h|h;subst h;by_cases e:[60]=c.t;rw[H];simp[e,aA,ay,AV.aj,fV,ji];simp[e,W,aA,ay,AV.aj];exact I 1 ⟨by omega,by rw[H];simp[fV,ji,e]⟩ (by omega);subst h;by_cases e:[60,61]=c.t;rw[H];simp[e,aA,ay,AV.aj,fV,ji];simp[e,p,aA,ay,AV.aj];exact I 2 ⟨by omega,by rw[H];simp[fV,ji,e]⟩ (by omega);subst h;by_cases e:[61,61]=c.t;rw[H];simp[e,aA,ay,AV.aj,fV,ji];simp[e,w,aA,ay,AV.aj];exact I 3 ⟨by omega,by rw[H];simp[fV,ji,e]⟩ (by omega);subst h;by_cases e:[33,61]=c.t;rw[H];simp[e,aA,ay,AV.aj,fV,ji];simp[e,o,aA,ay,AV.aj];exact I 4 ⟨by omega,by rw[H];simp[fV,ji,e]⟩ (by omega);subst h;rw[H];simp[AV.aj,fV,ji];subst h;simp[Rm,Tk.cells,m];refine bM C1.eq_1 (λk:Nat=>⟨[(0,.val (.int .i64 3)),(3,.fp 0 0),(5,.val (.eE 1 [[.eE 1 [[.str [124,124]]]],[.eE 1 [[.str [38,38]]]],[.eE 1 [[.str [60]],[.str [60,61]],[.str [61,61]],[.str [33,61]]]],[.eE 1 [[.str [43]],[.str [45]]]],[.eE 1 [[.str [42]],[.str [47]],[.str [37]]]]])),(6,.val (.eE 1 [[.eE 1 [[.int .i64 24]]],[.eE 1 [[.int .i64 23]]],[.eE 1 [[.int .i64 19],[.int .i64 20],[.int .i64 21],[.int .i64 22]]],[.eE 1 [[.int .i64 14],[.int .i64 15]]],[.eE 1 [[.int .i64 16],[.int .i64 17],[.int .i64 18]]]])),(7,.val (.int .i64 k))],[[.int .i64 4,.str c.t,.int .i64 c.n,.int .i64 c.a]],[]⟩)
  (λk=>k<=2/\ji (fV 3) c.t=ji ((fV 3).drop k) c.t) (λk=>2-k) 0 (by simp) (by simp) ?_
 intro k ⟨N,H⟩ I;have g:k=0\/k=1\/k=2:=by omega
 rcases g with h|h|h;subst h;by_cases e:[43]=c.t;rw[H];simp[e,aA,ay,AV.aj,fV,ji];simp[e,W,aA,ay,AV.aj];exact I 1 ⟨by omega,by rw[H];simp[fV,ji,e]⟩ (by omega);subst h;by_cases e:[45]=c.t;rw[H];simp[e,aA,ay,AV.aj,fV,ji];simp[e,p,aA,ay,AV.aj];exact I 2 ⟨by omega,by rw[H];simp[fV,ji,e]⟩ (by omega);simp_all [fV,ji];subst h;simp[Rm,Tk.cells,m];refine bM C1.eq_1 (λk:Nat=>⟨[(0,.val (.int .i64 4)),(3,.fp 0 0),(5,.val (.eE 1 [[.eE 1 [[.str [124,124]]]],[.eE 1 [[.str [38,38]]]],[.eE 1 [[.str [60]],[.str [60,61]],[.str [61,61]],[.str [33,61]]]],[.eE 1 [[.str [43]],[.str [45]]]],[.eE 1 [[.str [42]],[.str [47]],[.str [37]]]]])),(6,.val (.eE 1 [[.eE 1 [[.int .i64 24]]],[.eE 1 [[.int .i64 23]]],[.eE 1 [[.int .i64 19],[.int .i64 20],[.int .i64 21],[.int .i64 22]]],[.eE 1 [[.int .i64 14],[.int .i64 15]]],[.eE 1 [[.int .i64 16],[.int .i64 17],[.int .i64 18]]]])),(7,.val (.int .i64 k))],[[.int .i64 4,.str c.t,.int .i64 c.n,.int .i64 c.a]],[]⟩)
  (λk=>k<=3/\ji (fV 4) c.t=ji ((fV 4).drop k) c.t) (λk=>3-k) 0 (by simp) (by simp) ?_
 intro k ⟨N,H⟩ I;have g:k=0\/k=1\/k=2\/k=3:=by omega
 rcases g with h|h|h|h;subst h;by_cases e:[42]=c.t;rw[H];simp[e,aA,ay,AV.aj,fV,ji];simp[e,W,aA,ay,AV.aj];exact I 1 ⟨by omega,by rw[H];simp[fV,ji,e]⟩ (by omega);subst h;by_cases e:[47]=c.t;rw[H];simp[e,aA,ay,AV.aj,fV,ji];simp[e,p,aA,ay,AV.aj];exact I 2 ⟨by omega,by rw[H];simp[fV,ji,e]⟩ (by omega);subst h;by_cases e:[37]=c.t;rw[H];simp[e,aA,ay,AV.aj,fV,ji];simp[e,w,aA,ay,AV.aj];exact I 3 ⟨by omega,by rw[H];simp[fV,ji,e]⟩ (by omega);simp_all [fV,ji];simp[Rm,Tk.cells,m]
end N7
namespace N7
open Ax Go aM V7 jb
theorem xh{C ai l q B}:bD C ai (.load X 1 X) [.val (.ptr 0 0 0 1)] [RQ.bX l q] B=Z (.val (.int .i64 q.at_),[RQ.bX l q],B):=by
 simp[RQ.bX,cut,AV.aj]
theorem asq{C ai l q B}:bD C ai (.load X 1 X) [.val (.ptr 0 0 0 2)] [RQ.bX l q] B=Z (.val (.int .i64 q.op),[RQ.bX l q],B):=by
 simp[RQ.bX,cut,AV.aj]
theorem pg{ai l q B}:bD 0 ai (.store 1) [.val (.ptr 0 0 0 1),.val (.int .i64 (q.at_+1))] [RQ.bX l q] B=Z (.none,[RQ.bX l (cD q)],B):=by
 simp[RQ.bX,cD,bw,AV.aD,AV.aH,aB]
theorem W6{ai l q n B}:bD 0 ai (.store 1) [.val (.ptr 0 0 0 2),.val (.int .i64 n)] [RQ.bX l q] B=Z (.none,[RQ.bX l ⟨q.at_,n,q.fe,q.fa⟩],B):=by
 simp[RQ.bX,bw,AV.aD,AV.aH,aB]
theorem asr(n):IntKind.i64.wrap (n-1)=IntKind.i64.wrap (n + -1):=by grind
def yO(e:E)(g:AV):List AV:=[.int .i64 e.k,.int .i64 e.n,.str e.nm,.str e.on,.int .i64 e.od,g,.int .i64 e.a,.int .i64 e.ty.b,.int .i64 e.ty.r,.int .i64 e.ty.d,.int .i64 e.ref]
theorem C9(e):yO e (bL e.aP)=e.aK:=(E.aU e).symm
def OkE(l:AV)(T:List Tk)(f:Nat):Prop:=∀n q e r,n<=5->lN T f n q=Z (e,r)->∀ai,(bh S).call 0 ai 148 [.ptr 0 0 0 0,.int .i64 (n:Nat)] [q.bX l]=Z (.agg e.aK,[r.bX l])
def OkU(l:AV)(T:List Tk)(f:Nat):Prop:=∀q e r,uY T f q=Z (e,r)->∀ai,(bh S).call 0 ai 164 [.ptr 0 0 0 0] [q.bX l]=Z (.agg e.aK,[r.bX l])
def Tm(l:AV)(T:List Tk)(f:Nat):Prop:=∀a q e r,nK T f a q=Z (e,r)->∀g,bn g=Y->g.aj=bL a.aP->∀ai,(bh S).call 0 ai 180 [.ptr 0 0 0 0,.agg (yO a g)] [q.bX l]=Z (.agg e.aK,[r.bX l])
def AH(l:AV)(T:List Tk)(f:Nat):Prop:=∀q e r,rZ T f q=Z (e,r)->∀ai,(bh S).call 0 ai 187 [.ptr 0 0 0 0] [q.bX l]=Z (.agg e.aK,[r.bX l])
def OkF(l:AV)(T:List Tk)(f:Nat):Prop:=∀q e r,uZ T f q=Z (e,r)->∃g,bn g=Y/\g.aj=bL e.aP/\∀ai,(bh S).call 0 ai 181 [.ptr 0 0 0 0] [q.bX l]=Z (.agg (yO e g),[r.bX l])
def OkN(l:AV)(T:List Tk)(f:Nat):Prop:=∀a q e r,u0 T f a q=Z (e,r)->∀ai,(bh S).call 0 ai 186 [.ptr 0 0 0 0,.int .i64 a] [q.bX l]=Z (.agg e.aK,[r.bX l])
def OkA(l:AV)(T:List Tk)(f:Nat):Prop:=∀q e r,Bb T f q=Z (e,r)->∀ai,(bh S).call 0 ai 188 [.ptr 0 0 0 0] [q.bX l]=Z (cw 11 (E.rows e),[r.bX l])
section
variable {l:AV}{T:List Tk}(hT:TL l T)
include hT
theorem adq(f)(n:OkE l T f):AH l T (f+1):=by
 intro q e r h ai;unfold rZ at h;obtain⟨⟨p,x⟩,H,m⟩:=aaf.1 h;cases m;have k:=λai=>xg hT ai q [40] (by simp);have g:=n 0 _ _ _ (by omega) H;have j:=λai=>wA hT ai x [41] (by simp);generalize mL T q [40]=q1,rY T x [41]=R at *;obtain⟨v,s,N,O,o,B,W,LJ,I⟩:=p;simp only[E.aK,ak3]at g;refine aG (sf:=amc) rfl rfl rfl ?_;simp[amc,k,g,j,E.aK,aB,AV.aH,AV.aD,AV.aj]
theorem adr(f)(t:AH l T f):OkN l T (f+1):=by
 intro at_ q e r h ai;have m:=hT.len;unfold u0 at h;have j:=λai=>lE hT ai q [91] (by simp);refine aG (sf:=ahk) rfl rfl rfl ?_;cases H:jZ T q [91] with
 |false=>
  rw[H]at h;simp only[aai,bC,bE,cR]at h;obtain⟨rfl,rfl⟩:=h;have P:=λai=>rX hT ai q;generalize fG T q=z at *;simp[ahk,j,H,P,Em,E.aK,E.rows,aB,AV.aH,AV.aD]
 |true=>
  rw[H]at h;simp only[bz]at h;obtain⟨⟨x,G⟩,p,s⟩:=aaf.1 h;cases s;obtain⟨D,y⟩:=cm H;have v:=wk q.at_ (by omega);have k:=λai=>Cf hT ai (cD q);have n:=λai=>gY hT ai (D3 T (cD q)).2 [93] (by simp);have g:=t _ _ _ p;generalize eU T (D3 T (cD q)).2 [93]=R at *;generalize D3 T (cD q)=o at *;obtain⟨C,F,N,w,O,B,W,LJ,I⟩:=x;simp only[E.aK]at g;simp[-aE,-az,ahk,j,H,xh,pg,v,k,n,g,Em,E.aK,E.rows,aA,ay,aB,AV.aH,AV.aD,AV.aj]
theorem ahJ(f)(B:∀g,g<=f->OkE l T g):OkA l T (f+1):=by
 intro q e r h ai;have C:=hT.len;unfold Bb at h;have eo:=λai=>xg hT ai q [40] (by simp);refine aG (sf:=ahg) rfl rfl rfl ?_;generalize mL T q [40]=q1 at *;have ei:=λai=>lE hT ai q1 [41] (by simp);cases o:jZ T q1 [41] with
 |true=>
  rw[o]at h;simp only[bz,bE,cR]at h;obtain⟨rfl,rfl⟩:=h;have ec:=λai=>wA hT ai q1 [41] (by simp);simp_all [ahg,E.rows,xX]
 |false=>
  rw[o]at h;simp only[aai,bC]at h;obtain⟨⟨m,x2⟩,y,h2⟩:=aaf.1 h;have v:=B f (aal _) 0 _ _ _ (by omega) y;have g1:=kW y;have D:wS 11 120 .aF [m.aK]=Z (cw 11 (E.rows [m])):=by
   have:=iw (sz:=11) (bytes:=120) (r:=[]) (new:=[m.aK]) (by simp[cy,E.aU]) (by simp[dj]);simpa [xX,E.rows] using this
  obtain⟨F,hF⟩:∃F,(cw 11 (E.rows e),[RQ.bX l r])=F:=⟨_,rfl⟩;obtain⟨k2,n2,N,t,O,G,W,LJ,L⟩:=m;simp only[E.aK,ak3]at v D;simp[ahg,eo,ei,o,v,D,AV.aj];refine bM Wy.eq_1 (λx:RQ×List E×Nat=>⟨[(0,.val (.ptr 0 0 0 0)),(3,.val (cw 11 (E.rows x.2.1)))],[],[RQ.bX l x.1]⟩)
   (λx=>x.2.2<=f/\Q x.2.1<=x.1.at_+1/\zp T x.2.2 x.2.1 x.1=Z (e,r)) (λx=>x.2.2) (x2,[E.mk k2 n2 N t O G W LJ L],f) rfl ⟨aal _,by simp,h2⟩ ?_
  rintro⟨s,k,g⟩ ⟨hg,P,j⟩ I;simp only at hg P j I;have ej:=λai=>lE hT ai s [44] (by simp);cases g with
  |zero=>simp[zp]at j|succ g=>
   unfold zp at j;cases H:jZ T s [44] with
   |true=>
    rw[H]at j;simp only[bz]at j;obtain⟨⟨n,y2⟩,z,h4⟩:=aaf.1 j;obtain⟨i1,i2⟩:=cm H;have J:=wk s.at_ (by omega);have w:=B g (by omega) 0 _ _ _ (by omega) z;have g2:=(kW z).le;have M:=iw (sz:=11) (bytes:=120) (r:=E.rows k) (new:=[n.aK]) (by simp[cy,E.aU]) (by simp[dj,jI];omega);have p:E.rows k++[n.aK]=E.rows (k++[n]):=(by simp[jI]);rw[p]at M;have iD:=I (y2,k++[n],g) ⟨by grind,by grind [cD],h4⟩ (by grind);generalize E.rows (k++[n])=R at *;obtain⟨k3,n3,nm3,on3,od3,S,a3,ty3,U⟩:=n;simp only[E.aK,ak3]at w M;simp[-aE,-az,ej,H,xh,pg,J,w,M,AV.aj];exact iD
   |false=>
    rw[H]at j;simp only[aai,bC,bE,cR]at j;obtain⟨rfl,rfl⟩:=j;have ec:=λai=>wA hT ai s [41] (by simp);simp_all
end
end N7
namespace N7
open Ax Go aM V7 jb
section
variable {l:AV}{T:List Tk}(hT:TL l T)
include hT
theorem ads(f)(hN:OkN l T f)(hI:AH l T f)(hA:OkA l T f):OkF l T (f+1):=by
 intro q e r h;have hlen:=hT.len;have m:=λai=>qV hT ai q;have t:=λai=>jj (l:=l) ai q;have v:=λai s hs=>lE hT ai q s hs;have F:=λs (h:jZ T q s=Y)=>RC h;have LZ:(g9 T q).k≠0->q.at_<Q T:=Aw;unfold uZ at h;generalize hc:g9 T q=c at *;simp only[Tk.cells]at m;have H:q.at_<Q T->IntKind.i64.wrap ((q.at_:Int)+1)=((q.at_+1:Nat):Int):=λh=>by rw[dg]<;>omega
 have M:∀s,jZ T q s=Y->IntKind.i64.wrap ((q.at_:Int)+1)=((q.at_+1:Nat):Int):=λs h=>H (cm h).2;by_cases D:q.fe=0/\c.k=2;rw[af D]at h;cases h;have H:=H (LZ (by grind));refine⟨.aF,rfl,by simp[Em,E.aP,vL,AV.aj],λai=>?_⟩;refine aG (sf:=wT) rfl rfl rfl ?_;simp[-aE,-az,wT,m,t,D.1,D.2,xh,pg,H,aB,AV.aH,AV.aD,yO,Em,E.k,E.n,E.nm,E.on,E.od,E.a,E.ty,E.ref];rw[U D]at h;by_cases G:q.fe=0
 ·have R:¬c.k=2:=λh=>D ⟨G,h⟩;cases g:jZ T q [116,114,117,101] with
  |true=>
   rw[g]at h;simp only[aoS,bz,bE,cR]at h;obtain⟨rfl,rfl⟩:=h;have H:=M _ g;have ht:=F _ g;refine⟨.aF,rfl,by simp[Em,E.aP,vL,AV.aj],λai=>?_⟩;refine aG (sf:=wT) rfl rfl rfl ?_;simp[-aE,-az,wT,m,t,G,R,v,g,xh,pg,H,ht,aB,AV.aH,AV.aD,yO,Em,E.k,E.n,E.nm,E.on,E.od,E.a,E.ty,E.ref]
  |false=>
  cases p:jZ T q [102,97,108,115,101] with
  |true=>
   rw[g,p]at h;simp only[aks,bz,bE,cR]at h;obtain⟨rfl,rfl⟩:=h;have H:=M _ p;have ht:=F _ p;refine⟨.aF,rfl,by simp[Em,E.aP,vL,AV.aj],λai=>?_⟩;refine aG (sf:=wT) rfl rfl rfl ?_;simp[-aE,-az,wT,m,t,G,R,v,g,p,xh,pg,H,ht,aB,AV.aH,AV.aD,yO,Em,E.k,E.n,E.nm,E.on,E.od,E.a,E.ty,E.ref]
  |false=>
  rw[g,p]at h;simp only[al8,aai,bC]at h;cases w:jZ T q [110,117,108,108] with
  |true=>
   rw[w]at h;simp only[bz,bE,cR]at h;obtain⟨rfl,rfl⟩:=h;have H:=M _ w;have j:=λai=>Cf hT ai (cD q);generalize D3 T (cD q)=o at *;refine⟨.aF,rfl,by simp[Em,E.aP,vL,AV.aj],λai=>?_⟩;refine aG (sf:=wT) rfl rfl rfl ?_;simp[-aE,-az,wT,m,t,G,R,v,g,p,w,xh,pg,H,j,aB,AV.aH,AV.aD,aA,ay,yO,Em,E.k,E.n,E.nm,E.on,E.od,E.a,E.ty,E.ref]
  |false=>
  rw[w]at h;simp only[aai,bC]at h;cases x:jZ T q [110,101,119] with
  |true=>
   rw[x]at h;simp only[bz]at h;have H:=M _ x;have j:=hN _ _ _ _ h;refine⟨bL e.aP,by simp,by simp,λai=>?_⟩;rw[C9];obtain⟨k2,n2,I,L,J,Bg,a2,LJ,IG⟩:=e;simp only[E.aK]at j ⊢;refine aG (sf:=wT) rfl rfl rfl ?_;simp[-aE,-az,wT,m,t,G,R,v,g,p,w,x,xh,pg,H,j,aB,AV.aH,AV.aD]
  |false=>
  rw[x]at h;simp only[aai,bC]at h;cases O:jZ T q [108,101,110] with
  |true=>
   rw[O]at h;simp only[bz]at h;have H:=M _ O;obtain⟨⟨B,x2⟩,y,W⟩:=aaf.1 h;cases W;have j:=hI _ _ _ y;refine⟨_,by simp,ck,λai=>?_⟩;rw[C9];obtain⟨k2,n2,I,L,J,Bg,a2,LJ,IG⟩:=B;simp only[E.aK]at j;refine aG (sf:=wT) rfl rfl rfl ?_;simp[-aE,-az,wT,m,t,G,R,v,g,p,w,x,O,xh,pg,H,j,aB,AV.aH,AV.aD,AV.aj,aA,ay,Em,E.aK,E.rows]
  |false=>
  rw[O]at h;simp only[aai,bC]at h;cases C:jZ T q [114,101,97,100] with
  |true=>
   rw[C]at h;simp only[bz,bE,cR]at h;obtain⟨rfl,rfl⟩:=h;have H:=M _ C;have ep:=λai=>xg hT ai (cD q) [40] (by simp);have eq:=λai=>wA hT ai (mL T (cD q) [40]) [41] (by simp);refine⟨.aF,rfl,by simp[Em,E.aP,vL,AV.aj],λai=>?_⟩;refine aG (sf:=wT) rfl rfl rfl ?_;simp[-aE,-az,wT,m,t,G,R,v,g,p,w,x,O,C,xh,pg,H,ep,eq,aB,AV.aH,AV.aD,yO,Em,E.k,E.n,E.nm,E.on,E.od,E.a,E.ty,E.ref]
  |false=>
  rw[C]at h;simp only[aai,bC]at h;cases N:jZ T q [40] with
  |true=>
   rw[N]at h;simp only[bz]at h;have j:=hI _ _ _ h;refine⟨bL e.aP,by simp,by simp,λai=>?_⟩;rw[C9];obtain⟨k2,n2,I,L,J,Bg,a2,LJ,IG⟩:=e;simp only[E.aK]at j ⊢;refine aG (sf:=wT) rfl rfl rfl ?_;simp[-aE,-az,wT,m,t,G,R,v,g,p,w,x,O,C,N,j,aB,AV.aH,AV.aD]
  |false=>
   rw[N]at h;simp only[aai,bC]at h;have P:=λai=>rX hT ai q;generalize fG T q=z at *;have ez:=λai=>lE hT ai z.2 [40] (by simp);cases y:jZ T z.2 [40] with
   |false=>
    rw[y]at h;simp only[aai,bC,bE,cR]at h;obtain⟨rfl,rfl⟩:=h;refine⟨.aF,rfl,by simp[Em,E.aP,vL,AV.aj],λai=>?_⟩;refine aG (sf:=wT) rfl rfl rfl ?_;simp[-aE,-az,wT,m,t,G,R,v,g,p,w,x,O,C,N,P,ez,y,aB,AV.aH,AV.aD,yO,Em,E.k,E.n,E.nm,E.on,E.od,E.a,E.ty,E.ref]
   |true=>
    rw[y]at h;simp only[bz]at h;obtain⟨⟨B,x2⟩,W,A8⟩:=aaf.1 h;cases A8;have j:=hA _ _ _ W;have S:bn (cw 11 (E.rows B))=Y:=ey;have hv:(cw 11 (E.rows B)).aj=bL B:=rfl;generalize cw 11 (E.rows B)=kv at *;have hkc:=j9 S;have hkp:=dV S;refine⟨kv,S,hv,λai=>?_⟩;refine aG (sf:=wT) rfl rfl rfl ?_;simp[-aE,-az,wT,m,t,G,R,v,g,p,w,x,O,C,N,P,ez,y,j,S,aB,AV.aH,AV.aD,aA,ay,yO,Em,E.k,E.n,E.nm,E.on,E.od,E.a,E.ty,E.ref]
 have eC:∀s,jZ T q s=X:=λs=>ahx G;have P:=λai=>rX hT ai q;have hz:fG T q=([],q):=by simp[fG,G,lM]
 rw[hz]at P;simp only[eC,hz,al8,aai,bC,bE,cR]at h;obtain⟨rfl,rfl⟩:=h;refine⟨.aF,rfl,by simp[Em,E.aP,vL,AV.aj],λai=>?_⟩;refine aG (sf:=wT) rfl rfl rfl ?_;simp[-aE,-az,wT,m,t,G,v,eC,P,aB,AV.aH,AV.aD,yO,Em,E.k,E.n,E.nm,E.on,E.od,E.a,E.ty,E.ref]
theorem Y9(f)(hE:∀g,g<f->OkE l T g):Tm l T f:=by
 intro a0 q e r h L C G ai;have W:=hT.len;have y:=j9 C;refine aG (sf:=al2) rfl rfl rfl ?_;simp[al2,yO,y];refine bM Wj.eq_1 (λx:RQ×E×AV×Nat×List AV×List AV=>⟨[(0,.val (.ptr 0 0 0 0)),(3,.fp 0 0),(4,.fp 1 0)],
   [yO x.2.1 x.2.2.1,[.int .i64 0,.int .i64 0,.str [],.str [],.int .i64 0,.aF,.int .i64 0,.int .i64 0,.int .i64 0,.int .i64 0,.int .i64 0],x.2.2.2.2.1,x.2.2.2.2.2],[RQ.bX l x.1]⟩)
  (λx=>x.2.2.2.1<=f/\bn x.2.2.1=Y/\x.2.2.1.aj=bL x.2.1.aP/\nK T x.2.2.2.1 x.2.1 x.1=Z (e,r)) (λx=>x.2.2.2.1) (q,a0,L,f,[],[]) rfl ⟨aal _,C,G,h⟩ ?_
 rintro⟨s,a,kv,g,B,p⟩ ⟨hg,F,w,j⟩ J;simp only at hg F w j J;have hkc:=j9 F;have hkp:=dV F;have D:=λai=>lE hT ai s [46] (by simp);have S:=λai=>lE hT ai s [91] (by simp);have o:=λai=>qV hT ai s;have iF:E.rows [a]=[yO a (bL a.aP)]:=by rw[C9];simp[E.rows]
 cases g with
 |zero=>simp[nK]at j|succ g=>
  unfold nK at j;cases H:jZ T s [46] with
  |true=>
   rw[H]at j;simp only[bz]at j;obtain⟨i1,i2⟩:=cm H;have hw:=wk s.at_ (by omega);have en:=λai=>rX hT ai (cD s);generalize fG T (cD s)=z,g9 T s=c at *;simp only[Tk.cells]at o;have I:=λB p=>J (z.2,Em 5 0 z.1 [] 0 [a] c.a,bL [a],g,B,p) ⟨by grind,by simp,by simp[Em,E.aP],j⟩ (by grind);simp[-aE,-az,D,H,o,xh,pg,hw,en,w,aB,AV.aj,aA,ay,yO];have:=I [.int .i64 c.k,.str c.t,.int .i64 c.n,.int .i64 c.a] p;simp[yO,Em,E.k,E.n,E.nm,E.on,E.od,E.a,E.ty,E.ref,bL,iF]at this;exact this
  |false=>
   rw[H]at j;simp only[aai,bC]at j;cases v:jZ T s [91] with
   |true=>
    rw[v]at j;simp only[bz]at j;obtain⟨⟨m,x2⟩,h3,U⟩:=aaf.1 j;have eo:=λai=>xg hT ai s [91] (by simp);have P:=hE g (by omega) 0 _ _ _ (by omega) h3;have ec:=λai=>wA hT ai x2 [93] (by simp);generalize mL T s [91]=q1 at *;simp only at U;generalize rY T x2 [93]=q3,g9 T s=c at *;simp only[Tk.cells]at o;have R:E.rows [a,m]=[yO a (bL a.aP),m.aK]:=(by rw[C9];simp[E.rows]);have I:=λB p=>J (q3,Em 6 0 [] [] 0 [a,m] c.a,bL [a,m],g,B,p) ⟨by grind,by simp,by simp[Em,E.aP],U⟩ (by grind);obtain⟨k2,n2,N,M,O,Bg,a2,LJ,IG⟩:=m;simp only[E.aK,ak3]at P R;simp[-aE,-az,D,S,H,v,o,eo,P,ec,w,aB,AV.aj,yO];have:=I [.int .i64 c.k,.str c.t,.int .i64 c.n,.int .i64 c.a] [.int .i64 k2,.int .i64 n2,.str N,.str M,.int .i64 O,aN 11 (E.rows Bg),.int .i64 a2,.int .i64 LJ.b,.int .i64 LJ.r,.int .i64 LJ.d,.int .i64 IG];simp[yO,Em,E.k,E.n,E.nm,E.on,E.od,E.a,E.ty,E.ref,bL,R]at this;exact this
   |false=>
    rw[v]at j;simp only[aai,bC,bE,cR]at j;obtain⟨rfl,rfl⟩:=j;rw[<-C9];simp[-aE,-az,D,S,H,v,w,aB,AV.aH,AV.aD,yO]
theorem adt(f)(w:OkE l T f)(J:OkF l T f)(G:Tm l T f):OkU l T (f+1):=by
 intro q e r h ai;have y:=hT.len;have k:=λai=>qV hT ai q;have em:=λai=>lE hT ai q [45] (by simp);have P:=λai=>lE hT ai q [33] (by simp);unfold uY at h;refine aG (sf:=acg) rfl rfl rfl ?_;cases H:jZ T q [45] with
 |true=>
  rw[H]at h;simp only[aoS,bz]at h;obtain⟨⟨x,F⟩,j,n⟩:=aaf.1 h;cases n;have o:=RC H;rw[o]at j;have s:=λai=>xg hT ai q [45] (by simp);have g:=w 5 _ _ _ (by omega) j;generalize mL T q [45]=q1,g9 T q=c at *;obtain⟨z,D,N,p,O,B,W,LJ,I⟩:=x;simp only[Tk.cells]at k;simp only[E.aK,aib]at g;simp[-aE,-az,acg,k,em,H,o,s,g,asq,W6,B6,asr,aB,AV.aj,AV.aH,AV.aD,Em,E.aK,E.rows]
 |false=>
  cases m:jZ T q [33] with
  |true=>
   rw[H,m]at h;simp only[aks,bz]at h;obtain⟨⟨x,F⟩,j,n⟩:=aaf.1 h;cases n;have o:=RC m;rw[o]at j;have s:=λai=>xg hT ai q [33] (by simp);have g:=w 5 _ _ _ (by omega) j;generalize mL T q [33]=q1,g9 T q=c at *;obtain⟨z,D,N,p,O,B,W,LJ,I⟩:=x;simp only[Tk.cells]at k;simp only[E.aK,aib]at g;simp[-aE,-az,acg,k,em,P,H,m,o,s,g,asq,W6,B6,asr,aB,AV.aj,AV.aH,AV.aD,Em,E.aK,E.rows]
  |false=>
   rw[H,m]at h;simp only[al8,aai,bC]at h;obtain⟨⟨x,F⟩,j,n⟩:=aaf.1 h;obtain⟨C,t,S,g⟩:=J _ _ _ j;have v:=G _ _ _ _ n C t S;obtain⟨z,D,N,p,O,B,W,LJ,I⟩:=e;have L:=j9 t;have M:=dV t;simp only[E.aK]at v ⊢;generalize yO x C=R,g9 T q=c at *;simp only[Tk.cells]at k;simp[-aE,-az,acg,k,em,P,H,m,g,v,aB,AV.aH,AV.aD]
theorem Za(f)(N:∀g,g<=f->OkE l T g)(hU:OkU l T f):OkE l T (f+1):=by
 intro n q e r hn h ai;have O:=hT.len;unfold lN at h;refine aG (sf:=ahe) rfl rfl rfl ?_;by_cases H:n=5;subst H;rw[af rfl]at h;have p:=hU _ _ _ h;obtain⟨k2,n2,nm2,on2,od2,Bg,a2,LJ,IG⟩:=e;simp only[E.aK]at p ⊢;simp[-aE,-az,ahe,p,aB,AV.aH,AV.aD];rw[U H]at h;obtain⟨⟨x1,x2⟩,P,S⟩:=aaf.1 h;have B:¬(n:Int)=5:=by omega
 have F:=wk n (by omega);have p:=N f (aal _) (n+1) _ _ _ (by omega) P;have I:∀e:E,e.aK=[.int .i64 e.k,.int .i64 e.n,.str e.nm,.str e.on,.int .i64 e.od,bL e.aP,.int .i64 e.a,.int .i64 e.ty.b,.int .i64 e.ty.r,.int .i64 e.ty.d,.int .i64 e.ref]:=E.aU;simp only[I,af9,aib]at p;simp[-aE,-az,ahe,B,F,p,aB];refine bM Wn.eq_1 (λx:RQ×E×Nat×List AV×List AV=>⟨[(0,.val (.ptr 0 0 0 0)),(1,.val (.int .i64 n)),(4,.fp 0 0),(5,.fp 1 0)],
   [[.int .i64 0,.int .i64 0,.str [],.str [],.int .i64 0,.aF,.int .i64 0,.int .i64 0,.int .i64 0,.int .i64 0,.int .i64 0],
    [.int .i64 x.2.1.k,.int .i64 x.2.1.n,.str x.2.1.nm,.str x.2.1.on,.int .i64 x.2.1.od,bL x.2.1.aP,.int .i64 x.2.1.a,.int .i64 x.2.1.ty.b,.int .i64 x.2.1.ty.r,.int .i64 x.2.1.ty.d,.int .i64 x.2.1.ref],x.2.2.2.1,x.2.2.2.2],[RQ.bX l x.1]⟩)
  (λx=>x.2.2.1<=f/\tn T x.2.2.1 n x.2.1 x.1=Z (e,r)) (λx=>x.2.2.1) (x2,x1,f,[],[]) rfl ⟨aal _,S⟩ ?_
 rintro⟨s,a,g,J,L⟩ ⟨hg,j⟩ G;simp only at hg j G;have C:=λai=>jj (l:=l) ai s;have v:=λai=>qV hT ai s;have m:=λW ai=>RO W ai n (by omega) (g9 T s) [RQ.bX l s];cases g with
 |zero=>simp[tn]at j|succ g=>
  unfold tn at j;by_cases R:s.fe=0/\Au n (g9 T s)≠0;rw[af R]at j;obtain⟨f0,w⟩:=R;obtain⟨⟨y,y2⟩,h3,h4⟩:=aaf.1 j;have LZ:=Fp w;have hw:=wk s.at_ (by omega);have M:=N g (by omega) (n+1) _ _ _ (by omega) h3;have o:=λW ai st=>RO W ai n (by omega) (g9 T s) st;simp only[I,af9,aib]at M;have D:E.rows [a,y]=[a.aK,y.aK]:=by simp[E.rows]
  simp only[I]at D;generalize Au n (g9 T s)=z at *;have iD:=λJ L=>G (y2,Em z 0 [] [] 0 [a,y] (g9 T s).a,g,J,L) ⟨by grind,h4⟩ (by grind);generalize g9 T s=c at *;simp only[Tk.cells]at v m o;simp[-aE,-az,C,f0,v,o,w,xh,pg,hw,F,M,aB,AV.aj,aA,ay];have:=iD [.int .i64 c.k,.str c.t,.int .i64 c.n,.int .i64 c.a] [.int .i64 y.k,.int .i64 y.n,.str y.nm,.str y.on,.int .i64 y.od,bL y.aP,.int .i64 y.a,.int .i64 y.ty.b,.int .i64 y.ty.r,.int .i64 y.ty.d,.int .i64 y.ref];simp only[Em,E.k,E.n,E.nm,E.on,E.od,E.aP,E.a,E.ty,E.ref]at this;simp only[show bL [a,y]=.eE 11 (E.rows [a,y]) from rfl,D]at this;exact this;rw[U R]at j;simp only[bE,cR]at j;obtain⟨rfl,rfl⟩:=j;rw[I];generalize Au n (g9 T s)=z at *;generalize g9 T s=c at *;simp only[Tk.cells]at v m;by_cases f0:s.fe=0;have w:z=0:=Classical.byContradiction λh=>R ⟨f0,h⟩;subst w;simp[-aE,-az,C,f0,v,m,aB,AV.aH,AV.aD];simp[-aE,-az,C,f0,aB,AV.aH,AV.aD]
theorem adu:∀f,OkE l T f/\OkU l T f/\OkF l T f/\AH l T f/\OkN l T f/\OkA l T f:=by
 intro f;induction f using akm with
 |_ f I=>
  cases f with
  |zero=>
   refine⟨?_,?_,?_,?_,?_,?_⟩;intro n q e r _ h;simp[lN]at h;intro q e r h;simp[uY]at h;intro q e r h;simp[uZ]at h;intro q e r h;simp[rZ]at h;intro a q e r h;simp[u0]at h;intro q e r h;simp[Bb]at h
  |succ f=>
   obtain⟨j,w,m,k,o,M⟩:=I f (by omega);have H:∀g,g<=f->OkE l T g:=λg h=>(I g (by omega)).1;exact⟨Za hT f H w,adt hT f j m (Y9 hT f λg h=>H g (by omega)),ads hT f o k M,adq hT f j,adr hT f k,ahJ hT f H⟩
theorem nO{f n q r e}(g:n<=5)(h:lN T f n q=Z (e,r))(ai):(bh S).call 0 ai 148 [.ptr 0 0 0 0,.int .i64 n] [q.bX l]=Z (.agg e.aK,[r.bX l]):=(adu hT f).1 n q e r g h ai
end
end N7
namespace N7
open Ax Go aM V7 jb
def II(l:AV)(T:List Tk)(f:Nat):Prop:=∀q s r,Bc T f q=Z (s,r)->∀ai,(bh S).call 0 ai 129 [.ptr 0 0 0 0] [q.bX l]=Z (.agg s.aK,[r.bX l])
def OkK(l:AV)(T:List Tk)(f:Nat):Prop:=∀q s r,mZ T f q=Z (s,r)->∀ai,(bh S).call 0 ai 85 [.ptr 0 0 0 0] [q.bX l]=Z (cw 9 (Sm.rows s),[r.bX l])
section
variable {l:AV}{T:List Tk}(hT:TL l T)
include hT
theorem ex0{f q r e}(h:lN T f 0 q=Z (e,r))(ai):
  (bh S).call 0 ai 148 [.ptr 0 0 0 0,.int .i64 0] [q.bX l]=Z (.agg [.int .i64 e.k,.int .i64 e.n,.str e.nm,.str e.on,.int .i64 e.od,bL e.aP,.int .i64 e.a,.int .i64 e.ty.b,.int .i64 e.ty.r,.int .i64 e.ty.d,.int .i64 e.ref],[r.bX l]):=by
 have:=nO hT (n:=0) (by omega) h ai
 grind [E.aU]
theorem K1{f I q r s}(h:B7 T f I q=Z (s,r))(ai):
  (bh S).call 0 ai 149 [.ptr 0 0 0 0,.agg [.int .i64 0,.str [],.str [],.int .i64 0,.aF,.aF,.aF,.int .i64 I,.int .i64 0]] [q.bX l]=Z (.agg s.aK,[r.bX l]):=by
 have L:=hT.len;unfold B7 at h;obtain⟨⟨x,R⟩,M,p⟩:=aaf.1 h;dsimp only at p;have j:=ex0 hT M;have w:=λai s N=>lE hT ai R s N;have J:=λai=>vQ hT ai R 2;have z:E.rows [x]=[[.int .i64 x.k,.int .i64 x.n,.str x.nm,.str x.on,.int .i64 x.od,bL x.aP,.int .i64 x.a,.int .i64 x.ty.b,.int .i64 x.ty.r,.int .i64 x.ty.d,.int .i64 x.ref]]:=by simp[E.rows,E.aU]
 refine aG (sf:=Ro) rfl rfl rfl ?_;cases H:jZ T R [61] with
 |false=>
  rw[H]at p;simp only[aai,bC,bE,cR]at p;obtain⟨rfl,rfl⟩:=p;by_cases m:jZ T R [59]=Y/\x.k≠7;rw[af m];obtain⟨m,O⟩:=m;have g:=λai=>gY hT ai (lM T R 2) [59] (by simp);simp[-aE,-az,Ro,j,w,H,m,O,J,g,aB,AV.aj,AV.aH,AV.aD,Sm.aK,bL,z,Sm.rows];rw[U m];have g:=λai=>gY hT ai R [59] (by simp);cases t:jZ T R [59] with
  |false=>
   simp[-aE,-az,Ro,j,w,H,t,g,aB,AV.aj,AV.aH,AV.aD,Sm.aK,bL,z,Sm.rows]
  |true=>
   have O:x.k=7:=Classical.byContradiction λh=>m ⟨t,h⟩;rw[O]at j z;simp[-aE,-az,Ro,j,w,H,t,g,aB,AV.aj,AV.aH,AV.aD,Sm.aK,bL,z,Sm.rows]
 |true=>
  rw[H]at p;simp only[bz]at p;obtain⟨⟨y,P⟩,m,O⟩:=aaf.1 p;have v:=ex0 hT m;have B:=λai=>gY hT ai P [59] (by simp);have G:E.rows [y]=[[.int .i64 y.k,.int .i64 y.n,.str y.nm,.str y.on,.int .i64 y.od,bL y.aP,.int .i64 y.a,.int .i64 y.ty.b,.int .i64 y.ty.r,.int .i64 y.ty.d,.int .i64 y.ref]]:=by simp[E.rows,E.aU]
  have o:E.rows [x,y]=[[.int .i64 x.k,.int .i64 x.n,.str x.nm,.str x.on,.int .i64 x.od,bL x.aP,.int .i64 x.a,.int .i64 x.ty.b,.int .i64 x.ty.r,.int .i64 x.ty.d,.int .i64 x.ref],[.int .i64 y.k,.int .i64 y.n,.str y.nm,.str y.on,.int .i64 y.od,bL y.aP,.int .i64 y.a,.int .i64 y.ty.b,.int .i64 y.ty.r,.int .i64 y.ty.d,.int .i64 y.ref]]:=by simp[E.rows,E.aU]
  by_cases c4:x.k=4;rw[af (.inl c4)]at v;have g:=λai=>gY hT ai R [61] (by simp);simp only[af c4,bE,cR]at O;obtain⟨rfl,rfl⟩:=O;rw[c4]at j;simp[-aE,-az,Ro,j,w,H,g,v,B,aB,AV.aj,AV.aH,AV.aD,Sm.aK,bL,G,Sm.rows];simp only[U c4,bE,cR]at O;obtain⟨rfl,rfl⟩:=O;by_cases C:x.k=5\/x.k=6;rw[af (.inr C)]at v;have g:=λai=>gY hT ai R [61] (by simp);rcases C with C|C<;>
  ·rw[C]at j o;simp[-aE,-az,Ro,j,w,H,g,v,B,aB,AV.aj,AV.aH,AV.aD,Sm.aK,bL,o,Sm.rows]
  have D:x.k≠5:=λh=>C (.inl h);have F:x.k≠6:=λh=>C (.inr h);rw[U (λh=>h.elim c4 C)]at v;have g:=λai=>gY hT ai (lM T R 2) [61] (by simp);simp[-aE,-az,Ro,j,w,H,J,g,v,B,c4,D,F,aB,AV.aj,AV.aH,AV.aD,Sm.aK,bL,o,Sm.rows]
theorem qz(f)(F:∀g,g<f->II l T g):OkK l T (f+1):=by
 intro q s r h ai;have t:=hT.len;have C:=λai=>xg hT ai q [123] (by simp);unfold mZ at h;refine aG (sf:=s85) rfl rfl rfl ?_;generalize mL T q [123]=q1 at *;simp[-aE,-az,s85,C];refine bM acT.eq_1 (λx:RQ×List Sm×Nat=>⟨[(0,.val (.ptr 0 0 0 0)),(3,.val (cw 9 (Sm.rows x.2.1)))],[],[RQ.bX l x.1]⟩)
  (λx=>x.2.2<=f/\Q x.2.1<=Q T+1/\(x.1.fe=0->Q x.2.1<=x.1.at_/\Q x.2.1<=Q T)/\tq T x.2.2 x.2.1 x.1=Z (s,r)) (λx=>x.2.2) (q1,[],f) rfl ⟨aal _,by simp,by simp,h⟩ ?_
 rintro⟨u,S,g⟩ ⟨J,P,k,j⟩ y;simp only at J P k j y;have n:=λai=>jj (l:=l) ai u;have m:=λai=>lE hT ai u [125] (by simp);cases g with
 |zero=>simp[tq]at j|succ g=>
  unfold tq at j;have B:=λai=>wA hT ai u [125] (by simp);by_cases f0:u.fe=0
  ·cases H:jZ T u [125] with
   |true=>
    rw[U (by grind)]at j;simp only[bE,cR]at j;obtain⟨rfl,rfl⟩:=j;simp[-aE,-az,n,f0,m,H,B]
   |false=>
    rw[af ⟨f0,H⟩]at j;obtain⟨⟨x,N⟩,o,D⟩:=aaf.1 j;have E:=F g (by omega) _ _ _ o;obtain⟨G,W⟩:=(wW T g).1 _ _ _ o;have z:=k f0;have L:=G.le;have M:=iw (sz:=9) (bytes:=136) (r:=Sm.rows S) (new:=[x.aK]) (by simp[cy,Sm.aU]) (by simp[dj,kB];omega);have p:Sm.rows S++[x.aK]=Sm.rows (S++[x]):=(by simp[kB]);rw[p]at M;have I:=y (N,S++[x],g) ⟨by grind,by simp;omega,λf=>by
     rcases W with w|⟨w,v⟩;all_goals grind,D⟩ (by grind)
    simp only at I;generalize Sm.rows (S++[x])=R at *;rw[Sm.aU]at E M;simp[-aE,-az,n,f0,m,H,E,M,AV.aj];exact I
  simp_all
theorem yg(f)(hK:OkK l T f):II l T (f+1):=by
 intro q s r h ai;have hlen:=hT.len;have B:=λai=>qV hT ai q;have I:=λai s hs=>lE hT ai q s hs;have S:=λs (h:jZ T q s=Y)=>RC h;have M:∀s,jZ T q s=Y->IntKind.i64.wrap ((q.at_:Int)+1)=((q.at_+1:Nat):Int):=λs h=>by
  have:=(cm h).2;rw[dg]<;>omega
 unfold Bc at h;refine aG (sf:=Ky) rfl rfl rfl ?_;have en:=λai=>rX hT ai (cD q);have ec:=λai=>gY hT ai (fG T (cD q)).2 [58] (by simp);have eo:=λai=>Cf hT ai (eU T (fG T (cD q)).2 [58]);have Qy:fJ T (cD q)=(⟨(fG T (cD q)).1,(D3 T (eU T (fG T (cD q)).2 [58])).1.1,(D3 T (eU T (fG T (cD q)).2 [58])).1.2,(g9 T (cD q)).a⟩,(D3 T (eU T (fG T (cD q)).2 [58])).2):=rfl;rw[Qy]at h;generalize D3 T (eU T (fG T (cD q)).2 [58])=o at *;generalize eU T (fG T (cD q)).2 [58]=q2 at *;generalize fG T (cD q)=z at *;clear Qy;have Qa:=λs r (h:B7 T f (g9 T q).a q=Z (s,r))=>K1 hT h;generalize hc:g9 T q=c at *;simp only[Tk.cells]at B;cases H:jZ T q [118,97,114] with
 |true=>
  rw[H]at h;simp only[bz,bE,cR]at h;obtain⟨rfl,rfl⟩:=h;have ht:=S _ H;have g:=M _ H;have G:=λai=>gY hT ai o.2 [59] (by simp);simp[-aE,-az,Ky,B,I,H,ht,xh,pg,g,en,ec,eo,G,aB,AV.aj,AV.aH,AV.aD,Sm.aK,vL,Sm.rows]
 |false=>
 rw[H]at h;simp only[aai,bC]at h;cases j:jZ T q [108,101,116] with
 |true=>
  rw[j]at h;simp only[bz]at h;obtain⟨⟨x,R⟩,J,p⟩:=aaf.1 h;simp only[bE,cR]at p;obtain⟨rfl,rfl⟩:=p;have ht:=S _ j;have g:=M _ j;have G:=λai=>gY hT ai o.2 [61] (by simp);have v:=ex0 hT J;have N:=λai=>gY hT ai R [59] (by simp);have t:E.rows [x]=[[.int .i64 x.k,.int .i64 x.n,.str x.nm,.str x.on,.int .i64 x.od,bL x.aP,.int .i64 x.a,.int .i64 x.ty.b,.int .i64 x.ty.r,.int .i64 x.ty.d,.int .i64 x.ref]]:=by simp[E.rows,E.aU]
  simp[-aE,-az,Ky,B,I,H,j,ht,xh,pg,g,en,ec,eo,G,v,N,aB,AV.aj,AV.aH,AV.aD,Sm.aK,Sm.rows];simp[bL,t]
 |false=>
 rw[j]at h;simp only[aai,bC]at h;cases C:jZ T q [105,102] with
 |true=>
  rw[C]at h;simp only[bz]at h;obtain⟨⟨x,R⟩,J,p⟩:=aaf.1 h;obtain⟨⟨y,U⟩,A8,F⟩:=aaf.1 p;have g:=M _ C;have v:=ex0 hT J;have N:=hK _ _ _ A8;have L:bn (cw 9 (Sm.rows y))=Y:=ey;have W:(cw 9 (Sm.rows y)).aj=aN 9 (Sm.rows y):=rfl;have t:E.rows [x]=[[.int .i64 x.k,.int .i64 x.n,.str x.nm,.str x.on,.int .i64 x.od,bL x.aP,.int .i64 x.a,.int .i64 x.ty.b,.int .i64 x.ty.r,.int .i64 x.ty.d,.int .i64 x.ref]]:=by simp[E.rows,E.aU]
  generalize cw 9 (Sm.rows y)=vy at *;have hvc:=j9 L;have UE:=dV L;have P:=λai=>lE hT ai U [101,108,115,101] (by simp);dsimp only at F;cases m:jZ T U [101,108,115,101] with
  |false=>
   rw[m]at F;simp only[aai,bC,bE,cR]at F;obtain⟨rfl,rfl⟩:=F;simp[-aE,-az,Ky,B,I,H,j,C,xh,pg,g,v,N,P,m,L,W,aB,AV.aj,AV.aH,AV.aD,Sm.aK,Sm.rows];simp[bL,t]
  |true=>
   rw[m]at F;simp only[bz]at F;obtain⟨⟨w,r8⟩,sM,zu⟩:=aaf.1 F;simp only[bE,cR]at zu;obtain⟨rfl,rfl⟩:=zu;have hw6:IntKind.i64.wrap ((U.at_:Int)+1)=((U.at_+1:Nat):Int):=by
    have:=(cm m).2;rw[dg]<;>omega
   have e8:=hK _ _ _ sM;have hu:bn (cw 9 (Sm.rows w))=Y:=ey;have huv:(cw 9 (Sm.rows w)).aj=aN 9 (Sm.rows w):=rfl;generalize cw 9 (Sm.rows w)=vw at *;have huc:=j9 hu;have hup:=dV hu;simp[-aE,-az,Ky,B,I,H,j,C,xh,pg,g,hw6,v,N,P,m,e8,L,W,hu,huv,aB,AV.aj,AV.aH,AV.aD,Sm.aK];simp[bL,t]
 |false=>
 rw[C]at h;simp only[aai,bC]at h;cases m:jZ T q [119,104,105,108,101] with
 |true=>
  rw[m]at h;simp only[bz]at h;obtain⟨⟨x,R⟩,J,p⟩:=aaf.1 h;obtain⟨⟨y,U⟩,A8,F⟩:=aaf.1 p;simp only[bE,cR]at F;obtain⟨rfl,rfl⟩:=F;have g:=M _ m;have v:=ex0 hT J;have N:=hK _ _ _ A8;have L:bn (cw 9 (Sm.rows y))=Y:=ey;have W:(cw 9 (Sm.rows y)).aj=aN 9 (Sm.rows y):=rfl;have t:E.rows [x]=[[.int .i64 x.k,.int .i64 x.n,.str x.nm,.str x.on,.int .i64 x.od,bL x.aP,.int .i64 x.a,.int .i64 x.ty.b,.int .i64 x.ty.r,.int .i64 x.ty.d,.int .i64 x.ref]]:=by simp[E.rows,E.aU]
  generalize cw 9 (Sm.rows y)=vy at *;have hvc:=j9 L;have UE:=dV L;simp[-aE,-az,Ky,B,I,H,j,C,m,xh,pg,g,v,N,L,W,aB,AV.aj,AV.aH,AV.aD,Sm.aK,Sm.rows];simp[bL,t]
 |false=>
 rw[m]at h;simp only[aai,bC]at h;cases O:jZ T q [114,101,116,117,114,110] with
 |true=>
  rw[O]at h;simp only[bz]at h;have g:=M _ O;have P:=λai=>lE hT ai (cD q) [59] (by simp);cases D:jZ T (cD q) [59] with
  |true=>
   rw[D]at h;simp only[bz,bE,cR]at h;obtain⟨rfl,rfl⟩:=h;have G:=λai=>gY hT ai (cD q) [59] (by simp);simp[-aE,-az,Ky,B,I,H,j,C,m,O,xh,pg,g,P,D,G,aB,AV.aj,AV.aH,AV.aD,Sm.aK,vL,Sm.rows]
  |false=>
   rw[D]at h;simp only[aai,bC]at h;obtain⟨⟨x,R⟩,J,p⟩:=aaf.1 h;simp only[bE,cR]at p;obtain⟨rfl,rfl⟩:=p;have v:=ex0 hT J;have G:=λai=>gY hT ai R [59] (by simp);have t:E.rows [x]=[[.int .i64 x.k,.int .i64 x.n,.str x.nm,.str x.on,.int .i64 x.od,bL x.aP,.int .i64 x.a,.int .i64 x.ty.b,.int .i64 x.ty.r,.int .i64 x.ty.d,.int .i64 x.ref]]:=(by simp[E.rows,E.aU]);simp[-aE,-az,Ky,B,I,H,j,C,m,O,xh,pg,g,P,D,v,G,aB,AV.aj,AV.aH,AV.aD,Sm.aK,Sm.rows];simp[bL,t]
 |false=>
 rw[O]at h;simp only[aai,bC]at h;cases D:jZ T q [112,114,105,110,116] with
 |true=>
  rw[D]at h;simp only[bz]at h;obtain⟨⟨x,R⟩,J,p⟩:=aaf.1 h;simp only[bE,cR]at p;obtain⟨rfl,rfl⟩:=p;have g:=M _ D;have v:=ex0 hT J;have G:=λai=>gY hT ai R [59] (by simp);have t:E.rows [x]=[[.int .i64 x.k,.int .i64 x.n,.str x.nm,.str x.on,.int .i64 x.od,bL x.aP,.int .i64 x.a,.int .i64 x.ty.b,.int .i64 x.ty.r,.int .i64 x.ty.d,.int .i64 x.ref]]:=by simp[E.rows,E.aU]
  simp[-aE,-az,Ky,B,I,H,j,C,m,O,D,xh,pg,g,v,G,aB,AV.aj,AV.aH,AV.aD,Sm.aK,Sm.rows];simp[bL,t]
 |false=>
  rw[D]at h;simp only[aai,bC]at h;have e1:=Qa _ _ h;rw[Sm.aU]at e1 ⊢;simp[-aE,-az,Ky,B,I,H,j,C,m,O,D,e1,aB,AV.aj,AV.aH,AV.aD]
theorem adv:∀f,II l T f/\OkK l T f:=by
 intro f;induction f using akm with
 |_ f I=>
  cases f with
  |zero=>
   refine⟨?_,?_⟩;intro q e r h;simp[Bc]at h;intro q e r h;simp[mZ]at h
  |succ f=>
   grind [yg,qz]
theorem OZ{f q r s}(h:mZ T f q=Z (s,r))(ai):(bh S).call 0 ai 85 [.ptr 0 0 0 0] [q.bX l]=Z (cw 9 (Sm.rows s),[r.bX l]):=(adv hT f).2 q s r h ai
end
end N7
namespace N7
open Ax Go aM V7 jb
section
variable {l:AV}{T:List Tk}(hT:TL l T)
include hT
theorem G5{f q P R}(h:Av T f q=Z (R,P))(ai):(bh S).call 0 ai 30 [.ptr 0 0 0 0] [q.bX l]=Z (.agg R.aK,[P.bX l]):=by
 have N:=hT.len;have L:=λai=>qV hT ai q;have en:=λai=>rX hT ai q;have e2:=λai=>gY hT ai (fG T q).2 [123] (by simp);unfold Av at h;obtain⟨⟨fs,r0⟩,h1,M⟩:=aaf.1 h;simp only[bE,cR]at M;obtain⟨rfl,rfl⟩:=M;generalize eU T (fG T q).2 [123]=q2 at *;generalize fG T q=z,g9 T q=c at *;simp only[Tk.cells]at L;refine aG (sf:=s30) rfl rfl rfl ?_;simp[-aE,-az,s30,L,en,e2,aB,AV.aj];refine bM ab8.eq_1 (λx:RQ×List PD×Nat=>⟨[(0,.val (.ptr 0 0 0 0)),(2,.fp 0 0),(3,.fp 1 0)],[[.str [],.aF,.int .i64 0],[.str z.1,cw 4 (x.2.1.map PD.cells),.int .i64 c.a]],[RQ.bX l x.1]⟩)
  (λx=>Q x.2.1<=Q T+1/\(x.1.fe=0->Q x.2.1<=x.1.at_/\Q x.2.1<=Q T)/\qM T x.2.2 x.2.1 x.1=Z (fs,r0)) (λx=>x.2.2) (q2,[],f) rfl ⟨by simp,by simp,h1⟩ ?_
 rintro⟨s,ps,g⟩ ⟨W,G,j⟩ O;simp only at W G j O;have E:=λai=>jj (l:=l) ai s;have n:=λai=>lE hT ai s [125] (by simp);have t:=λai=>gY hT ai r0 [125] (by simp);cases g with
 |zero=>simp[qM]at j|succ g=>
  unfold qM at j;by_cases f0:s.fe=0
  ·cases m:jZ T s [125] with
   |true=>
    rw[U (by grind)]at j;simp only[bE,cR]at j;obtain⟨rfl,rfl⟩:=j;simp[-aE,-az,E,f0,n,m,t,aB,AV.aj,AV.aH,AV.aD,Rc.aK,aN]
   |false=>
    rw[af ⟨f0,m⟩]at j;have B:=λai=>qV hT ai s;have asu:=G f0;have o:=λai=>K0 hT ai s;have J:=λai=>gY hT ai (fJ T s).2 [59] (by simp);simp only[PD.cells]at o;have F:=iw (sz:=4) (bytes:=48) (r:=ps.map PD.cells) (new:=[(fJ T s).1.cells]) (by simp[cy,PD.cells]) (by simp[dj];omega);have w2:=(Az (T:=T) (q:=s)).trans (bV (s:=[59]));have C:=(kC (T:=T) (q:=s)).trans (bV (s:=[59]));by_cases H:(g9 T s).k=1/\Q ps=8;rw[af H]at j;simp only[bE,cR]at j;obtain⟨rfl,rfl⟩:=j;have ef:=λai=>vQ hT ai s 4;obtain⟨H,y⟩:=H;generalize g9 T s=c2 at *;simp only[Tk.cells,H]at B;simp[-aE,-az,E,f0,n,m,B,y,ef,t,aB,AV.aj,AV.aH,AV.aD,Rc.aK,aN]
    ·rw[U H]at j;have I:=O (eU T (fJ T s).2 [59],ps++[(fJ T s).1],g) ⟨by simp;omega,λf=>by
      have hle:=C.le;rcases w2 with w|⟨w,v⟩;all_goals grind,j⟩ (by grind)
     simp only[afn,aaZ,afL]at I;generalize eU T (fJ T s).2 [59]=s4 at *;generalize fJ T s=p,g9 T s=c2 at *;simp only[PD.cells]at F I;simp only[Tk.cells]at B;by_cases D:c2.k=1;have y:¬(Q ps:Int)=8:=λh=>H ⟨D,by omega⟩;simp[-aE,-az,E,f0,n,m,B,D,y,o,J,F,bF,bP,aB,AV.aj,AV.aH,AV.aD];exact I;simp[-aE,-az,E,f0,n,m,B,D,o,J,F,bF,bP,aB,AV.aj,AV.aH,AV.aD];exact I
  rw[U (λh=>f0 h.1)]at j;simp only[bE,cR]at j;obtain⟨rfl,rfl⟩:=j;simp[-aE,-az,E,f0,t,aB,AV.aj,AV.aH,AV.aD,Rc.aK,aN]
def tl:aW->aW
 |.seq _ b=>b|c=>c
theorem ahL{f q rr fc}(h:B8 T f q=Z (fc,rr))(ai):(bh S).call 0 ai 33 [.ptr 0 0 0 0] [q.bX l]=Z (.agg fc.aK,[rr.bX l]):=by
 have hlen:=hT.len;have et:=λai=>qV hT ai q;have en:=λai=>rX hT ai q;have e2:=λai=>gY hT ai (fG T q).2 [40] (by simp);unfold B8 at h;obtain⟨⟨fs,r0⟩,h1,F⟩:=aaf.1 h;dsimp only at F;generalize eU T (fG T q).2 [40]=q2 at *;generalize fG T q=z,g9 T q=c at *;simp only[Tk.cells]at et;refine aG (sf:=s33) rfl rfl rfl ?_;simp[-aE,-az,s33,et,en,e2,aB,AV.aj];refine bM acP.eq_1 (λx:RQ×List PD×Nat=>⟨[(0,.val (.ptr 0 0 0 0)),(2,.fp 0 0),(3,.fp 1 0)],[[.str [],.aF,.bool X,.str [],.int .i64 0,.aF,.int .i64 0],[.str z.1,cw 4 (x.2.1.map PD.cells),.bool X,.str [],.int .i64 0,.aF,.int .i64 c.a]],[RQ.bX l x.1]⟩)
  (λx=>Q x.2.1<=Q T+1/\(x.1.fe=0->Q x.2.1<=x.1.at_/\Q x.2.1<=Q T)/\qN T x.2.2 x.2.1 x.1=Z (fs,r0)) (λx=>x.2.2) (q2,[],f) rfl ⟨by simp,by simp,h1⟩ ?_
 rintro⟨s,ps,g⟩ ⟨Nc,Qf,j⟩ ih;simp only at Nc Qf j ih;have n:=λai=>jj (l:=l) ai s;have C:=λai=>lE hT ai s [41] (by simp);have out :
   W S 0 1 [.box 2 0 7 Y] (IA [.box 2 0 7 Y] Ax.Mode.nC [RQ.bX l q] (.agg fc.aK,[RQ.bX l rr])) [.code (tl (tl (tl (tl (tl s33.body)))))] .normal
    ⟨[(0,.val (.ptr 0 0 0 0)),(2,.fp 0 0),(3,.fp 1 0)],[[.str [],.aF,.bool X,.str [],.int .i64 0,.aF,.int .i64 0],[.str z.1,cw 4 (fs.map PD.cells),.bool X,.str [],.int .i64 0,.aF,.int .i64 c.a]],[RQ.bX l r0]⟩:=by
  have e4:=λai=>gY hT ai r0 [41] (by simp);generalize eU T r0 [41]=r4 at *;have e5:=λai=>lE hT ai r4 [58] (by simp);cases P:jZ T r4 [58] with
  |false=>
   rw[P]at F;simp only[aai,bC]at F;obtain⟨⟨b,r6⟩,h6,R⟩:=aaf.1 F;simp only[bE,cR]at R;obtain⟨rfl,rfl⟩:=R;have e6:=OZ hT h6;have J:bn (cw 9 (Sm.rows b))=Y:=ey;have Zd:(cw 9 (Sm.rows b)).aj=cn b:=rfl;generalize cw 9 (Sm.rows b)=vb at *;have hvc:=j9 J;have UE:=dV J;simp[-aE,-az,s33,tl,e4,e5,P,e6,J,Zd,aB,AV.aj,AV.aH,AV.aD,Fc.aK,aN]
  |true=>
   rw[P]at F;simp only[bz]at F;obtain⟨⟨b,r6⟩,h6,R⟩:=aaf.1 F;simp only[bE,cR]at R;obtain⟨rfl,rfl⟩:=R;have i2:=(cm P).2;have hw:=wk r4.at_ (by omega);have e7:=λai=>Cf hT ai (cD r4);generalize D3 T (cD r4)=o at *;have e6:=OZ hT h6;have J:bn (cw 9 (Sm.rows b))=Y:=ey;have Zd:(cw 9 (Sm.rows b)).aj=cn b:=rfl;generalize cw 9 (Sm.rows b)=vb at *;have hvc:=j9 J;have UE:=dV J;simp[-aE,-az,s33,tl,e4,e5,P,xh,pg,hw,e7,e6,J,Zd,aB,AV.aj,AV.aH,AV.aD,Fc.aK,aN]
 simp only[s33,tl]at out;cases g with
 |zero=>simp[qN]at j|succ g=>
  unfold qN at j;by_cases f0:s.fe=0;cases y:jZ T s [41] with
  |true=>
   rw[U (by grind)]at j;simp only[bE,cR]at j;obtain⟨rfl,rfl⟩:=j;simp[-aE,-az,n,f0,C,y]at out ⊢;exact out
  |false=>
   rw[af ⟨f0,y⟩]at j;have B:=λai=>qV hT ai s;have asu:=Qf f0;have D:=λai=>K0 hT ai s;simp only[PD.cells]at D;have L:=iw (sz:=4) (bytes:=48) (r:=ps.map PD.cells) (new:=[(fJ T s).1.cells]) (by simp[cy,PD.cells]) (by simp[dj];omega);have w2:=(Az (T:=T) (q:=s)).trans wX;have hg2:=(kC (T:=T) (q:=s)).trans wX;by_cases N:(g9 T s).k=1/\Q ps=6;rw[af N]at j;simp only[bE,cR]at j;obtain⟨rfl,rfl⟩:=j;have ef:=λai=>vQ hT ai s 4;obtain⟨N,h9⟩:=N;generalize g9 T s=c2 at *;simp only[Tk.cells,N]at B;simp[-aE,-az,n,f0,C,y,B,h9,ef,AV.aj]at out ⊢;exact out;rw[U N]at j;have I:=ih (KL T (fJ T s).2,ps++[(fJ T s).1],g) ⟨by simp;omega,λf=>by
    have hle:=hg2.le;rcases w2 with w|⟨w,v⟩
    grind
    simp;omega,j⟩ (by grind)
   simp only[afn,aaZ,afL]at I;clear hg2 w2 j ih out;generalize fJ T s=p at *;have M:=λai=>lE hT ai p.2 [41] (by simp);have E:=λai=>gY hT ai p.2 [44] (by simp);have m:=λai=>lE hT ai (eU T p.2 [44]) [41] (by simp);have O:=λai=>vQ hT ai (eU T p.2 [44]) 2;unfold KL at I;generalize eU T p.2 [44]=s4,g9 T s=c2 at *;simp only[PD.cells]at L I;simp only[Tk.cells]at B;by_cases G:c2.k=1;have h9:¬(Q ps:Int)=6:=λh=>N ⟨G,by omega⟩;cases H:jZ T p.2 [41] with
   |true=>
    rw[H,af rfl]at I;simp[-aE,-az,n,f0,C,y,B,G,h9,D,M,H,L,bF,bP,aB,AV.aj,AV.aH,AV.aD];exact I
   |false=>
    rw[H,U (by simp)]at I;cases t:jZ T s4 [41] with
    |true=>
     rw[t,af rfl]at I;simp[-aE,-az,n,f0,C,y,B,G,h9,D,M,H,E,m,t,O,L,bF,bP,aB,AV.aj,AV.aH,AV.aD];exact I
    |false=>
     rw[t,U (by simp)]at I;simp[-aE,-az,n,f0,C,y,B,G,h9,D,M,H,E,m,t,L,bF,bP,aB,AV.aj,AV.aH,AV.aD];exact I
   cases H:jZ T p.2 [41] with
   |true=>
    rw[H,af rfl]at I;simp[-aE,-az,n,f0,C,y,B,G,D,M,H,L,bF,bP,aB,AV.aj,AV.aH,AV.aD];exact I
   |false=>
    rw[H,U (by simp)]at I;cases t:jZ T s4 [41] with
    |true=>
     rw[t,af rfl]at I;simp[-aE,-az,n,f0,C,y,B,G,D,M,H,E,m,t,O,L,bF,bP,aB,AV.aj,AV.aH,AV.aD];exact I
    |false=>
     rw[t,U (by simp)]at I;simp[-aE,-az,n,f0,C,y,B,G,D,M,H,E,m,t,L,bF,bP,aB,AV.aj,AV.aH,AV.aD];exact I
  rw[U (λh=>f0 h.1)]at j;simp only[bE,cR]at j;obtain⟨rfl,rfl⟩:=j;simp[-aE,-az,n,f0]at out ⊢;exact out
end
end N7
namespace N7
open Ax Go aM V7 jb
def axV(r:List AV):Tk:=match r with | [.int _ k,.str t,.int _ n,.int _ a]=>⟨k,t,n,a⟩|_=>Tk0
def sS(rows:List (List AV)):List Tk:=rows.map axV
def ru(s:List UInt8):Pg×Int×Int:=if Q s<=6000 then match U2.KF s with
  |(rows,K)=>(yK (sS rows) (40*Q (sS rows)+100)).getD (Jd,0,0)|(_,Z e)=>(Jd,1,e)
 else (Jd,4,0)
theorem ahM(a l):(U2.zm a l).2≠0->∃x:Tk,(U2.zm a l).1=x.cells/\x.a=a:=by
 have mk:∀k t n,∃x:Tk,U2.Bp k t n a=x.cells/\x.a=a:=λk t n=>⟨⟨k,t,n,a⟩,rfl,rfl⟩;unfold U2.zm;split
 grind
 ·split
  ·unfold U2.x9;split;simp_all
   ·split;all_goals simp_all
  ·split
   ·unfold U2.Aq;split
    grind
    ·split;all_goals simp_all
   ·unfold U2.Ar;split;all_goals simp_all
theorem RW:∀n a l rows,U2.Fl n a l=(rows,K)->(∀r∈rows,∃x:Tk,r=x.cells/\0<=x.a/\x.a<=a+Q l)/\Q rows<=n
 |0,_,_,rows,h=>by
  simp_all [U2.Fl]
 |n+1,a,[],rows,h=>by
  simp only[U2.Fl,cR,and_true]at h;subst h;exact⟨by intro r H;rw[List.mem_singleton]at H;subst H;exact⟨⟨0,[],0,a⟩,rfl,by simp,by simp⟩,by simp⟩
 |n+1,a,c::l,rows,h=>by
  simp only[U2.Fl]at h;have g:=U2.WJ a (c::l);have j:=ahM a (c::l);generalize U2.zm a (c::l)=z at *;obtain⟨t,k⟩:=z;cases k with
  |zero=>simp at h|succ k=>
   simp only at h j g;generalize m:U2.Fl n _ _=y at h;obtain⟨R,e⟩:=y;cases e with
   |some e=>simp at h|none=>
    simp only[cR,and_true]at h;subst h;obtain⟨o,p⟩:=RW n _ _ _ m
    grind [U2.Fk]
theorem Je{s rows}(h:U2.KF s=(rows,K)):(∀r∈rows,∃x:Tk,r=x.cells/\0<=x.a/\x.a<=Q s)/\Q rows<=Q s+1:=by
 unfold U2.KF at h;obtain⟨H,g⟩:=RW _ _ _ _ h
 grind [U2.Fk]
theorem adw{rows N}(h:∀r∈rows,∃x:Tk,r=x.cells/\0<=x.a/\x.a<=N):rows=(sS rows).map Tk.cells:=by
 unfold sS;rw[ae5];conv=>lhs;rw[<-List.map_id rows]
 refine afj λr H=>?_;obtain⟨x,g,_⟩:=h r H;subst g
 rfl
theorem amO{rows N}(h:∀r∈rows,∃x:Tk,r=x.cells/\0<=x.a/\x.a<=N):∀x∈sS rows,0<=x.a/\x.a<=N:=by
 intro x k;obtain⟨r,j,rfl⟩:=aap.1 k;obtain⟨y,m,H,g⟩:=h r j;subst m;exact⟨H,g⟩
theorem ahN(wl ai s st):(bh S).call wl ai 11 [.str s] st=Z (.fC [.agg (ru s).1.aK,.agg [.int .i64 (ru s).2.1,.int .i64 (ru s).2.2]],st):=by
 have L:=λwl ai st=>U2.YT wl ai s st;refine bu (sf:=By) rfl rfl (by simp) rfl (by simp[Pg.aK,AV.aH,AV.aD]) ?_;have zero:∀e a:Int,e≠0->ru s=(Jd,e,a)->U2.OH s=(.aF,[.int .i64 e,.int .i64 a])->W S 0 0 By.results (Re By.results (.fC [.agg (ru s).1.aK,.agg [.int .i64 (ru s).2.1,.int .i64 (ru s).2.2]])) [.code By.body] .normal (vz By [.str s] []):=λe a he h1 h2=>by
  rw[h1];simp_all [By,bF,bP,Pg.aK,Jd]
 by_cases hl:Q s<=6000
 ·have w:U2.OH s=U2.Rw (U2.KF s):=by unfold U2.OH;simp_all
  have H:ru s=match U2.KF s with|(rows,K)=>(yK (sS rows) (40*Q (sS rows)+100)).getD (Jd,0,0)|(_,Z e)=>(Jd,1,(e:Int)):=by unfold ru;grind
  generalize htp:U2.KF s=z at *;obtain⟨rows,e⟩:=z;cases e with
  |some e=>exact zero 1 e (by decide) H w|none=>
   obtain⟨mh,hlen⟩:=Je htp;have Q9:=adw mh;simp only[U2.Rw]at w;simp only at H;have Ih:Q (sS rows)=Q rows:=(by simp[sS]);obtain⟨x,hx⟩:=yb (sS rows);rw[hx,afA]at H;clear zero;generalize sS rows=T at *;have hT:TL (cw 4 rows) T:=⟨by
    have:cy 4 rows=Y:=by rw[Q9];simp[cy,Tk.cells]
    grind [cw,cU],by rw[oZ];exact Q9,by omega⟩
   rw[w]at L;have P:=hT.sl;generalize cw 4 rows=l at *;rw[H];unfold yK at hx;obtain⟨⟨p,r0⟩,h1,h2⟩:=aaf.1 hx;simp only[bE]at h2;subst h2;simp[-aE,-az,By,L,P,aB,AV.aj];have yP:TL l.aj T:=⟨by rw[MR];exact hT.sz,by rw[Kp];exact hT.rows,hT.len⟩;have aAG:=hT.len;generalize l.aj=lv at *;refine bM acO.eq_1 (λx:RQ×Pg×Nat=>⟨[(2,.fp 0 0),(3,.fp 1 0),(6,.val (.ptr 0 0 0 0)),(7,.fp 3 0)],
     [[.aF,.aF,.aF],[.int .i64 0,.int .i64 0],[.int .i64 0,.int .i64 0],[cw 3 (x.2.1.aR.map Rc.aK),cw 4 (x.2.1.ax.map PD.cells),cw 7 (x.2.1.funcs.map Fc.aK)]],[RQ.bX lv x.1]⟩)
    (λx=>Q x.2.1.aR<=12/\Q x.2.1.ax<=8/\Q x.2.1.funcs<=16/\rq T x.2.2 x.2.1 x.1=Z (p,r0)) (λx=>x.2.2) (⟨0,0,0,0⟩,Jd,_) rfl ⟨by simp[Jd],by simp[Jd],by simp[Jd],h1⟩ ?_
   rintro⟨u,⟨rs,R,fs⟩,g⟩ ⟨F,G,J,j⟩ B;simp only at F G J j B;clear h1 H mh Q9 L P hT hlen Ih w htp;have hT:=yP;have v:=λai=>jj (l:=lv) ai u;have E:=λai=>qV hT ai u;have N:=λai=>lE hT ai u [114,101,99,111,114,100] (by simp);have O:=λai=>lE hT ai u [103,108,111,98,97,108] (by simp);have i3:=λai=>lE hT ai u [102,117,110,99] (by simp);cases g with
   |zero=>simp[rq]at j|succ g=>
    unfold rq at j;simp only[amB,ade,adf]at j;by_cases f0:u.fe=0
    ·by_cases m:(g9 T u).k=0;rw[U (λh=>h.2 m)]at j;simp only[bE,cR]at j;obtain⟨rfl,rfl⟩:=j;rw[af f0];generalize g9 T u=c at *;simp only[Tk.cells]at E;simp[-aE,-az,v,f0,E,m,aB,AV.aj,Pg.aK,aN]
     ·rw[af ⟨f0,m⟩]at j;have LZ:=Aw m;have hw:=wk u.at_ (by omega);have ef:=λai e=>vQ hT ai u e;have D:∀s t:List UInt8,s≠t->jZ T u s=Y->jZ T u t=X:=λs t iT h=>by
       grind [RC]
      cases q1:jZ T u [114,101,99,111,114,100] with
      |true=>
       have q2:=D _ [103,108,111,98,97,108] (by decide) q1;have o:=D _ [102,117,110,99] (by decide) q1;simp only[q1,q2,o,true_and,aai,false_and,or_false,bz,bC]at j;by_cases M:Q rs=12;rw[af M]at j;have I:=B (lM T u 4,⟨rs,R,fs⟩,g) ⟨F,G,J,j⟩ (by grind);generalize g9 T u=c at *;simp only[Tk.cells]at E;simp[-aE,-az,v,f0,E,m,N,q1,M,ef];exact I;rw[U M]at j;obtain⟨⟨x,r2⟩,h3,h4⟩:=aaf.1 j;have y:=G5 hT h3;have n:¬(Q rs:Int)=12:=(by omega);have C:=iw (sz:=3) (bytes:=48) (r:=rs.map Rc.aK) (new:=[x.aK]) (by simp[cy,Rc.aK]) (by simp[dj];omega);have I:=B (r2,⟨rs++[x],R,fs⟩,g) ⟨by simp;omega,G,J,h4⟩ (by grind);simp only[afn,aaZ,afL]at I;simp only[Rc.aK]at y C I;generalize g9 T u=c at *;simp only[Tk.cells]at E;simp[-aE,-az,v,f0,E,m,N,q1,O,q2,i3,o,n,xh,pg,hw,y,C,bF,bP,aB,AV.aj];exact I
      |false=>
      cases q2:jZ T u [103,108,111,98,97,108] with
      |true=>
       have o:=D _ [102,117,110,99] (by decide) q2;simp only[q1,q2,o,true_and,aai,false_and,false_or,or_false,bz,bC]at j;by_cases M:Q R=8;rw[af M]at j;have I:=B (lM T u 4,⟨rs,R,fs⟩,g) ⟨F,G,J,j⟩ (by grind);generalize g9 T u=c at *;simp only[Tk.cells]at E;simp[-aE,-az,v,f0,E,m,N,q1,O,q2,M,ef];exact I;rw[U M]at j;have y:=λai=>K0 hT ai (cD u);have e4:=λai=>gY hT ai (fJ T (cD u)).2 [59] (by simp);have n:¬(Q R:Int)=8:=(by omega);have C:=iw (sz:=4) (bytes:=48) (r:=R.map PD.cells) (new:=[(fJ T (cD u)).1.cells]) (by simp[cy,PD.cells]) (by simp[dj];omega);have I:=B (eU T (fJ T (cD u)).2 [59],⟨rs,R++[(fJ T (cD u)).1],fs⟩,g) ⟨F,by simp;omega,J,j⟩ (by grind);simp only[afn,aaZ,afL]at I;generalize eU T (fJ T (cD u)).2 [59]=r4 at *;generalize fJ T (cD u)=pp at *;simp only[PD.cells]at y C I;generalize g9 T u=c at *;simp only[Tk.cells]at E;simp[-aE,-az,v,f0,E,m,N,q1,O,q2,i3,o,n,xh,pg,hw,y,e4,C,bF,bP,aB,AV.aj];exact I
      |false=>
      cases o:jZ T u [102,117,110,99] with
      |true=>
       simp only[q1,q2,o,true_and,aai,false_and,false_or,bz,bC]at j;by_cases M:Q fs=16;rw[af M]at j;have I:=B (lM T u 4,⟨rs,R,fs⟩,g) ⟨F,G,J,j⟩ (by grind);generalize g9 T u=c at *;simp only[Tk.cells]at E;simp[-aE,-az,v,f0,E,m,N,q1,O,q2,i3,o,M,ef];exact I;rw[U M]at j;obtain⟨⟨x,r2⟩,h3,h4⟩:=aaf.1 j;have y:=ahL hT h3;have n:¬(Q fs:Int)=16:=(by omega);have C:=iw (sz:=7) (bytes:=104) (r:=fs.map Fc.aK) (new:=[x.aK]) (by simp[cy,Fc.aK]) (by simp[dj];omega);have I:=B (r2,⟨rs,R,fs++[x]⟩,g) ⟨F,G,by simp;omega,h4⟩ (by grind);simp only[afn,aaZ,afL]at I;simp only[Fc.aK]at y C I;generalize g9 T u=c at *;simp only[Tk.cells]at E;simp[-aE,-az,v,f0,E,m,N,q1,O,q2,i3,o,n,xh,pg,hw,y,C,bF,bP,aB,AV.aj];exact I
      |false=>
       simp only[q1,q2,o,aai,false_and,or_self,bC]at j;have I:=B (lM T u 2,⟨rs,R,fs⟩,g) ⟨F,G,J,j⟩ (by grind);generalize g9 T u=c at *;simp only[Tk.cells]at E;simp[-aE,-az,v,f0,E,m,N,q1,O,q2,i3,o,ef];exact I
    rw[U (λh=>f0 h.1)]at j;simp only[bE,cR]at j;obtain⟨rfl,rfl⟩:=j;rw[U f0];have ea:∀ai bx,bD 0 ai (.load Y 2 X) [.val (.ptr 0 0 0 3)] [RQ.bX lv u] bx=Z (.val (.agg [.int .i64 u.fe,.int .i64 u.fa]),[RQ.bX lv u],bx):=λai bx=>by simp[RQ.bX,cut,AV.aj]
    simp[-aE,-az,v,f0,ea,bF,bP,eu.aX,aB,AV.aj,Pg.aK,Jd]
 simp_all [ru,U,U2.OH]
open U7
theorem adx(s):Pg.In 6000 (ru s).1/\(ru s).1.few:=by
 unfold ru;split;rename_i j;generalize h:U2.KF s=z;obtain⟨rows,e⟩:=z;cases e with
 |some e=>exact⟨Uz,ON⟩|none=>
  obtain⟨M,m⟩:=Je h;obtain⟨x,H⟩:=yb (sS rows);simp only;rw[H,afA];exact Y2 ⟨by decide,λy g=>by
   have:=amO M y g;omega⟩ H
 exact⟨Uz,ON⟩
def mw(p:Pg):GD:=⟨aN 3 (p.aR.map Rc.aK),aN 4 (p.ax.map PD.cells),aN 7 (p.funcs.map Fc.aK)⟩
theorem Fy{s r}:cL (aN s r)=Y:=by simp[aN]
theorem Cg{a}(h:0<=a)(H:a<=6000):sQ a=Y:=by simp only[sQ,Bool.and_eq_true,aC];omega
theorem Da{s r}(h:cy s r=Y):cU s (aN s r)=Y:=by
 cases r with
 |nil=>rfl|cons a r=>simp[cU,h]
theorem K2{l:List PD}(h:∀p∈l,OM 6000 p):IC (aN 4 (l.map PD.cells))=Y:=by
 unfold IC ij;rw[Fy,Da (by simp[cy,PD.cells]),br];simp only[afH,afp,aii,aam,Function.comp];intro p j;obtain⟨H,k,g,m⟩:=h p j;simp[WR,PD.cells,Cg H (by omega),Cg g m]
theorem aka{p}(h:Pg.In 6000 p):(mw p).ok:=by
 refine⟨?_,K2 h.g.2,?_⟩;unfold KJ ij;show (cL (aN 3 (p.aR.map Rc.aK))&&cU 3 (aN 3 (p.aR.map Rc.aK))&&(bf (aN 3 (p.aR.map Rc.aK))).all M3)=Y;rw[Fy,Da (by simp[cy,Rc.aK]),br];simp only[afH,afp,aii,aam,Function.comp];intro r H;have i:=h.r.2 r H;simp[M3,Rc.aK,K2 i.f,Cg i.a.1 i.a.2];unfold KK ij;show (cL (aN 7 (p.funcs.map Fc.aK))&&cU 7 (aN 7 (p.funcs.map Fc.aK))&&(bf (aN 7 (p.funcs.map Fc.aK))).all M5)=Y;rw[Fy,Da (by simp[cy,Fc.aK]),br];simp only[afH,afp,aii,aam,Function.comp];intro r H;have i:=h.f.2 r H;simp[M5,Fc.aK,K2 i.f,Cg i.a.1 i.a.2,Cg i.od.1 (by have:=i.od.2;omega),cn,Fy]
theorem tX(l):o8 (aN 4 (l.map PD.cells))=l:=by
 simp only[o8,br,ae5];conv=>rhs;rw[<-List.map_id l]
 exact afj λp _=>rfl
def RX(r:Rc):CR:=⟨r.name,aN 4 (r.cr.map PD.cells),r.a⟩
def IJ(f:Fc):FN:=⟨f.name,aN 4 (f.params.map PD.cells),f.bY,f.on,f.od,cn f.body,f.a⟩
theorem yl(p):eW (mw p).aR=p.aR.map RX:=by
 simp only[mw,eW,br,ae5];exact afj λp _=>rfl
theorem tY(p):iN (mw p).funcs=p.funcs.map IJ:=by
 simp only[mw,iN,br,ae5];exact afj λp _=>rfl
theorem O1(p):o8 (mw p).ax=p.ax:=tX _
theorem akb{p}(h:Pg.In 6000 p):GD.sm (mw p):=by
 refine⟨?_,?_,?_,?_,?_⟩;rw[yl,adW];have:=h.r.1;omega;intro x H;rw[yl]at H;obtain⟨r,j,rfl⟩:=aap.1 H;simp only[RX,tX];have:=(h.r.2 r j).len;omega;rw[O1];have:=h.g.1;omega;rw[tY,adW];have:=h.f.1;omega;intro x H;rw[tY]at H;obtain⟨r,j,rfl⟩:=aap.1 H;simp only[IJ,tX];have:=(h.f.2 r j).len;omega
end N7
