/-
  A jump to itself, a branch: runs in plain terms.
-/
import Derived.Test.YtgblgbgjmgjfkaaL

set_option maxRecDepth 100000
set_option maxHeartbeats 4000000
namespace E14
open Ax Go Code14 IrV Mach U12
def loopIns (w n:Int):List (List AV):=[[.int .i64 1,.int .i64 0,.int .i64 0,.int .i64 0,.int .i64 w,.nilSl],[.int .i64 1,.int .i64 1,.int .i64 0,.int .i64 0,.int .i64 n,.nilSl],
 [.int .i64 17,.int .i64 0,.int .i64 0,.int .i64 4,.int .i64 3,.nilSl],[.int .i64 16,.int .i64 0,.int .i64 0,.int .i64 0,.int .i64 3,.nilSl],
 [.int .i64 15,.int .i64 1,.int .i64 0,.int .i64 0,.int .i64 0,.nilSl],[.int .i64 18,.int .i64 (-1),.int .i64 0,.int .i64 0,.int .i64 0,.nilSl]]
def loopX (w n:Int):XD:=⟨.nilSl,.nilSl,.lst 7 [[.int .i64 0,.lst 3 [[.int .i64 2,.int .i64 0,.int .i64 0],[.int .i64 1,.int .i64 0,.int .i64 0]],.bool false,.int .i64 0,.int .i64 0,.int .i64 0,.lst 6 (loopIns w n)]],.nilSl,0⟩
theorem loop_ok' {w n:Int}(hw:inR w=true)(hn:inR n=true):(loopX w n).ok:=by
 refine⟨rfl,rfl,?_,rfl⟩
 simp[loopX,loopIns,isCs,isRows,notOwn,fits,cdRow,isTs,tyRow,isNs,idRow,hw,hn,isI,isSz]
 decide
theorem loop_right0 (n:Int):rightT (loopX 0 n)=true:=rfl
theorem loop_right1 (n:Int):rightT (loopX 1 n)=true:=rfl
theorem loop_great (w n:Int):greatT (loopX w n)=false:=rfl
def lpM (n at_:Int)(a b:Int)(e:Int)(out:List Int)(s:Nat):Ms:=⟨[],[],[],[⟨0,at_,-1,[a,b]⟩],e,0,out,s⟩
theorem loop_run (n:Int):∀(k s:Nat),runM (mpOf (loopX 1 n) (cvT (loopX 1 n))) k (lpM n 3 1 n 0 [] s)=lpM n 3 1 n 3 [] (s+k)
 |0,s=>rfl
 |k+1,s=>by
  have:runM (mpOf (loopX 1 n) (cvT (loopX 1 n))) (k+1) (lpM n 3 1 n 0 [] s)=runM (mpOf (loopX 1 n) (cvT (loopX 1 n))) k (lpM n 3 1 n 0 [] (s+1)):=rfl
  rw[this,loop_run n k (s+1)]
  congr 1
  omega
theorem loop_way (n:Int)(k:Nat):(runX (loopX 1 n) [] k).e=3/\(runX (loopX 1 n) [] k).code=0/\(runX (loopX 1 n) [] k).out=[]/\(runX (loopX 1 n) [] k).steps=k:=by
 unfold runX
 rw[if_pos (loop_right1 n)]
 match k with
 |0=>exact⟨rfl,rfl,rfl,rfl⟩
 |1=>exact⟨rfl,rfl,rfl,rfl⟩
 |2=>exact⟨rfl,rfl,rfl,rfl⟩
 |k+3=>
  have:runM (mpOf (loopX 1 n) (cvT (loopX 1 n))) (k+3) (m0 (mpOf (loopX 1 n) (cvT (loopX 1 n))) (loopX 1 n).main.toNat [])=runM (mpOf (loopX 1 n) (cvT (loopX 1 n))) k (lpM n 3 1 n 0 [] 3):=rfl
  rw[this,loop_run]
  exact⟨rfl,rfl,rfl,Nat.add_comm _ _⟩
theorem loop_less (n:Int)(k:Nat)(h:k<4):(runX (loopX 0 n) [] k).e=3/\(runX (loopX 0 n) [] k).code=0/\(runX (loopX 0 n) [] k).out=[]/\(runX (loopX 0 n) [] k).steps=k:=by
 unfold runX
 rw[if_pos (loop_right0 n)]
 match k with
 |0=>exact⟨rfl,rfl,rfl,rfl⟩
 |1=>exact⟨rfl,rfl,rfl,rfl⟩
 |2=>exact⟨rfl,rfl,rfl,rfl⟩
 |3=>exact⟨rfl,rfl,rfl,rfl⟩
theorem loop_four (n:Int):(runX (loopX 0 n) [] 4).e=3/\(runX (loopX 0 n) [] 4).code=0/\(runX (loopX 0 n) [] 4).out=[n]/\(runX (loopX 0 n) [] 4).steps=4:=by
 unfold runX
 rw[if_pos (loop_right0 n)]
 exact⟨rfl,rfl,rfl,rfl⟩
theorem loop_end (n:Int)(k:Nat)(h:5<=k):(runX (loopX 0 n) [] k).e=1/\(runX (loopX 0 n) [] k).code=0/\(runX (loopX 0 n) [] k).out=[n]/\(runX (loopX 0 n) [] k).steps=5:=by
 unfold runX
 rw[if_pos (loop_right0 n)]
 obtain⟨j,rfl⟩:∃j,k=j+5:=⟨k-5,by omega⟩
 have:runM (mpOf (loopX 0 n) (cvT (loopX 0 n))) (j+5) (m0 (mpOf (loopX 0 n) (cvT (loopX 0 n))) (loopX 0 n).main.toNat [])=runM (mpOf (loopX 0 n) (cvT (loopX 0 n))) j ⟨[],[],[],[],1,0,[n],5⟩:=rfl
 rw[this]
 cases j with
 |zero=>exact⟨rfl,rfl,rfl,rfl⟩
 |succ j=>exact⟨rfl,rfl,rfl,rfl⟩
end E14
namespace E14
open Ax Go Code14 IrV Mach U12
theorem oneB_ok (wl li:Nat)(b:Bool)(st:Store):(orcL S).call wl li 10 [.bool b] st=some (.int .i64 (if b then 1 else 0),st):=by
 refine call_pure (sf:=s10) rfl rfl rfl rfl rfl ?_
 cases b<;>simp[s10]
theorem lm6 {n:Int}{bx:Boxes}:act0 0 0 (.litM 6 6 [.int .i64 0,.int .i64 0,.int .i64 0,.int .i64 0,.int .i64 0,.nilSl] [0,1,2,3,4,5]) [.val (.agg [.int .i64 1,.int .i64 0,.int .i64 0,.int .i64 0,.int .i64 0,.nilSl]),.val (.agg [.int .i64 1,.int .i64 1,.int .i64 0,.int .i64 0,.int .i64 n,.nilSl]),
  .val (.agg [.int .i64 17,.int .i64 0,.int .i64 0,.int .i64 4,.int .i64 3,.nilSl]),.val (.agg [.int .i64 16,.int .i64 0,.int .i64 0,.int .i64 0,.int .i64 3,.nilSl]),.val (.agg [.int .i64 15,.int .i64 1,.int .i64 0,.int .i64 0,.int .i64 0,.nilSl]),
  .val (.agg [.int .i64 18,.int .i64 (-1),.int .i64 0,.int .i64 0,.int .i64 0,.nilSl])] [] bx=some (.val (.mu 0 0),[.rows 0 6 (loopIns 0 n)],bx):=rfl
theorem lm7 {o:AObj}{bx:Boxes}:act0 0 0 (.litM 7 1 [.int .i64 0,.nilSl,.bool false,.int .i64 0,.int .i64 0,.int .i64 0,.nilSl] [0]) [.val (.agg [.int .i64 0,.lst 3 [[.int .i64 2,.int .i64 0,.int .i64 0],[.int .i64 1,.int .i64 0,.int .i64 0]],.bool false,.int .i64 0,.int .i64 0,.int .i64 0,.mu 0 0])] [o] bx =
  some (.val (.mu 1 0),[o,.rows 0 7 [[.int .i64 0,.lst 3 [[.int .i64 2,.int .i64 0,.int .i64 0],[.int .i64 1,.int .i64 0,.int .i64 0]],.bool false,.int .i64 0,.int .i64 0,.int .i64 0,.mu 0 0]]],bx):=rfl
theorem lfz (w n:Int):freezeV 0 (.mu 1 0) [.rows 0 6 (loopIns w n),.rows 0 7 [[.int .i64 0,.lst 3 [[.int .i64 2,.int .i64 0,.int .i64 0],[.int .i64 1,.int .i64 0,.int .i64 0]],.bool false,.int .i64 0,.int .i64 0,.int .i64 0,.mu 0 0]]] =
  some ((loopX w n).codes,[.rows 1 6 [],.rows 1 7 []]):=rfl
theorem beh_way (n:Int)(k:Nat):behV (runX (loopX 1 n) [] k)=.agg [.int .i64 3,.int .i64 0,.nilSl,.int .i64 k]:=by
 obtain⟨h1,h2,h3,h4⟩:=loop_way n k
 simp[behV,h1,h2,h3,h4,outV]
theorem beh_less (n:Int)(k:Nat)(h:k<4):behV (runX (loopX 0 n) [] k)=.agg [.int .i64 3,.int .i64 0,.nilSl,.int .i64 k]:=by
 obtain⟨h1,h2,h3,h4⟩:=loop_less n k h
 simp[behV,h1,h2,h3,h4,outV]
theorem beh_four (n:Int):behV (runX (loopX 0 n) [] 4)=.agg [.int .i64 3,.int .i64 0,.lst 1 (ints [n]),.int .i64 4]:=by
 obtain⟨h1,h2,h3,h4⟩:=loop_four n
 simp[behV,h1,h2,h3,h4,outV]
theorem beh_end (n:Int)(k:Nat)(h:5<=k):behV (runX (loopX 0 n) [] k)=.agg [.int .i64 1,.int .i64 0,.lst 1 (ints [n]),.int .i64 5]:=by
 obtain⟨h1,h2,h3,h4⟩:=loop_end n k h
 simp[behV,h1,h2,h3,h4,outV]
theorem law_loops (fuel:Int)(way:Bool)(n:Int):∃st',(orcL S).call 0 0 4 [.int .i64 fuel,.bool way,.int .i64 n] []=some (.bool true,st'):=by
 refine⟨[],?_⟩
 refine call_pure (sf:=s4) rfl rfl rfl rfl rfl ?_
 by_cases c1:fuel < -5
 ·simp[s4,c1]
 by_cases c2:3000<fuel
 ·simp[s4,c1,c2]
 by_cases c3:n<0
 ·simp[s4,c1,c2,c3]
 by_cases c4:50<n
 ·simp[s4,c1,c2,c3,c4]
 have kn:=fun wl li st=>call_any (sf:=s8) rfl rfl rfl known0 wl li st
 have on:=oneB_ok
 have hn:inR n=true:=by simp[inR];omega
 cases way with
 |true=>
  have hrun:=fun wl li st=>runX_ok (loop_ok' (w:=1) (by decide) hn) (loop_great 1 n) (inp:=.nilSl) rfl rfl fuel (by omega) wl li st
  rw[dI_nil]at hrun
  simp only[beh_way]at hrun
  have hf:=lfz 1 n
  simp only[xA,loopX,loopIns]at hrun hf
  simp[s4,c1,c2,c3,c4,lm6,lm7,loopIns]
  rw[W_frzB]
  refine⟨_,_,_,_,rfl,rfl,hf,?_⟩
  have w3:IntKind.i64.wrap (fuel-3)=fuel-3:=by rw[wrap64]<;>omega
  have w0:IntKind.i64.wrap 0=0:=by rw[wrap64]<;>omega
  rcases (by omega:fuel<0\/fuel=0\/0<fuel) with d|d|d
  ·have e:fuel.toNat=0:=by omega
   have d1:¬0<fuel:=by omega
   have d2:¬0=fuel:=by omega
   have d3:fuel<=0:=by omega
   rw[e]at hrun
   simp[hrun,paste,AV.view,AV.viewL,oneOrAgg,W_draw0,noBoxes,kn,on,d,d1,w3,w0]
   done
  ·subst d
   simp[hrun,paste,AV.view,AV.viewL,oneOrAgg,W_draw0,noBoxes,kn,on,w0]
   done
  ·obtain⟨k,rfl⟩:∃k:Nat,fuel=k:=⟨fuel.toNat,by omega⟩
   rw[Int.toNat_natCast]at hrun
   have d1:¬(k:Int)<0:=by omega
   have d2:¬0=(k:Int):=by omega
   have d3:¬(k:Int)<=0:=by omega
   simp[hrun,paste,AV.view,AV.viewL,oneOrAgg,W_draw0,noBoxes,kn,on,d1,w3,w0]
   done
 |false=>
  have hrun:=fun wl li st=>runX_ok (loop_ok' (w:=0) (by decide) hn) (loop_great 0 n) (inp:=.nilSl) rfl rfl fuel (by omega) wl li st
  rw[dI_nil]at hrun
  have hf:=lfz 0 n
  have w3:IntKind.i64.wrap (fuel-3)=fuel-3:=by rw[wrap64]<;>omega
  have w0:IntKind.i64.wrap 0=0:=by rw[wrap64]<;>omega
  have w1:IntKind.i64.wrap 1=1:=by rw[wrap64]<;>omega
  have wa:IntKind.i64.wrap (-1) = -1:=by rw[wrap64]<;>omega
  have wb:IntKind.i64.wrap (-2) = -2:=by rw[wrap64]<;>omega
  have wc:IntKind.i64.wrap (-3) = -3:=by rw[wrap64]<;>omega
  rcases (by omega:fuel<0\/fuel=0\/fuel=1\/fuel=2\/fuel=3\/fuel=4\/5<=fuel) with d|d|d|d|d|d|d
  ·have e:fuel.toNat=0:=by omega
   have d1:¬0<fuel:=by omega
   have d2:¬0=fuel:=by omega
   have d3:fuel<=0:=by omega
   have d5:fuel<5:=by omega
   have d6:fuel-3<1:=by omega
   have d7:¬0<fuel-3:=by omega
   have d8:¬3<fuel:=by omega
   rw[e]at hrun
   simp only[beh_less n 0 (by omega)]at hrun
   simp only[xA,loopX,loopIns]at hrun hf
   simp[s4,c1,c2,c3,c4,lm6,lm7,loopIns]
   rw[W_frzB]
   refine⟨_,_,_,_,rfl,rfl,hf,?_⟩
   simp[hrun,paste,AV.view,AV.viewL,oneOrAgg,W_draw0,noBoxes,kn,on,d,d1,d5,d6,d8,w3,w0]
   done
  ·subst d
   rw[show Int.toNat 0=0 from rfl]at hrun
   simp only[beh_less n 0 (by omega)]at hrun
   simp only[xA,loopX,loopIns]at hrun hf
   simp[s4,c2,c3,c4,lm6,lm7,loopIns]
   rw[W_frzB]
   refine⟨_,_,_,_,rfl,rfl,hf,?_⟩
   simp[hrun,paste,AV.view,AV.viewL,oneOrAgg,W_draw0,noBoxes,kn,on,w0,wc]
  ·subst d
   rw[show Int.toNat 1=1 from rfl]at hrun
   simp only[beh_less n 1 (by omega)]at hrun
   simp only[xA,loopX,loopIns]at hrun hf
   simp[s4,c1,c2,c3,c4,lm6,lm7,loopIns]
   rw[W_frzB]
   refine⟨_,_,_,_,rfl,rfl,hf,?_⟩
   simp[hrun,paste,AV.view,AV.viewL,oneOrAgg,W_draw0,noBoxes,kn,on,w0,wb]
  ·subst d
   rw[show Int.toNat 2=2 from rfl]at hrun
   simp only[beh_less n 2 (by omega)]at hrun
   simp only[xA,loopX,loopIns]at hrun hf
   simp[s4,c1,c2,c3,c4,lm6,lm7,loopIns]
   rw[W_frzB]
   refine⟨_,_,_,_,rfl,rfl,hf,?_⟩
   simp[hrun,paste,AV.view,AV.viewL,oneOrAgg,W_draw0,noBoxes,kn,on,w0,wa]
  ·subst d
   rw[show Int.toNat 3=3 from rfl]at hrun
   simp only[beh_less n 3 (by omega)]at hrun
   simp only[xA,loopX,loopIns]at hrun hf
   simp[s4,c1,c2,c3,c4,lm6,lm7,loopIns]
   rw[W_frzB]
   refine⟨_,_,_,_,rfl,rfl,hf,?_⟩
   simp[hrun,paste,AV.view,AV.viewL,oneOrAgg,W_draw0,noBoxes,kn,on,w0]
  ·subst d
   rw[show Int.toNat 4=4 from rfl]at hrun
   simp only[beh_four n]at hrun
   simp only[xA,loopX,loopIns]at hrun hf
   simp[s4,c1,c2,c3,c4,lm6,lm7,loopIns]
   rw[W_frzB]
   refine⟨_,_,_,_,rfl,rfl,hf,?_⟩
   simp[hrun,paste,AV.view,AV.viewL,oneOrAgg,W_draw0,noBoxes,kn,on,w1,ints]
  ·simp only[beh_end n fuel.toNat (by omega)]at hrun
   have hi:=fun wl li st=>ints_ok wl li (a:=.lst 1 (ints [n])) (b:=.lst 1 (ints [n])) (isI_lst _) (isI_lst _) (by simp) st
   rw[show decide (dI (.lst 1 (ints [n]))=dI (.lst 1 (ints [n])))=true from decide_eq_true rfl]at hi
   simp only[xA,loopX,loopIns]at hrun hf
   have d1:¬fuel<5:=by omega
   have d2:¬fuel<0:=by omega
   have d3:0<fuel:=by omega
   have d4:5<=fuel:=by omega
   have d5:5<fuel\/fuel=5:=by omega
   simp[s4,c1,c2,c3,c4,lm6,lm7,loopIns]
   rw[W_frzB]
   refine⟨_,_,_,_,rfl,rfl,hf,?_⟩
   simp only[ints,List.map_cons,List.map_nil]at hi hrun
   rcases d5 with d5|d5
   ·simp[hrun,paste,AV.view,AV.viewL,oneOrAgg,kn,d1,d5,hi]
    done
   ·subst d5
    simp[hrun,paste,AV.view,AV.viewL,oneOrAgg,kn,hi]
    done
end E14
