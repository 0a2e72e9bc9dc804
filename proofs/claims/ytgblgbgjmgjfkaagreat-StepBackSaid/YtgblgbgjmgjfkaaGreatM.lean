/- Part of a proof. -/
import Derived.Test.YtgblgbgjmgjfkaaGreatCode1
import Derived.Test.YtgblgbgjmgjfkaaGreatP
import Derived.KernelRfl

open List renaming length->Q
open Option renaming some->Z,none->K
open Bool renaming true->Y,false->X
open Decidable renaming decide->V
set_option maxRecDepth 100000
set_option maxHeartbeats 4000000
namespace U7
open Ax Go aM V7
theorem W4{l s d}(h:d<0\/3<d):dz l s d=(T0,X):=af h
def fE(f:Option Int):Int:=match f with|some _=>3|none=>0
def fX(f:Option Int):Int:=match f with|some x=>x|none=>0
@[simp]def mk(r:AV)(f:Option Int):iW:=.rows 0 3 [[r,.int .i64 (fE f),.int .i64 (fX f)]]
@[simp]theorem apF{C g st B}:bD C g .makeMap [] st B=Z (.val (.map (Q st)),st++[.map []],B):=rfl
theorem yf{g iO}{l:List g}{k}(h):fF iO l (k+1)=Uv (fF iO l k) (iO (l.take k) l[k]):=by
 simp[fF,h]
theorem OU{rs}{l:List PD}{k}(h):iy rs (l.take (k+1))=iy rs (l.take k)++[OJ rs l[k]]:=by
 simp only[iy,List.take_succ_eq_append_getElem h,List.map_append,List.map_cons,List.map_nil]
def mQ(l:List (List UInt8)):List (List AV):=l.map λs=>[.str s]
theorem ahI(l):pT (cw 1 (mQ l))=l:=by simp[pT,mQ,List.map_map,Function.comp_def,dSt]
theorem adp(l):D1 (cw 1 (mQ l)).aj=Y:=by
 have h:cU 1 (cw 1 (mQ l)).aj=Y:=by
  rw[MR,Ja];simp[cy,mQ]
 simp only[D1,ij,H9,h,Kp,oZ,Bool.true_and,List.all_eq_true];intro r H;obtain⟨s,_,rfl⟩:=List.mem_map.1 H
 rfl
def AG(j:List CR)(x:CR):Option Int:=if j.any (λq=>decide (q.name=x.name)) then Z x.at_ else K
def Mc(rs:List (List UInt8))(_:List CR)(x:CR):Option Int:=fF (zo rs) (o8 x.cr) (Q (o8 x.cr))
def OW(rs:List (List UInt8))(x:CR):List AV:=[.str x.name,(cw 4 (iy rs (o8 x.cr))).aj]
def vP(rs:List (List UInt8))(l:List CR):List (List AV):=l.map (OW rs)
def Bm(rs:List (List UInt8))(x:FN):T3:=if x.bY then (dz rs x.on x.od).1 else T0
def Y8(j:List FN)(x:FN):Option Int:=if j.any (λq=>decide (q.name=x.name)) then Z x.at_ else K
def OX(rs:List (List UInt8))(x:FN):Option Int:=if x.bY && !(dz rs x.on x.od).2 then Z x.at_ else K
def IF(rs:List (List UInt8))(j:List FN)(x:FN):Option Int:=Uv (Uv (Y8 j x) (fF (zo rs) (o8 x.params) (Q (o8 x.params)))) (OX rs x)
def KZ(rs:List (List UInt8))(x:FN):List AV:=[.str x.name,(cw 4 (iy rs (o8 x.params))).aj,.bool x.bY,.int .i64 (Bm rs x).b,.int .i64 (Bm rs x).r,.int .i64 (Bm rs x).d]
def tW(rs:List (List UInt8))(l:List FN):List (List AV):=l.map (KZ rs)
def W5:List UInt8:=[109,97,105,110]
def iU(x:FN):Bool:=V (x.name=W5)&&V (o8 x.params=[]) && !x.bY
def Be(l:List FN):Int:=match l.findIdx? iU with
 |some k=>k|none=>-1
def Bf:AV:=.agg [.aF,.aF,.aF,.int .i64 0]
def GZ(p:GD):AV:=.agg [(cw 2 (vP (tj (eW p.aR)) (eW p.aR))).aj,(cw 4 (iy (tj (eW p.aR)) (o8 p.ax))).aj,(cw 6 (tW (tj (eW p.aR)) (iN p.funcs))).aj,.int .i64 (Be (iN p.funcs))]
def tE(p:GD):Option Int:=Uv (Uv (Uv (Uv K (fF AG (eW p.aR) (Q (eW p.aR)))) (fF (Mc (tj (eW p.aR))) (eW p.aR) (Q (eW p.aR)))) (fF (zo (tj (eW p.aR))) (o8 p.ax) (Q (o8 p.ax))))
 (fF (IF (tj (eW p.aR))) (iN p.funcs) (Q (iN p.funcs)))
def kR(p:GD):Option Int:=if Be (iN p.funcs)<0 then Uv (tE p) (Z 0) else tE p
def Md(p:GD):AV:=.fC [match kR p with|some _=>Bf|none=>GZ p,.agg [.int .i64 (fE (kR p)),.int .i64 (fX (kR p))]]
structure GD.sm (p:GD):Prop where
 aR:(eW p.aR).length<1000000000
 cr:∀x∈eW p.aR,(o8 x.cr).length<1000000000
 ax:(o8 p.ax).length<1000000000
 funcs:(iN p.funcs).length<1000000000
 params:∀x∈iN p.funcs,(o8 x.params).length<1000000000
end U7
