/- Part of a proof. -/
import Derived.Test.YtgblgbgjmgjfkaaGreatCode1
import Derived.Test.YtgblgbgjmgjfkaaGreatP
import Derived.KernelRfl

set_option maxRecDepth 100000
set_option maxHeartbeats 4000000
namespace U7
open Ax Go aO V7
theorem V1{l:List (List UInt8)}{s:List UInt8}{d:Int}(h:d<0\/3<d):dw l s d=(T0,false):=af h
end U7
namespace U7
open Ax Go aO V7
def fE(f:Option Int):Int:=match f with|some _=>3|none=>0
def fX(f:Option Int):Int:=match f with|some x=>x|none=>0
@[simp]def mk(r:AV)(f:Option Int):dJ:=.rows 0 3 [[r,.int .i64 (fE f),.int .i64 (fX f)]]
variable{k:Nat}
@[simp]theorem an4{w:Nat}{st:aj}{B:bK}:bz w k .makeMap [] st B=some (.val (.map st.length),st++[.map []],B):=rfl
theorem xD{g:Type}{iy:List g->g->Option Int}{l:List g}(h:k<l.length):eL iy l (k+1)=TF (eL iy l k) (iy (l.take k) l[k]):=by
 simp[eL,h]
theorem NY{rs:List (List UInt8)}{l:List PD}(h:k<l.length):gQ rs (l.take (k+1))=gQ rs (l.take k)++[NN rs l[k]]:=by
 simp only[gQ,List.take_succ_eq_append_getElem h,List.map_append,List.map_cons,List.map_nil]
end U7
namespace U7
open Ax Go aO V7
def lX(l:List (List UInt8)):List (List AV):=l.map λs=>[.str s]
theorem agv(l:List (List UInt8)):oh (cq 1 (lX l))=l:=by simp[oh,lX,List.map_map,Function.comp_def,dSt]
theorem ab8(l:List (List UInt8)):Dc (cq 1 (lX l)).ai=true:=by
 have h:cN 1 (cq 1 (lX l)).ai=true:=by
  rw[Mc,Ih];simp[cr,lX]
 simp only[Dc,gH,G5,h,JI,oe,Bool.true_and,List.all_eq_true];intro r H;obtain⟨s,_,rfl⟩:=List.mem_map.1 H
 rfl
def yH(I:List CR)(x:CR):Option Int:=if I.any (λq=>decide (q.name=x.name)) then some x.at_ else none
def Kh(rs:List (List UInt8))(_:List CR)(x:CR):Option Int:=eL (yE rs) (nK x.cF) (nK x.cF).length
def NZ(rs:List (List UInt8))(x:CR):List AV:=[.str x.name,(cq 4 (gQ rs (nK x.cF))).ai]
def sU(rs:List (List UInt8))(l:List CR):List (List AV):=l.map (NZ rs)
end U7
namespace U7
open Ax Go aO V7
def Am(rs:List (List UInt8))(x:FN):T3:=if x.bR then (dw rs x.on x.od).1 else T0
def Ye(I:List FN)(x:FN):Option Int:=if I.any (λq=>decide (q.name=x.name)) then some x.at_ else none
def N0(rs:List (List UInt8))(x:FN):Option Int:=if x.bR && !(dw rs x.on x.od).2 then some x.at_ else none
def HL(rs:List (List UInt8))(I:List FN)(x:FN):Option Int:=TF (TF (Ye I x) (eL (yE rs) (nK x.params) (nK x.params).length)) (N0 rs x)
def Ki(rs:List (List UInt8))(x:FN):List AV:=[.str x.name,(cq 4 (gQ rs (nK x.params))).ai,.bool x.bR,.int .i64 (Am rs x).b,.int .i64 (Am rs x).r,.int .i64 (Am rs x).d]
def ru(rs:List (List UInt8))(l:List FN):List (List AV):=l.map (Ki rs)
def V2:List UInt8:=[109,97,105,110]
def ij(x:FN):Bool:=decide (x.name=V2)&&decide (nK x.params=[]) && !x.bR
def yI(l:List FN):Int:=match l.findIdx? ij with
 |some k=>k|none=>-1
end U7
namespace U7
open Ax Go aO V7
def Ah:AV:=.agg [.aF,.aF,.aF,.int .i64 0]
def FZ(p:GD):AV:=.agg [(cq 2 (sU (rW (eE p.aU)) (eE p.aU))).ai,(cq 4 (gQ (rW (eE p.aU)) (nK p.az))).ai,(cq 6 (ru (rW (eE p.aU)) (gT p.funcs))).ai,.int .i64 (yI (gT p.funcs))]
def sy(p:GD):Option Int:=TF (TF (TF (TF none (eL yH (eE p.aU) (eE p.aU).length)) (eL (Kh (rW (eE p.aU))) (eE p.aU) (eE p.aU).length)) (eL (yE (rW (eE p.aU))) (nK p.az) (nK p.az).length))
 (eL (HL (rW (eE p.aU))) (gT p.funcs) (gT p.funcs).length)
def ke(p:GD):Option Int:=if yI (gT p.funcs)<0 then TF (sy p) (some 0) else sy p
def Lr(p:GD):AV:=.eY [match ke p with|some _=>Ah|none=>FZ p,.agg [.int .i64 (fE (ke p)),.int .i64 (fX (ke p))]]
structure GD.sm (p:GD):Prop where
 aU:(eE p.aU).length<1000000000
 cF:∀x∈eE p.aU,(nK x.cF).length<1000000000
 az:(nK p.az).length<1000000000
 funcs:(gT p.funcs).length<1000000000
 params:∀x∈gT p.funcs,(nK x.params).length<1000000000
end U7
