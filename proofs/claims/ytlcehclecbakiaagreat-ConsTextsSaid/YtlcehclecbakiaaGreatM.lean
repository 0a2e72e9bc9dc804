/- Part of a proof. -/
import Derived.Test.YtlcehclecbakiaaGreatCode2
import Derived.Test.YtlcehclecbakiaaGreatP
import Derived.KernelRfl

set_option maxRecDepth 100000
set_option maxHeartbeats 4000000
namespace U7
open Ax Go aF V7
theorem PO{l:List (List UInt8)}{s:List UInt8}{d:Int}(h:d<0\/3<d):cz l s d=(T0,false):=if_pos h
end U7
namespace U7
open Ax Go aF V7
def fE(f:Option Int):Int:=match f with|some _=>3|none=>0
def fX(f:Option Int):Int:=match f with|some x=>x|none=>0
@[simp]def mk(rl:AV)(f:Option Int):dK:=.rows 0 3 [[rl,.int .i64 (fE f),.int .i64 (fX f)]]
@[simp]theorem agm{wl aa:Nat}{st:ag}{bx:br}:aU wl aa .makeMap [] st bx=some (.val (.map st.length),st++[.map []],bx):=rfl
theorem tF{α:Type}{zg:List α->α->Option Int}{l:List α}{k:Nat}(h:k<l.length):dy zg l (k+1)=PK (dy zg l k) (zg (l.take k) l[k]):=by
 simp[dy,h]
theorem Jd{rs:List (List UInt8)}{l:List PD}{k:Nat}(h:k<l.length):fz rs (l.take (k+1))=fz rs (l.take k)++[I3 rs l[k]]:=by
 simp only[fz,List.take_succ_eq_append_getElem h,List.map_append,List.map_cons,List.map_nil]
end U7
namespace U7
open Ax Go aF V7
def jY(l:List (List UInt8)):List (List AV):=l.map λs=>[.str s]
theorem Z7(l:List (List UInt8)):l8 (bF 1 (jY l))=l:=by simp[l8,jY,List.map_map,Function.comp_def,dSt]
theorem V6(l:List (List UInt8)):zf (bF 1 (jY l)).view=true:=by
 have h1:bY 1 (bF 1 (jY l)).view=true:=by
  rw[He,vr];simp[bw,jY]
 simp only[zf,fj,Cn,h1,EF,qi,Bool.true_and,List.all_eq_true];intro r hr;obtain⟨s,_,rfl⟩:=List.mem_map.1 hr
 rfl
def CZ(before:List CR)(x:CR):Option Int:=if before.any (λq=>decide (q.name=x.name)) then some x.at_ else none
def Fh(rs:List (List UInt8))(_:List CR)(x:CR):Option Int:=dy (uB rs) (lR x.bM) (lR x.bM).length
def Je(rs:List (List UInt8))(x:CR):List AV:=[.str x.name,(bF 4 (fz rs (lR x.bM))).view]
def pV(rs:List (List UInt8))(l:List CR):List (List AV):=l.map (Je rs)
end U7
namespace U7
open Ax Go aF V7
def vm(rs:List (List UInt8))(x:FN):T3:=if x.bg then (cz rs x.on x.od).1 else T0
def Rz(before:List FN)(x:FN):Option Int:=if before.any (λq=>decide (q.name=x.name)) then some x.at_ else none
def Jf(rs:List (List UInt8))(x:FN):Option Int:=if x.bg && !(cz rs x.on x.od).2 then some x.at_ else none
def C0(rs:List (List UInt8))(before:List FN)(x:FN):Option Int:=PK (PK (Rz before x) (dy (uB rs) (lR x.params) (lR x.params).length)) (Jf rs x)
def Fi(rs:List (List UInt8))(x:FN):List AV:=[.str x.name,(bF 4 (fz rs (lR x.params))).view,.bool x.bg,.int .i64 (vm rs x).b,.int .i64 (vm rs x).r,.int .i64 (vm rs x).d]
def oF(rs:List (List UInt8))(l:List FN):List (List AV):=l.map (Fi rs)
def PT:List UInt8:=[109,97,105,110]
def fP(x:FN):Bool:=decide (x.name=PT)&&decide (lR x.params=[]) && !x.bg
def Cv(l:List FN):Int:=match l.findIdx? fP with
 |some k=>k|none=>-1
end U7
namespace U7
open Ax Go aF V7
def wu:AV:=.agg [.U,.U,.U,.int .i64 0]
def BI(p:GD):AV:=.agg [(bF 2 (pV (pA (di p.aD)) (di p.aD))).view,(bF 4 (fz (pA (di p.aD)) (lR p.globals))).view,(bF 6 (oF (pA (di p.aD)) (fN p.funcs))).view,.int .i64 (Cv (fN p.funcs))]
def pJ(p:GD):Option Int:=PK (PK (PK (PK none (dy CZ (di p.aD) (di p.aD).length)) (dy (Fh (pA (di p.aD))) (di p.aD) (di p.aD).length)) (dy (uB (pA (di p.aD))) (lR p.globals) (lR p.globals).length))
 (dy (C0 (pA (di p.aD))) (fN p.funcs) (fN p.funcs).length)
def jy(p:GD):Option Int:=if Cv (fN p.funcs)<0 then PK (pJ p) (some 0) else pJ p
def Gk(p:GD):AV:=.ir [match jy p with|some _=>wu|none=>BI p,.agg [.int .i64 (fE (jy p)),.int .i64 (fX (jy p))]]
structure GD.sm (p:GD):Prop where
 aD:(di p.aD).length<1000000000
 bM:∀x∈di p.aD,(lR x.bM).length<1000000000
 globals:(lR p.globals).length<1000000000
 funcs:(fN p.funcs).length<1000000000
 params:∀x∈fN p.funcs,(lR x.params).length<1000000000
end U7
