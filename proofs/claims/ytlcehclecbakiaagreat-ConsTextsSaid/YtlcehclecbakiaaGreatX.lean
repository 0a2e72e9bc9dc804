/- Part of a proof. -/
import Derived.Test.YtlcehclecbakiaaGreatW
import Derived.Test.YtlcehclecbakiaaGreatC
import Derived.Test.YtlcehclecbakiaaGreatS
import Derived.Test.YtlcehclecbakiaaGreatF

set_option maxRecDepth 100000
set_option maxHeartbeats 4000000
namespace qG
open Ax Go aF V7 jw jX sZ
def zj(b:Bl)(g:Sg)(vs:List T3):Bl:={ b with params:=g.ps.length,vars:=vs,bg:=g.bg,res:=g.res,is:=[] }
theorem L0(i:In)(wl:Nat)(st:ag):j6 wl i.row st=some (i.row,st):=by
 have h1:=ni i.args;have h2:=nj i.args;have h3:=nk i.args;generalize hv:oI i.args=v at *;have h4:lE wl v st=some (v,st):=by
  unfold lE;split;simp[AV.ay]at h1;rw[h1,h2,h3];rfl
 have fi:∀(n:Int) (s:ag),lE wl (.int .i64 n) s=some (.int .i64 n,s):=λ_ _=>rfl;simp only[In.row,hv,j6,h4,fi]
theorem pY:∀(l:List In)(wl:Nat)(st:ag),jH wl (l.map In.row) st=some (l.map In.row,st)
 |[],_,_=>rfl|i::l,wl,st=>by
  simp only[List.map_cons,jH,L0,pY l]
def abU(b:Bl)(ns:Nat)(g:Sg)(bd:Bd):Bl:={ b with codes:=b.codes++[fo ns g bd],ax:=b.ax++(jO ns bd).ss.map (λt=>⟨b.codes.length,t⟩) }
theorem mK(sz:Nat)(l:List (List AV)):(cU sz l).view=aB sz l:=by
 unfold cU;cases l<;>simp[AV.view,aB,bF]
theorem pL(sz:Nat)(l:List (List AV)):(cU sz l).ay=true:=by
 unfold cU;cases l<;>simp[AV.ay]
end qG
namespace qG
open Ax Go aF V7 jw jX sZ
open K9 (sJ oH me C4)
open N7 (kO)
def iR(p:Pg):Bool:=decide (12<p.aD.length)||decide (8<p.globals.length)||decide (16<p.funcs.length)||p.aD.any (λr=>decide (8<r.bM.length))||p.funcs.any (λf=>decide (6<f.params.length))
end qG
namespace qG
open Ax Go aF V7 jw jX sZ
open K9 (sJ oH me C4 Z5)
open N7 U7
open S9 (AR Fp)
abbrev ZX:AV:=.agg [.U,.U,.U,.U,.int .i64 0]
def vZ(H:Hd)(main:Int)(cs:List Cd)(ss:List Sd):List AV:=[aB 2 (H.bL.map gD),aB 3 (H.globals.map (λv=>v.ty.cells)),aB 7 (cs.map Cd.row),aB 4 (ss.map Sd.row),.int .i64 main]
def X7(H:Hd)(main:Int)(r:Except Int (List Cd×List Sd)):AV:=match r with
 |.error a=>.ir [ZX,.agg [.int .i64 4,.int .i64 a]]|.ok (cs,ss)=>.ir [.agg (vZ H main cs ss),.agg [.int .i64 0,.int .i64 0]]
def sM(p:Pg):AV:=match jy (kO p) with
 |some a=>.ir [ZX,.agg [.int .i64 3,.int .i64 a]]|none=>match ue (aW p) (aW p).sigs p.funcs with
  |.error a=>.ir [ZX,.agg [.int .i64 3,.int .i64 a]]|.ok bs=>match AR p with
   |some a=>.ir [ZX,.agg [.int .i64 3,.int .i64 a]]|none=>if iR p then .ir [ZX,.agg [.int .i64 4,.int .i64 0]] else X7 (aW p) (me p) (zP [] [] 0 (aW p).sigs bs)
theorem uI(sz:Nat)(l:List (List AV)):aL (cU sz l)=true:=by unfold cU;split<;>rfl
theorem v7(sz:Nat)(l:List (List AV)):aJ (cU sz l)=l:=by
 unfold cU;split;rename_i h;rw[h];rfl
 rfl
theorem JD{p:Pg}(h:iR p=false):Few p:=by
 unfold iR at h;simp only[Bool.or_eq_false_iff,decide_eq_false_iff_not,List.any_eq_false,decide_eq_true_eq]at h;obtain⟨⟨⟨⟨h1,h2⟩,h3⟩,h4⟩,h5⟩:=h;exact⟨by omega,by omega,by omega,λx hx=>by have:=h4 x hx;omega,λx hx=>by have:=h5 x hx;omega⟩
theorem HF{cs:List Cd}{ss:List Sd}{all:Nat}{s:Sg}{sg:List Sg}{b:Bd}{bs:List Bd}:zP cs ss all (s::sg) (b::bs) =
  if 4000<(fo ss.length s b).vars.length\/2500<all+(fo ss.length s b).is.length\/60<ss.length+(jO ss.length b).ss.length then .error b.a
  else zP (cs++[fo ss.length s b]) (ss++(jO ss.length b).ss.map (λt=>⟨cs.length,t⟩)) (all+(fo ss.length s b).is.length) sg bs:=by
 (conv=>lhs;unfold zP)<;>rfl
theorem L1{cs:List Cd}{ss:List Sd}{all:Nat}{sg:List Sg}:zP cs ss all sg []=.ok (cs,ss):=by cases sg<;>rfl
theorem zQ(ns:Nat)(s:Sg)(b:Bd)(hL:LB b.code):(fo ns s b).vars.length<=b.vars.length+2*Sm.eH b.code+1/\(fo ns s b).is.length<=2*Sm.eH b.code+2/\(jO ns b).ss.length<=2*Sm.eH b.code:=by
 obtain⟨h1,h2,h3⟩:=LW hL b.vars.length 0 ns;refine⟨?_,?_,h3⟩;show (b.vars.map (·.ty)++(cB b.vars.length 0 ns b.code).vs++(if s.bg then [s.res] else [])).length<=_;cases s.bg<;>simp<;>omega;show ((cB b.vars.length 0 ns b.code).is++vV s _).length<=_;unfold vV;cases s.bg<;>simp<;>omega
end qG
