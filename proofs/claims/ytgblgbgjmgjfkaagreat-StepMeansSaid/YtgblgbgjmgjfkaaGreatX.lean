/- Part of a proof. -/
import Derived.Test.YtgblgbgjmgjfkaaGreatW

set_option maxRecDepth 100000
set_option maxHeartbeats 4000000
namespace tQ
open Ax Go aO V7 iQ iZ qb
def Dh(b:Bl)(g:Sg)(vs:List T3):Bl:={ b with params:=g.ps.length,vars:=vs,bR:=g.bR,res:=g.res,is:=[] }
theorem Rk(i:In)(w:Nat)(st:aj):lB w i.aI st=some (i.aI,st):=by
 have h:=pO i.args;have H:=pP i.args;have j:=pQ i.args;generalize p:sB i.args=v at *;have l:mM w v st=some (v,st):=by
  unfold mM;split;simp[AV.aH]at h;rw[h,H,j];rfl
 have F:∀(n:Int) (s:aj),mM w (.int .i64 n) s=some (.int .i64 n,s):=λ_ _=>rfl;simp only[In.aI,p,lB,l,F]
theorem sX:∀(l:List In)(w:Nat)(st:aj),jV w (l.map In.aI) st=some (l.map In.aI,st)
 |[],_,_=>rfl|i::l,w,st=>by
  simp only[List.map_cons,jV,Rk,sX l]
def aiT(b:Bl)(N:Nat)(g:Sg)(B:Bd):Bl:={ b with aR:=b.aR++[eJ N g B],aJ:=b.aJ++(eG N B).ss.map (λt=>⟨b.aR.length,t⟩) }
theorem oU(s:Nat)(l:List (List AV)):(ey s l).ai=aM s l:=by
 unfold ey;cases l<;>simp[AV.ai,aM,cq]
theorem sC(s:Nat)(l:List (List AV)):(ey s l).aH=true:=by
 unfold ey;cases l<;>simp[AV.aH]
end tQ
namespace tQ
open Ax Go aO V7 iQ iZ qb
open K9 (um qa eu EF)
open N7 (lG)
def jR(p:Pg):Bool:=decide (12<p.aU.length)||decide (8<p.az.length)||decide (16<p.funcs.length)||p.aU.any (λr=>decide (8<r.cF.length))||p.funcs.any (λf=>decide (6<f.params.length))
end tQ
namespace tQ
open Ax Go aO V7 iQ iZ qb
open K9 (um qa eu EF Z5)
open N7 U7
open S9 (pM F4)
abbrev ZX:AV:=.agg [.aF,.aF,.aF,.aF,.int .i64 0]
def qc(H:Hd)(main:Int)(cs:List Cd)(ss:List Sd):List AV:=[aM 2 (H.bJ.map fQ),aM 3 (H.az.map (λv=>v.ty.cells)),aM 7 (cs.map Cd.aI),aM 4 (ss.map Sd.aI),.int .i64 main]
def mkV(H:Hd)(main:Int)(r:Except Int (List Cd×List Sd)):AV:=match r with
 |.error a=>.eY [ZX,.agg [.int .i64 4,.int .i64 a]]|.ok (cs,ss)=>.eY [.agg (qc H main cs ss),.agg [.int .i64 0,.int .i64 0]]
def rJ(p:Pg):AV:=match ke (lG p) with
 |some a=>.eY [ZX,.agg [.int .i64 3,.int .i64 a]]|none=>match qJ (aX p) (aX p).aW p.funcs with
  |.error a=>.eY [ZX,.agg [.int .i64 3,.int .i64 a]]|.ok bs=>match pM p with
   |some a=>.eY [ZX,.agg [.int .i64 3,.int .i64 a]]|none=>if jR p then .eY [ZX,.agg [.int .i64 4,.int .i64 0]] else mkV (aX p) (eu p) (yJ [] [] 0 (aX p).aW bs)
theorem yL(s:Nat)(l:List (List AV)):bf (ey s l)=true:=by unfold ey;split<;>rfl
theorem zP(s:Nat)(l:List (List AV)):aY (ey s l)=l:=by
 unfold ey;split;rename_i h;rw[h];rfl
 rfl
theorem Ou{p:Pg}(h:jR p=false):Few p:=by
 unfold jR at h;simp only[Bool.or_eq_false_iff,decide_eq_false_iff_not,List.any_eq_false,aA]at h;obtain⟨⟨⟨⟨g,j⟩,k⟩,H⟩,V⟩:=h;exact⟨by omega,by omega,by omega,λx l=>by have:=H x l;omega,λx l=>by have:=V x l;omega⟩
variable{C:List Cd}
theorem Mx{S:List Sd}{all:Nat}{s:Sg}{g:List Sg}{b:Bd}{bs:List Bd}:yJ C S all (s::g) (b::bs) =
  if 4000<(eJ S.length s b).vars.length\/2500<all+(eJ S.length s b).is.length\/60<S.length+(eG S.length b).ss.length then .error b.a
  else yJ (C++[eJ S.length s b]) (S++(eG S.length b).ss.map (λt=>⟨C.length,t⟩)) (all+(eJ S.length s b).is.length) g bs:=by
 (conv=>lhs;unfold yJ)<;>rfl
theorem Rl{s:List Sd}{all:Nat}{S:List Sg}:yJ C s all S []=.ok (C,s):=by cases S<;>rfl
theorem DN(N:Nat)(s:Sg)(b:Bd)(R:LB b.code):(eJ N s b).vars.length<=b.vars.length+2*Sm.eD b.code+1/\(eJ N s b).is.length<=2*Sm.eD b.code+2/\(eG N b).ss.length<=2*Sm.eD b.code:=by
 obtain⟨h,H,j⟩:=Rf R b.vars.length 0 N;refine⟨?_,?_,j⟩;show (b.vars.map (·.ty)++(cB b.vars.length 0 N b.code).vs++(if s.bR then [s.res] else [])).length<=_;cases s.bR<;>simp<;>omega;show ((cB b.vars.length 0 N b.code).is++wG s _).length<=_;unfold wG;cases s.bR<;>simp<;>omega
end tQ
