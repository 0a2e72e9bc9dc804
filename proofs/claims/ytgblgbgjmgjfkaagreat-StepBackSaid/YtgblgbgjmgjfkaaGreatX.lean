/- Part of a proof. -/
import Derived.Test.YtgblgbgjmgjfkaaGreatW

open List renaming length->Q
open Option renaming some->Z
open Bool renaming true->Y,false->X
open Decidable renaming decide->V
set_option maxRecDepth 100000
set_option maxHeartbeats 4000000
namespace uE
open Ax Go aM V7 jb jn qA
def D6(b:Bl)(g:Sg)(vs:List T3):Bl:={ b with params:=Q g.ps,vars:=vs,bY:=g.bY,res:=g.res,is:=[] }
theorem Sp(i:In)(C st):mg C i.aK st=Z (i.aK,st):=by
 have h:=qC i.args;have H:=qD i.args;have l:=qE i.args;generalize p:tG i.args=v at *;have m:nH C v st=Z (v,st):=by
  unfold nH;split;simp[AV.aH]at h;rw[h,H,l];rfl
 have F:∀(n:Int) (s:aO),nH C (.int .i64 n) s=Z (.int .i64 n,s):=λ_ _=>rfl;simp only[In.aK,p,mg,m,F]
theorem tZ:∀(l:List In) C st,kI C (l.map In.aK) st=Z (l.map In.aK,st)
 |[],_,_=>rfl|i::l,C,st=>by
  simp only[List.map_cons,kI,Sp,tZ l]
def akf(b:Bl)(N:Nat)(g:Sg)(B:Bd):Bl:={ b with aJ:=b.aJ++[eR N g B],aI:=b.aI++(eO N B).ss.map (λt=>⟨Q b.aJ,t⟩) }
theorem pY(s l):(eK s l).aj=aN s l:=by
 unfold eK;cases l<;>simp[AV.aj,aN,cw]
theorem tJ(s l):(eK s l).aH=Y:=by
 unfold eK;cases l<;>simp[AV.aH]
open K9 (u5 qQ dJ FC)
open N7 (mw)
def jW(p:Pg):Bool:=V (12<Q p.aR)||decide (8<Q p.ax)||decide (16<Q p.funcs)||p.aR.any (λr=>decide (8<Q r.cr))||p.funcs.any (λf=>decide (6<Q f.params))
end uE
namespace uE
open Ax Go aM V7 jb jn qA
open K9 (u5 qQ dJ FC Z5)
open N7 U7
open S9 (qc G8)
abbrev ZX:AV:=.agg [.aF,.aF,.aF,.aF,.int .i64 0]
def oF(H:Hd)(main:Int)(cs:List Cd)(ss:List Sd):List AV:=[aN 2 (H.bN.map gh),aN 3 (H.ax.map (λv=>v.ty.cells)),aN 7 (cs.map Cd.aK),aN 4 (ss.map Sd.aK),.int .i64 main]
def mkV(H:Hd)(main:Int)(r:Except Int (List Cd×List Sd)):AV:=match r with
 |.error a=>.fC [ZX,.agg [.int .i64 4,.int .i64 a]]|.ok (cs,ss)=>.fC [.agg (oF H main cs ss),.agg [.int .i64 0,.int .i64 0]]
def sD(p:Pg):AV:=match kR (mw p) with
 |some a=>.fC [ZX,.agg [.int .i64 3,.int .i64 a]]|none=>match rK (aY p) (aY p).aZ p.funcs with
  |.error a=>.fC [ZX,.agg [.int .i64 3,.int .i64 a]]|.ok bs=>match qc p with
   |some a=>.fC [ZX,.agg [.int .i64 3,.int .i64 a]]|none=>if jW p then .fC [ZX,.agg [.int .i64 4,.int .i64 0]] else mkV (aY p) (dJ p) (zv [] [] 0 (aY p).aZ bs)
theorem zx(s l):bn (eK s l)=Y:=by unfold eK;split<;>rfl
theorem AN(s l):bf (eK s l)=l:=by
 unfold eK;split;rename_i h;rw[h];rfl
 rfl
theorem Pf{p}(h:jW p=X):Few p:=by
 unfold jW at h;simp only[Bool.or_eq_false_iff,decide_eq_false_iff_not,List.any_eq_false,aC]at h;obtain⟨⟨⟨⟨H,g⟩,j⟩,m⟩,O⟩:=h;exact⟨by omega,by omega,by omega,λx l=>by have:=m x l;omega,λx l=>by have:=O x l;omega⟩
theorem Ng{C S all s g b bs}:zv C S all (s::g) (b::bs) =
  if 4000<Q (eR (Q S) s b).vars\/2500<all+Q (eR (Q S) s b).is\/60<Q S+Q (eO (Q S) b).ss then .error b.a
  else zv (C++[eR (Q S) s b]) (S++(eO (Q S) b).ss.map (λt=>⟨Q C,t⟩)) (all+Q (eR (Q S) s b).is) g bs:=by
 (conv=>lhs;unfold zv)<;>rfl
theorem Sq{C s all S}:zv C s all S []=.ok (C,s):=by cases S<;>rfl
theorem Ez(N s b)(W:LB b.code):Q (eR N s b).vars<=Q b.vars+2*Sm.eJ b.code+1/\Q (eR N s b).is<=2*Sm.eJ b.code+2/\Q (eO N b).ss<=2*Sm.eJ b.code:=by
 obtain⟨h,H,l⟩:=Sj W (Q b.vars) 0 N;refine⟨?_,?_,l⟩;show (b.vars.map (·.ty)++(cB (Q b.vars) 0 N b.code).vs++(if s.bY then [s.res] else [])).length<=_;cases s.bY<;>simp<;>omega;show Q ((cB (Q b.vars) 0 N b.code).is++xu s _)<=_;unfold xu;cases s.bY<;>simp<;>omega
end uE
