/- Part of a proof. -/
import Derived.Test.YtgblgbgjmgjfkaaGreatF

open Bool renaming true_and->agC,and_self->ah8
set_option maxRecDepth 100000
set_option maxHeartbeats 4000000
namespace tQ
open Ax Go aO V7 iQ iZ qb
def ey(s:Nat)(l:List (List AV)):AV:=if l=[] then .aF else .ju s l
structure Bl where
 aU:AV
 glo:List T3
 aR:List Cd
 aJ:List Sd
 main:Int
 params:Int
 vars:List T3
 bR:Bool
 res:T3
 is:List In
def CT(l:List In)(k:Nat):AV:=if l=[] then .aF else .mu k (l.length-1)
def Bl.cells(b:Bl)(k:Nat):List AV:=[b.aU,ey 3 (b.glo.map T3.cells),ey 7 (b.aR.map Cd.aI),ey 4 (b.aJ.map Sd.aI),.int .i64 b.main,
 .int .i64 b.params,ey 3 (b.vars.map T3.cells),.bool b.bR,.int .i64 b.res.b,.int .i64 b.res.r,.int .i64 b.res.d,CT b.is k]
def CU(l:List In):aj:=if l=[] then [] else [.rows (l.length-1) 6 (l.map In.aI)]
def stB(b:Bl)(pre:aj):aj:=.rows 0 12 [b.cells (pre.length+1)]::(pre++CU b.is)
abbrev pB:AV:=.ptr 0 0 0 0
theorem pO(l:List Int):(sB l).aH=true:=by cases l<;>simp[sB,aM,cq,aP,AV.aH]
theorem pP(l:List Int):(sB l).cM=true:=by cases l<;>simp[sB,aM,cq,aP,AV.cM]
theorem pQ(l:List Int):(sB l).ai=sB l:=by cases l<;>simp[sB,aM,cq,aP,AV.ai]
variable (wl ah:Nat)
end tQ
namespace tQ
open Ax Go aO V7 iQ iZ qb
mutual
theorem mw:∀a:AV,a.cU a=true
 |.undef|.gone|.eP|.aF|.gu|.je|.lz|.oI=>rfl|.bool b=>by simp[AV.cU]|.int k n=>by simp[AV.cU]|.str l=>by simp[AV.cU]|.agg l=>by simp only[AV.cU];exact fj l|.eY l=>by simp only[AV.cU];exact fj l|.dV s r=>by simp only[AV.cU,beq_self_eq_true,agC];exact eW r|.ju s r=>by simp only[AV.cU,beq_self_eq_true,agC];exact eW r|.raw s r=>by simp only[AV.cU,beq_self_eq_true,agC];exact eW r|.mu i v=>by simp[AV.cU]|.ptr a b c d=>by simp[AV.cU]|.tM s a i k=>by simp only[AV.cU,beq_self_eq_true,agC,Bool.and_true];exact eW a|.map i=>by simp[AV.cU]|.fn f a b=>by simp only[AV.cU,beq_self_eq_true,agC,Bool.and_eq_true];exact⟨fj a,fj b⟩
theorem fj:∀l:List AV,AV.uw l l=true
 |[]=>rfl|a::l=>by simp only[AV.uw,mw a,fj l,ah8]
theorem eW:∀l:List (List AV),AV.qK l l=true
 |[]=>rfl|a::l=>by simp only[AV.qK,fj a,eW l,ah8]
end
variable (wl ah:Nat)
end tQ
namespace tQ
open Ax Go aO V7 iQ iZ qb
def Bl.plus(b:Bl)(o:jt):Bl:={ b with vars:=b.vars++o.vs,is:=b.is++o.is,aJ:=b.aJ++o.ss.map (λt=>⟨b.aR.length,t⟩) }
theorem rz(b:Bl):b.plus O0=b:=by simp[Bl.plus,O0]
theorem nq(b:Bl)(x y:jt):(b.plus x).plus y=b.plus (x.dO y):=by simp[Bl.plus,jt.dO]
theorem oT(b:Bl)(i:In):{ b with is:=b.is++[i] }=b.plus (fW i):=by simp[Bl.plus,fW]
def Fb(b:Bl)(n:Nat):Prop:=b.vars.length+n<1000000000/\b.is.length+n<1000000000/\b.aJ.length+n<1000000000
theorem gC(b:Bl)(o:jt):(b.plus o).vars.length=b.vars.length+o.vs.length/\(b.plus o).is.length=b.is.length+o.is.length/\(b.plus o).aJ.length=b.aJ.length+o.ss.length:=by simp[Bl.plus]
theorem Fb.plus{b:Bl}{o:jt}{n m:Nat}(h:Fb b (m+n))(g:Lo o m):Fb (b.plus o) n:=by
 obtain⟨j,S,k⟩:=gC b o;obtain⟨H,l,p⟩:=h;obtain⟨V,W,Y⟩:=g;exact⟨by omega,by omega,by omega⟩
theorem Fb.le{b:Bl}{n m:Nat}(h:Fb b m)(g:n<=m):Fb b n:=⟨by have:=h.1;omega,by have:=h.2.1;omega,by have:=h.2.2;omega⟩
variable (wl ah:Nat)
end tQ
namespace tQ
open Ax Go aO V7 iQ iZ qb
def PE(e:E):Prop:=∀(b:Bl)(pre:aj),LE e->Fb b (E.sz e)->(aZ S).call 0 0 9999 [pB,.agg e.aI] (stB b pre)=some (.int .i64 (cE b.vars.length b.aJ.length e).1,stB (b.plus (cE b.vars.length b.aJ.length e).2) pre)
theorem Ku(g N:Nat):∀l:List E,(kT g N l).1.length=l.length
 |[]=>rfl|e::l=>by rw[pN];simp[Ku]
end tQ
namespace tQ
open Ax Go aO V7 iQ iZ qb
theorem oq(b:Bl)(x:jt)(i:In):{ b.plus x with is:=(b.plus x).is++[i] }=b.plus (x.dO (fW i)):=by rw[oT,nq]
end tQ
namespace tQ
open Ax Go aO V7 iQ iZ qb
def PS(s:Sm):Prop:=∀(b:Bl)(pre:aj),LS s->Fb b (2*Sm.sz s)->(aZ S).call 0 0 9999 [pB,.agg s.aI] (stB b pre)=some (.eY [],stB (b.plus (cS b.vars.length b.is.length b.aJ.length s)) pre)
end tQ
namespace tQ
open Ax Go aO V7 iQ iZ qb
def Bl.zO(b:Bl)(i:Nat)(a:In):Bl:={ b with is:=b.is.set i a }
structure Pt (b:Bl)(pre:aj)(st:aj)(H:List AV)(V:Nat)(R:List (List AV)):Prop where
 st:st=stB b pre
 eq:stB b pre=.rows 0 12 [H++[.mu (pre.length+1) V]]::(pre++[.rows V 6 R])
 len:R.length=b.is.length
 set:∀(i:Nat) (a:In),(.rows 0 12 [H++[.mu (pre.length+1) V]]::(pre++[.rows V 6 (R.set i (In.aI a))]):aj)=stB (b.zO i a) pre
 get:∀(i:Nat) (a:In),b.is[i]?=some a->R[i]?=some a.aI
theorem Oq(b:Bl)(x:Int×jt)(y z:jt)(f g:Nat->Nat->Nat->jt)
  (k:y=f (b.vars.length+x.2.vs.length) (b.is.length+x.2.is.length+1) (b.aJ.length+x.2.ss.length))
  (h:z=g (b.vars.length+x.2.vs.length+y.vs.length) (b.is.length+x.2.is.length+1+y.is.length+1) (b.aJ.length+x.2.ss.length+y.ss.length)) :
  ((((((b.plus (x.2.dO (fW ⟨17,x.1,0,0,((b.is.length+x.2.is.length+1:Nat):Int),[]⟩))).plus y).plus (fW ⟨16,0,0,0,0,[]⟩)).zO (b.is.length+x.2.is.length)
   ⟨17,x.1,0,((b.is.length+x.2.is.length+1+y.is.length+1:Nat):Int),((b.is.length+x.2.is.length+1:Nat):Int),[]⟩).plus z).zO (b.is.length+x.2.is.length+1+y.is.length)
   ⟨16,0,0,0,((b.is.length+x.2.is.length+1+y.is.length+1+z.is.length:Nat):Int),[]⟩)=b.plus (Ph b.vars.length b.is.length b.aJ.length x f g):=by
 unfold Ph;dsimp only;rw[<-k,<-h];have E:1+y.is.length=y.is.length+1:=by omega
 simp[Bl.plus,Bl.zO,jt.dO,fW,Nat.add_assoc,E]
theorem Ot(b:Bl)(x:Int×jt)(y:jt)(f:Nat->Nat->Nat->jt)
  (k:y=f (b.vars.length+x.2.vs.length) (b.is.length+x.2.is.length+1) (b.aJ.length+x.2.ss.length)) :
  ((((b.plus (x.2.dO (fW ⟨17,x.1,0,0,((b.is.length+x.2.is.length+1:Nat):Int),[]⟩))).plus y).plus (fW ⟨16,0,0,0,(b.is.length:Int),[]⟩)).zO (b.is.length+x.2.is.length)
   ⟨17,x.1,0,((b.is.length+x.2.is.length+1+y.is.length+1:Nat):Int),((b.is.length+x.2.is.length+1:Nat):Int),[]⟩)=b.plus (So b.vars.length b.is.length b.aJ.length x f):=by
 unfold So;dsimp only;rw[<-k];simp[Bl.plus,Bl.zO,jt.dO,fW,Nat.add_assoc]
end tQ
namespace tQ
open Ax Go aO V7 iQ iZ qb
end tQ
