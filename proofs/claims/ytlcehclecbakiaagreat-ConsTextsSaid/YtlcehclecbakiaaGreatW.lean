/- Part of a proof. -/
import Derived.Test.YtlcehclecbakiaaGreatCode2
import Derived.Test.YtlcehclecbakiaaGreatA6
import Derived.Test.YtlcehclecbakiaaGreatF
import Derived.Test.YtlcehclecbakiaaGreatC

open Bool renaming true_and→aeb,and_self→aet
set_option maxRecDepth 100000
set_option maxHeartbeats 4000000
namespace qG
open Ax Go aF V7 jw jX sZ
def cU(sz:Nat)(l:List (List AV)):AV:=if l=[] then .U else .jz sz l
structure Bl where
 aD:AV
 X6:List T3
 codes:List Cd
 ax:List Sd
 main:Int
 params:Int
 vars:List T3
 bg:Bool
 res:T3
 is:List In
def yP(l:List In)(k:Nat):AV:=if l=[] then .U else .mu k (l.length-1)
def Bl.cells(b:Bl)(k:Nat):List AV:=[b.aD,cU 3 (b.X6.map T3.cells),cU 7 (b.codes.map Cd.row),cU 4 (b.ax.map Sd.row),.int .i64 b.main,
 .int .i64 b.params,cU 3 (b.vars.map T3.cells),.bool b.bg,.int .i64 b.res.b,.int .i64 b.res.r,.int .i64 b.res.d,yP b.is k]
def yQ(l:List In):ag:=if l=[] then [] else [.rows (l.length-1) 6 (l.map In.row)]
def stB(b:Bl)(pre:ag):ag:=.rows 0 12 [b.cells (pre.length+1)]::(pre++yQ b.is)
abbrev pB:AV:=.ptr 0 0 0 0
theorem ni(l:List Int):(oI l).ay=true:=by cases l<;>simp[oI,aB,bF,cp,AV.ay]
theorem nj(l:List Int):(oI l).cx=true:=by cases l<;>simp[oI,aB,bF,cp,AV.cx]
theorem nk(l:List Int):(oI l).view=oI l:=by cases l<;>simp[oI,aB,bF,cp,AV.view]
variable (wl aa:Nat)
end qG
namespace qG
open Ax Go aF V7 jw jX sZ
mutual
theorem nU:∀a:AV,a.fB a=true
 |.undef|.gone|.eR|.U|.gi|.iZ|.j8|.mV=>rfl|.bool b=>by simp[AV.fB]|.int k n=>by simp[AV.fB]|.str l=>by simp[AV.fB]|.agg l=>by simp only[AV.fB];exact hJ l|.ir l=>by simp only[AV.fB];exact hJ l|.dh s r=>by simp only[AV.fB,beq_self_eq_true,aeb];exact gG r|.jz s r=>by simp only[AV.fB,beq_self_eq_true,aeb];exact gG r|.raw s r=>by simp only[AV.fB,beq_self_eq_true,aeb];exact gG r|.mu i v=>by simp[AV.fB]|.ptr a b c d=>by simp[AV.fB]|.qt s a i k=>by simp only[AV.fB,beq_self_eq_true,aeb,Bool.and_true];exact gG a|.map i=>by simp[AV.fB]|.fn f a b=>by simp only[AV.fB,beq_self_eq_true,aeb,Bool.and_eq_true];exact⟨hJ a,hJ b⟩
theorem hJ:∀l:List AV,AV.s8 l l=true
 |[]=>rfl|a::l=>by simp only[AV.s8,nU a,hJ l,aet]
theorem gG:∀l:List (List AV),AV.qu l l=true
 |[]=>rfl|a::l=>by simp only[AV.qu,hJ a,gG l,aet]
end
variable (wl aa:Nat)
end qG
namespace qG
open Ax Go aF V7 jw jX sZ
def Bl.plus(b:Bl)(o:kZ):Bl:={ b with vars:=b.vars++o.vs,is:=b.is++o.is,ax:=b.ax++o.ss.map (λt=>⟨b.codes.length,t⟩) }
theorem oJ(b:Bl):b.plus O0=b:=by simp[Bl.plus,O0]
theorem k8(b:Bl)(x y:kZ):(b.plus x).plus y=b.plus (x.dW y):=by simp[Bl.plus,kZ.dW]
theorem mJ(b:Bl)(i:In):{ b with is:=b.is++[i] }=b.plus (eY i):=by simp[Bl.plus,eY]
def Fb(b:Bl)(n:Nat):Prop:=b.vars.length+n<1000000000/\b.is.length+n<1000000000/\b.ax.length+n<1000000000
theorem eZ(b:Bl)(o:kZ):(b.plus o).vars.length=b.vars.length+o.vs.length/\(b.plus o).is.length=b.is.length+o.is.length/\(b.plus o).ax.length=b.ax.length+o.ss.length:=by simp[Bl.plus]
theorem Fb.plus{b:Bl}{o:kZ}{n m:Nat}(h:Fb b (m+n))(g:Lo o m):Fb (b.plus o) n:=by
 obtain⟨a1,a2,a3⟩:=eZ b o;obtain⟨h1,h2,h3⟩:=h;obtain⟨g1,g2,g3⟩:=g;exact⟨by omega,by omega,by omega⟩
theorem Fb.le{b:Bl}{n m:Nat}(h:Fb b m)(g:n<=m):Fb b n:=⟨by have:=h.1;omega,by have:=h.2.1;omega,by have:=h.2.2;omega⟩
variable (wl aa:Nat)
end qG
namespace qG
open Ax Go aF V7 jw jX sZ
def PE(e:E):Prop:=∀(b:Bl)(pre:ag),LE e->Fb b (E.sz e)->(aP S).call 0 0 9999 [pB,.agg e.row] (stB b pre)=some (.int .i64 (cE b.vars.length b.ax.length e).1,stB (b.plus (cE b.vars.length b.ax.length e).2) pre)
theorem Fw(nv ns:Nat):∀l:List E,(oX nv ns l).1.length=l.length
 |[]=>rfl|e::l=>by rw[xK];simp[Fw]
end qG
namespace qG
open Ax Go aF V7 jw jX sZ
theorem mg(b:Bl)(x:kZ)(i:In):{ b.plus x with is:=(b.plus x).is++[i] }=b.plus (x.dW (eY i)):=by rw[mJ,k8]
end qG
namespace qG
open Ax Go aF V7 jw jX sZ
def PS(s:Sm):Prop:=∀(b:Bl)(pre:ag),LS s->Fb b (2*Sm.sz s)->(aP S).call 0 0 9999 [pB,.agg s.row] (stB b pre)=some (.ir [],stB (b.plus (cS b.vars.length b.is.length b.ax.length s)) pre)
end qG
namespace qG
open Ax Go aF V7 jw jX sZ
def Bl.vY(b:Bl)(i:Nat)(a:In):Bl:={ b with is:=b.is.set i a }
structure Pt (b:Bl)(pre:ag)(st:ag)(H:List AV)(V:Nat)(R:List (List AV)):Prop where
 st:st=stB b pre
 eq:stB b pre=.rows 0 12 [H++[.mu (pre.length+1) V]]::(pre++[.rows V 6 R])
 len:R.length=b.is.length
 set:∀(i:Nat) (a:In),(.rows 0 12 [H++[.mu (pre.length+1) V]]::(pre++[.rows V 6 (R.set i (In.row a))]):ag)=stB (b.vY i a) pre
 get:∀(i:Nat) (a:In),b.is[i]?=some a->R[i]?=some a.row
theorem JB(b:Bl)(x:Int×kZ)(y z:kZ)(f g:Nat->Nat->Nat->kZ)
  (hy:y=f (b.vars.length+x.2.vs.length) (b.is.length+x.2.is.length+1) (b.ax.length+x.2.ss.length))
  (hz:z=g (b.vars.length+x.2.vs.length+y.vs.length) (b.is.length+x.2.is.length+1+y.is.length+1) (b.ax.length+x.2.ss.length+y.ss.length)) :
  ((((((b.plus (x.2.dW (eY ⟨17,x.1,0,0,((b.is.length+x.2.is.length+1:Nat):Int),[]⟩))).plus y).plus (eY ⟨16,0,0,0,0,[]⟩)).vY (b.is.length+x.2.is.length)
   ⟨17,x.1,0,((b.is.length+x.2.is.length+1+y.is.length+1:Nat):Int),((b.is.length+x.2.is.length+1:Nat):Int),[]⟩).plus z).vY (b.is.length+x.2.is.length+1+y.is.length)
   ⟨16,0,0,0,((b.is.length+x.2.is.length+1+y.is.length+1+z.is.length:Nat):Int),[]⟩)=b.plus (X3 b.vars.length b.is.length b.ax.length x f g):=by
 unfold X3;dsimp only;rw[<-hy,<-hz];have e1:1+y.is.length=y.is.length+1:=by omega
 simp[Bl.plus,Bl.vY,kZ.dW,eY,Nat.add_assoc,e1]
theorem JC(b:Bl)(x:Int×kZ)(y:kZ)(f:Nat->Nat->Nat->kZ)
  (hy:y=f (b.vars.length+x.2.vs.length) (b.is.length+x.2.is.length+1) (b.ax.length+x.2.ss.length)) :
  ((((b.plus (x.2.dW (eY ⟨17,x.1,0,0,((b.is.length+x.2.is.length+1:Nat):Int),[]⟩))).plus y).plus (eY ⟨16,0,0,0,(b.is.length:Int),[]⟩)).vY (b.is.length+x.2.is.length)
   ⟨17,x.1,0,((b.is.length+x.2.is.length+1+y.is.length+1:Nat):Int),((b.is.length+x.2.is.length+1:Nat):Int),[]⟩)=b.plus (X4 b.vars.length b.is.length b.ax.length x f):=by
 unfold X4;dsimp only;rw[<-hy];simp[Bl.plus,Bl.vY,kZ.dW,eY,Nat.add_assoc]
end qG
namespace qG
open Ax Go aF V7 jw jX sZ
end qG
