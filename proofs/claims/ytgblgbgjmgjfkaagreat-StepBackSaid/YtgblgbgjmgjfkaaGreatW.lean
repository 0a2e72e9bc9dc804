/- Part of a proof. -/
import Derived.Test.YtgblgbgjmgjfkaaGreatF

open List renaming length->Q
open Option renaming some->Z
open Bool renaming true->Y
open Bool renaming true_and->afp,and_self->afH
set_option maxRecDepth 100000
set_option maxHeartbeats 4000000
namespace uE
open Ax Go aM V7 jb jn qA
def eK(s:Nat)(l:List (List AV)):AV:=if l=[] then .aF else .iY s l
structure Bl where
 aR:AV
 glo:List T3
 aJ:List Cd
 aI:List Sd
 main:Int
 params:Int
 vars:List T3
 bY:Bool
 res:T3
 is:List In
def DG(l:List In)(k:Nat):AV:=if l=[] then .aF else .mu k (Q l-1)
def Bl.cells(b:Bl)(k:Nat):List AV:=[b.aR,eK 3 (b.glo.map T3.cells),eK 7 (b.aJ.map Cd.aK),eK 4 (b.aI.map Sd.aK),.int .i64 b.main,
 .int .i64 b.params,eK 3 (b.vars.map T3.cells),.bool b.bY,.int .i64 b.res.b,.int .i64 b.res.r,.int .i64 b.res.d,DG b.is k]
def DH(l:List In):aO:=if l=[] then [] else [.rows (Q l-1) 6 (l.map In.aK)]
def stB(b:Bl)(pre:aO):aO:=.rows 0 12 [b.cells (Q pre+1)]::(pre++DH b.is)
abbrev pB:AV:=.ptr 0 0 0 0
theorem qC(l):(tG l).aH=Y:=by cases l<;>simp[tG,aN,cw,aT,AV.aH]
theorem qD(l):(tG l).cT=Y:=by cases l<;>simp[tG,aN,cw,aT,AV.cT]
theorem qE(l):(tG l).aj=tG l:=by cases l<;>simp[tG,aN,cw,aT,AV.aj]
variable (wl ai:Nat)
end uE
namespace uE
open Ax Go aM V7 jb jn qA
mutual
theorem nq:∀a:AV,a.de a=Y
 |.undef|.gone|.ff|.aF|.gR|.jx|.me|.pP=>rfl|.bool b=>by simp[AV.de]|.int k n=>by simp[AV.de]|.str l=>by simp[AV.de]|.agg l=>by simp only[AV.de];exact fK l|.fC l=>by simp only[AV.de];exact fK l|.eE s r=>by simp only[AV.de,beq_self_eq_true,afp];exact fz r|.iY s r=>by simp only[AV.de,beq_self_eq_true,afp];exact fz r|.raw s r=>by simp only[AV.de,beq_self_eq_true,afp];exact fz r|.mu i v=>by simp[AV.de]|.ptr a b c d=>by simp[AV.de]|.uL s a i k=>by simp only[AV.de,beq_self_eq_true,afp,Bool.and_true];exact fz a|.map i=>by simp[AV.de]|.fn f a b=>by simp only[AV.de,beq_self_eq_true,afp,Bool.and_eq_true];exact⟨fK a,fK b⟩
theorem fK:∀l:List AV,AV.vk l l=Y
 |[]=>rfl|a::l=>by simp only[AV.vk,nq a,fK l,afH]
theorem fz:∀l:List (List AV),AV.rM l l=Y
 |[]=>rfl|a::l=>by simp only[AV.rM,fK a,fz l,afH]
end
variable (wl ai:Nat)
end uE
namespace uE
open Ax Go aM V7 jb jn qA
def Bl.plus(b:Bl)(o:nj):Bl:={ b with vars:=b.vars++o.vs,is:=b.is++o.is,aI:=b.aI++o.ss.map (λt=>⟨Q b.aJ,t⟩) }
theorem sC(b:Bl):b.plus O0=b:=by simp[Bl.plus,O0]
theorem oh(b:Bl)(x y):(b.plus x).plus y=b.plus (x.eD y):=by simp[Bl.plus,nj.eD]
theorem pX(b:Bl)(i):{ b with is:=b.is++[i] }=b.plus (gx i):=by simp[Bl.plus,gx]
def Fb(b:Bl)(n:Nat):Prop:=Q b.vars+n<1000000000/\Q b.is+n<1000000000/\Q b.aI+n<1000000000
theorem g8(b:Bl)(o):Q (b.plus o).vars=Q b.vars+Q o.vs/\Q (b.plus o).is=Q b.is+Q o.is/\Q (b.plus o).aI=Q b.aI+Q o.ss:=by simp[Bl.plus]
theorem Fb.plus{b o n m}(h:Fb b (m+n))(g:Lo o m):Fb (b.plus o) n:=by
 obtain⟨j,W,k⟩:=g8 b o;obtain⟨H,l,p⟩:=h;obtain⟨y,z,C⟩:=g;exact⟨by omega,by omega,by omega⟩
theorem Fb.le{b n m}(h:Fb b m)(g:n<=m):Fb b n:=⟨by have:=h.1;omega,by have:=h.2.1;omega,by have:=h.2.2;omega⟩
variable (wl ai:Nat)
def PE(e:E):Prop:=∀(b:Bl)(pre:aO),LE e->Fb b (E.sz e)->(bh S).call 0 0 9999 [pB,.agg e.aK] (stB b pre)=Z (.int .i64 (cE (Q b.vars) (Q b.aI) e).1,stB (b.plus (cE (Q b.vars) (Q b.aI) e).2) pre)
theorem Ld(g N):∀l:List E,Q (lT g N l).1=Q l
 |[]=>rfl|e::l=>by rw[qB];simp[Ld]
theorem pz(b:Bl)(x i):{ b.plus x with is:=(b.plus x).is++[i] }=b.plus (x.eD (gx i)):=by rw[pX,oh]
def PS(s:Sm):Prop:=∀(b:Bl)(pre:aO),LS s->Fb b (2*Sm.sz s)->(bh S).call 0 0 9999 [pB,.agg s.aK] (stB b pre)=Z (.fC [],stB (b.plus (cS (Q b.vars) (Q b.is) (Q b.aI) s)) pre)
def Bl.AM(b:Bl)(i:Nat)(a:In):Bl:={ b with is:=b.is.set i a }
structure Pt (b:Bl)(pre:aO)(st:aO)(H:List AV)(V:Nat)(R:List (List AV)):Prop where
 st:st=stB b pre
 eq:stB b pre=.rows 0 12 [H++[.mu (pre.length+1) V]]::(pre++[.rows V 6 R])
 len:R.length=b.is.length
 set:∀(i:Nat) (a:In),(.rows 0 12 [H++[.mu (pre.length+1) V]]::(pre++[.rows V 6 (R.set i (In.aK a))]):aO)=stB (b.AM i a) pre
 get:∀(i:Nat) (a:In),b.is[i]?=some a->R[i]?=some a.aK
theorem Pd(b:Bl)(x y z f g)(m:y=f (Q b.vars+Q x.2.vs) (Q b.is+Q x.2.is+1) (Q b.aI+Q x.2.ss))(h:z=g (Q b.vars+Q x.2.vs+Q y.vs) (Q b.is+Q x.2.is+1+Q y.is+1) (Q b.aI+Q x.2.ss+Q y.ss)):
  ((((((b.plus (x.2.eD (gx ⟨17,x.1,0,0,((Q b.is+Q x.2.is+1:Nat)),[]⟩))).plus y).plus (gx ⟨16,0,0,0,0,[]⟩)).AM (Q b.is+Q x.2.is)
   ⟨17,x.1,0,((Q b.is+Q x.2.is+1+Q y.is+1:Nat)),((Q b.is+Q x.2.is+1:Nat)),[]⟩).plus z).AM (Q b.is+Q x.2.is+1+Q y.is)
   ⟨16,0,0,0,((Q b.is+Q x.2.is+1+Q y.is+1+Q z.is:Nat)),[]⟩)=b.plus (Qg (Q b.vars) (Q b.is) (Q b.aI) x f g):=by
 unfold Qg;dsimp only;rw[<-m,<-h];have E:1+Q y.is=Q y.is+1:=by omega
 simp[Bl.plus,Bl.AM,nj.eD,gx,Nat.add_assoc,E]
theorem Pe(b:Bl)(x y f)(m:y=f (Q b.vars+Q x.2.vs) (Q b.is+Q x.2.is+1) (Q b.aI+Q x.2.ss)):
  ((((b.plus (x.2.eD (gx ⟨17,x.1,0,0,((Q b.is+Q x.2.is+1:Nat)),[]⟩))).plus y).plus (gx ⟨16,0,0,0,Q b.is,[]⟩)).AM (Q b.is+Q x.2.is)
   ⟨17,x.1,0,((Q b.is+Q x.2.is+1+Q y.is+1:Nat)),((Q b.is+Q x.2.is+1:Nat)),[]⟩)=b.plus (Tn (Q b.vars) (Q b.is) (Q b.aI) x f):=by
 unfold Tn;dsimp only;rw[<-m];simp[Bl.plus,Bl.AM,nj.eD,gx,Nat.add_assoc]
end uE
