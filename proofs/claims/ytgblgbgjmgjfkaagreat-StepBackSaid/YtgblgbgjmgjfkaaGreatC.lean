/- Part of a proof. -/
import Derived.Test.YtgblgbgjmgjfkaaGreatCode1
import Derived.Test.YtgblgbgjmgjfkaaGreatP

open List renaming length->Q
open Option renaming some->Z
open Bool renaming true->Y,false->X
open Decidable renaming decide->V
open List renaming drop_eq_getElem_cons->aan
open Bool renaming and_eq_true->E6
set_option maxRecDepth 100000
set_option maxHeartbeats 8000000
namespace K9
open Ax Go aM V7 jb jn
def mQ(l:List (List UInt8)):List (List AV):=l.map λs=>[.str s]
structure CK where
 H:Hd
 main:Int
 sg:Sg
 V:List Vd
 fe:Int
 fa:Int
def CK.bX(c:CK):iW:=.rows 0 14 [[aN 2 (c.H.bN.map gh),cM c.H.ax,aN 6 (c.H.aZ.map Sg.aK),.int .i64 c.main,cw 1 (mQ c.H.rs),.str c.sg.nm,cM c.sg.ps,.bool c.sg.bY,.int .i64 c.sg.res.b,.int .i64 c.sg.res.r,.int .i64 c.sg.res.d,cw 4 (c.V.map Vd.aK),.int .i64 c.fe,.int .i64 c.fa]]
def CK.fail(c:CK)(a:Int):CK:=if c.fe=0 then { c with fe:=3,fa:=a } else c
@[simp]theorem iQ{l}:bn (cM l)=Y:=bU
@[simp]theorem l8{l}:(cM l).aj=cM l:=cg
@[simp]theorem tF{l}:bf (cM l)=l.map Vd.aK:=br
@[simp]theorem apH{l}:Q (E.rows l)=Q l:=by simp[jI]
@[simp]theorem amQ{l}:Q (Sm.rows l)=Q l:=by simp[kB]
theorem jz{sz r}(h:cy sz r=Y):cU sz (aN sz r)=Y:=by
 cases r with
 |nil=>rfl|cons a r=>simp[cU,h]
@[simp]theorem wB{l}:cU 4 (cM l)=Y:=jz (by simp[cy,Vd.aK])
@[simp]theorem ox{l}:cU 11 (aN 11 (E.rows l))=Y:=jz (by simp[cy,jI,E.aU])
@[simp]theorem O2{l}:cU 9 (aN 9 (Sm.rows l))=Y:=jz (by simp[cy,kB,Sm.aU])
theorem cZ{wl ai agg n sz i k rows st bx}:bD wl ai (.load agg n X) [.val (.uL sz rows i k)] st bx=vJ st bx ((gP st (.uL sz rows i k) n).bind λC=>bO agg (AV.cP C)):=aE
theorem Db{s}{l:List Vd}{k}(h):jA s k (l.drop k)=if l[k].nm=s then Z (k,l[k].ty) else jA s (k+1) (l.drop (k+1)):=by
 rw[aan h];rfl
structure FA (c:CK):Prop where
 V:c.V.length<1000000000
 G:c.H.ax.length<1000000000
 S:c.H.aZ.length<1000000000
 R:c.H.rs.length<1000000000
 F:∀s∈c.H.bN,s.2.length<1000000000
 P:∀s∈c.H.aZ,s.ps.length<1000000000
def rF(o:Option (T3×Int)):AV:=match o with
 |some (t,r)=>.fC [.int .i64 r,.agg t.cells,.bool Y]|none=>.fC [.int .i64 0,.agg T0.cells,.bool X]
def CK.Ze(c:CK)(w:AV):iW:=.rows 0 14 [[aN 2 (c.H.bN.map gh),cM c.H.ax,aN 6 (c.H.aZ.map Sg.aK),.int .i64 c.main,cw 1 (mQ c.H.rs),.str c.sg.nm,cM c.sg.ps,.bool c.sg.bY,.int .i64 c.sg.res.b,.int .i64 c.sg.res.r,.int .i64 c.sg.res.d,w,.int .i64 c.fe,.int .i64 c.fa]]
def tyV(x:T3×Bool):AV:=.fC [.agg [.int .i64 x.1.b,.int .i64 x.1.r,.int .i64 x.1.d],.bool x.2]
theorem axX(t u:T3):(t=u)=(t.b=u.b/\t.r=u.r/\t.d=u.d):=by
 obtain⟨a,b,c⟩:=t;obtain⟨d,e,f⟩:=u;simp
theorem dU(t u:T3):(V (t.b=u.b)&&(V (t.r=u.r)&&V (t.d=u.d)))=V (t=u):=by
 rw[Bool.eq_iff_iff];simp only[E6,aC];exact(iff_of_eq (axX t u)).symm
theorem dI(t):(V (t.b=1)&&(V (t.r=0)&&V (t.d=0)))=V (t=tI):=dU t tI
theorem dB(t):(V (t.b=2)&&(V (t.r=0)&&V (t.d=0)))=V (t=tB):=dU t tB
theorem d0(t):(V (t.b=0)&&(V (t.r=0)&&V (t.d=0)))=V (t=T0):=dU t T0
theorem dy{b t}:(KT b t).isSome=b:=by cases b<;>rfl
theorem RZ{s}{l:List Sg}{k}(h):vq s k (l.drop k)=if l[k].nm=s then Z (k,l[k]) else vq s (k+1) (l.drop (k+1)):=by
 rw[aan h];rfl
theorem Zf{l:List Vd}{r:List E}:∀{k:Nat} h H,jV (l.drop k) (r.drop k)=(V (r[k].ty=l[k].ty)&&jV (l.drop (k+1)) (r.drop (k+1))):=by
 intro k h H;rw[aan h,aan H]
 rfl
theorem K3:∀{l:List Vd}{r:List E},jV l r=Y->Q l=Q r
 |[],[],_=>rfl|[],_::_,h=>by cases h|_::_,[],h=>by cases h|_::l,_::r,h=>by
  simp only[jV,E6]at h;simp[K3 h.2]
theorem Nd{l}{k:Nat}(h):(E.rows l)[k]?=Z l[k].aK:=by simp[jI,h]
theorem Ch{l}{k:Nat}(h H):(E.rows l)[k]=l[k].aK:=by simp[jI]
theorem vR{c:CK}{a}:(c.fail a).fe≠0:=by
 unfold CK.fail;split;show (3:Int)≠0;decide
 assumption
def OkX(c:CK)(e:E):Prop:=match yU c.H c.V e with
 |.ok y=>∀g,(bh S).call 0 g 9999 [.ptr 0 0 0 0,.agg e.aK] [c.bX]=Z (.agg y.aK,[c.bX])|.error a=>∀g,∃y:E,(bh S).call 0 g 9999 [.ptr 0 0 0 0,.agg e.aK] [c.bX]=Z (.agg y.aK,[(c.fail a).bX])
def R6(c:CK)(e:E):Except Int E:=match yU c.H c.V e with
 |.error x=>.error x|.ok y=>if y.ty=T0 then .error y.a else .ok y
def OkW(c:CK)(e:E):Prop:=match R6 c e with
 |.ok y=>∀g,(bh S).call 0 g 9999 [.ptr 0 0 0 0,.agg e.aK] [c.bX]=Z (.agg y.aK,[c.bX])|.error a=>∀g,∃y:E,(bh S).call 0 g 9999 [.ptr 0 0 0 0,.agg e.aK] [c.bX]=Z (.agg y.aK,[(c.fail a).bX])
theorem ahO{c e l}:sK c.H c.V (e::l)=match R6 c e with
  |.error x=>.error x|.ok y=>match sK c.H c.V l with
   |.error x=>.error x|.ok g=>.ok (y::g):=by
 conv=>lhs;unfold sK
 unfold R6;split;simp_all;rename_i y h;rw[h];simp only;split<;>rfl
def G6(y:List E)(r:Except Int (List E)):Except Int (List E):=match r with
 |.error x=>.error x|.ok z=>.ok (y++z)
def ExQ(rs:List qg)(m:Ax.Mode)(st:aO)(P:AV->aO->Prop)(x:Ex)(s:St):Prop:=∃r,IA rs m st r x s/\P r.1 r.2
theorem ki{S wl ai f sf}(k:S f=Z sf){args}(j:A7 sf args=X)(m:Q args=sf.tP){st P}(h:W S (sf.mode.BC (Q st) wl) (sf.mode.uk (Q st) ai) sf.results (ExQ sf.results sf.mode st P) [.code sf.body] .normal (vz sf args st)):
  ∃v s,(bh S).call wl ai f args st=Z (v,s)/\P v s:=by
 obtain⟨x,n,H,r,g,l⟩:=h;exact⟨r.1,r.2,aG k j m ⟨x,n,H,g⟩,l⟩
@[simp]theorem au2{rs st P v s}:ExQ rs Ax.Mode.nC st P (.ret v) s↔v.aH=Y/\P v (s.st.take (Q st)):=by
 simp only[ExQ,Rb,Ax.Mode.mJ];constructor;rintro⟨r,h,H⟩;split at h;rename_i j;cases h;exact⟨j,H⟩;cases h;rintro⟨h,H⟩;exact⟨(v,s.st.take (Q st)),by rw[af h],H⟩
@[simp]theorem au3{rs st P s}:ExQ rs Ax.Mode.nC st P .normal s↔∃v,Du s rs=Z v/\v.aH=Y/\P v (s.st.take (Q st)):=by
 simp only[ExQ,Rd,Ax.Mode.mJ];constructor;rintro⟨r,⟨v,B,h⟩,H⟩;split at h;rename_i j;cases h;exact⟨v,B,j,H⟩;cases h;rintro⟨v,B,h,H⟩;exact⟨(v,s.st.take (Q st)),⟨v,B,by rw[af h]⟩,H⟩
theorem R7{c}{l:List E}{j k}(h):G6 j (sK c.H c.V (l.drop k))=match R6 c l[k] with
  |.error x=>.error x|.ok y=>G6 (j++[y]) (sK c.H c.V (l.drop (k+1))):=by
 rw[aan h,ahO];split
 rfl
 split;rename_i g;rw[g];rfl;rename_i g;rw[g];simp[G6]
structure G7 (c:CK):Prop where
 s:FA c
 H:c.H.ok
 V:∀f∈c.V,WT c.H.rs.length f.ty
def E0:E:=.mk 0 0 [] [] 0 [] 0 T0 0
end K9
