/- Part of a proof. -/
import Derived.Test.YtgblgbgjmgjfkaaGreatCode1
import Derived.Test.YtgblgbgjmgjfkaaGreatP

open List renaming drop_eq_getElem_cons->adB
open Bool renaming and_eq_true->Ee
set_option maxRecDepth 100000
set_option maxHeartbeats 8000000
namespace K9
open Ax Go aO V7 iQ iZ
def lX(l:List (List UInt8)):List (List AV):=l.map λs=>[.str s]
structure CK where
 H:Hd
 main:Int
 sg:Sg
 V:List Vd
 fe:Int
 fa:Int
def CK.bO(c:CK):dJ:=.rows 0 14 [[aM 2 (c.H.bJ.map fQ),cG c.H.az,aM 6 (c.H.aW.map Sg.aI),.int .i64 c.main,cq 1 (lX c.H.rs),.str c.sg.nm,cG c.sg.ps,.bool c.sg.bR,.int .i64 c.sg.res.b,.int .i64 c.sg.res.r,.int .i64 c.sg.res.d,cq 4 (c.V.map Vd.aI),.int .i64 c.fe,.int .i64 c.fa]]
def CK.fail(c:CK)(a:Int):CK:=if c.fe=0 then { c with fe:=3,fa:=a } else c
variable{l:List Vd}
@[simp]theorem iD:bf (cG l)=true:=bL
@[simp]theorem lu:(cG l).ai=cG l:=bU
@[simp]theorem sA:aY (cG l)=l.map Vd.aI:=bn
@[simp]theorem an7{l:List E}:(E.rows l).length=l.length:=by simp[jq]
@[simp]theorem alm{l:List Sm}:(Sm.rows l).length=l.length:=by simp[jQ]
theorem ji{sz:Nat}{r:List (List AV)}(h:cr sz r=true):cN sz (aM sz r)=true:=by
 cases r with
 |nil=>rfl|cons a r=>simp[cN,h]
@[simp]theorem vC:cN 4 (cG l)=true:=ji (by simp[cr,Vd.aI])
@[simp]theorem nC{l:List E}:cN 11 (aM 11 (E.rows l))=true:=ji (by simp[cr,jq,E.aQ])
@[simp]theorem Ob{l:List Sm}:cN 9 (aM 9 (Sm.rows l))=true:=ji (by simp[cr,jQ,Sm.aQ])
end K9
namespace K9
open Ax Go aO V7 iQ iZ
theorem cT{wl ah:Nat}{agg:Bool}{n sz i k:Nat}{rows:List (List AV)}{st:aj}{bx:bK}:bz wl ah (.load agg n false) [.val (.tM sz rows i k)] st bx=uR st bx ((gm st (.tM sz rows i k) n).bind λC=>bH agg (AV.cC C)):=aE
theorem Ck{s:List UInt8}{l:List Vd}{k:Nat}(h:k<l.length):jj s k (l.drop k)=if l[k].nm=s then some (k,l[k].ty) else jj s (k+1) (l.drop (k+1)):=by
 rw[adB h];rfl
structure ED (c:CK):Prop where
 V:c.V.length<1000000000
 G:c.H.az.length<1000000000
 S:c.H.aW.length<1000000000
 R:c.H.rs.length<1000000000
 F:∀s∈c.H.bJ,s.2.length<1000000000
 P:∀s∈c.H.aW,s.ps.length<1000000000
def qE(o:Option (T3×Int)):AV:=match o with
 |some (t,r)=>.eY [.int .i64 r,.agg t.cells,.bool true]|none=>.eY [.int .i64 0,.agg T0.cells,.bool false]
def CK.Yl(c:CK)(w:AV):dJ:=.rows 0 14 [[aM 2 (c.H.bJ.map fQ),cG c.H.az,aM 6 (c.H.aW.map Sg.aI),.int .i64 c.main,cq 1 (lX c.H.rs),.str c.sg.nm,cG c.sg.ps,.bool c.sg.bR,.int .i64 c.sg.res.b,.int .i64 c.sg.res.r,.int .i64 c.sg.res.d,w,.int .i64 c.fe,.int .i64 c.fa]]
end K9
namespace K9
open Ax Go aO V7 iQ iZ
def tyV(x:T3×Bool):AV:=.eY [.agg [.int .i64 x.1.b,.int .i64 x.1.r,.int .i64 x.1.d],.bool x.2]
theorem awh(t u:T3):(t=u)=(t.b=u.b/\t.r=u.r/\t.d=u.d):=by
 obtain⟨a,b,c⟩:=t;obtain⟨d,e,f⟩:=u;simp
theorem dU(t u:T3):(decide (t.b=u.b)&&(decide (t.r=u.r)&&decide (t.d=u.d)))=decide (t=u):=by
 rw[Bool.eq_iff_iff];simp only[Ee,aA];exact(iff_of_eq (awh t u)).symm
theorem dI(t:T3):(decide (t.b=1)&&(decide (t.r=0)&&decide (t.d=0)))=decide (t=tI):=dU t tI
theorem dB(t:T3):(decide (t.b=2)&&(decide (t.r=0)&&decide (t.d=0)))=decide (t=tB):=dU t tB
theorem d0(t:T3):(decide (t.b=0)&&(decide (t.r=0)&&decide (t.d=0)))=decide (t=T0):=dU t T0
theorem dm{b:Bool}{t:T3}:(Ka b t).isSome=b:=by cases b<;>rfl
theorem Q3{s:List UInt8}{l:List Sg}{k:Nat}(h:k<l.length):uC s k (l.drop k)=if l[k].nm=s then some (k,l[k]) else uC s (k+1) (l.drop (k+1)):=by
 rw[adB h];rfl
theorem Ym{l:List Vd}{r:List E}:∀{k:Nat}(h:k<l.length)(H:k<r.length),jC (l.drop k) (r.drop k)=(decide (r[k].ty=l[k].ty)&&jC (l.drop (k+1)) (r.drop (k+1))):=by
 intro k h H;rw[adB h,adB H]
 rfl
theorem Km:∀{l:List Vd}{r:List E},jC l r=true->l.length=r.length
 |[],[],_=>rfl|[],_::_,h=>by cases h|_::_,[],h=>by cases h|_::l,_::r,h=>by
  simp only[jC,Ee]at h;simp[Km h.2]
end K9
namespace K9
open Ax Go aO V7 iQ iZ
variable{l:List E}
theorem Mu{k:Nat}(h:k<l.length):(E.rows l)[k]?=some l[k].aI:=by simp[jq,h]
theorem Bo{k:Nat}(h:k<l.length)(H:k<(E.rows l).length):(E.rows l)[k]=l[k].aI:=by simp[jq]
end K9
namespace K9
open Ax Go aO V7 iQ iZ
end K9
namespace K9
open Ax Go aO V7 iQ iZ
variable{c:CK}{l:List E}{st:aj}{P:AV->aj->Prop}{rs:List jv}
theorem uY{a:Int}:(c.fail a).fe≠0:=by
 unfold CK.fail;split;show (3:Int)≠0;decide
 assumption
def OkX(c:CK)(e:E):Prop:=match xX c.H c.V e with
 |.ok y=>∀k,(aZ S).call 0 k 9999 [.ptr 0 0 0 0,.agg e.aI] [c.bO]=some (.agg y.aI,[c.bO])|.error a=>∀k,∃y:E,(aZ S).call 0 k 9999 [.ptr 0 0 0 0,.agg e.aI] [c.bO]=some (.agg y.aI,[(c.fail a).bO])
def Q4(c:CK)(e:E):Except Int E:=match xX c.H c.V e with
 |.error x=>.error x|.ok y=>if y.ty=T0 then .error y.a else .ok y
def Zn(c:CK)(e:E):Prop:=match Q4 c e with
 |.ok y=>∀k,(aZ S).call 0 k 9999 [.ptr 0 0 0 0,.agg e.aI] [c.bO]=some (.agg y.aI,[c.bO])|.error a=>∀k,∃y:E,(aZ S).call 0 k 9999 [.ptr 0 0 0 0,.agg e.aI] [c.bO]=some (.agg y.aI,[(c.fail a).bO])
theorem agB{e:E}:rF c.H c.V (e::l)=match Q4 c e with
  |.error x=>.error x|.ok y=>match rF c.H c.V l with
   |.error x=>.error x|.ok Y=>.ok (y::Y):=by
 conv=>lhs;unfold rF
 unfold Q4;split;simp_all;rename_i y h;rw[h];simp only;split<;>rfl
def F2(y:List E)(r:Except Int (List E)):Except Int (List E):=match r with
 |.error x=>.error x|.ok z=>.ok (y++z)
def ExQ(rs:List jv)(m:Ax.Mode)(st:aj)(P:AV->aj->Prop)(x:Ex)(s:St):Prop:=∃r,HH rs m st r x s/\P r.1 r.2
theorem jL{S:Nat->Option aL}{wl ah f:Nat}{sf:aL}(l:S f=some sf){args:List AV}(k:Ac sf args=false)(m:args.length=sf.sJ)
  (h:W S (sf.mode.AJ st.length wl) (sf.mode.tf st.length ah) sf.results (ExQ sf.results sf.mode st P) [.code sf.body] .normal (uG sf args st)) :
  ∃v s,(aZ S).call wl ah f args st=some (v,s)/\P v s:=by
 obtain⟨x,n,H,r,g,j⟩:=h;exact⟨r.1,r.2,aG l k m ⟨x,n,H,g⟩,j⟩
@[simp]theorem atl{v:AV}{s:St}:ExQ rs Ax.Mode.mH st P (.ret v) s↔v.aH=true/\P v (s.st.take st.length):=by
 simp only[ExQ,Qt,Ax.Mode.oJ];constructor;rintro⟨r,h,H⟩;split at h;rename_i j;cases h;exact⟨j,H⟩;cases h;rintro⟨h,H⟩;exact⟨(v,s.st.take st.length),by rw[af h],H⟩
@[simp]theorem atm{s:St}:ExQ rs Ax.Mode.mH st P .normal s↔∃v,CC s rs=some v/\v.aH=true/\P v (s.st.take st.length):=by
 simp only[ExQ,Qu,Ax.Mode.oJ];constructor;rintro⟨r,⟨v,H,h⟩,g⟩;split at h;rename_i j;cases h;exact⟨v,H,j,g⟩;cases h;rintro⟨v,H,h,g⟩;exact⟨(v,s.st.take st.length),⟨v,H,by rw[af h]⟩,g⟩
theorem Q5{Y:List E}{k:Nat}(h:k<l.length):F2 Y (rF c.H c.V (l.drop k))=match Q4 c l[k] with
  |.error x=>.error x|.ok y=>F2 (Y++[y]) (rF c.H c.V (l.drop (k+1))):=by
 rw[adB h,agB];split
 rfl
 split;rename_i g;rw[g];rfl;rename_i g;rw[g];simp[F2]
end K9
namespace K9
open Ax Go aO V7 iQ iZ
structure F3 (c:CK):Prop where
 s:ED c
 H:c.H.ok
 V:∀f∈c.V,WT c.H.rs.length f.ty
def E0:E:=.mk 0 0 [] [] 0 [] 0 T0 0
end K9
