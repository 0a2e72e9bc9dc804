/- Part of a proof. -/
import Derived.Test.YtlcehclecbakiaaGreatCode2
import Derived.Test.YtlcehclecbakiaaGreatP

open List renaming drop_eq_getElem_cons→aa3
open Bool renaming and_eq_true→Ar
set_option maxRecDepth 100000
set_option maxHeartbeats 8000000
namespace K9
open Ax Go aF V7 jw jX
def jY(l:List (List UInt8)):List (List AV):=l.map λs=>[.str s]
structure CK where
 H:Hd
 main:Int
 sg:Sg
 V:List Vd
 fe:Int
 fa:Int
def CK.aZ(c:CK):dK:=.rows 0 14 [[aB 2 (c.H.bL.map gD),cj c.H.globals,aB 6 (c.H.sigs.map Sg.row),.int .i64 c.main,bF 1 (jY c.H.rs),.str c.sg.nm,cj c.sg.ps,.bool c.sg.bg,.int .i64 c.sg.res.b,.int .i64 c.sg.res.r,.int .i64 c.sg.res.d,bF 4 (c.V.map Vd.row),.int .i64 c.fe,.int .i64 c.fa]]
def CK.fail(c:CK)(a:Int):CK:=if c.fe=0 then { c with fe:=3,fa:=a } else c
@[simp]theorem iL{l:List Vd}:aL (cj l)=true:=bq
@[simp]theorem mI{l:List Vd}:(cj l).view=cj l:=bC
@[simp]theorem pK{l:List Vd}:aJ (cj l)=l.map Vd.row:=aM
@[simp]theorem agp{l:List E}:(E.rows l).length=l.length:=by simp[iJ]
@[simp]theorem aea{l:List Sm}:(Sm.rows l).length=l.length:=by simp[iP]
theorem kU{sz:Nat}{r:List (List AV)}(h:bw sz r=true):bY sz (aB sz r)=true:=by
 cases r with
 |nil=>rfl|cons a r=>simp[bY,h]
@[simp]theorem rQ{l:List Vd}:bY 4 (cj l)=true:=kU (by simp[bw,Vd.row])
@[simp]theorem nM{l:List E}:bY 11 (aB 11 (E.rows l))=true:=kU (by simp[bw,iJ,E.aE])
@[simp]theorem PW{l:List Sm}:bY 9 (aB 9 (Sm.rows l))=true:=kU (by simp[bw,iP,Sm.aE])
end K9
namespace K9
open Ax Go aF V7 jw jX
theorem cg{wl aa:Nat}{agg:Bool}{n sz i k:Nat}{rows:List (List AV)}{st:ag}{bx:br}:aU wl aa (.load agg n false) [.val (.qt sz rows i k)] st bx=qX st bx ((fy st (.qt sz rows i k) n).bind λcs=>bU agg (AV.cG cs)):=an
theorem yz{s:List UInt8}{l:List Vd}{k:Nat}(h:k<l.length):iw s k (l.drop k)=if l[k].nm=s then some (k,l[k].ty) else iw s (k+1) (l.drop (k+1)):=by
 rw[aa3 h];rfl
structure AO (c:CK):Prop where
 V:c.V.length<1000000000
 G:c.H.globals.length<1000000000
 S:c.H.sigs.length<1000000000
 R:c.H.rs.length<1000000000
 F:∀s∈c.H.bL,s.2.length<1000000000
 P:∀s∈c.H.sigs,s.ps.length<1000000000
def Jk(o:Option (T3×Int)):AV:=match o with
 |some (t,r)=>.ir [.int .i64 r,.agg t.cells,.bool true]|none=>.ir [.int .i64 0,.agg T0.cells,.bool false]
def CK.RJ(c:CK)(w:AV):dK:=.rows 0 14 [[aB 2 (c.H.bL.map gD),cj c.H.globals,aB 6 (c.H.sigs.map Sg.row),.int .i64 c.main,bF 1 (jY c.H.rs),.str c.sg.nm,cj c.sg.ps,.bool c.sg.bg,.int .i64 c.sg.res.b,.int .i64 c.sg.res.r,.int .i64 c.sg.res.d,w,.int .i64 c.fe,.int .i64 c.fa]]
end K9
namespace K9
open Ax Go aF V7 jw jX
def tyV(x:T3×Bool):AV:=.ir [.agg [.int .i64 x.1.b,.int .i64 x.1.r,.int .i64 x.1.d],.bool x.2]
theorem anL(t u:T3):(t=u)=(t.b=u.b/\t.r=u.r/\t.d=u.d):=by
 obtain⟨a,b,c⟩:=t;obtain⟨d,e,f⟩:=u;simp
theorem dU(t u:T3):(decide (t.b=u.b)&&(decide (t.r=u.r)&&decide (t.d=u.d)))=decide (t=u):=by
 rw[Bool.eq_iff_iff];simp only[Ar,decide_eq_true_eq];exact(iff_of_eq (anL t u)).symm
theorem dI(t:T3):(decide (t.b=1)&&(decide (t.r=0)&&decide (t.d=0)))=decide (t=tI):=dU t tI
theorem dB(t:T3):(decide (t.b=2)&&(decide (t.r=0)&&decide (t.d=0)))=decide (t=tB):=dU t tB
theorem d0(t:T3):(decide (t.b=0)&&(decide (t.r=0)&&decide (t.d=0)))=decide (t=T0):=dU t T0
theorem cA{b:Bool}{t:T3}:(F0 b t).isSome=b:=by cases b<;>rfl
theorem LF{s:List UInt8}{l:List Sg}{k:Nat}(h:k<l.length):tC s k (l.drop k)=if l[k].nm=s then some (k,l[k]) else tC s (k+1) (l.drop (k+1)):=by
 rw[aa3 h];rfl
theorem RK{l:List Vd}{r:List E}:∀{k:Nat}(h1:k<l.length)(h2:k<r.length),jx (l.drop k) (r.drop k)=(decide (r[k].ty=l[k].ty)&&jx (l.drop (k+1)) (r.drop (k+1))):=by
 intro k h1 h2;rw[aa3 h1,aa3 h2]
 rfl
theorem Fm:∀{l:List Vd}{r:List E},jx l r=true->l.length=r.length
 |[],[],_=>rfl|[],_::_,h=>by cases h|_::_,[],h=>by cases h|_::l,_::r,h=>by
  simp only[jx,Ar]at h;simp[Fm h.2]
end K9
namespace K9
open Ax Go aF V7 jw jX
theorem HA{l:List E}{k:Nat}(h:k<l.length):(E.rows l)[k]?=some l[k].row:=by simp[iJ,h]
theorem zO{l:List E}{k:Nat}(h:k<l.length)(h2:k<(E.rows l).length):(E.rows l)[k]=l[k].row:=by simp[iJ]
end K9
namespace K9
open Ax Go aF V7 jw jX
end K9
namespace K9
open Ax Go aF V7 jw jX
theorem rB{c:CK}{a:Int}:(c.fail a).fe≠0:=by
 unfold CK.fail;split;show (3:Int)≠0;decide
 assumption
def Wh(c:CK)(e:E):Prop:=match uS c.H c.V e with
 |.ok y=>∀aa,(aP S).call 0 aa 9999 [.ptr 0 0 0 0,.agg e.row] [c.aZ]=some (.agg y.row,[c.aZ])|.error a=>∀aa,∃y:E,(aP S).call 0 aa 9999 [.ptr 0 0 0 0,.agg e.row] [c.aZ]=some (.agg y.row,[(c.fail a).aZ])
def LH(c:CK)(e:E):Except Int E:=match uS c.H c.V e with
 |.error x=>.error x|.ok y=>if y.ty=T0 then .error y.a else .ok y
def S0(c:CK)(e:E):Prop:=match LH c e with
 |.ok y=>∀aa,(aP S).call 0 aa 9999 [.ptr 0 0 0 0,.agg e.row] [c.aZ]=some (.agg y.row,[c.aZ])|.error a=>∀aa,∃y:E,(aP S).call 0 aa 9999 [.ptr 0 0 0 0,.agg e.row] [c.aZ]=some (.agg y.row,[(c.fail a).aZ])
theorem aaf{c:CK}{e:E}{l:List E}:oQ c.H c.V (e::l)=match LH c e with
  |.error x=>.error x|.ok y=>match oQ c.H c.V l with
   |.error x=>.error x|.ok ys=>.ok (y::ys):=by
 conv=>lhs;unfold oQ
 unfold LH;split;simp_all;rename_i y h;rw[h];simp only;split<;>rfl
def Jl(ys:List E)(r:Except Int (List E)):Except Int (List E):=match r with
 |.error x=>.error x|.ok zs=>.ok (ys++zs)
def ExQ(rs:List iE)(m:Ax.Mode)(st:ag)(P:AV->ag->Prop)(x:Ex)(s:St):Prop:=∃r,CU rs m st r x s/\P r.1 r.2
theorem kP{S:Nat->Option aA}{wl aa f:Nat}{sf:aA}(hf:S f=some sf){args:List AV}(ha:wg sf args=false)(hl:args.length=sf.az){st:ag}{P:AV->ag->Prop}
  (h:W S (sf.mode.wK st.length wl) (sf.mode.qc st.length aa) sf.results (ExQ sf.results sf.mode st P) [.code sf.body] .normal (qM sf args st)) :
  ∃v bG,(aP S).call wl aa f args st=some (v,bG)/\P v bG:=by
 obtain⟨x',s',h1,r,h2,h3⟩:=h;exact⟨r.1,r.2,aO hf ha hl ⟨x',s',h1,h2⟩,h3⟩
@[simp]theorem ak3{rs:List iE}{st:ag}{P:AV->ag->Prop}{v:AV}{s:St}:ExQ rs Ax.Mode.oP st P (.ret v) s↔v.ay=true/\P v (s.st.take st.length):=by
 simp only[ExQ,Um,Ax.Mode.nZ];constructor;rintro⟨r,h1,h2⟩;split at h1;rename_i hp;cases h1;exact⟨hp,h2⟩;cases h1;rintro⟨h1,h2⟩;exact⟨(v,s.st.take st.length),by rw[if_pos h1],h2⟩
@[simp]theorem ak4{rs:List iE}{st:ag}{P:AV->ag->Prop}{s:St}:ExQ rs Ax.Mode.oP st P .normal s↔∃v,yI s rs=some v/\v.ay=true/\P v (s.st.take st.length):=by
 simp only[ExQ,K2,Ax.Mode.nZ];constructor;rintro⟨r,⟨v,h0,h1⟩,h2⟩;split at h1;rename_i hp;cases h1;exact⟨v,h0,hp,h2⟩;cases h1;rintro⟨v,h0,h1,h2⟩;exact⟨(v,s.st.take st.length),⟨v,h0,by rw[if_pos h1]⟩,h2⟩
theorem LI{c:CK}{l:List E}{ys:List E}{k:Nat}(h:k<l.length):Jl ys (oQ c.H c.V (l.drop k))=match LH c l[k] with
  |.error x=>.error x|.ok y=>Jl (ys++[y]) (oQ c.H c.V (l.drop (k+1))):=by
 rw[aa3 h,aaf];split
 rfl
 split;rename_i h1;rw[h1];rfl;rename_i h1;rw[h1];simp[Jl]
end K9
namespace K9
open Ax Go aF V7 jw jX
structure BJ (c:CK):Prop where
 s:AO c
 H:c.H.ok
 V:∀f∈c.V,WT c.H.rs.length f.ty
def E0:E:=.mk 0 0 [] [] 0 [] 0 T0 0
end K9
