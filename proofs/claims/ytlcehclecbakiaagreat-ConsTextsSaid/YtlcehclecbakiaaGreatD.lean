/- Part of a proof. -/
import Derived.Test.YtlcehclecbakiaaGreatC
import Derived.Test.YtlcehclecbakiaaGreatP
import Derived.Test.YtlcehclecbakiaaGreatN

open List renaming drop_eq_getElem_cons→aa3,map_map→ab4,map_congr_left→ab1,mem_map→aa5
set_option maxRecDepth 100000
set_option maxHeartbeats 8000000
namespace K9
open Ax Go aF V7 jw jX
theorem Fo{P:Prop}{es:List E}(h:es.length=1)(hp:∀e,es=[e]->P):P:=by
 match es,h with
 |[e],_=>exact hp e rfl
end K9
namespace K9
open Ax Go aF V7 jw jX
def CK.cC(c:CK)(W:List Vd):CK:={ c with V:=W }
def Jm(r:List AV):Prop:=∃(k:Int)(nm on:List UInt8)(od:Int)(es bd el:AV)(a dz:Int),r=[.int .i64 k,.str nm,.str on,.int .i64 od,es,bd,el,.int .i64 a,.int .i64 dz]/\aL es=true/\aL bd=true/\aL el=true
abbrev Z9:List AV:=[.int .i64 0,.str [],.str [],.int .i64 0,.U,.U,.U,.int .i64 0,.int .i64 0]
def C2(c:CK)(s:Sm):Prop:=match yM c.H c.sg.bg c.sg.res c.V s with
 |.ok (y,W)=>∀aa,(aP S).call 0 aa 9999 [.ptr 0 0 0 0,.agg s.row] [c.aZ]=some (.agg y.row,[(c.cC W).aZ])|.error a=>∀aa,∃W row,Jm row/\(aP S).call 0 aa 9999 [.ptr 0 0 0 0,.agg s.row] [c.aZ]=some (.agg row,[((c.cC W).fail a).aZ])
def MA(c:CK)(l:List Sm):Prop:=match mO c.H c.sg.bg c.sg.res c.V l with
 |.ok (ys,W)=>∀aa,(aP S).call 0 aa 9999 [.ptr 0 0 0 0,bN l] [c.aZ]=some (bF 9 (Sm.rows ys),[(c.cC W).aZ])|.error a=>∀aa,∃W v,aL v=true/\(aP S).call 0 aa 9999 [.ptr 0 0 0 0,bN l] [c.aZ]=some (v,[((c.cC W).fail a).aZ])
theorem Jn{c:CK}{W:List Vd}(h:BJ c)(hW:∀f∈W,WT c.H.rs.length f.ty)(hl:W.length<1000000000):BJ (c.cC W):=⟨⟨hl,h.s.G,h.s.S,h.s.R,h.s.F,h.s.P⟩,h.H,hW⟩
end K9
namespace K9
open Ax Go aF V7 jw jX
end K9
namespace K9
open Ax Go aF V7 jw jX
theorem aag{bg:Bool}{k:Int}{es:List E}(h:eu bg k es=true):k=1\/k=2\/k=3\/k=4\/k=5\/k=6\/k=7\/k=8\/k=9:=by
 by_cases h1:k=1;exact .inl h1;by_cases h4:k=4;omega;by_cases h7:k=7;omega;by_cases h9:k=9;omega;unfold eu at h;rw[if_neg h1,if_neg h4,if_neg h7,if_neg h9]at h;split at h;omega;cases h
theorem LJ{H:Hd}{bg:Bool}{res:T3}{V:List Vd}{l:List Sm}{k:Nat}(h:k<l.length):mO H bg res V (l.drop k)=match yM H bg res V l[k] with
  |.error x=>.error x|.ok (y,W)=>match mO H bg res W (l.drop (k+1)) with
   |.error x=>.error x|.ok (ys,X)=>.ok (y::ys,X):=by
 rw[aa3 h];conv=>lhs;unfold mO
 rfl
def RL(ys:List Sm)(r:Except Int (List Sm×List Vd)):Except Int (List Sm×List Vd):=match r with
 |.error x=>.error x|.ok (zs,X)=>.ok (ys++zs,X)
theorem RM{H:Hd}{bg:Bool}{res:T3}{V:List Vd}{l:List Sm}{ys:List Sm}{k:Nat}(h:k<l.length):RL ys (mO H bg res V (l.drop k))=match yM H bg res V l[k] with
  |.error x=>.error x|.ok (y,W)=>RL (ys++[y]) (mO H bg res W (l.drop (k+1))):=by
 rw[LJ h];split
 rfl
 split;rename_i h1;rw[h1];rfl;rename_i h1;rw[h1];simp[RL]
theorem Jo{l:List Sm}{k:Nat}(h:k<l.length):(Sm.rows l)[k]?=some l[k].row:=by simp[iP,h]
theorem AP{l:List Sm}{k:Nat}(h:k<l.length)(h2:k<(Sm.rows l).length):(Sm.rows l)[k]=l[k].row:=by simp[iP]
theorem LM:∀(l:List Sm)(k:Nat)(h:k<l.length),Sm.eH (l.drop k)=Sm.sz l[k]+Sm.eH (l.drop (k+1)):=by
 intro l k h;rw[aa3 h];rfl
end K9
namespace K9
open Ax Go aF V7 jw jX
open N7 U7 in
theorem AQ(p:Pg):pA (di (kO p).aD)=fO p:=by
 rw[tG];simp[pA,fO,LD]
def oH(H:Hd)(m:Int):List AV:=[aB 2 (H.bL.map gD),cj H.globals,aB 6 (H.sigs.map Sg.row),.int .i64 m]
theorem xJ(rs:List (List UInt8))(l:List PD):fz rs l=(nS rs l).map Vd.row:=by
 simp only[fz,nS,ab4];exact ab1 λq _=>rfl
open N7 U7 in
def me(p:Pg):Int:=Cv (fN (kO p).funcs)
open N7 U7 in
theorem Wi(p:Pg):BI (kO p)=.agg (oH (aW p) (me p)):=by
 unfold BI oH me;have h1:pV (pA (di (kO p).aD)) (di (kO p).aD)=(aW p).bL.map gD:=by
  rw[AQ,tG];simp only[pV,aW,ab4];exact ab1 λr _=>by simp only[Function.comp,Je,LD,pW,gD,xJ];rfl
 have h2:fz (pA (di (kO p).aD)) (lR (kO p).globals)=(aW p).globals.map Vd.row:=by
  rw[AQ,Jj,xJ];rfl
 have h3:oF (pA (di (kO p).aD)) (fN (kO p).funcs)=(aW p).sigs.map Sg.row:=by
  rw[AQ,rA];simp only[oF,aW,ab4];refine ab1 λf _=>?_;simp only[Function.comp,Fi,C3,pW,Sg.row,xC,U7.vm,xJ];obtain⟨n,ps,bg,on,od,body,a⟩:=f;cases bg<;>rfl
 rw[h1,h2,h3]
 rfl
theorem PX(p:Pg):(aW p).ok:=by
 refine⟨by simp[aW,fO],?_,?_,?_⟩;intro s hs f hf;simp only[aW]at hs;obtain⟨r,_,rfl⟩:=aa5.1 hs;simp only[nS]at hf;obtain⟨q,_,rfl⟩:=aa5.1 hf;exact oC _ _ _;intro f hf;simp only[aW,nS]at hf;obtain⟨q,_,rfl⟩:=aa5.1 hf;exact oC _ _ _;intro s hs;simp only[aW]at hs;obtain⟨r,_,rfl⟩:=aa5.1 hs;refine⟨?_,λf hf=>?_⟩;simp only[xC];split;exact oC _ _ _;exact VQ;simp only[xC,nS]at hf;obtain⟨q,_,rfl⟩:=aa5.1 hf;exact oC _ _ _
abbrev Z5:AV:=.agg [.U,.U,.U,.int .i64 0,.U]
def C4(H:Hd)(m:Int)(r:Except Int (List Bd)):AV:=match r with
 |.error a=>.ir [Z5,.agg [.int .i64 3,.int .i64 a]]|.ok l=>.ir [.agg (oH H m++[aB 3 (l.map Bd.row)]),.agg [.int .i64 0,.int .i64 0]]
open N7 U7 in
def sJ(p:Pg):AV:=match jy (kO p) with
 |some a=>.ir [Z5,.agg [.int .i64 3,.int .i64 a]]|none=>C4 (aW p) (me p) (ue (aW p) (aW p).sigs p.funcs)
def RN(bs:List Bd)(r:Except Int (List Bd)):Except Int (List Bd):=match r with
 |.error x=>.error x|.ok zs=>.ok (bs++zs)
theorem Wj{H:Hd}{ss:List Sg}{fs:List Fc}{bs:List Bd}{k:Nat}(h:k<ss.length)(h2:k<fs.length):RN bs (ue H (ss.drop k) (fs.drop k))=match mO H ss[k].bg ss[k].res ss[k].ps fs[k].body with
  |.error x=>.error x|.ok (c,W)=>RN (bs++[⟨W,c,fs[k].a⟩]) (ue H (ss.drop (k+1)) (fs.drop (k+1))):=by
 rw[aa3 h,aa3 h2];conv=>lhs;arg 2;unfold ue
 cases mO H ss[k].bg ss[k].res ss[k].ps fs[k].body with
 |error x=>rfl|ok x=>
  obtain⟨c,W⟩:=x;simp only;cases ue H (List.drop (k+1) ss) (List.drop (k+1) fs) with
  |error x=>rfl|ok x=>simp[RN]
theorem RO(H:Hd)(m:Int)(r:Except Int (List Bd)):(C4 H m r).ay=true:=by
 cases r<;>simp[C4,oH,AV.ay,AV.au]
theorem LN(p:Pg):(sJ p).ay=true:=by
 unfold sJ;split;simp[AV.ay,AV.au];exact RO _ _ _
end K9
