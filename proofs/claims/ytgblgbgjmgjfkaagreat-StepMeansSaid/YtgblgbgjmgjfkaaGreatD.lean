/- Part of a proof. -/
import Derived.Test.YtgblgbgjmgjfkaaGreatC
import Derived.Test.YtgblgbgjmgjfkaaGreatN

open List renaming drop_eq_getElem_cons->adB,map_map->aeR,map_congr_left->aeY,mem_map->ad7
set_option maxRecDepth 100000
set_option maxHeartbeats 8000000
namespace K9
open Ax Go aO V7 iQ iZ
theorem Kn{P:Prop}{g:List E}(h:g.length=1)(j:∀e,g=[e]->P):P:=by
 match g,h with
 |[e],_=>exact j e rfl
end K9
namespace K9
open Ax Go aO V7 iQ iZ
def CK.cy(c:CK)(W:List Vd):CK:={ c with V:=W }
def Oc(r:List AV):Prop:=∃(k:Int)(N O:List UInt8)(o:Int)(E B l:AV)(a ref:Int),r=[.int .i64 k,.str N,.str O,.int .i64 o,E,B,l,.int .i64 a,.int .i64 ref]/\bf E=true/\bf B=true/\bf l=true
abbrev Z9:List AV:=[.int .i64 0,.str [],.str [],.int .i64 0,.aF,.aF,.aF,.int .i64 0,.int .i64 0]
def HO(c:CK)(s:Sm):Prop:=match Au c.H c.sg.bR c.sg.res c.V s with
 |.ok (y,W)=>∀ah,(aZ S).call 0 ah 9999 [.ptr 0 0 0 0,.agg s.aI] [c.bO]=some (.agg y.aI,[(c.cy W).bO])|.error a=>∀ah,∃W h,Oc h/\(aZ S).call 0 ah 9999 [.ptr 0 0 0 0,.agg s.aI] [c.bO]=some (.agg h,[((c.cy W).fail a).bO])
def Sn(c:CK)(l:List Sm):Prop:=match nN c.H c.sg.bR c.sg.res c.V l with
 |.ok (y,W)=>∀ah,(aZ S).call 0 ah 9999 [.ptr 0 0 0 0,bZ l] [c.bO]=some (cq 9 (Sm.rows y),[(c.cy W).bO])|.error a=>∀ah,∃W v,bf v=true/\(aZ S).call 0 ah 9999 [.ptr 0 0 0 0,bZ l] [c.bO]=some (v,[((c.cy W).fail a).bO])
theorem Od{c:CK}{W:List Vd}(h:F3 c)(D:∀f∈W,WT c.H.rs.length f.ty)(g:W.length<1000000000):F3 (c.cy W):=⟨⟨g,h.s.G,h.s.S,h.s.R,h.s.F,h.s.P⟩,h.H,D⟩
end K9
namespace K9
open Ax Go aO V7 iQ iZ
end K9
namespace K9
open Ax Go aO V7 iQ iZ
variable{bR:Bool}{k:Nat}{res:T3}{V:List Vd}{l:List Sm}
theorem agD{k:Int}{g:List E}(h:fy bR k g=true):k=1\/k=2\/k=3\/k=4\/k=5\/k=6\/k=7\/k=8\/k=9:=by
 by_cases H:k=1;exact .inl H;by_cases l:k=4;omega;by_cases Y:k=7;omega;by_cases p:k=9;omega;unfold fy at h;rw[U H,U l,U Y,U p]at h;split at h;omega;cases h
theorem Q6{H:Hd}(h:k<l.length):nN H bR res V (l.drop k)=match Au H bR res V l[k] with
  |.error x=>.error x|.ok (y,W)=>match nN H bR res W (l.drop (k+1)) with
   |.error x=>.error x|.ok (Y,X)=>.ok (y::Y,X):=by
 rw[adB h];conv=>lhs;unfold nN
 rfl
def Yn(y:List Sm)(r:Except Int (List Sm×List Vd)):Except Int (List Sm×List Vd):=match r with
 |.error x=>.error x|.ok (z,X)=>.ok (y++z,X)
theorem Yo{H:Hd}{Y:List Sm}(h:k<l.length):Yn Y (nN H bR res V (l.drop k))=match Au H bR res V l[k] with
  |.error x=>.error x|.ok (y,W)=>Yn (Y++[y]) (nN H bR res W (l.drop (k+1))):=by
 rw[Q6 h];split
 rfl
 split;rename_i g;rw[g];rfl;rename_i g;rw[g];simp[Yn]
theorem Oe(h:k<l.length):(Sm.rows l)[k]?=some l[k].aI:=by simp[jQ,h]
theorem Cl(h:k<l.length)(H:k<(Sm.rows l).length):(Sm.rows l)[k]=l[k].aI:=by simp[jQ]
theorem Q7:∀(l:List Sm)(k:Nat)(h:k<l.length),Sm.eD (l.drop k)=Sm.sz l[k]+Sm.eD (l.drop (k+1)):=by
 intro l k h;rw[adB h];rfl
end K9
namespace K9
open Ax Go aO V7 iQ iZ
open N7 U7 in
theorem EE(p:Pg):rW (eE (lG p).aU)=gR p:=by
 rw[xF];simp[rW,gR,Q2]
def qa(H:Hd)(m:Int):List AV:=[aM 2 (H.bJ.map fQ),cG H.az,aM 6 (H.aW.map Sg.aI),.int .i64 m]
theorem Bp(rs:List (List UInt8))(l:List PD):gQ rs l=(o9 rs l).map Vd.aI:=by
 simp only[gQ,o9,aeR];exact aeY λq _=>rfl
open N7 U7 in
def eu(p:Pg):Int:=yI (gT (lG p).funcs)
open N7 U7 in
theorem acm(p:Pg):FZ (lG p)=.agg (qa (aX p) (eu p)):=by
 unfold FZ qa eu;have h:sU (rW (eE (lG p).aU)) (eE (lG p).aU)=(aX p).bJ.map fQ:=by
  rw[EE,xF];simp only[sU,aX,aeR];exact aeY λr _=>by simp only[Function.comp,NZ,Q2,sV,fQ,Bp];rfl
 have H:gQ (rW (eE (lG p).aU)) (nK (lG p).az)=(aX p).az.map Vd.aI:=by
  rw[EE,Oa,Bp];rfl
 have j:ru (rW (eE (lG p).aU)) (gT (lG p).funcs)=(aX p).aW.map Sg.aI:=by
  rw[EE,sW];simp only[ru,aX,aeR];refine aeY λf _=>?_;simp only[Function.comp,Ki,HP,sV,Sg.aI,Bh,U7.Am,Bp];obtain⟨n,ps,bR,O,o,B,a⟩:=f;cases bR<;>rfl
 rw[h,H,j]
 rfl
theorem V4(p:Pg):(aX p).ok:=by
 refine⟨by simp[aX,gR],?_,?_,?_⟩;intro s j f H;simp only[aX]at j;obtain⟨r,_,rfl⟩:=ad7.1 j;simp only[o9]at H;obtain⟨q,_,rfl⟩:=ad7.1 H;exact p9 _ _ _;intro f H;simp only[aX,o9]at H;obtain⟨q,_,rfl⟩:=ad7.1 H;exact p9 _ _ _;intro s j;simp only[aX]at j;obtain⟨r,_,rfl⟩:=ad7.1 j;refine⟨?_,λf H=>?_⟩;simp only[Bh];split;exact p9 _ _ _;exact ab0;simp only[Bh,o9]at H;obtain⟨q,_,rfl⟩:=ad7.1 H;exact p9 _ _ _
abbrev Z5:AV:=.agg [.aF,.aF,.aF,.int .i64 0,.aF]
def EF(H:Hd)(m:Int)(r:Except Int (List Bd)):AV:=match r with
 |.error a=>.eY [Z5,.agg [.int .i64 3,.int .i64 a]]|.ok l=>.eY [.agg (qa H m++[aM 3 (l.map Bd.aI)]),.agg [.int .i64 0,.int .i64 0]]
open N7 U7 in
def um(p:Pg):AV:=match ke (lG p) with
 |some a=>.eY [Z5,.agg [.int .i64 3,.int .i64 a]]|none=>EF (aX p) (eu p) (qJ (aX p) (aX p).aW p.funcs)
def Yp(bs:List Bd)(r:Except Int (List Bd)):Except Int (List Bd):=match r with
 |.error x=>.error x|.ok z=>.ok (bs++z)
theorem acn{H:Hd}{S:List Sg}{fs:List Fc}{bs:List Bd}{k:Nat}(h:k<S.length)(g:k<fs.length):Yp bs (qJ H (S.drop k) (fs.drop k))=match nN H S[k].bR S[k].res S[k].ps fs[k].body with
  |.error x=>.error x|.ok (c,W)=>Yp (bs++[⟨W,c,fs[k].a⟩]) (qJ H (S.drop (k+1)) (fs.drop (k+1))):=by
 rw[adB h,adB g];conv=>lhs;arg 2;unfold qJ
 cases nN H S[k].bR S[k].res S[k].ps fs[k].body with
 |error x=>rfl|ok x=>
  obtain⟨c,W⟩:=x;simp only;cases qJ H (List.drop (k+1) S) (List.drop (k+1) fs) with
  |error x=>rfl|ok x=>simp[Yp]
theorem Yq(H:Hd)(m:Int)(r:Except Int (List Bd)):(EF H m r).aH=true:=by
 cases r<;>simp[EF,qa,AV.aH,AV.aB]
theorem Q8(p:Pg):(um p).aH=true:=by
 unfold um;split;simp[AV.aH,AV.aB];exact Yq _ _ _
end K9
