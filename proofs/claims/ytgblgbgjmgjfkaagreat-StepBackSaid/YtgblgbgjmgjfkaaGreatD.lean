/- Part of a proof. -/
import Derived.Test.YtgblgbgjmgjfkaaGreatC
import Derived.Test.YtgblgbgjmgjfkaaGreatN

open List renaming length->Q
open Option renaming some->Z
open Bool renaming true->Y
open List renaming drop_eq_getElem_cons->aan,map_map->ae5,map_congr_left->afj,mem_map->aap
set_option maxRecDepth 100000
set_option maxHeartbeats 8000000
namespace K9
open Ax Go aM V7 jb jn
theorem K4{P:Prop}{g:List E}(h:Q g=1)(j:∀e,g=[e]->P):P:=by
 match g,h with
 |[e],_=>exact j e rfl
def CK.cG(c:CK)(W:List Vd):CK:={ c with V:=W }
def O3(r:List AV):Prop:=∃(k:Int)(N O:List UInt8)(o:Int)(E B m:AV)(a ref:Int),r=[.int .i64 k,.str N,.str O,.int .i64 o,E,B,m,.int .i64 a,.int .i64 ref]/\bn E=Y/\bn B=Y/\bn m=Y
abbrev Z9:List AV:=[.int .i64 0,.str [],.str [],.int .i64 0,.aF,.aF,.aF,.int .i64 0,.int .i64 0]
def II(c:CK)(s:Sm):Prop:=match Br c.H c.sg.bY c.sg.res c.V s with
 |.ok (y,W)=>∀ai,(bh S).call 0 ai 9999 [.ptr 0 0 0 0,.agg s.aK] [c.bX]=Z (.agg y.aK,[(c.cG W).bX])|.error a=>∀ai,∃W g,O3 g/\(bh S).call 0 ai 9999 [.ptr 0 0 0 0,.agg s.aK] [c.bX]=Z (.agg g,[((c.cG W).fail a).bX])
def Tm(c:CK)(l:List Sm):Prop:=match pe c.H c.sg.bY c.sg.res c.V l with
 |.ok (y,W)=>∀ai,(bh S).call 0 ai 9999 [.ptr 0 0 0 0,cn l] [c.bX]=Z (cw 9 (Sm.rows y),[(c.cG W).bX])|.error a=>∀ai,∃W v,bn v=Y/\(bh S).call 0 ai 9999 [.ptr 0 0 0 0,cn l] [c.bX]=Z (v,[((c.cG W).fail a).bX])
theorem O4{c W}(h:G7 c)(I:∀f∈W,WT (Q c.H.rs) f.ty)(g:Q W<1000000000):G7 (c.cG W):=⟨⟨g,h.s.G,h.s.S,h.s.R,h.s.F,h.s.P⟩,h.H,I⟩
theorem ahQ{bY k E}(h:fL bY k E=Y):k=1\/k=2\/k=3\/k=4\/k=5\/k=6\/k=7\/k=8\/k=9:=by
 by_cases H:k=1;exact .inl H;by_cases m:k=4;omega;by_cases N:k=7;omega;by_cases s:k=9;omega;unfold fL at h;rw[U H,U m,U N,U s]at h;split at h;omega;cases h
variable{l:List Sm}
theorem R8{H bY res v k}(h):pe H bY res v (l.drop k)=match Br H bY res v l[k] with
  |.error x=>.error x|.ok (y,W)=>match pe H bY res W (l.drop (k+1)) with
   |.error x=>.error x|.ok (j,g)=>.ok (y::j,g):=by
 rw[aan h];conv=>lhs;unfold pe
 rfl
def Zg(y:List Sm)(r:Except Int (List Sm×List Vd)):Except Int (List Sm×List Vd):=match r with
 |.error x=>.error x|.ok (z,g)=>.ok (y++z,g)
theorem Zh{H bY res v j k}(h):Zg j (pe H bY res v (l.drop k))=match Br H bY res v l[k] with
  |.error x=>.error x|.ok (y,W)=>Zg (j++[y]) (pe H bY res W (l.drop (k+1))):=by
 rw[R8 h];split
 rfl
 split;rename_i g;rw[g];rfl;rename_i g;rw[g];simp[Zg]
theorem O5{l}{k:Nat}(h):(Sm.rows l)[k]?=Z l[k].aK:=by simp[kB,h]
theorem Dc{l}{k:Nat}(h H):(Sm.rows l)[k]=l[k].aK:=by simp[kB]
theorem Sa:∀(l:List Sm) k h,Sm.eJ (l.drop k)=Sm.sz l[k]+Sm.eJ (l.drop (k+1)):=by
 intro l k h;rw[aan h];rfl
end K9
namespace K9
open Ax Go aM V7 jb jn
open N7 U7 in
theorem FB(p:Pg):tj (eW (mw p).aR)=iz p:=by
 rw[yl];simp[tj,iz,RX]
def qQ(H:Hd)(m:Int):List AV:=[aN 2 (H.bN.map gh),cM H.ax,aN 6 (H.aZ.map Sg.aK),.int .i64 m]
theorem Ci(rs l):iy rs l=(qb rs l).map Vd.aK:=by
 simp only[iy,qb,ae5];exact afj λq _=>rfl
open N7 U7 in
def dJ(p:Pg):Int:=Be (iN (mw p).funcs)
open N7 U7 in
theorem ady(p:Pg):GZ (mw p)=.agg (qQ (aY p) (dJ p)):=by
 unfold GZ qQ dJ;have h:vP (tj (eW (mw p).aR)) (eW (mw p).aR)=(aY p).bN.map gh:=by
  rw[FB,yl];simp only[vP,aY,ae5];exact afj λr _=>by simp only[Function.comp,OW,RX,tX,gh,Ci];rfl
 have H:iy (tj (eW (mw p).aR)) (o8 (mw p).ax)=(aY p).ax.map Vd.aK:=by
  rw[FB,O1,Ci];rfl
 have l:tW (tj (eW (mw p).aR)) (iN (mw p).funcs)=(aY p).aZ.map Sg.aK:=by
  rw[FB,tY];simp only[tW,aY,ae5];refine afj λf _=>?_;simp only[Function.comp,KZ,IJ,tX,Sg.aK,Ca,U7.Bm,Ci];obtain⟨n,ps,bY,O,o,B,a⟩:=f;cases bY<;>rfl
 rw[h,H,l]
 rfl
theorem W7(p):(aY p).ok:=by
 refine⟨by simp[aY,iz],?_,?_,?_⟩;intro s j f H;simp only[aY]at j;obtain⟨r,_,rfl⟩:=aap.1 j;simp only[qb]at H;obtain⟨q,_,rfl⟩:=aap.1 H;exact qP _ _ _;intro f H;simp only[aY,qb]at H;obtain⟨q,_,rfl⟩:=aap.1 H;exact qP _ _ _;intro s j;simp only[aY]at j;obtain⟨r,_,rfl⟩:=aap.1 j;refine⟨?_,λf H=>?_⟩;simp only[Ca];split;exact qP _ _ _;exact adh;simp only[Ca,qb]at H;obtain⟨q,_,rfl⟩:=aap.1 H;exact qP _ _ _
abbrev Z5:AV:=.agg [.aF,.aF,.aF,.int .i64 0,.aF]
def FC(H:Hd)(m:Int)(r:Except Int (List Bd)):AV:=match r with
 |.error a=>.fC [Z5,.agg [.int .i64 3,.int .i64 a]]|.ok l=>.fC [.agg (qQ H m++[aN 3 (l.map Bd.aK)]),.agg [.int .i64 0,.int .i64 0]]
open N7 U7 in
def u5(p:Pg):AV:=match kR (mw p) with
 |some a=>.fC [Z5,.agg [.int .i64 3,.int .i64 a]]|none=>FC (aY p) (dJ p) (rK (aY p) (aY p).aZ p.funcs)
def Zi(bs:List Bd)(r:Except Int (List Bd)):Except Int (List Bd):=match r with
 |.error x=>.error x|.ok z=>.ok (bs++z)
theorem adz{H}{S:List Sg}{fs:List Fc}{bs k}(h)(g:k<Q fs):Zi bs (rK H (S.drop k) (fs.drop k))=match pe H S[k].bY S[k].res S[k].ps fs[k].body with
  |.error x=>.error x|.ok (c,W)=>Zi (bs++[⟨W,c,fs[k].a⟩]) (rK H (S.drop (k+1)) (fs.drop (k+1))):=by
 rw[aan h,aan g];conv=>lhs;arg 2;unfold rK
 cases pe H S[k].bY S[k].res S[k].ps fs[k].body with
 |error x=>rfl|ok x=>
  obtain⟨c,W⟩:=x;simp only;cases rK H (List.drop (k+1) S) (List.drop (k+1) fs) with
  |error x=>rfl|ok x=>simp[Zi]
theorem Zj(H m r):(FC H m r).aH=Y:=by
 cases r<;>simp[FC,qQ,AV.aH,AV.aD]
theorem Sb(p):(u5 p).aH=Y:=by
 unfold u5;split;simp[AV.aH,AV.aD];exact Zj _ _ _
end K9
