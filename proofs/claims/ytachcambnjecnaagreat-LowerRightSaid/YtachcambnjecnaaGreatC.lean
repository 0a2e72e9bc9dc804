/-
  The type checker's small functions.
-/
import Derived.Test.YtachcambnjecnaaGreatCode2
import Derived.Test.YtachcambnjecnaaGreatP

set_option maxRecDepth 100000
set_option maxHeartbeats 8000000
namespace K9
open Ax Go aT V7 lP mV
def gw (l:List (List UInt8)):List (List AV):=l.map λs=>[.str s]
structure CK where
 H:Hd
 main:Int
 sg:Sg
 V:List Vd
 fe:Int
 fa:Int
def CK.obj (c:CK):fB:=.rows 0 14 [[aD 2 (c.H.bQ.map iT),bT c.H.globals,aD 6 (c.H.sigs.map Sg.row),.int .i64 c.main,cp 1 (gw c.H.rs),.str c.sg.nm,bT c.sg.ps,.bool c.sg.has,.int .i64 c.sg.res.b,.int .i64 c.sg.res.r,.int .i64 c.sg.res.d,cp 4 (c.V.map Vd.row),.int .i64 c.fe,.int .i64 c.fa]]
def CK.fail (c:CK)(a:Int):CK:=if c.fe=0 then { c with fe:=3,fa:=a } else c
@[simp] theorem jl {l:List Vd}:aG (bT l)=true:=bq
@[simp] theorem jN {l:List Vd}:(bT l).view=bT l:=br
@[simp] theorem aaZ {l:List Vd}:aP (bT l)=l.map Vd.row:=aO
@[simp] theorem aa0 {l:List E}:(E.rows l).length=l.length:=by simp[gQ]
@[simp] theorem YJ {l:List Sm}:(Sm.rows l).length=l.length:=by simp[gr]
theorem iJ {sz:Nat}{r:List (List AV)}(h:fits sz r=true):cD sz (aD sz r)=true:=by
 cases r with
 |nil=>rfl
 |cons a r=>simp[cD,h]
@[simp] theorem aa1 {l:List Vd}:cD 4 (bT l)=true:=iJ (by simp[fits,Vd.row])
@[simp] theorem qF {l:List E}:cD 11 (aD 11 (E.rows l))=true:=iJ (by simp[fits,gQ,E.aH])
@[simp] theorem Fo {l:List Sm}:cD 9 (aD 9 (Sm.rows l))=true:=iJ (by simp[fits,gr,Sm.aH])
theorem ah2 {wl aa:Nat}{c:CK}{r:an}{bx:aX}:aL wl aa (.load false 1 false) [.val (.ptr 0 0 0 12)] (c.obj::r) bx=some (.val (.int .i64 c.fe),c.obj::r,bx):=by
 simp[CK.obj,cut,AV.view]
theorem wI {wl aa:Nat}{c:CK}{r:an}{bx:aX}:aL wl aa (.load false 1 false) [.val (.ptr 0 0 0 4)] (c.obj::r) bx=some (.val (aD 1 (gw c.H.rs)),c.obj::r,bx):=by
 simp[CK.obj,cut,aD]
theorem adt {wl aa:Nat}{c:CK}{r:an}{bx:aX}:aL wl aa (.load false 1 false) [.val (.ptr 0 0 0 0)] (c.obj::r) bx=some (.val (aD 2 (c.H.bQ.map iT)),c.obj::r,bx):=by
 simp[CK.obj,cut]
theorem adu {wl aa:Nat}{c:CK}{r:an}{bx:aX}:aL wl aa (.load false 1 false) [.val (.ptr 0 0 0 1)] (c.obj::r) bx=some (.val (bT c.H.globals),c.obj::r,bx):=by
 simp[CK.obj,cut]
theorem adv {wl aa:Nat}{c:CK}{r:an}{bx:aX}:aL wl aa (.load false 1 false) [.val (.ptr 0 0 0 2)] (c.obj::r) bx=some (.val (aD 6 (c.H.sigs.map Sg.row)),c.obj::r,bx):=by
 simp[CK.obj,cut]
theorem adw {wl aa:Nat}{c:CK}{r:an}{bx:aX}:aL wl aa (.load false 1 false) [.val (.ptr 0 0 0 7)] (c.obj::r) bx=some (.val (.bool c.sg.has),c.obj::r,bx):=by
 simp[CK.obj,cut,AV.view]
theorem adx {wl aa:Nat}{c:CK}{r:an}{bx:aX}:aL wl aa (.load true 3 false) [.val (.ptr 0 0 0 8)] (c.obj::r) bx=some (.val (.agg [.int .i64 c.sg.res.b,.int .i64 c.sg.res.r,.int .i64 c.sg.res.d]),c.obj::r,bx):=by
 simp[CK.obj,cut,AV.view]
theorem HX {wl aa:Nat}{c:CK}{r:an}{bx:aX}:aL wl aa (.load false 1 false) [.val (.ptr 0 0 0 11)] (c.obj::r) bx=some (.val (bT c.V),c.obj::r,bx):=by
 simp[CK.obj,cut,bT,aD]
theorem ady {aa:Nat}{c:CK}{a:Int}{r:an}{bx:aX}:aL 0 aa (.store 2) [.val (.ptr 0 0 0 12),.val (.agg [.int .i64 3,.int .i64 a])] (c.obj::r) bx=some (.none,({ c with fe:=3,fa:=a }:CK).obj::r,bx):=by
 simp[CK.obj,bp,AV.ai,AV.au,af]
theorem jX (wl aa:Nat)(st:an):(aU S).call wl aa 119 [] st=some (.agg [.int .i64 0,.int .i64 0,.int .i64 0],st):=by
 refine bf (sf:=X8) rfl rfl (by simp) rfl (by simp[AV.au,AV.ai]) ?_
 simp[X8]
theorem Cf (wl aa:Nat)(st:an):(aU S).call wl aa 141 [] st=some (.agg [.int .i64 2,.int .i64 0,.int .i64 0],st):=by
 refine bf (sf:=Yd) rfl rfl (by simp) rfl (by simp[AV.au,AV.ai]) ?_
 simp[Yd]
theorem yH (wl aa:Nat)(st:an):(aU S).call wl aa 142 [] st=some (.agg [.int .i64 1,.int .i64 0,.int .i64 0],st):=by
 refine bf (sf:=Ye) rfl rfl (by simp) rfl (by simp[AV.au,AV.ai]) ?_
 simp[Ye]
theorem cu (aa:Nat)(c:CK)(r:an):(aU S).call 0 aa 43 [.ptr 0 0 0 0] (c.obj::r)=some (.bool (!decide (c.fe=0)),c.obj::r):=by
 refine ay (sf:=s43) rfl rfl rfl ?_
 simp[-ax,-ah,s43,ah2]
theorem dQ (aa:Nat)(c:CK)(a:Int)(r:an):(aU S).call 0 aa 121 [.ptr 0 0 0 0,.int .i64 a] (c.obj::r)=some (.fz [],(c.fail a).obj::r):=by
 have e:=λaa=>cu aa c r
 refine ay (sf:=Un) rfl rfl rfl ?_
 unfold CK.fail
 by_cases h:c.fe=0
 ·rw[if_pos h]
  simp[-ax,-ah,Un,e,h,ady]
 ·rw[if_neg h]
  simp[-ax,-ah,Un,e,h]
theorem QZ (wl aa:Nat)(e:E)(st:an):(aU S).call wl aa 135 [.agg e.row] st=some (.bool (hJ e.k e.n e.kids.length),st):=by
 obtain⟨k,n,nm,on,od,kids,a,ty,ref⟩:=e
 refine bf (sf:=qY) rfl rfl (by simp[E.row,AV.ai,AV.au]) rfl (by simp) ?_
 simp only[E.row,E.k,E.n,E.kids]
 unfold hJ
 have m0:((kids.length:Int)=0)=(kids.length=0):=by simp
 have m1:((kids.length:Int)=1)=(kids.length=1):=by apply propext;omega
 have m2:((kids.length:Int)=2)=(kids.length=2):=by apply propext;omega
 have hl:mJ [] .sl (aD 11 (E.rows kids))=some kids.length:=by simp[mJ]
 generalize hv:aD 11 (E.rows kids)=v at *
 have v1:aG v=true:=by rw[<-hv];simp
 have v2:v.view=v:=by rw[<-hv];simp
 have v3:(aP v).length=kids.length:=by rw[<-hv];simp
 generalize kids.length=m at *
 by_cases h1:k=1
 ·subst h1;simp[qY,v1,v2,v3]
 by_cases h3:k=3
 ·subst h3;simp[qY,v1,v2,v3]
 by_cases h4:k=4
 ·subst h4;simp[qY,v1,v2,v3]
 by_cases h8:k=8
 ·subst h8;simp[qY,v1,v2,v3]
 by_cases vV:k=11
 ·subst vV;simp[qY,v1,v2,v3]
 by_cases h2:k=2
 ·subst h2
  by_cases q:m=0
  ·by_cases n0:n=0
   ·simp[qY,v1,v2,v3,q,n0]
   ·simp[qY,v1,v2,v3,q,n0]
  ·simp[qY,v1,v2,v3,q]
 by_cases h7:k=7
 ·subst h7;simp[qY,v1]
 by_cases h5:k=5
 ·subst h5;simp[qY,v1,v2,v3,m1]
 by_cases h9:k=9
 ·subst h9;simp[qY,v1,v2,v3,m1]
 by_cases wW:k=10
 ·subst wW;simp[qY,v1,v2,v3,m1]
 by_cases CO:k=12
 ·subst CO;simp[qY,v1,v2,v3,m1]
 by_cases Ap:k=13
 ·subst Ap;simp[qY,v1,v2,v3,m1]
 by_cases h6:k=6
 ·subst h6;simp[qY,v1,v2,v3,m2]
 by_cases g1:14<=k
 ·by_cases g2:k<=24
  ·simp[qY,v1,v2,v3,h1,h2,h3,h4,h5,h6,h7,h8,h9,wW,vV,CO,Ap,g1,g2,m2]
  ·simp[qY,v1,h1,h2,h3,h4,h5,h6,h7,h8,h9,wW,vV,CO,Ap,g1,g2]
 ·simp[qY,v1,h1,h2,h3,h4,h5,h6,h7,h8,h9,wW,vV,CO,Ap,g1]
theorem UW (wl aa:Nat)(e:E)(st:an):(aU S).call wl aa 136 [.agg e.row] st=some (.agg [.int .i64 e.k,.int .i64 (nI e.k e.n),.str (lf e.k e.nm),.str (lg e.k e.on),.int .i64 (lp e.k e.od),.U,.int .i64 e.a,.int .i64 0,.int .i64 0,.int .i64 0,.int .i64 0],st):=by
 obtain⟨k,n,nm,on,od,kids,a,ty,ref⟩:=e
 refine bf (sf:=BO) rfl rfl (by simp[E.row,AV.ai,AV.au]) rfl (by simp[AV.ai,AV.au]) ?_
 simp only[E.row,E.k,E.n,E.nm,E.on,E.od,E.a]
 unfold nI lf lg lp
 by_cases h1:k=1
 ·subst h1;simp[BO,af]
 by_cases h2:k=2
 ·subst h2;simp[BO,af]
 by_cases h3:k=3
 ·subst h3;simp[BO,af]
 by_cases h8:k=8
 ·subst h8;simp[BO,af]
 by_cases h9:k=9
 ·subst h9;simp[BO,af]
 by_cases h4:k=4
 ·subst h4;simp[BO,af]
 by_cases h5:k=5
 ·subst h5;simp[BO,af]
 by_cases h7:k=7
 ·subst h7;simp[BO,af]
 simp[BO,af,h1,h2,h3,h4,h5,h7,h8,h9]
end K9
namespace K9
open Ax Go aT V7 lP mV
theorem bL {wl aa:Nat}{agg:Bool}{n sz i k:Nat}{rows:List (List AV)}{st:an}{bx:aX}:aL wl aa (.load agg n false) [.val (.n8 sz rows i k)] st bx=pU st bx ((fN st (.n8 sz rows i k) n).bind λcs=>bZ agg (AV.cz cs)):=ax
def sY (o:Option (Nat×T3)):Int:=match o with|some (k,_)=>(k:Int)|none=>-1
theorem M1 {s:List UInt8}{l:List Vd}{k:Nat}(h:k<l.length):gK s k (l.drop k)=if l[k].nm=s then some (k,l[k].ty) else gK s (k+1) (l.drop (k+1)):=by
 rw[List.drop_eq_getElem_cons h];rfl
theorem YK (aa:Nat)(f:Vd)(s:List UInt8):(aU S).call 0 aa 154 [.agg f.row,.ptr 0 0 0 0] [.rows 0 1 [[.str s]]]=some (.bool (decide (f.nm=s)),[.rows 0 1 [[.str s]]]):=by
 refine ay (sf:=Yk) rfl rfl rfl ?_
 simp[Yk,Vd.row,cut,AV.view]
theorem yF (aa:Nat)(l:List Vd)(s:List UInt8)(hn:l.length<1000000000):(aU S).call 0 aa 153 [bT l,.fn 154 [] [.ptr 0 0 0 0]] [.rows 0 1 [[.str s]]]=some (.int .i64 (sY (gK s 0 l)),[.rows 0 1 [[.str s]]]):=by
 have el:=λaa f=>YK aa f s
 simp only[Vd.row,T3.cells]at el
 refine ay (sf:=Yj) rfl rfl rfl ?_
 simp[Yj]
 refine bu KW.eq_1 (λq:Nat×Int=>⟨[(0,.val (bT l)),(1,.val (.fn 154 [] [.ptr 0 0 0 0])),(7,.val (.int .i64 l.length)),(8,.val (.int .i64 q.1))],[],[.rows 0 1 [[.str s]]]⟩)
  (λq=>q.1<=l.length/\gK s 0 l=gK s q.1 (l.drop q.1)) (λq=>l.length-q.1) (0,0) (by simp) ⟨by simp,by simp⟩ ?_
 rintro⟨k,bb⟩ ⟨hk,hp⟩ ih
 simp only at hk hp ih
 by_cases aV:k<l.length
 ·have hw:IntKind.i64.wrap ((k:Int)+1)=((k+1:Nat):Int):=by rw[wrap64]<;>omega
  rw[M1 aV]at hp
  have e1:=λaa=>el aa l[k]
  by_cases e:l[k].nm=s
  ·rw[if_pos e]at hp
   rw[hp]
   rw[decide_eq_true e]at e1
   simp[aV,e1,Vd.row,sY]
  ·rw[if_neg e]at hp
   rw[decide_eq_false e]at e1
   simp[aV,e1,Vd.row,hw]
   exact ih (k+1,0) ⟨by simp;omega,hp⟩ (by simp;omega)
 ·have de:k=l.length:=by omega
  have:gK s 0 l=none:=by rw[hp,de,List.drop_length];rfl
  rw[this]
  simp[aV,sY]
theorem ru (wl aa:Nat)(l:List Vd)(s:List UInt8)(st:an)(hn:l.length<1000000000):(aU S).call wl aa 151 [bT l,.str s] st=some (.int .i64 (sY (gK s 0 l)),st):=by
 have e:=λaa=>yF aa l s hn
 refine bf (sf:=Yh) rfl rfl (by simp[AV.ai]) rfl (by simp) ?_
 simp[Yh,e]
theorem gy {s:List UInt8}:∀{l:List Vd}{i k:Nat}{t:T3},gK s i l=some (k,t)->i<=k/\∃h:k-i<l.length,l[k-i].ty=t/\l[k-i].nm=s
 |[],_,_,_,h=>by cases h
 |f::l,i,k,t,h=>by
  unfold gK at h
  split at h
  ·rename_i hs
   cases h
   exact⟨Nat.le_refl _,by simp,by simp,by simpa using hs⟩
  ·obtain⟨h1,h2,h3,h4⟩:=gy h
   refine⟨by omega,by simp only[List.length_cons];omega,?_⟩
   have:k-i=(k-(i+1))+1:=by omega
   simp only[this,List.getElem_cons_succ]
   exact⟨h3,h4⟩
theorem Fp {s:List UInt8}{l:List Vd}{k:Nat}{t:T3}(h:gK s 0 l=some (k,t)):∃h:k<l.length,l[k].ty=t:=by
 obtain⟨_,h1,h2,_⟩:=gy h
 exact⟨by simpa using h1,by simpa using h2⟩
structure Small (c:CK):Prop where
 V:c.V.length<1000000000
 G:c.H.globals.length<1000000000
 S:c.H.sigs.length<1000000000
 R:c.H.rs.length<1000000000
 F:∀s∈c.H.bQ,s.2.length<1000000000
 P:∀s∈c.H.sigs,s.ps.length<1000000000
def HY (o:Option (T3×Int)):AV:=match o with
 |some (t,r)=>.fz [.int .i64 r,.agg t.cells,.bool true]
 |none=>.fz [.int .i64 0,.agg T0.cells,.bool false]
theorem zy (aa:Nat)(c:CK)(s:List UInt8)(r:an)(hs:Small c):(aU S).call 0 aa 140 [.ptr 0 0 0 0,.str s] (c.obj::r)=some (HY (tf c.H c.V s),c.obj::r):=by
 have e1:=λwl aa st=>ru wl aa c.V s st hs.V
 have e2:=λwl aa st=>ru wl aa c.H.globals s st hs.G
 have en:=λwl aa st=>jX wl aa st
 have hV:=hs.V
 have hG:=hs.G
 refine ay (sf:=Qf) rfl rfl rfl ?_
 unfold tf
 cases h1:gK s 0 c.V with
 |some x=>
  obtain⟨k,t⟩:=x
  obtain⟨hk,ht⟩:=Fp h1
  subst ht
  rw[h1]at e1
  simp only[sY]at e1
  have Wn:¬((k:Int)<0):=by omega
  simp[-ax,-ah,Qf,HX,e1,HY,bL,hk,Vd.row,aA,az,af]
 |none=>
  rw[h1]at e1
  simp only[sY]at e1
  cases h2:gK s 0 c.H.globals with
  |some x=>
   obtain⟨k,t⟩:=x
   obtain⟨hk,ht⟩:=Fp h2
   subst ht
   rw[h2]at e2
   simp only[sY]at e2
   have Wn:¬((k:Int)<0):=by omega
   have hw:IntKind.i64.wrap (-1-(k:Int)) = -1-(k:Int):=by rw[wrap64]<;>omega
   simp[-ax,-ah,Qf,HX,adu,e1,e2,hw,HY,bL,hk,Vd.row,aA,az,af]
  |none=>
   rw[h2]at e2
   simp only[sY]at e2
   simp[-ax,-ah,Qf,HX,adu,e1,e2,en,HY,af]
def ry (o:Option (T3×Int)):AV:=match o with
 |some (t,r)=>.fz [.agg [.int .i64 t.b,.int .i64 t.r,.int .i64 t.d],.int .i64 r,.bool true]
 |none=>.fz [.agg [.int .i64 0,.int .i64 0,.int .i64 0],.int .i64 0,.bool false]
def Cg (V:List Vd)(o:Option (Nat×T3)):AV:=match o with|some _=>.fz [.int .i64 0,.bool false]|none=>.fz [.int .i64 V.length,.bool true]
def CK.Q0 (c:CK)(w:AV):fB:=.rows 0 14 [[aD 2 (c.H.bQ.map iT),bT c.H.globals,aD 6 (c.H.sigs.map Sg.row),.int .i64 c.main,cp 1 (gw c.H.rs),.str c.sg.nm,bT c.sg.ps,.bool c.sg.has,.int .i64 c.sg.res.b,.int .i64 c.sg.res.r,.int .i64 c.sg.res.d,w,.int .i64 c.fe,.int .i64 c.fa]]
theorem YL {aa:Nat}{c:CK}{bx:aX}:aL 0 aa (.load false 1 true) [.val (.ptr 0 0 0 11)] [c.obj] bx=some (.val (cp 4 (c.V.map Vd.row)),[c.Q0 (cp 4 (c.V.map Vd.row)).ir],bx):=by
 simp only[CK.obj,CK.Q0]
 generalize c.V.map Vd.row=rows
 cases rows with
 |nil=>simp[aL,cp,cut,fN,dL,bp,AV.ir,AV.au,AV.ai,af,bZ]
 |cons a l=>simp[aL,cp,cut,fN,dL,bp,AV.ir,AV.au,AV.ai,af,bZ]
theorem adz {aa:Nat}{c:CK}{w:AV}{W:List Vd}{bx:aX}:aL 0 aa (.store 1) [.val (.ptr 0 0 0 11),.val (cp 4 (W.map Vd.row))] [c.Q0 w] bx=some (.none,[({ c with V:=W }:CK).obj],bx):=by
 simp[CK.obj,CK.Q0,bp,AV.ai,af]
theorem JP (aa:Nat)(c:CK)(s:List UInt8)(t:T3)(hs:Small c):(aU S).call 0 aa 139 [.ptr 0 0 0 0,.str s,.agg [.int .i64 t.b,.int .i64 t.r,.int .i64 t.d]] [c.obj] =
  some (Cg c.V (gK s 0 c.V),[(match gK s 0 c.V with|some _=>c|none=>{ c with V:=c.V++[(⟨s,t⟩:Vd)] }:CK).obj]):=by
 have e1:=λwl aa st=>ru wl aa c.V s st hs.V
 have hV:=hs.V
 refine ay (sf:=Up) rfl rfl rfl ?_
 cases h1:gK s 0 c.V with
 |some x=>
  obtain⟨k,u⟩:=x
  rw[h1]at e1
  simp only[sY]at e1
  have Wn:(0:Int)<=(k:Int):=by omega
  simp[-ax,-ah,Up,HX,e1,Wn,Cg]
 |none=>
  rw[h1]at e1
  simp only[sY]at e1
  have oz:=fL (sz:=4) (bytes:=40) (r:=c.V.map Vd.row) (new:=[[.str s,.int .i64 t.b,.int .i64 t.r,.int .i64 t.d]]) (by simp[fits]) (by simp[room];omega)
  have YD:c.V.map Vd.row++[[.str s,.int .i64 t.b,.int .i64 t.r,.int .i64 t.d]]=(c.V++[(⟨s,t⟩:Vd)]).map Vd.row:=by simp[Vd.row]
  rw[YD]at oz
  have ep:=λaa bx=>adz (aa:=aa) (c:=c) (w:=(cp 4 (c.V.map Vd.row)).ir) (W:=c.V++[(⟨s,t⟩:Vd)]) (bx:=bx)
  have et:=λaa bx=>YL (aa:=aa) (c:=c) (bx:=bx)
  have ev:=λwl aa bx=>HX (wl:=wl) (aa:=aa) (c:={ c with V:=c.V++[(⟨s,t⟩:Vd)] }) (r:=[]) (bx:=bx)
  simp only at ev
  have hLl:(aP (bT (c.V++[(⟨s,t⟩:Vd)]))).length=c.V.length+1:=by simp
  have hLs:aG (bT (c.V++[(⟨s,t⟩:Vd)]))=true:=jl
  generalize bT (c.V++[(⟨s,t⟩:Vd)])=R2 at *
  generalize ({ c with V:=c.V++[(⟨s,t⟩:Vd)] }:CK).obj=WN at *
  generalize c.Q0 (cp 4 (c.V.map Vd.row)).ir=ob1 at *
  generalize cp 4 ((c.V++[(⟨s,t⟩:Vd)]).map Vd.row)=R at *
  generalize cp 4 (c.V.map Vd.row)=R0 at *
  have hw:IntKind.i64.wrap (c.V.length:Int)=(c.V.length:Int):=by rw[wrap64]<;>omega
  simp[-ax,-ah,Up,HX,e1,Cg,et,ep,ev,oz,hLs,hLl,hw,aA,az,AV.view]
end K9
namespace K9
open Ax Go aT V7 lP mV
theorem YM (wl aa:Nat)(l:List (List UInt8))(s:List UInt8)(st:an)(hn:l.length<1000000000) :
  (aU S).call wl aa 117 [aD 1 (gw l),.str s] st=some (.int .i64 (td l s),st):=by
 have hz:cD 1 (aD 1 (gw l))=true:=iJ (by simp[fits,gw])
 have hl:(gw l).length=l.length:=by simp[gw]
 have hg:∀k (h:k<(gw l).length),(gw l)[k]=[.str (l[k]'(by simpa [gw] using h))]:=λk h=>by simp[gw]
 have YG:∀k (h:k<l.length),(gw l)[k]?=some [.str l[k]]:=λk h=>by simp[gw,h]
 refine bf (sf:=Qc) rfl rfl (by simp) rfl (by simp) ?_
 simp[Qc,hl]
 refine bu ES.eq_1 (λq:Nat×Int=>⟨[(0,.val (aD 1 (gw l))),(1,.val (.str s)),(7,.val (.int .i64 l.length)),(8,.val (.int .i64 q.1))],[],[]⟩)
  (λq=>q.1<=l.length/\zS (λx=>decide (x=s)) l q.1) (λq=>l.length-q.1) (0,0) (by simp) ⟨by simp,uU⟩ ?_
 rintro⟨k,bb⟩ ⟨hk,hp⟩ ih
 simp only at hk hp ih
 by_cases aV:k<l.length
 ·have hw:IntKind.i64.wrap ((k:Int)+1)=((k+1:Nat):Int):=by rw[wrap64]<;>omega
  have g:=YG k aV
  by_cases e:l[k]=s
  ·have hi:=K1 hp aV e
   simp[aV,hz,hl,hg,e,hi]
  ·have e':¬s=l[k]:=λh=>e h.symm
   simp[aV,hz,hl,hg,e',hw]
   exact ih (k+1,0) ⟨by simp;omega,uV hp aV (by simpa using e)⟩ (by simp;omega)
 ·have de:k=l.length:=by omega
  have hi:=DO (de ▸ hp)
  simp[aV,hi]
def Ws (x:T3×Bool):AV:=.fz [.agg [.int .i64 x.1.b,.int .i64 x.1.r,.int .i64 x.1.d],.bool x.2]
theorem xO (wl aa:Nat)(l:List (List UInt8))(s:List UInt8)(d:Int)(st:an)(hn:l.length<1000000000) :
  (aU S).call wl aa 118 [aD 1 (gw l),.agg [.str s,.int .i64 d]] st=some (Ws (cM l s d),st):=by
 have hi:=YM 0 0 l s [] hn
 refine bf (sf:=wC) rfl rfl (by simp[AV.ai,AV.au]) rfl (by simp[Ws,AV.au,AV.ai]) ?_
 unfold Ws
 by_cases d0:d<0
 ·have:cM l s d=(T0,false):=if_pos (.inl d0)
  rw[this]
  simp[wC,d0]
 by_cases d3:3<d
 ·have:cM l s d=(T0,false):=if_pos (.inr d3)
  rw[this]
  simp[wC,d0,d3]
 have hd:¬(d<0\/3<d):=by omega
 unfold cM
 rw[if_neg hd]
 by_cases i1:s=[105,110,116]
 ·simp[wC,d0,d3,i1]
 by_cases i2:s=[98,111,111,108]
 ·simp[wC,d0,d3,i2]
 rw[if_neg i1,if_neg i2]
 by_cases i3:td l s<0
 ·simp[wC,d0,d3,i1,i2,hi,i3]
 ·simp[wC,d0,d3,i1,i2,hi,i3]
theorem Fa (wl aa:Nat)(t:T3)(st:an):(aU S).call wl aa 46 [.agg [.int .i64 t.b,.int .i64 t.r,.int .i64 t.d]] st=some (.bool (kX t),st):=by
 refine bf (sf:=Sx) rfl rfl (by simp[AV.ai,AV.au]) rfl (by simp) ?_
 unfold kX
 by_cases b:t.b=3
 ·simp[Sx,b]
 ·simp[Sx,b]
theorem Q1 (aa:Nat)(c:CK)(e:E)(x:E)(hk:e.kids=[x])(hs:Small c)(hx:x.ty.b=3->0<=x.ty.r/\x.ty.r<c.H.bQ.length) :
  (aU S).call 0 aa 148 [.ptr 0 0 0 0,.agg e.row] [c.obj]=some (ry (sE c.H x.ty e.nm),[c.obj]):=by
 have en:=λwl aa st=>jX wl aa st
 have cR:=E.aH e
 have hz:cD 11 (aY e.kids)=true:=qF
 have kN:aP (aY e.kids)=[x.row]:=by rw[hk];simp[aY,E.rows]
 have dM:aG (aY e.kids)=true:=bw
 have iq:(aY e.kids).view=aY e.kids:=bF
 rw[E.aH x]at kN
 rw[cR]
 generalize aY e.kids=kv at *
 have NY:cD 2 (aD 2 (c.H.bQ.map iT))=true:=iJ (by simp[fits,iT])
 refine ay (sf:=Mw) rfl rfl rfl ?_
 unfold sE
 by_cases hb:x.ty.b=3
 ·by_cases hd:x.ty.d=0
  ·rw[if_pos ⟨hb,hd⟩]
   obtain⟨h0,h1⟩:=hx hb
   obtain⟨k,qL⟩:∃k:Nat,x.ty.r=k:=⟨x.ty.r.toNat,by omega⟩
   have de:k<c.H.bQ.length:=by omega
   have hg:c.H.bQ[k]?=some c.H.bQ[k]:=List.getElem?_eq_getElem de
   have hF:=hs.F _ (List.getElem_mem de)
   generalize hsh:c.H.bQ[k]=sh at *
   have e1:=λwl aa st=>ru wl aa sh.2 e.nm st hF
   rw[qL,Int.toNat_natCast,hg]
   simp only
   rw[qL]at kN
   have hgm:∀h:k<(c.H.bQ.map iT).length,(c.H.bQ.map iT)[k]=[.str sh.1,bT sh.2]:=λh=>by simp[hsh,iT]
   cases h2:gK e.nm 0 sh.2 with
   |some y=>
    obtain⟨j,u⟩:=y
    obtain⟨hj,hu⟩:=Fp h2
    subst hu
    rw[h2]at e1
    simp only[sY]at e1
    have YN:¬((j:Int)<0):=by omega
    simp[-ax,-ah,Mw,bL,adt,hz,dM,iq,kN,hb,hd,NY,de,hgm,e1,YN,hj,Vd.row,ry,aA,az,af,AV.view]
   |none=>
    rw[h2]at e1
    simp only[sY]at e1
    simp[-ax,-ah,Mw,bL,adt,hz,dM,iq,kN,hb,hd,NY,de,hgm,e1,en,ry,aA,az,af,AV.view]
  ·rw[if_neg (λh=>hd h.2)]
   simp[-ax,-ah,Mw,bL,hz,dM,iq,kN,hb,hd,en,ry,af,AV.view]
 ·rw[if_neg (λh=>hb h.1)]
  simp[-ax,-ah,Mw,bL,hz,dM,iq,kN,hb,en,ry,af,AV.view]
theorem ah3 (t u:T3):(t=u)=(t.b=u.b/\t.r=u.r/\t.d=u.d):=by
 obtain⟨a,b,c⟩:=t
 obtain⟨d,e,f⟩:=u
 simp
theorem dU (t u:T3):(decide (t.b=u.b)&&(decide (t.r=u.r)&&decide (t.d=u.d)))=decide (t=u):=by
 rw[Bool.eq_iff_iff]
 simp only[Bool.and_eq_true,decide_eq_true_eq]
 exact(iff_of_eq (ah3 t u)).symm
theorem dI (t:T3):(decide (t.b=1)&&(decide (t.r=0)&&decide (t.d=0)))=decide (t=tI):=dU t tI
theorem dB (t:T3):(decide (t.b=2)&&(decide (t.r=0)&&decide (t.d=0)))=decide (t=tB):=dU t tB
theorem d0 (t:T3):(decide (t.b=0)&&(decide (t.r=0)&&decide (t.d=0)))=decide (t=T0):=dU t T0
def Da (k:Int):T3:=if k=14\/k=15\/k=16\/k=17\/k=18 then tI else tB
theorem b6 {b:Bool}{t:T3}:(F6 b t).isSome=b:=by cases b<;>rfl
theorem Fq {b:Bool}{t u:T3}{r:Int}(h:F6 b t=some (u,r)):t=u/\0=r:=by cases b<;>cases h;exact⟨rfl,rfl⟩
theorem JQ {k:Int}{a b u:T3}{r:Int}(h:ue k a b=some (u,r)):Da k=u/\0=r:=by
 unfold ue at h
 unfold Da
 split at h
 ·rename_i c;rw[if_pos c];exact Fq h
 ·rename_i c
  rw[if_neg c]
  split at h
  ·exact Fq h
  ·split at h<;>exact Fq h
theorem YO (aa:Nat)(c:CK)(e x y:E)(hk:e.kids=[x,y]):(aU S).call 0 aa 150 [.ptr 0 0 0 0,.agg e.row] [c.obj] =
  some (.fz [.agg [.int .i64 (Da e.k).b,.int .i64 (Da e.k).r,.int .i64 (Da e.k).d],.int .i64 0,.bool (ue e.k x.ty y.ty).isSome],[c.obj]):=by
 have et:=λwl aa st=>Cf wl aa st
 have en:=λwl aa st=>yH wl aa st
 have hz:cD 11 (aY e.kids)=true:=qF
 have kN:aP (aY e.kids)=[x.row,y.row]:=by rw[hk];simp[aY,E.rows]
 have dM:aG (aY e.kids)=true:=bw
 have iq:(aY e.kids).view=aY e.kids:=bF
 rw[E.aH x,E.aH y]at kN
 rw[E.aH e]
 generalize aY e.kids=kv at *
 refine ay (sf:=zR) rfl rfl rfl ?_
 unfold ue Da
 generalize e.k=k
 have fin:∀(p:Bool) (t:T3),(F6 p t).isSome=p:=λp t=>b6
 by_cases h1:k=14
 ·subst h1;by_cases q:x.ty=tI<;>simp[-ax,-ah,zR,bL,hz,dM,iq,kN,en,dI,q,fin,aA,aB,aI,az,af,AV.view]
 by_cases h2:k=15
 ·subst h2;by_cases q:x.ty=tI<;>simp[-ax,-ah,zR,bL,hz,dM,iq,kN,en,dI,q,fin,aA,aB,aI,az,af,AV.view]
 by_cases h3:k=16
 ·subst h3;by_cases q:x.ty=tI<;>simp[-ax,-ah,zR,bL,hz,dM,iq,kN,en,dI,q,fin,aA,aB,aI,az,af,AV.view]
 by_cases h4:k=17
 ·subst h4;by_cases q:x.ty=tI<;>simp[-ax,-ah,zR,bL,hz,dM,iq,kN,en,dI,q,fin,aA,aB,aI,az,af,AV.view]
 by_cases h5:k=18
 ·subst h5;by_cases q:x.ty=tI<;>simp[-ax,-ah,zR,bL,hz,dM,iq,kN,en,dI,q,fin,aA,aB,aI,az,af,AV.view]
 by_cases h6:k=19
 ·subst h6;by_cases q:x.ty=tI<;>simp[-ax,-ah,zR,bL,hz,dM,iq,kN,en,et,dI,q,fin,aA,aB,aI,az,af,AV.view]
 by_cases h7:k=20
 ·subst h7;by_cases q:x.ty=tI<;>simp[-ax,-ah,zR,bL,hz,dM,iq,kN,en,et,dI,q,fin,aA,aB,aI,az,af,AV.view]
 by_cases h8:k=21
 ·subst h8;simp[-ax,-ah,zR,bL,hz,dM,iq,kN,et,dU,fin,aA,aB,aI,az,af,AV.view]
 by_cases h9:k=22
 ·subst h9;simp[-ax,-ah,zR,bL,hz,dM,iq,kN,et,dU,fin,aA,aB,aI,az,af,AV.view]
 by_cases q:x.ty=tB<;>simp[-ax,-ah,zR,bL,hz,dM,iq,kN,et,dB,q,fin,h1,h2,h3,h4,h5,h6,h7,h8,h9,aA,aB,aI,az,af,AV.view]
def Q2 (o:Option (Nat×Sg)):Int:=match o with|some (k,_)=>(k:Int)|none=>-1
theorem Q3 {s:List UInt8}{l:List Sg}{k:Nat}(h:k<l.length):oe s k (l.drop k)=if l[k].nm=s then some (k,l[k]) else oe s (k+1) (l.drop (k+1)):=by
 rw[List.drop_eq_getElem_cons h];rfl
theorem Le {s:List UInt8}:∀{l:List Sg}{i k:Nat}{t:Sg},oe s i l=some (k,t)->i<=k/\∃h:k-i<l.length,l[k-i]=t
 |[],_,_,_,h=>by cases h
 |f::l,i,k,t,h=>by
  unfold oe at h
  split at h
  ·cases h
   exact⟨Nat.le_refl _,by simp,by simp⟩
  ·obtain⟨h1,h2,h3⟩:=Le h
   refine⟨by omega,by simp only[List.length_cons];omega,?_⟩
   have:k-i=(k-(i+1))+1:=by omega
   simp only[this,List.getElem_cons_succ]
   exact h3
theorem YP {s:List UInt8}{l:List Sg}{k:Nat}{t:Sg}(h:oe s 0 l=some (k,t)):∃h:k<l.length,l[k]=t:=by
 obtain⟨_,h1,h2⟩:=Le h
 exact⟨by simpa using h1,by simpa using h2⟩
theorem UX (aa:Nat)(g:Sg)(e:E)(o:fB):(aU S).call 0 aa 152 [.agg g.row,.ptr 1 0 0 0] [o,.rows 0 11 [e.row]]=some (.bool (decide (g.nm=e.nm)),[o,.rows 0 11 [e.row]]):=by
 refine ay (sf:=Yi) rfl rfl rfl ?_
 rw[E.aH]
 simp[Yi,Sg.row,cut,AV.view]
theorem M3 (aa:Nat)(l:List Sg)(e:E)(o:fB)(hn:l.length<1000000000):(aU S).call 0 aa 79 [aD 6 (l.map Sg.row),.fn 152 [] [.ptr 1 0 0 0]] [o,.rows 0 11 [e.row]]=some (.int .i64 (Q2 (oe e.nm 0 l)),[o,.rows 0 11 [e.row]]):=by
 have el:=λaa f=>UX aa f e o
 simp only[Sg.row]at el
 have hz:cD 6 (aD 6 (l.map Sg.row))=true:=iJ (by simp[fits,Sg.row])
 generalize fB.rows 0 11 [e.row]=o2 at *
 refine ay (sf:=s79) rfl rfl rfl ?_
 simp[s79]
 refine bu Jx.eq_1 (λq:Nat×Int=>⟨[(0,.val (aD 6 (l.map Sg.row))),(1,.val (.fn 152 [] [.ptr 1 0 0 0])),(7,.val (.int .i64 l.length)),(8,.val (.int .i64 q.1))],[],[o,o2]⟩)
  (λq=>q.1<=l.length/\oe e.nm 0 l=oe e.nm q.1 (l.drop q.1)) (λq=>l.length-q.1) (0,0) (by simp) ⟨by simp,by simp⟩ ?_
 rintro⟨k,bb⟩ ⟨hk,hp⟩ ih
 simp only at hk hp ih
 by_cases aV:k<l.length
 ·have hw:IntKind.i64.wrap ((k:Int)+1)=((k+1:Nat):Int):=by rw[wrap64]<;>omega
  rw[Q3 aV]at hp
  have e1:=λaa=>el aa l[k]
  by_cases h:l[k].nm=e.nm
  ·rw[if_pos h]at hp
   rw[hp]
   rw[decide_eq_true h]at e1
   simp[aV,hz,e1,Sg.row,Q2]
  ·rw[if_neg h]at hp
   rw[decide_eq_false h]at e1
   simp[aV,hz,e1,Sg.row,hw]
   exact ih (k+1,0) ⟨by simp;omega,hp⟩ (by simp;omega)
 ·have de:k=l.length:=by omega
  have:oe e.nm 0 l=none:=by rw[hp,de,List.drop_length];rfl
  rw[this]
  simp[aV,Q2]
theorem M4 {l:List Vd}{r:List E}:∀{k:Nat}(h1:k<l.length)(h2:k<r.length),ld (l.drop k) (r.drop k)=(decide (r[k].ty=l[k].ty)&&ld (l.drop (k+1)) (r.drop (k+1))):=by
 intro k h1 h2
 rw[List.drop_eq_getElem_cons h1,List.drop_eq_getElem_cons h2]
 rfl
theorem HZ:∀{l:List Vd}{r:List E},ld l r=true->l.length=r.length
 |[],[],_=>rfl
 |[],_::_,h=>by cases h
 |_::_,[],h=>by cases h
 |_::l,_::r,h=>by
  simp only[ld,Bool.and_eq_true]at h
  simp[HZ h.2]
end K9
namespace K9
open Ax Go aT V7 lP mV
theorem YQ {wl aa:Nat}{o:fB}{e:E}{bx:aX}:aL wl aa (.load false 1 false) [.val (.ptr 1 0 0 5)] [o,.rows 0 11 [e.row]] bx=some (.val (aY e.kids),[o,.rows 0 11 [e.row]],bx):=by
 simp[E.aH,cut]
theorem Ch {l:List E}{k:Nat}(h:k<l.length):(E.rows l)[k]?=some l[k].row:=by simp[gQ,h]
theorem wJ {l:List E}{k:Nat}(h:k<l.length)(h2:k<(E.rows l).length):(E.rows l)[k]=l[k].row:=by simp[gQ]
theorem xy (aa:Nat)(c:CK)(e:E)(hs:Small c)(hn:e.kids.length<1000000000):(aU S).call 0 aa 149 [.ptr 0 0 0 0,.agg e.row] [c.obj]=some (ry (xH c.H e.nm e.kids),[c.obj]):=by
 have en:=λwl aa st=>jX wl aa st
 have ei:=λaa=>M3 aa c.H.sigs e c.obj hs.S
 have hzS:cD 6 (aD 6 (c.H.sigs.map Sg.row))=true:=iJ (by simp[fits,Sg.row])
 have hzE:cD 11 (aY e.kids)=true:=qF
 have fo:aP (aY e.kids)=E.rows e.kids:=aO
 have hS:=hs.S
 have ek:=λwl aa bx=>YQ (wl:=wl) (aa:=aa) (o:=c.obj) (e:=e) (bx:=bx)
 have hsi:=λwl aa bx=>adv (wl:=wl) (aa:=aa) (c:=c) (r:=[.rows 0 11 [e.row]]) (bx:=bx)
 have s7:∀bx,aL 0 1 (.box 11) [.val (.agg e.row)] [c.obj] bx=some (.val (.ptr 1 0 0 0),[c.obj,.rows 0 11 [e.row]],bx):=λbx=>by rw[E.aH];simp
 refine ay (sf:=Qg) rfl rfl rfl ?_
 unfold xH
 generalize hO:fB.rows 0 11 [e.row]=o at *
 cases h1:oe e.nm 0 c.H.sigs with
 |none=>
  rw[h1]at ei
  simp only[Q2]at ei
  simp[-ax,-ah,-KM,Qg,s7,hsi,ei,en,ry,aA,az,af]
 |some y=>
  obtain⟨i,s⟩:=y
  obtain⟨hi,hg⟩:=YP h1
  rw[h1]at ei
  simp only[Q2]at ei
  have hi0:¬((i:Int)<0):=by omega
  have hP:=hs.P _ (List.getElem_mem hi)
  rw[hg]at hP
  have gS:(c.H.sigs.map Sg.row)[i]?=some [.str s.nm,bT s.ps,.bool s.has,.int .i64 s.res.b,.int .i64 s.res.r,.int .i64 s.res.d]:=by simp[hi,hg,Sg.row]
  have JR:∀h:i<(c.H.sigs.map Sg.row).length,(c.H.sigs.map Sg.row)[i]=[.str s.nm,bT s.ps,.bool s.has,.int .i64 s.res.b,.int .i64 s.res.r,.int .i64 s.res.d]:=λh=>by simp[hg,Sg.row]
  simp only
  by_cases hl:s.ps.length=e.kids.length
  ·have nR:¬((s.ps.length:Int)≠(e.kids.length:Int)):=by omega
   simp[-ax,-ah,-KM,Qg,s7,hsi,ei,hi0,ek,hzS,hi,JR,bL,fo,hl,ry,aA,az,AV.view]
   refine bu KU.eq_1 (λy:Nat×List AV=>⟨[(0,.val (.ptr 0 0 0 0)),(3,.val (.ptr 1 0 0 0)),(4,.fp 0 0),(7,.val (.int .i64 i)),(44,.val (bT s.ps)),(45,.val (.int .i64 e.kids.length)),(46,.val (.int .i64 y.1))],
    [[.int .i64 0,.int .i64 0,.int .i64 0],y.2],[c.obj,o]⟩) (λy=>y.1<=e.kids.length/\ld s.ps e.kids=ld (s.ps.drop y.1) (e.kids.drop y.1)) (λy=>e.kids.length-y.1) (0,[]) rfl ⟨by simp,by simp⟩ ?_
   rintro⟨k,b2⟩ ⟨hk,hp⟩ ih
   simp only at hk hp ih
   by_cases aV:k<e.kids.length
   ·have pV:k<s.ps.length:=by omega
    have hw:IntKind.i64.wrap ((k:Int)+1)=((k+1:Nat):Int):=by rw[wrap64]<;>omega
    rw[M4 pV aV]at hp
    have gP:(s.ps.map Vd.row)[k]?=some [.str s.ps[k].nm,.int .i64 s.ps[k].ty.b,.int .i64 s.ps[k].ty.r,.int .i64 s.ps[k].ty.d]:=by simp[pV,Vd.row]
    have gP':∀h:k<(s.ps.map Vd.row).length,(s.ps.map Vd.row)[k]=[.str s.ps[k].nm,.int .i64 s.ps[k].ty.b,.int .i64 s.ps[k].ty.r,.int .i64 s.ps[k].ty.d]:=λh=>by simp[Vd.row]
    have gE:=Ch aV
    have tn:=λh2=>wJ aV h2
    simp only[E.aH]at gE tn
    by_cases q:e.kids[k].ty=s.ps[k].ty
    ·rw[decide_eq_true q,Bool.true_and]at hp
     have fD:=λb=>ih (k+1,b) ⟨by simp only;omega,hp⟩ (by simp only;omega)
     simp only at fD
     rw[q]at gE tn
     generalize e.kids[k]=x at *
     generalize s.ps[k]=p at *
     simp[-ax,-ah,aV,pV,hw,gP',tn,ek,hzE,fo,bL,aA,az,af,AV.view]
     exact fD _
    ·rw[decide_eq_false q,Bool.false_and]at hp
     generalize e.kids[k]=x at *
     generalize s.ps[k]=p at *
     simp[-ax,-ah,aV,pV,gP',tn,ek,hzE,fo,bL,dU,q,hp,en,aA,az,af,AV.view]
   ·have de:k=e.kids.length:=by omega
    have:ld s.ps e.kids=true:=by rw[hp,de,List.drop_length,<-hl,List.drop_length];rfl
    have ah6:=λwl aa bx=>adv (wl:=wl) (aa:=aa) (c:=c) (r:=[o]) (bx:=bx)
    simp[-ax,-ah,aV,this,ah6,hzS,hi,JR,bL,af,AV.view]
  ·have iQ:ld s.ps e.kids=false:=by
    cases h:ld s.ps e.kids with
    |false=>rfl
    |true=>exact absurd (HZ h) hl
   have nR:¬((s.ps.length:Int)=(e.kids.length:Int)):=by omega
   rw[iQ]
   simp[-ax,-ah,-KM,Qg,s7,hsi,ei,hi0,ek,hzS,hi,JR,bL,fo,hl,en,ry,aA,az,af,AV.view]
end K9
namespace K9
open Ax Go aT V7 lP mV
def Q4 (o:Option (T3×Int))(v:AV):Prop:=∃(t:T3)(z:Int),v=.fz [.agg [.int .i64 t.b,.int .i64 t.r,.int .i64 t.d],.int .i64 z,.bool o.isSome]/\∀u r,o=some (u,r)->t=u/\z=r
theorem JS (o:Option (T3×Int)):Q4 o (ry o):=by
 cases o with
 |none=>exact⟨T0,0,rfl,λ_ _ h=>by cases h⟩
 |some x=>exact⟨x.1,x.2,rfl,λu r h=>by cases h;exact⟨rfl,rfl⟩⟩
theorem kY (b:Bool)(t:T3):Q4 (F6 b t) (.fz [.agg [.int .i64 t.b,.int .i64 t.r,.int .i64 t.d],.int .i64 0,.bool b]):=by
 refine⟨t,0,?_,λu r h=>Fq h⟩
 rw[b6]
theorem gn {aa f:Nat}{sf:aC}{args:List AV}{st:an}{o:Option (T3×Int)}(hf:S f=some sf)(ha:alone sf args=false)(hl:args.length=sf.nparams)(v:AV)(hv:Q4 o v)
  (h:W S (sf.mode.v9 st.length 0) (sf.mode.oX st.length aa) sf.results (G6 sf.results sf.mode st (v,st)) [.code sf.body] .normal (oY sf args st)) :
  ∃v,Q4 o v/\(aU S).call 0 aa f args st=some (v,st):=⟨v,hv,ay hf ha hl h⟩
theorem xP (aa:Nat)(c:CK)(e:E)(hs:Small c)(hn:e.kids.length<1000000000)(hk:hJ e.k e.n e.kids.length=true)(hRS:c.H.rs.length=c.H.bQ.length)(hw:∀x∈e.kids,WT c.H.rs.length x.ty) :
  ∃v,Q4 (oC c.H c.V e.k e.nm e.on e.od e.kids) v/\(aU S).call 0 aa 137 [.ptr 0 0 0 0,.agg e.row] [c.obj]=some (v,[c.obj]):=by
 have eN:=λwl aa st=>yH wl aa st
 have eT:=λwl aa st=>Cf wl aa st
 have eV:=λaa=>zy aa c e.nm [] hs
 have uq:=λwl aa st=>xO wl aa c.H.rs e.on e.od st hs.R
 have erf:=λwl aa st=>Fa wl aa (cM c.H.rs e.on e.od).1 st
 have cR:=E.aH e
 have hz:cD 11 (aY e.kids)=true:=qF
 have dM:aG (aY e.kids)=true:=bw
 have iq:(aY e.kids).view=aY e.kids:=bF
 have fo:aP (aY e.kids)=E.rows e.kids:=aO
 have one:∀j,e.k=j->(j=5\/j=9\/j=10\/j=12\/j=13)->∃x,e.kids=[x]:=λj hj h=>by
  have hlen:e.kids.length=1:=by
   rw[hj]at hk
   rcases h with h|h|h|h|h<;>subst h<;>simpa [hJ] using hk
  match hh:e.kids,hlen with
  |[x],_=>exact⟨x,rfl⟩
 have two:e.k≠1->e.k≠2->e.k≠3->e.k≠4->e.k≠5->e.k≠7->e.k≠8->e.k≠9->e.k≠10->e.k≠11->e.k≠12->e.k≠13->∃x y,e.kids=[x,y]:=λh1 h2 h3 h4 h5 h7 h8 h9 wW vV CO Ap=>by
  have hlen:e.kids.length=2:=by
   simp[hJ,h1,h2,h3,h4,h5,h7,h8,h9,wW,vV,CO,Ap]at hk
   exact hk.2
  match hh:e.kids,hlen with
  |[x,y],_=>exact⟨x,y,rfl⟩
 have fld:=λx (h:e.kids=[x]) aa=>Q1 aa c e x h hs (by
  have:=(hw x (by rw[h];exact List.mem_cons_self)).2.2
  rw[hRS]at this
  exact this)
 have cal:=λaa=>xy aa c e hs hn
 have tw:=λx y (h:e.kids=[x,y]) aa=>YO aa c e x y h
 rw[cR]at fld cal tw
 rw[cR]
 unfold oC
 by_cases h1:e.k=1
 ·rw[if_pos (.inl h1)]
  rw[h1]
  refine gn (sf:=jQ) rfl rfl rfl _ (kY true tI) ?_
  simp[-ax,-ah,jQ,eN,af,AV.view]
 by_cases vV:e.k=11
 ·rw[if_pos (.inr vV)]
  rw[vV]
  refine gn (sf:=jQ) rfl rfl rfl _ (kY true tI) ?_
  simp[-ax,-ah,jQ,eN,af,AV.view]
 rw[if_neg (λh=>h.elim h1 vV)]
 by_cases h2:e.k=2
 ·rw[if_pos h2,h2]
  refine gn (sf:=jQ) rfl rfl rfl _ (kY true tB) ?_
  simp[-ax,-ah,jQ,eT,af,AV.view]
 rw[if_neg h2]
 by_cases h3:e.k=3
 ·rw[if_pos h3,h3]
  refine gn (sf:=jQ) rfl rfl rfl _ (kY _ _) ?_
  unfold Ws at uq
  generalize cM c.H.rs e.on e.od=tt at *
  obtain⟨t,b⟩:=tt
  cases b<;>simp[-ax,-ah,jQ,wI,uq,erf,aA,aB,aI,az,af,AV.view]
 rw[if_neg h3]
 by_cases h4:e.k=4
 ·rw[if_pos h4,h4]
  refine gn (sf:=jQ) rfl rfl rfl _ (JS _) ?_
  generalize tf c.H c.V e.nm=o at *
  cases o with
  |none=>simp[-ax,-ah,jQ,eV,HY,ry,af,AV.view]
  |some x=>simp[-ax,-ah,jQ,eV,HY,ry,af,AV.view]
 rw[if_neg h4]
 by_cases h5:e.k=5
 ·rw[if_pos h5]
  obtain⟨x,hx⟩:=one 5 h5 (by simp)
  have f:=fld x hx
  rw[h5]at f ⊢
  have:vR e.kids=x.ty:=by rw[hx];rfl
  rw[this]
  refine gn (sf:=jQ) rfl rfl rfl _ (JS _) ?_
  generalize sE c.H x.ty e.nm=o at *
  generalize aY e.kids=kv at *
  cases o with
  |none=>
   simp only[ry]at f
   simp[-ax,-ah,jQ,f,dM,iq,ry,af,AV.view]
  |some x=>
   simp only[ry]at f
   simp[-ax,-ah,jQ,f,dM,iq,ry,af,AV.view]
 rw[if_neg h5]
 by_cases h6:e.k=6
 ·rw[if_pos h6]
  obtain⟨x,y,hx⟩:=two h1 h2 h3 h4 h5 (by omega) (by omega) (by omega) (by omega) vV (by omega) (by omega)
  have a1:vR e.kids=x.ty:=by rw[hx];rfl
  have a2:C7 e.kids=y.ty:=by rw[hx];rfl
  have wx:=hw x (by rw[hx];exact List.mem_cons_self)
  rw[show E.rows e.kids=E.rows [x,y] from by rw[hx]]at fo
  rw[a1,a2,h6]
  simp only[E.rows,E.aH]at fo
  generalize aY e.kids=kv at *
  have vA:IntKind.i64.wrap (x.ty.d-1)=x.ty.d-1:=by
   have:=wx.1;have:=wx.2.1
   rw[wrap64]<;>omega
  refine gn (sf:=jQ) rfl rfl rfl _ (kY _ _) ?_
  by_cases q:0<x.ty.d
  ·simp[-ax,-ah,jQ,bL,hz,dM,iq,fo,q,eN,dI,vA,aA,az,af,AV.view]
  ·simp[-ax,-ah,jQ,bL,hz,dM,iq,fo,q,vA,aA,az,af,AV.view]
 rw[if_neg h6]
 by_cases h7:e.k=7
 ·rw[if_pos h7]
  rw[h7]at cal ⊢
  refine gn (sf:=jQ) rfl rfl rfl _ (JS _) ?_
  generalize xH c.H e.nm e.kids=o at *
  generalize aY e.kids=kv at *
  cases o with
  |none=>
   simp only[ry]at cal
   simp[-ax,-ah,jQ,cal,dM,iq,ry,af,AV.view]
  |some x=>
   simp only[ry]at cal
   simp[-ax,-ah,jQ,cal,dM,iq,ry,af,AV.view]
 rw[if_neg h7]
 by_cases h8:e.k=8
 ·rw[if_pos h8,h8]
  refine gn (sf:=jQ) rfl rfl rfl _ (kY _ _) ?_
  unfold Ws at uq
  generalize cM c.H.rs e.on e.od=tt at *
  obtain⟨t,b⟩:=tt
  cases b with
  |false=>simp[-ax,-ah,jQ,wI,uq,aA,aB,aI,az,af,AV.view]
  |true=>
   by_cases q:t.b=3
   ·simp[-ax,-ah,jQ,wI,uq,q,aA,aB,aI,az,af,AV.view]
   ·simp[-ax,-ah,jQ,wI,uq,q,aA,aB,aI,az,af,AV.view]
 rw[if_neg h8]
 by_cases h9:e.k=9
 ·rw[if_pos h9]
  obtain⟨x,hx⟩:=one 9 h9 (by simp)
  have a1:vR e.kids=x.ty:=by rw[hx];rfl
  rw[show E.rows e.kids=E.rows [x] from by rw[hx]]at fo
  rw[a1,h9]
  simp only[E.rows,E.aH]at fo
  generalize aY e.kids=kv at *
  have wt:=kH c.H.rs e.on e.od
  have vA:IntKind.i64.wrap ((cM c.H.rs e.on e.od).1.d+1)=(cM c.H.rs e.on e.od).1.d+1:=by
   have:=wt.1;have:=wt.2.1
   rw[wrap64]<;>omega
  refine gn (sf:=jQ) rfl rfl rfl _ (kY _ _) ?_
  unfold Ws at uq
  generalize cM c.H.rs e.on e.od=tt at *
  obtain⟨t,b⟩:=tt
  cases b with
  |false=>simp[-ax,-ah,jQ,wI,uq,dM,vA,aA,aB,aI,az,af,AV.view]
  |true=>
   by_cases q:t.d<3
   ·simp[-ax,-ah,jQ,wI,uq,bL,hz,dM,iq,fo,q,eN,dI,vA,aA,aB,aI,az,af,AV.view]
   ·simp[-ax,-ah,jQ,wI,uq,dM,q,vA,aA,aB,aI,az,af,AV.view]
 rw[if_neg h9]
 by_cases wW:e.k=10
 ·rw[if_pos wW]
  obtain⟨x,hx⟩:=one 10 wW (by simp)
  have a1:vR e.kids=x.ty:=by rw[hx];rfl
  rw[show E.rows e.kids=E.rows [x] from by rw[hx]]at fo
  rw[a1,wW]
  simp only[E.rows,E.aH]at fo
  generalize aY e.kids=kv at *
  refine gn (sf:=jQ) rfl rfl rfl _ (kY _ _) ?_
  simp[-ax,-ah,jQ,bL,hz,dM,iq,fo,eN,aA,az,af,AV.view]
 rw[if_neg wW]
 by_cases CO:e.k=12
 ·rw[if_pos CO]
  obtain⟨x,hx⟩:=one 12 CO (by simp)
  have a1:vR e.kids=x.ty:=by rw[hx];rfl
  rw[show E.rows e.kids=E.rows [x] from by rw[hx]]at fo
  rw[a1,CO]
  simp only[E.rows,E.aH]at fo
  generalize aY e.kids=kv at *
  refine gn (sf:=jQ) rfl rfl rfl _ (kY _ _) ?_
  simp[-ax,-ah,jQ,bL,hz,dM,iq,fo,eN,dI,aA,az,af,AV.view]
 rw[if_neg CO]
 by_cases Ap:e.k=13
 ·rw[if_pos Ap]
  obtain⟨x,hx⟩:=one 13 Ap (by simp)
  have a1:vR e.kids=x.ty:=by rw[hx];rfl
  rw[show E.rows e.kids=E.rows [x] from by rw[hx]]at fo
  rw[a1,Ap]
  simp only[E.rows,E.aH]at fo
  generalize aY e.kids=kv at *
  refine gn (sf:=jQ) rfl rfl rfl _ (kY _ _) ?_
  simp[-ax,-ah,jQ,bL,hz,dM,iq,fo,eN,eT,dB,aA,az,af,AV.view]
 rw[if_neg Ap]
 obtain⟨x,y,hx⟩:=two h1 h2 h3 h4 h5 h7 h8 h9 wW vV CO Ap
 have a1:vR e.kids=x.ty:=by rw[hx];rfl
 have a2:C7 e.kids=y.ty:=by rw[hx];rfl
 rw[a1,a2]
 have t2:=tw x y hx
 generalize aY e.kids=kv at *
 refine gn (sf:=jQ) rfl rfl rfl (.fz [.agg [.int .i64 (Da e.k).b,.int .i64 (Da e.k).r,.int .i64 (Da e.k).d],.int .i64 0,.bool (ue e.k x.ty y.ty).isSome]) ⟨Da e.k,0,rfl,λu r h=>JQ h⟩ ?_
 simp[-ax,-ah,jQ,h1,h2,h3,h4,h5,h6,h7,h8,h9,wW,vV,CO,Ap,t2,dM,iq,af,AV.view]
end K9
namespace K9
open Ax Go aT V7 lP mV
theorem iX {c:CK}{a:Int}:(c.fail a).fe≠0:=by
 unfold CK.fail
 split
 ·show (3:Int)≠0;decide
 ·assumption
theorem YR {c:CK}{a b:Int}:(c.fail a).fail b=c.fail a:=by
 have h:=iX (c:=c) (a:=a)
 generalize c.fail a=d at *
 unfold CK.fail
 rw[if_neg h]
def OkX (c:CK)(e:E):Prop:=match uf c.H c.V e with
 |.ok y=>∀aa,(aU S).call 0 aa 122 [.ptr 0 0 0 0,.agg e.row] [c.obj]=some (.agg y.row,[c.obj])
 |.error a=>∀aa,∃y:E,(aU S).call 0 aa 122 [.ptr 0 0 0 0,.agg e.row] [c.obj]=some (.agg y.row,[(c.fail a).obj])
def JT (c:CK)(e:E):Except Int E:=match uf c.H c.V e with
 |.error x=>.error x
 |.ok y=>if y.ty=T0 then .error y.a else .ok y
def OkW (c:CK)(e:E):Prop:=match JT c e with
 |.ok y=>∀aa,(aU S).call 0 aa 138 [.ptr 0 0 0 0,.agg e.row] [c.obj]=some (.agg y.row,[c.obj])
 |.error a=>∀aa,∃y:E,(aU S).call 0 aa 138 [.ptr 0 0 0 0,.agg e.row] [c.obj]=some (.agg y.row,[(c.fail a).obj])
theorem H6 (c:CK)(e:E)(h:OkX c e):OkW c e:=by
 unfold OkX at h
 unfold OkW JT
 have en:=λwl aa st=>jX wl aa st
 cases hc:uf c.H c.V e with
 |error a=>
  rw[hc]at h
  simp only at h ⊢
  obtain⟨y,e1⟩:=h 1
  refine λaa=>⟨y,?_⟩
  have ef:=λaa=>dQ aa (c.fail a) y.a []
  rw[YR]at ef
  rw[E.aH e]at e1 ⊢
  rw[E.aH y]at e1 ⊢
  generalize (c.fail a).obj=o at *
  refine ay (sf:=Hq) rfl rfl rfl ?_
  by_cases q:y.ty=T0
  ·simp[-ax,-ah,Hq,e1,en,q,ef,af,AV.view,aA,az]
  ·simp[-ax,-ah,Hq,e1,en,d0,q,af,AV.view,aA,az]
 |ok y=>
  rw[hc]at h
  simp only at h ⊢
  by_cases q:y.ty=T0
  ·rw[if_pos q]
   refine λaa=>⟨y,?_⟩
   have ef:=λaa=>dQ aa c y.a []
   rw[E.aH e]at h ⊢
   rw[E.aH y]at h ⊢
   generalize (c.fail y.a).obj=o at *
   refine ay (sf:=Hq) rfl rfl rfl ?_
   simp[-ax,-ah,Hq,h,en,q,ef,af,AV.view,aA,az]
  ·rw[if_neg q]
   intro aa
   rw[E.aH e]at h ⊢
   rw[E.aH y]at h ⊢
   refine ay (sf:=Hq) rfl rfl rfl ?_
   simp[-ax,-ah,Hq,h,en,d0,q,af,AV.view,aA,az]
theorem UY {c:CK}{e:E}{l:List E}:nJ c.H c.V (e::l)=match JT c e with
  |.error x=>.error x
  |.ok y=>match nJ c.H c.V l with
   |.error x=>.error x
   |.ok ys=>.ok (y::ys):=by
 conv=>lhs;unfold nJ
 unfold JT
 split
 ·simp_all
 ·rename_i y h
  rw[h]
  simp only
  split<;>rfl
def Fs (ys:List E)(r:Except Int (List E)):Except Int (List E):=match r with
 |.error x=>.error x
 |.ok zs=>.ok (ys++zs)
def YS (rs:List jP)(m:Ax.Mode)(st:an)(P:AV->an->Prop)(x:Ex)(s:St):Prop:=∃r,G6 rs m st r x s/\P r.1 r.2
theorem Ar {S:Nat->Option aC}{wl aa f:Nat}{sf:aC}(hf:S f=some sf){args:List AV}(ha:alone sf args=false)(hl:args.length=sf.nparams){st:an}{P:AV->an->Prop}
  (h:W S (sf.mode.v9 st.length wl) (sf.mode.oX st.length aa) sf.results (YS sf.results sf.mode st P) [.code sf.body] .normal (oY sf args st)) :
  ∃v bP,(aU S).call wl aa f args st=some (v,bP)/\P v bP:=by
 obtain⟨x',s',h1,r,h2,h3⟩:=h
 exact⟨r.1,r.2,ay hf ha hl ⟨x',s',h1,h2⟩,h3⟩
@[simp] theorem afk {rs:List jP} {st:an} {P:AV->an->Prop} {v:AV} {s:St}:YS rs Ax.Mode.lS st P (.ret v) s↔v.au=true/\P v (s.st.take st.length):=by
 simp only[YS,G7,Ax.Mode.fin]
 constructor
 ·rintro⟨r,h1,h2⟩
  split at h1
  ·rename_i hp
   cases h1
   exact⟨hp,h2⟩
  ·cases h1
 ·rintro⟨h1,h2⟩
  exact⟨(v,s.st.take st.length),by rw[if_pos h1],h2⟩
@[simp] theorem afl {rs:List jP} {st:an} {P:AV->an->Prop} {s:St}:YS rs Ax.Mode.lS st P .normal s↔∃v,v8 s rs=some v/\v.au=true/\P v (s.st.take st.length):=by
 simp only[YS,O2,Ax.Mode.fin]
 constructor
 ·rintro⟨r,⟨v,h0,h1⟩,h2⟩
  split at h1
  ·rename_i hp
   cases h1
   exact⟨v,h0,hp,h2⟩
  ·cases h1
 ·rintro⟨v,h0,h1,h2⟩
  exact⟨(v,s.st.take st.length),⟨v,h0,by rw[if_pos h1]⟩,h2⟩
theorem H7 {c:CK}{l:List E}{ys:List E}{k:Nat}(h:k<l.length):Fs ys (nJ c.H c.V (l.drop k))=match JT c l[k] with
  |.error x=>.error x
  |.ok y=>Fs (ys++[y]) (nJ c.H c.V (l.drop (k+1))):=by
 rw[List.drop_eq_getElem_cons h,UY]
 split
 ·rfl
 ·split
  ·rename_i h1;rw[h1];rfl
  ·rename_i h1;rw[h1];simp[Fs]
theorem kJ (c:CK)(l:List E)(hf:c.fe=0)(hn:l.length<1000000000)(hl:∀e∈l,OkX c e):match nJ c.H c.V l with
  |.ok ys=>∀aa,(aU S).call 0 aa 123 [.ptr 0 0 0 0,aY l] [c.obj]=some (cp 11 (E.rows ys),[c.obj])
  |.error a=>∀aa,∃v,aG v=true/\(aU S).call 0 aa 123 [.ptr 0 0 0 0,aY l] [c.obj]=some (v,[(c.fail a).obj]):=by
 have hz:cD 11 (aY l)=true:=qF
 have dM:aG (aY l)=true:=bw
 have iq:(aY l).view=aY l:=bF
 have fo:aP (aY l)=E.rows l:=aO
 have lQ:=λaa=>cu aa c []
 rw[decide_eq_true hf]at lQ
 have oz:∀(ys:List E) (y:E),ys.length<1000000000->vv 11 120 (cp 11 (E.rows ys)) [y.row]=some (cp 11 (E.rows (ys++[y]))):=λys y h=>by
  rw[fL (by simp[fits,E.aH]) (by simp[room];omega)]
  simp[gQ]
 cases hR:nJ c.H c.V l with
 |ok zs=>
  intro aa
  refine ay (sf:=Qd) rfl rfl rfl ?_
  generalize aY l=lv at *
  simp[-ax,-ah,Qd,dM,iq,fo]
  refine bu EU.eq_1 (λx:Nat×List E×List AV=>⟨[(0,.val (.ptr 0 0 0 0)),(5,.val (cp 11 (E.rows x.2.1))),(8,.val lv),(9,.val (.int .i64 l.length)),(10,.val (.int .i64 x.1))],[x.2.2],[c.obj]⟩)
   (λx=>x.1<=l.length/\x.2.1.length=x.1/\Fs x.2.1 (nJ c.H c.V (l.drop x.1))=.ok zs) (λx=>l.length-x.1) (0,[],[]) rfl ⟨by simp,rfl,by simp[Fs,hR]⟩ ?_
  rintro⟨k,ys,b⟩ ⟨hk,hy,hp⟩ ih
  simp only at hk hy hp ih
  by_cases aV:k<l.length
  ·have hw:IntKind.i64.wrap ((k:Int)+1)=((k+1:Nat):Int):=by rw[wrap64]<;>omega
   have hv:=H6 c l[k] (hl _ (List.getElem_mem aV))
   unfold OkW at hv
   rw[H7 aV]at hp
   have gE:=Ch aV
   have tn:=λh2=>wJ aV h2
   cases hx:JT c l[k] with
   |error a=>rw[hx]at hp;cases hp
   |ok y=>
    rw[hx]at hp hv
    simp only at hp hv
    have ap:=oz ys y (by omega)
    have fD:=λb=>ih (k+1,ys++[y],b) ⟨by simp only;omega,by simp[hy],hp⟩ (by simp only;omega)
    simp only at fD
    generalize cp 11 (E.rows (ys++[y]))=R at *
    rw[E.aH l[k]]at hv gE
    simp only[E.aH l[k]]at tn
    rw[E.aH y]at hv ap
    generalize l[k]=x at *
    simp[-ax,-ah,bL,aV,hw,hz,fo,tn,lQ,hv,ap,af,AV.view]
    exact fD _
  ·have de:k=l.length:=by omega
   have:ys=zs:=by
    rw[de,List.drop_length]at hp
    simpa [nJ,Fs] using hp
   subst this
   simp[-ax,-ah,aV]
 |error a=>
  intro aa
  have F7:=iX (c:=c) (a:=a)
  have jK:=λaa=>cu aa (c.fail a) []
  rw[decide_eq_false F7]at jK
  obtain⟨v,bP,h1,h2,h3⟩:∃v bP,(aU S).call 0 aa 123 [.ptr 0 0 0 0,aY l] [c.obj]=some (v,bP)/\aG v=true/\bP=[(c.fail a).obj]:=by
   refine Ar (sf:=Qd) rfl rfl rfl ?_
   generalize aY l=lv at *
   simp[-ax,-ah,Qd,dM,iq,fo]
   refine bu EU.eq_1 (λx:Nat×List E×CK×List AV=>⟨[(0,.val (.ptr 0 0 0 0)),(5,.val (cp 11 (E.rows x.2.1))),(8,.val lv),(9,.val (.int .i64 l.length)),(10,.val (.int .i64 x.1))],[x.2.2.2],[x.2.2.1.obj]⟩)
    (λx=>x.1<=l.length/\x.2.1.length=x.1/\(x.2.2.1=c/\Fs x.2.1 (nJ c.H c.V (l.drop x.1))=.error a\/x.2.2.1=c.fail a)) (λx=>l.length-x.1) (0,[],c,[]) rfl ⟨by simp,rfl,.inl ⟨rfl,by simp[Fs,hR]⟩⟩ ?_
   rintro⟨k,ys,d,b⟩ ⟨hk,hy,hp⟩ ih
   simp only at hk hy hp ih
   by_cases aV:k<l.length
   ·have hw:IntKind.i64.wrap ((k:Int)+1)=((k+1:Nat):Int):=by rw[wrap64]<;>omega
    have gE:=Ch aV
    have tn:=λh2=>wJ aV h2
    rcases hp with⟨hd,hp⟩|hd
    ·subst hd
     have hv:=H6 d l[k] (hl _ (List.getElem_mem aV))
     unfold OkW at hv
     rw[H7 aV]at hp
     cases hx:JT d l[k] with
     |error a'=>
      rw[hx]at hp hv
      simp only at hp hv
      cases hp
      obtain⟨y,hv⟩:=hv 1
      have ap:=oz ys y (by omega)
      have fD:=λb=>ih (k+1,ys++[y],d.fail a,b) ⟨by simp only;omega,by simp[hy],.inr rfl⟩ (by simp only;omega)
      simp only at fD
      generalize cp 11 (E.rows (ys++[y]))=R at *
      rw[E.aH l[k]]at hv gE
      simp only[E.aH l[k]]at tn
      rw[E.aH y]at hv ap
      generalize l[k]=x at *
      simp[-ax,-ah,bL,aV,hw,hz,fo,tn,lQ,hv,ap,af,AV.view]
      exact fD _
     |ok y=>
      rw[hx]at hp hv
      simp only at hp hv
      have ap:=oz ys y (by omega)
      have fD:=λb=>ih (k+1,ys++[y],d,b) ⟨by simp only;omega,by simp[hy],.inl ⟨rfl,hp⟩⟩ (by simp only;omega)
      simp only at fD
      generalize cp 11 (E.rows (ys++[y]))=R at *
      rw[E.aH l[k]]at hv gE
      simp only[E.aH l[k]]at tn
      rw[E.aH y]at hv ap
      generalize l[k]=x at *
      simp[-ax,-ah,bL,aV,hw,hz,fo,tn,lQ,hv,ap,af,AV.view]
      exact fD _
    ·subst hd
     simp only[E.aH l[k]]at tn
     rw[E.aH l[k]]at gE
     generalize l[k]=x at *
     simp[-ax,-ah,bL,aV,hz,fo,tn,jK,af,AV.view]
   ·have de:k=l.length:=by omega
    rcases hp with⟨hd,hp⟩|hd
    ·rw[de,List.drop_length]at hp
     simp[nJ,Fs]at hp
    ·subst hd
     simp[-ax,-ah,aV]
  rw[h3]at h1
  exact⟨v,h2,h1⟩
end K9
namespace K9
open Ax Go aT V7 lP mV
structure Way (c:CK):Prop where
 s:Small c
 H:c.H.ok
 V:∀f∈c.V,WT c.H.rs.length f.ty
def E0:E:=.mk 0 0 [] [] 0 [] 0 T0 0
theorem gG (c:CK)(hf:c.fe=0)(hw:Way c)(e:E):E.sz e<1000000000->OkX c e:=by
 induction e using E.ind with
 |_ e ih=>
  intro dZ
  have s8:=E.sF e
  have de:=E.ff e.kids
  have cx:=kJ c e.kids hf (by omega) λx hx=>ih x hx (by have:=E.iW hx;omega)
  have Db:=λwl aa st=>QZ wl aa e st
  have D4:=λwl aa st=>UW wl aa e st
  have As:=λaa=>dQ aa c e.a []
  have lQ:=λaa=>cu aa c []
  rw[decide_eq_true hf]at lQ
  have uD:uf c.H c.V e=if hJ e.k e.n e.kids.length then
    match nJ c.H c.V e.kids with
    |.error x=>.error x
    |.ok ks=>match oC c.H c.V e.k e.nm e.on e.od ks with
     |none=>.error e.a
     |some (t,r)=>.ok (.mk e.k (nI e.k e.n) (lf e.k e.nm) (lg e.k e.on) (lp e.k e.od) ks e.a t r)
    else .error e.a:=by
   obtain⟨k,n,nm,on,od,kids,a,ty,ref⟩:=e
   conv=>lhs;unfold uf
   rfl
  unfold OkX
  rw[uD]
  have Od:E0.row=[.int .i64 0,.int .i64 0,.str [],.str [],.int .i64 0,.U,.int .i64 0,.int .i64 0,.int .i64 0,.int .i64 0,.int .i64 0]:=by simp[E0,E.row,E.rows]
  have Z8:aG (aY e.kids)=true:=bw
  cases hk:hJ e.k e.n e.kids.length with
  |false=>
   simp only[Bool.false_eq_true,if_false]
   intro aa
   refine⟨E0,?_⟩
   rw[hk]at Db
   rw[Od]
   rw[E.aH e]at Db ⊢
   generalize (c.fail e.a).obj=o at *
   refine ay (sf:=ET) rfl rfl rfl ?_
   simp[-ax,-ah,ET,Db,As,af,AV.view,AV.au,AV.ai]
  |true=>
   simp only[if_true]
   rw[hk]at Db
   cases hv:nJ c.H c.V e.kids with
   |error a=>
    rw[hv]at cx
    simp only at cx ⊢
    intro aa
    refine⟨E0,?_⟩
    obtain⟨v,dM,ev⟩:=cx 1
    have CX:=bD dM
    have MZ:=bC dM
    have jK:=λaa=>cu aa (c.fail a) []
    rw[decide_eq_false iX]at jK
    rw[Od]
    rw[E.aH e]at Db D4 ⊢
    generalize (c.fail a).obj=o at *
    refine ay (sf:=ET) rfl rfl rfl ?_
    simp[-ax,-ah,ET,Db,D4,ev,dM,jK,af,AV.view,AV.au,AV.ai]
   |ok ks=>
    rw[hv]at cx
    simp only at cx ⊢
    obtain⟨X,hX⟩:∃X:E,X=.mk e.k (nI e.k e.n) (lf e.k e.nm) (lg e.k e.on) (lp e.k e.od) ks e.a T0 0:=⟨_,rfl⟩
    have hXr:X.row=[.int .i64 e.k,.int .i64 (nI e.k e.n),.str (lf e.k e.nm),.str (lg e.k e.on),.int .i64 (lp e.k e.od),aY ks,.int .i64 e.a,.int .i64 0,.int .i64 0,.int .i64 0,.int .i64 0]:=by rw[hX];simp[E.row,aY]
    have VJ:hJ X.k X.n X.kids.length=true:=by
     rw[hX]
     simp only[E.k,E.n,E.kids]
     rw[oD hv]
     exact JI hk
    have UZ:=iN hv λx _ y hy=>E5 hw.H hw.V x y hy
    obtain⟨tv,⟨t,z,rfl,htr⟩,Wt⟩:=xP 1 c X hw.s (by rw[hX];simp only[E.kids];rw[oD hv];omega) VJ hw.H.rs (by rw[hX];exact UZ)
    have ah7:oC c.H c.V X.k X.nm X.on X.od X.kids=oC c.H c.V e.k e.nm e.on e.od ks:=by rw[hX];exact QD
    rw[ah7]at htr Wt
    rw[hXr]at Wt
    have dM:aG (cp 11 (E.rows ks))=true:=dm
    have QV:(cp 11 (E.rows ks)).view=aY ks:=rfl
    have Sy:aG (aY ks)=true:=bw
    generalize cp 11 (E.rows ks)=mv at *
    have CX:=bD dM
    have MZ:=bC dM
    cases hT:oC c.H c.V e.k e.nm e.on e.od ks with
    |none=>
     simp only
     intro aa
     refine⟨.mk e.k (nI e.k e.n) (lf e.k e.nm) (lg e.k e.on) (lp e.k e.od) ks e.a t z,?_⟩
     rw[hT]at Wt
     simp only[E.row,Option.isSome_none]at Wt ⊢
     rw[E.aH e]at Db D4 ⊢
     have hq:aD 11 (E.rows ks)=aY ks:=rfl
     rw[hq]
     generalize aY ks=kv at *
     generalize (c.fail e.a).obj=o at *
     refine ay (sf:=ET) rfl rfl rfl ?_
     simp[-ax,-ah,ET,Db,D4,cx,QV,dM,Sy,lQ,Wt,As,af,AV.view,AV.au,AV.ai]
    |some y=>
     obtain⟨u,r⟩:=y
     obtain⟨h1,h2⟩:=htr u r hT
     subst h1 h2
     simp only
     intro aa
     rw[hT]at Wt
     simp only[E.row,Option.isSome_some]at Wt ⊢
     rw[E.aH e]at Db D4 ⊢
     have hq:aD 11 (E.rows ks)=aY ks:=rfl
     rw[hq]
     generalize aY ks=kv at *
     refine ay (sf:=ET) rfl rfl rfl ?_
     simp[-ax,-ah,ET,Db,D4,cx,QV,dM,Sy,lQ,Wt,af,AV.view,AV.au,AV.ai]
end K9
