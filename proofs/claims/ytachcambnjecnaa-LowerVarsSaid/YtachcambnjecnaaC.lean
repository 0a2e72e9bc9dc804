/-
  The type checker's small functions.
-/
import Derived.Test.YtachcambnjecnaaCode2
import Derived.Test.YtachcambnjecnaaP

set_option maxRecDepth 100000
set_option maxHeartbeats 8000000
namespace K9
open Ax Go cp V7 j4 k8
def gp (l:List (List UInt8)):List (List AV):=l.map λs=>[.str s]
structure CK where
 H:Hd
 main:Int
 sg:Sg
 V:List Vd
 fe:Int
 fa:Int
def CK.obj (c:CK):fh:=.rows 0 14 [[aA 2 (c.H.ct.map gV),cj c.H.globals,aA 6 (c.H.sigs.map Sg.row),.int .i64 c.main,b8 1 (gp c.H.rs),.str c.sg.nm,cj c.sg.ps,.bool c.sg.has,.int .i64 c.sg.res.b,.int .i64 c.sg.res.r,.int .i64 c.sg.res.d,b8 4 (c.V.map Vd.row),.int .i64 c.fe,.int .i64 c.fa]]
def CK.fail (c:CK)(a:Int):CK:=if c.fe=0 then { c with fe:=3,fa:=a } else c
@[simp] theorem jc {l:List Vd}:aG (cj l)=true:=aX
@[simp] theorem jy {l:List Vd}:(cj l).view=cj l:=aY
@[simp] theorem aad {l:List Vd}:aP (cj l)=l.map Vd.row:=aR
@[simp] theorem aae {l:List E}:(E.rows l).length=l.length:=by simp[gC]
@[simp] theorem XR {l:List Sm}:(Sm.rows l).length=l.length:=by simp[gi]
theorem iC {sz:Nat}{r:List (List AV)}(h:fits sz r=true):cI sz (aA sz r)=true:=by
 cases r with
 |nil=>rfl
 |cons a r=>simp[cI,h]
@[simp] theorem aaf {l:List Vd}:cI 4 (cj l)=true:=iC (by simp[fits,Vd.row])
@[simp] theorem qf {l:List E}:cI 11 (aA 11 (E.rows l))=true:=iC (by simp[fits,gC,E.aE])
@[simp] theorem EZ {l:List Sm}:cI 9 (aA 9 (Sm.rows l))=true:=iC (by simp[fits,gi,Sm.aE])
theorem aho {wl aa:Nat}{c:CK}{r:aj}{bx:aS}:aI wl aa (.load false 1 false) [.val (.ptr 0 0 0 12)] (c.obj::r) bx=some (.val (.int .i64 c.fe),c.obj::r,bx):=by
 simp[CK.obj,cut,AV.view]
theorem vE {wl aa:Nat}{c:CK}{r:aj}{bx:aS}:aI wl aa (.load false 1 false) [.val (.ptr 0 0 0 4)] (c.obj::r) bx=some (.val (aA 1 (gp c.H.rs)),c.obj::r,bx):=by
 simp[CK.obj,cut,aA]
theorem acL {wl aa:Nat}{c:CK}{r:aj}{bx:aS}:aI wl aa (.load false 1 false) [.val (.ptr 0 0 0 0)] (c.obj::r) bx=some (.val (aA 2 (c.H.ct.map gV)),c.obj::r,bx):=by
 simp[CK.obj,cut]
theorem acM {wl aa:Nat}{c:CK}{r:aj}{bx:aS}:aI wl aa (.load false 1 false) [.val (.ptr 0 0 0 1)] (c.obj::r) bx=some (.val (cj c.H.globals),c.obj::r,bx):=by
 simp[CK.obj,cut]
theorem acN {wl aa:Nat}{c:CK}{r:aj}{bx:aS}:aI wl aa (.load false 1 false) [.val (.ptr 0 0 0 2)] (c.obj::r) bx=some (.val (aA 6 (c.H.sigs.map Sg.row)),c.obj::r,bx):=by
 simp[CK.obj,cut]
theorem acO {wl aa:Nat}{c:CK}{r:aj}{bx:aS}:aI wl aa (.load false 1 false) [.val (.ptr 0 0 0 7)] (c.obj::r) bx=some (.val (.bool c.sg.has),c.obj::r,bx):=by
 simp[CK.obj,cut,AV.view]
theorem acP {wl aa:Nat}{c:CK}{r:aj}{bx:aS}:aI wl aa (.load true 3 false) [.val (.ptr 0 0 0 8)] (c.obj::r) bx=some (.val (.agg [.int .i64 c.sg.res.b,.int .i64 c.sg.res.r,.int .i64 c.sg.res.d]),c.obj::r,bx):=by
 simp[CK.obj,cut,AV.view]
theorem Hw {wl aa:Nat}{c:CK}{r:aj}{bx:aS}:aI wl aa (.load false 1 false) [.val (.ptr 0 0 0 11)] (c.obj::r) bx=some (.val (cj c.V),c.obj::r,bx):=by
 simp[CK.obj,cut,cj,aA]
theorem acQ {aa:Nat}{c:CK}{a:Int}{r:aj}{bx:aS}:aI 0 aa (.store 2) [.val (.ptr 0 0 0 12),.val (.agg [.int .i64 3,.int .i64 a])] (c.obj::r) bx=some (.none,({ c with fe:=3,fa:=a }:CK).obj::r,bx):=by
 simp[CK.obj,bf,AV.ah,AV.an,af]
theorem jG (wl aa:Nat)(st:aj):(aW S).call wl aa 71 [] st=some (.agg [.int .i64 0,.int .i64 0,.int .i64 0],st):=by
 refine bT (sf:=s71) rfl rfl (by simp) rfl (by simp[AV.an,AV.ah]) ?_
 simp[s71]
theorem BY (wl aa:Nat)(st:aj):(aW S).call wl aa 90 [] st=some (.agg [.int .i64 2,.int .i64 0,.int .i64 0],st):=by
 refine bT (sf:=s90) rfl rfl (by simp) rfl (by simp[AV.an,AV.ah]) ?_
 simp[s90]
theorem ye (wl aa:Nat)(st:aj):(aW S).call wl aa 91 [] st=some (.agg [.int .i64 1,.int .i64 0,.int .i64 0],st):=by
 refine bT (sf:=s91) rfl rfl (by simp) rfl (by simp[AV.an,AV.ah]) ?_
 simp[s91]
theorem cu (aa:Nat)(c:CK)(r:aj):(aW S).call 0 aa 25 [.ptr 0 0 0 0] (c.obj::r)=some (.bool (!decide (c.fe=0)),c.obj::r):=by
 refine ax (sf:=s25) rfl rfl rfl ?_
 simp[-au,-ag,s25,aho]
theorem dF (aa:Nat)(c:CK)(a:Int)(r:aj):(aW S).call 0 aa 73 [.ptr 0 0 0 0,.int .i64 a] (c.obj::r)=some (.fm [],(c.fail a).obj::r):=by
 have e:=λaa=>cu aa c r
 refine ax (sf:=s73) rfl rfl rfl ?_
 unfold CK.fail
 by_cases h:c.fe=0
 ·rw[if_pos h]
  simp[-au,-ag,s73,e,h,acQ]
 ·rw[if_neg h]
  simp[-au,-ag,s73,e,h]
theorem Ql (wl aa:Nat)(e:E)(st:aj):(aW S).call wl aa 84 [.agg e.row] st=some (.bool (cR e.k e.n e.kids.length),st):=by
 obtain⟨k,n,nm,on,od,kids,a,ty,ref⟩:=e
 refine bT (sf:=Dm) rfl rfl (by simp[E.row,AV.ah,AV.an]) rfl (by simp) ?_
 simp only[E.row,E.k,E.n,E.kids]
 unfold cR
 have m0:((kids.length:Int)=0)=(kids.length=0):=by simp
 have m1:((kids.length:Int)=1)=(kids.length=1):=by apply propext;omega
 have m2:((kids.length:Int)=2)=(kids.length=2):=by apply propext;omega
 have hl:mc [] .sl (aA 11 (E.rows kids))=some kids.length:=by simp[mc]
 generalize hv:aA 11 (E.rows kids)=v at *
 have v1:aG v=true:=by rw[<-hv];simp
 have v2:v.view=v:=by rw[<-hv];simp
 have v3:(aP v).length=kids.length:=by rw[<-hv];simp
 generalize kids.length=m at *
 by_cases h1:k=1
 ·subst h1;simp[Dm,v1,v2,v3]
 by_cases h3:k=3
 ·subst h3;simp[Dm,v1,v2,v3]
 by_cases h4:k=4
 ·subst h4;simp[Dm,v1,v2,v3]
 by_cases h8:k=8
 ·subst h8;simp[Dm,v1,v2,v3]
 by_cases z6:k=11
 ·subst z6;simp[Dm,v1,v2,v3]
 by_cases h2:k=2
 ·subst h2
  by_cases q:m=0
  ·by_cases n0:n=0
   ·simp[Dm,v1,v2,v3,q,n0]
   ·simp[Dm,v1,v2,v3,q,n0]
  ·simp[Dm,v1,v2,v3,q]
 by_cases h7:k=7
 ·subst h7;simp[Dm,v1]
 by_cases h5:k=5
 ·subst h5;simp[Dm,v1,v2,v3,m1]
 by_cases h9:k=9
 ·subst h9;simp[Dm,v1,v2,v3,m1]
 by_cases Cz:k=10
 ·subst Cz;simp[Dm,v1,v2,v3,m1]
 by_cases JB:k=12
 ·subst JB;simp[Dm,v1,v2,v3,m1]
 by_cases Ir:k=13
 ·subst Ir;simp[Dm,v1,v2,v3,m1]
 by_cases h6:k=6
 ·subst h6;simp[Dm,v1,v2,v3,m2]
 by_cases g1:14<=k
 ·by_cases g2:k<=24
  ·simp[Dm,v1,v2,v3,h1,h2,h3,h4,h5,h6,h7,h8,h9,Cz,z6,JB,Ir,g1,g2,m2]
  ·simp[Dm,v1,h1,h2,h3,h4,h5,h6,h7,h8,h9,Cz,z6,JB,Ir,g1,g2]
 ·simp[Dm,v1,h1,h2,h3,h4,h5,h6,h7,h8,h9,Cz,z6,JB,Ir,g1]
theorem Ua (wl aa:Nat)(e:E)(st:aj):(aW S).call wl aa 85 [.agg e.row] st=some (.agg [.int .i64 e.k,.int .i64 (jV e.k e.n),.str (fz e.k e.nm),.str (fM e.k e.on),.int .i64 (fN e.k e.od),.U,.int .i64 e.a,.int .i64 0,.int .i64 0,.int .i64 0,.int .i64 0],st):=by
 obtain⟨k,n,nm,on,od,kids,a,ty,ref⟩:=e
 refine bT (sf:=Pr) rfl rfl (by simp[E.row,AV.ah,AV.an]) rfl (by simp[AV.ah,AV.an]) ?_
 simp only[E.row,E.k,E.n,E.nm,E.on,E.od,E.a]
 unfold jV fz fM fN
 by_cases h1:k=1
 ·subst h1;simp[Pr,af]
 by_cases h2:k=2
 ·subst h2;simp[Pr,af]
 by_cases h3:k=3
 ·subst h3;simp[Pr,af]
 by_cases h8:k=8
 ·subst h8;simp[Pr,af]
 by_cases h9:k=9
 ·subst h9;simp[Pr,af]
 by_cases h4:k=4
 ·subst h4;simp[Pr,af]
 by_cases h5:k=5
 ·subst h5;simp[Pr,af]
 by_cases h7:k=7
 ·subst h7;simp[Pr,af]
 simp[Pr,af,h1,h2,h3,h4,h5,h7,h8,h9]
end K9
namespace K9
open Ax Go cp V7 j4 k8
theorem bH {wl aa:Nat}{agg:Bool}{n sz i k:Nat}{rows:List (List AV)}{st:aj}{bx:aS}:aI wl aa (.load agg n false) [.val (.nJ sz rows i k)] st bx=o8 st bx ((fF st (.nJ sz rows i k) n).bind λcs=>bU agg (AV.cy cs)):=au
def rN (o:Option (Nat×T3)):Int:=match o with|some (k,_)=>(k:Int)|none=>-1
theorem My {s:List UInt8}{l:List Vd}{k:Nat}(h:k<l.length):fW s k (l.drop k)=if l[k].nm=s then some (k,l[k].ty) else fW s (k+1) (l.drop (k+1)):=by
 rw[List.drop_eq_getElem_cons h];rfl
theorem XS (aa:Nat)(f:Vd)(s:List UInt8):(aW S).call 0 aa 104 [.agg f.row,.ptr 0 0 0 0] [.rows 0 1 [[.str s]]]=some (.bool (decide (f.nm=s)),[.rows 0 1 [[.str s]]]):=by
 refine ax (sf:=Xo) rfl rfl rfl ?_
 simp[Xo,Vd.row,cut,AV.view]
theorem yb (aa:Nat)(l:List Vd)(s:List UInt8)(hn:l.length<1000000000):(aW S).call 0 aa 103 [cj l,.fn 104 [] [.ptr 0 0 0 0]] [.rows 0 1 [[.str s]]]=some (.int .i64 (rN (fW s 0 l)),[.rows 0 1 [[.str s]]]):=by
 have el:=λaa f=>XS aa f s
 simp only[Vd.row,T3.cells]at el
 refine ax (sf:=Xn) rfl rfl rfl ?_
 simp[Xn]
 refine bC KA.eq_1 (λq:Nat×Int=>⟨[(0,.val (cj l)),(1,.val (.fn 104 [] [.ptr 0 0 0 0])),(7,.val (.int .i64 l.length)),(8,.val (.int .i64 q.1))],[],[.rows 0 1 [[.str s]]]⟩)
  (λq=>q.1<=l.length/\fW s 0 l=fW s q.1 (l.drop q.1)) (λq=>l.length-q.1) (0,0) (by simp) ⟨by simp,by simp⟩ ?_
 rintro⟨k,bb⟩ ⟨hk,hp⟩ ih
 simp only at hk hp ih
 by_cases aZ:k<l.length
 ·have hw:IntKind.i64.wrap ((k:Int)+1)=((k+1:Nat):Int):=by rw[wrap64]<;>omega
  rw[My aZ]at hp
  have e1:=λaa=>el aa l[k]
  by_cases e:l[k].nm=s
  ·rw[if_pos e]at hp
   rw[hp]
   rw[decide_eq_true e]at e1
   simp[aZ,e1,Vd.row,rN]
  ·rw[if_neg e]at hp
   rw[decide_eq_false e]at e1
   simp[aZ,e1,Vd.row,hw]
   exact ih (k+1,0) ⟨by simp;omega,hp⟩ (by simp;omega)
 ·have iK:k=l.length:=by omega
  have:fW s 0 l=none:=by rw[hp,iK,List.drop_length];rfl
  rw[this]
  simp[aZ,rN]
theorem wV (wl aa:Nat)(l:List Vd)(s:List UInt8)(st:aj)(hn:l.length<1000000000):(aW S).call wl aa 98 [cj l,.str s] st=some (.int .i64 (rN (fW s 0 l)),st):=by
 have e:=λaa=>yb aa l s hn
 refine bT (sf:=s98) rfl rfl (by simp[AV.ah]) rfl (by simp) ?_
 simp[s98,e]
theorem oY {s:List UInt8}:∀{l:List Vd}{i k:Nat}{t:T3},fW s i l=some (k,t)->i<=k/\∃h:k-i<l.length,l[k-i].ty=t/\l[k-i].nm=s
 |[],_,_,_,h=>by cases h
 |f::l,i,k,t,h=>by
  unfold fW at h
  split at h
  ·rename_i hs
   cases h
   exact⟨Nat.le_refl _,by simp,by simp,by simpa using hs⟩
  ·obtain⟨h1,h2,h3,h4⟩:=oY h
   refine⟨by omega,by simp only[List.length_cons];omega,?_⟩
   have:k-i=(k-(i+1))+1:=by omega
   simp only[this,List.getElem_cons_succ]
   exact⟨h3,h4⟩
theorem E1 {s:List UInt8}{l:List Vd}{k:Nat}{t:T3}(h:fW s 0 l=some (k,t)):∃h:k<l.length,l[k].ty=t:=by
 obtain⟨_,h1,h2,_⟩:=oY h
 exact⟨by simpa using h1,by simpa using h2⟩
structure Small (c:CK):Prop where
 V:c.V.length<1000000000
 G:c.H.globals.length<1000000000
 S:c.H.sigs.length<1000000000
 R:c.H.rs.length<1000000000
 F:∀s∈c.H.ct,s.2.length<1000000000
 P:∀s∈c.H.sigs,s.ps.length<1000000000
def Hx (o:Option (T3×Int)):AV:=match o with
 |some (t,r)=>.fm [.int .i64 r,.agg t.cells,.bool true]
 |none=>.fm [.int .i64 0,.agg T0.cells,.bool false]
theorem zd (aa:Nat)(c:CK)(s:List UInt8)(r:aj)(hs:Small c):(aW S).call 0 aa 89 [.ptr 0 0 0 0,.str s] (c.obj::r)=some (Hx (x4 c.H c.V s),c.obj::r):=by
 have e1:=λwl aa st=>wV wl aa c.V s st hs.V
 have e2:=λwl aa st=>wV wl aa c.H.globals s st hs.G
 have en:=λwl aa st=>jG wl aa st
 have hV:=hs.V
 have hG:=hs.G
 refine ax (sf:=s89) rfl rfl rfl ?_
 unfold x4
 cases h1:fW s 0 c.V with
 |some x=>
  obtain⟨k,t⟩:=x
  obtain⟨hk,ht⟩:=E1 h1
  subst ht
  rw[h1]at e1
  simp only[rN]at e1
  have uk:¬((k:Int)<0):=by omega
  simp[-au,-ag,s89,Hw,e1,Hx,bH,hk,Vd.row,aB,az,af]
 |none=>
  rw[h1]at e1
  simp only[rN]at e1
  cases h2:fW s 0 c.H.globals with
  |some x=>
   obtain⟨k,t⟩:=x
   obtain⟨hk,ht⟩:=E1 h2
   subst ht
   rw[h2]at e2
   simp only[rN]at e2
   have uk:¬((k:Int)<0):=by omega
   have hw:IntKind.i64.wrap (-1-(k:Int)) = -1-(k:Int):=by rw[wrap64]<;>omega
   simp[-au,-ag,s89,Hw,acM,e1,e2,hw,Hx,bH,hk,Vd.row,aB,az,af]
  |none=>
   rw[h2]at e2
   simp only[rN]at e2
   simp[-au,-ag,s89,Hw,acM,e1,e2,en,Hx,af]
def qF (o:Option (T3×Int)):AV:=match o with
 |some (t,r)=>.fm [.agg [.int .i64 t.b,.int .i64 t.r,.int .i64 t.d],.int .i64 r,.bool true]
 |none=>.fm [.agg [.int .i64 0,.int .i64 0,.int .i64 0],.int .i64 0,.bool false]
def BZ (V:List Vd)(o:Option (Nat×T3)):AV:=match o with|some _=>.fm [.int .i64 0,.bool false]|none=>.fm [.int .i64 V.length,.bool true]
def CK.Qm (c:CK)(w:AV):fh:=.rows 0 14 [[aA 2 (c.H.ct.map gV),cj c.H.globals,aA 6 (c.H.sigs.map Sg.row),.int .i64 c.main,b8 1 (gp c.H.rs),.str c.sg.nm,cj c.sg.ps,.bool c.sg.has,.int .i64 c.sg.res.b,.int .i64 c.sg.res.r,.int .i64 c.sg.res.d,w,.int .i64 c.fe,.int .i64 c.fa]]
theorem XT {aa:Nat}{c:CK}{bx:aS}:aI 0 aa (.load false 1 true) [.val (.ptr 0 0 0 11)] [c.obj] bx=some (.val (b8 4 (c.V.map Vd.row)),[c.Qm (b8 4 (c.V.map Vd.row)).hJ],bx):=by
 simp only[CK.obj,CK.Qm]
 generalize c.V.map Vd.row=rows
 cases rows with
 |nil=>simp[aI,b8,cut,fF,dz,bf,AV.hJ,AV.an,AV.ah,af,bU]
 |cons a l=>simp[aI,b8,cut,fF,dz,bf,AV.hJ,AV.an,AV.ah,af,bU]
theorem acR {aa:Nat}{c:CK}{w:AV}{W:List Vd}{bx:aS}:aI 0 aa (.store 1) [.val (.ptr 0 0 0 11),.val (b8 4 (W.map Vd.row))] [c.Qm w] bx=some (.none,[({ c with V:=W }:CK).obj],bx):=by
 simp[CK.obj,CK.Qm,bf,AV.ah,af]
theorem JC (aa:Nat)(c:CK)(s:List UInt8)(t:T3)(hs:Small c):(aW S).call 0 aa 88 [.ptr 0 0 0 0,.str s,.agg [.int .i64 t.b,.int .i64 t.r,.int .i64 t.d]] [c.obj] =
  some (BZ c.V (fW s 0 c.V),[(match fW s 0 c.V with|some _=>c|none=>{ c with V:=c.V++[(⟨s,t⟩:Vd)] }:CK).obj]):=by
 have e1:=λwl aa st=>wV wl aa c.V s st hs.V
 have hV:=hs.V
 refine ax (sf:=s88) rfl rfl rfl ?_
 cases h1:fW s 0 c.V with
 |some x=>
  obtain⟨k,u⟩:=x
  rw[h1]at e1
  simp only[rN]at e1
  have uk:(0:Int)<=(k:Int):=by omega
  simp[-au,-ag,s88,Hw,e1,uk,BZ]
 |none=>
  rw[h1]at e1
  simp only[rN]at e1
  have nc:=eU (sz:=4) (bytes:=40) (r:=c.V.map Vd.row) (new:=[[.str s,.int .i64 t.b,.int .i64 t.r,.int .i64 t.d]]) (by simp[fits]) (by simp[room];omega)
  have XL:c.V.map Vd.row++[[.str s,.int .i64 t.b,.int .i64 t.r,.int .i64 t.d]]=(c.V++[(⟨s,t⟩:Vd)]).map Vd.row:=by simp[Vd.row]
  rw[XL]at nc
  have ep:=λaa bx=>acR (aa:=aa) (c:=c) (w:=(b8 4 (c.V.map Vd.row)).hJ) (W:=c.V++[(⟨s,t⟩:Vd)]) (bx:=bx)
  have et:=λaa bx=>XT (aa:=aa) (c:=c) (bx:=bx)
  have ev:=λwl aa bx=>Hw (wl:=wl) (aa:=aa) (c:={ c with V:=c.V++[(⟨s,t⟩:Vd)] }) (r:=[]) (bx:=bx)
  simp only at ev
  have hLl:(aP (cj (c.V++[(⟨s,t⟩:Vd)]))).length=c.V.length+1:=by simp
  have hLs:aG (cj (c.V++[(⟨s,t⟩:Vd)]))=true:=jc
  generalize cj (c.V++[(⟨s,t⟩:Vd)])=R2 at *
  generalize ({ c with V:=c.V++[(⟨s,t⟩:Vd)] }:CK).obj=V2 at *
  generalize c.Qm (b8 4 (c.V.map Vd.row)).hJ=ob1 at *
  generalize b8 4 ((c.V++[(⟨s,t⟩:Vd)]).map Vd.row)=R at *
  generalize b8 4 (c.V.map Vd.row)=R0 at *
  have hw:IntKind.i64.wrap (c.V.length:Int)=(c.V.length:Int):=by rw[wrap64]<;>omega
  simp[-au,-ag,s88,Hw,e1,BZ,et,ep,ev,nc,hLs,hLl,hw,aB,az,AV.view]
end K9
namespace K9
open Ax Go cp V7 j4 k8
theorem XU (wl aa:Nat)(l:List (List UInt8))(s:List UInt8)(st:aj)(hn:l.length<1000000000) :
  (aW S).call wl aa 69 [aA 1 (gp l),.str s] st=some (.int .i64 (rU l s),st):=by
 have hz:cI 1 (aA 1 (gp l))=true:=iC (by simp[fits,gp])
 have hl:(gp l).length=l.length:=by simp[gp]
 have hg:∀k (h:k<(gp l).length),(gp l)[k]=[.str (l[k]'(by simpa [gp] using h))]:=λk h=>by simp[gp]
 have XO:∀k (h:k<l.length),(gp l)[k]?=some [.str l[k]]:=λk h=>by simp[gp,h]
 refine bT (sf:=s69) rfl rfl (by simp) rfl (by simp) ?_
 simp[s69,hl]
 refine bC Jj.eq_1 (λq:Nat×Int=>⟨[(0,.val (aA 1 (gp l))),(1,.val (.str s)),(7,.val (.int .i64 l.length)),(8,.val (.int .i64 q.1))],[],[]⟩)
  (λq=>q.1<=l.length/\GS (λx=>decide (x=s)) l q.1) (λq=>l.length-q.1) (0,0) (by simp) ⟨by simp,xX⟩ ?_
 rintro⟨k,bb⟩ ⟨hk,hp⟩ ih
 simp only at hk hp ih
 by_cases aZ:k<l.length
 ·have hw:IntKind.i64.wrap ((k:Int)+1)=((k+1:Nat):Int):=by rw[wrap64]<;>omega
  have g:=XO k aZ
  by_cases e:l[k]=s
  ·have hi:=KF hp aZ e
   simp[aZ,hz,hl,hg,e,hi]
  ·have e':¬s=l[k]:=λh=>e h.symm
   simp[aZ,hz,hl,hg,e',hw]
   exact ih (k+1,0) ⟨by simp;omega,xY hp aZ (by simpa using e)⟩ (by simp;omega)
 ·have iK:k=l.length:=by omega
  have hi:=Dq (iK ▸ hp)
  simp[aZ,hi]
def VD (x:T3×Bool):AV:=.fm [.agg [.int .i64 x.1.b,.int .i64 x.1.r,.int .i64 x.1.d],.bool x.2]
theorem wQ (wl aa:Nat)(l:List (List UInt8))(s:List UInt8)(d:Int)(st:aj)(hn:l.length<1000000000) :
  (aW S).call wl aa 70 [aA 1 (gp l),.agg [.str s,.int .i64 d]] st=some (VD (cH l s d),st):=by
 have hi:=XU 0 0 l s [] hn
 refine bT (sf:=Jk) rfl rfl (by simp[AV.ah,AV.an]) rfl (by simp[VD,AV.an,AV.ah]) ?_
 unfold VD
 by_cases d0:d<0
 ·have:cH l s d=(T0,false):=if_pos (.inl d0)
  rw[this]
  simp[Jk,d0]
 by_cases d3:3<d
 ·have:cH l s d=(T0,false):=if_pos (.inr d3)
  rw[this]
  simp[Jk,d0,d3]
 have hd:¬(d<0\/3<d):=by omega
 unfold cH
 rw[if_neg hd]
 by_cases i1:s=[105,110,116]
 ·simp[Jk,d0,d3,i1]
 by_cases i2:s=[98,111,111,108]
 ·simp[Jk,d0,d3,i2]
 rw[if_neg i1,if_neg i2]
 by_cases i3:rU l s<0
 ·simp[Jk,d0,d3,i1,i2,hi,i3]
 ·simp[Jk,d0,d3,i1,i2,hi,i3]
theorem Jy (wl aa:Nat)(t:T3)(st:aj):(aW S).call wl aa 28 [.agg [.int .i64 t.b,.int .i64 t.r,.int .i64 t.d]] st=some (.bool (vz t),st):=by
 refine bT (sf:=Xi) rfl rfl (by simp[AV.ah,AV.an]) rfl (by simp) ?_
 unfold vz
 by_cases b:t.b=3
 ·simp[Xi,b]
 ·simp[Xi,b]
theorem Qn (aa:Nat)(c:CK)(e:E)(x:E)(hk:e.kids=[x])(hs:Small c)(hx:x.ty.b=3->0<=x.ty.r/\x.ty.r<c.H.ct.length) :
  (aW S).call 0 aa 95 [.ptr 0 0 0 0,.agg e.row] [c.obj]=some (qF (x5 c.H x.ty e.nm),[c.obj]):=by
 have en:=λwl aa st=>jG wl aa st
 have cP:=E.aE e
 have hz:cI 11 (aT e.kids)=true:=qf
 have kj:aP (aT e.kids)=[x.row]:=by rw[hk];simp[aT,E.rows]
 have dA:aG (aT e.kids)=true:=bg
 have g9:(aT e.kids).view=aT e.kids:=bz
 rw[E.aE x]at kj
 rw[cP]
 generalize aT e.kids=kv at *
 have Nw:cI 2 (aA 2 (c.H.ct.map gV))=true:=iC (by simp[fits,gV])
 refine ax (sf:=ZY) rfl rfl rfl ?_
 unfold x5
 by_cases hb:x.ty.b=3
 ·by_cases hd:x.ty.d=0
  ·rw[if_pos ⟨hb,hd⟩]
   obtain⟨h0,h1⟩:=hx hb
   obtain⟨k,FZ⟩:∃k:Nat,x.ty.r=k:=⟨x.ty.r.toNat,by omega⟩
   have iK:k<c.H.ct.length:=by omega
   have hg:c.H.ct[k]?=some c.H.ct[k]:=List.getElem?_eq_getElem iK
   have hF:=hs.F _ (List.getElem_mem iK)
   generalize hsh:c.H.ct[k]=sh at *
   have e1:=λwl aa st=>wV wl aa sh.2 e.nm st hF
   rw[FZ,Int.toNat_natCast,hg]
   simp only
   rw[FZ]at kj
   have hgm:∀h:k<(c.H.ct.map gV).length,(c.H.ct.map gV)[k]=[.str sh.1,cj sh.2]:=λh=>by simp[hsh,gV]
   cases h2:fW e.nm 0 sh.2 with
   |some y=>
    obtain⟨j,u⟩:=y
    obtain⟨hj,hu⟩:=E1 h2
    subst hu
    rw[h2]at e1
    simp only[rN]at e1
    have hj0:¬((j:Int)<0):=by omega
    simp[-au,-ag,ZY,bH,acL,hz,dA,g9,kj,hb,hd,Nw,iK,hgm,e1,hj0,hj,Vd.row,qF,aB,az,af,AV.view]
   |none=>
    rw[h2]at e1
    simp only[rN]at e1
    simp[-au,-ag,ZY,bH,acL,hz,dA,g9,kj,hb,hd,Nw,iK,hgm,e1,en,qF,aB,az,af,AV.view]
  ·rw[if_neg (λh=>hd h.2)]
   simp[-au,-ag,ZY,bH,hz,dA,g9,kj,hb,hd,en,qF,af,AV.view]
 ·rw[if_neg (λh=>hb h.1)]
  simp[-au,-ag,ZY,bH,hz,dA,g9,kj,hb,en,qF,af,AV.view]
theorem ahp (t u:T3):(t=u)=(t.b=u.b/\t.r=u.r/\t.d=u.d):=by
 obtain⟨a,b,c⟩:=t
 obtain⟨d,e,f⟩:=u
 simp
theorem dU (t u:T3):(decide (t.b=u.b)&&(decide (t.r=u.r)&&decide (t.d=u.d)))=decide (t=u):=by
 rw[Bool.eq_iff_iff]
 simp only[Bool.and_eq_true,decide_eq_true_eq]
 exact(iff_of_eq (ahp t u)).symm
theorem dI (t:T3):(decide (t.b=1)&&(decide (t.r=0)&&decide (t.d=0)))=decide (t=tI):=dU t tI
theorem dB (t:T3):(decide (t.b=2)&&(decide (t.r=0)&&decide (t.d=0)))=decide (t=tB):=dU t tB
theorem d0 (t:T3):(decide (t.b=0)&&(decide (t.r=0)&&decide (t.d=0)))=decide (t=T0):=dU t T0
def CP (k:Int):T3:=if k=14\/k=15\/k=16\/k=17\/k=18 then tI else tB
theorem iE {b:Bool}{t:T3}:(Dz b t).isSome=b:=by cases b<;>rfl
theorem E2 {b:Bool}{t u:T3}{r:Int}(h:Dz b t=some (u,r)):t=u/\0=r:=by cases b<;>cases h;exact⟨rfl,rfl⟩
theorem XW {k:Int}{a b u:T3}{r:Int}(h:EF k a b=some (u,r)):CP k=u/\0=r:=by
 unfold EF at h
 unfold CP
 split at h
 ·rename_i c;rw[if_pos c];exact E2 h
 ·rename_i c
  rw[if_neg c]
  split at h
  ·exact E2 h
  ·split at h<;>exact E2 h
theorem XX (aa:Nat)(c:CK)(e x y:E)(hk:e.kids=[x,y]):(aW S).call 0 aa 97 [.ptr 0 0 0 0,.agg e.row] [c.obj] =
  some (.fm [.agg [.int .i64 (CP e.k).b,.int .i64 (CP e.k).r,.int .i64 (CP e.k).d],.int .i64 0,.bool (EF e.k x.ty y.ty).isSome],[c.obj]):=by
 have et:=λwl aa st=>BY wl aa st
 have en:=λwl aa st=>ye wl aa st
 have hz:cI 11 (aT e.kids)=true:=qf
 have kj:aP (aT e.kids)=[x.row,y.row]:=by rw[hk];simp[aT,E.rows]
 have dA:aG (aT e.kids)=true:=bg
 have g9:(aT e.kids).view=aT e.kids:=bz
 rw[E.aE x,E.aE y]at kj
 rw[E.aE e]
 generalize aT e.kids=kv at *
 refine ax (sf:=M7) rfl rfl rfl ?_
 unfold EF CP
 generalize e.k=k
 have fin:∀(p:Bool) (t:T3),(Dz p t).isSome=p:=λp t=>iE
 by_cases h1:k=14
 ·subst h1;by_cases q:x.ty=tI<;>simp[-au,-ag,M7,bH,hz,dA,g9,kj,en,dI,q,fin,aB,aN,bp,az,af,AV.view]
 by_cases h2:k=15
 ·subst h2;by_cases q:x.ty=tI<;>simp[-au,-ag,M7,bH,hz,dA,g9,kj,en,dI,q,fin,aB,aN,bp,az,af,AV.view]
 by_cases h3:k=16
 ·subst h3;by_cases q:x.ty=tI<;>simp[-au,-ag,M7,bH,hz,dA,g9,kj,en,dI,q,fin,aB,aN,bp,az,af,AV.view]
 by_cases h4:k=17
 ·subst h4;by_cases q:x.ty=tI<;>simp[-au,-ag,M7,bH,hz,dA,g9,kj,en,dI,q,fin,aB,aN,bp,az,af,AV.view]
 by_cases h5:k=18
 ·subst h5;by_cases q:x.ty=tI<;>simp[-au,-ag,M7,bH,hz,dA,g9,kj,en,dI,q,fin,aB,aN,bp,az,af,AV.view]
 by_cases h6:k=19
 ·subst h6;by_cases q:x.ty=tI<;>simp[-au,-ag,M7,bH,hz,dA,g9,kj,en,et,dI,q,fin,aB,aN,bp,az,af,AV.view]
 by_cases h7:k=20
 ·subst h7;by_cases q:x.ty=tI<;>simp[-au,-ag,M7,bH,hz,dA,g9,kj,en,et,dI,q,fin,aB,aN,bp,az,af,AV.view]
 by_cases h8:k=21
 ·subst h8;simp[-au,-ag,M7,bH,hz,dA,g9,kj,et,dU,fin,aB,aN,bp,az,af,AV.view]
 by_cases h9:k=22
 ·subst h9;simp[-au,-ag,M7,bH,hz,dA,g9,kj,et,dU,fin,aB,aN,bp,az,af,AV.view]
 by_cases q:x.ty=tB<;>simp[-au,-ag,M7,bH,hz,dA,g9,kj,et,dB,q,fin,h1,h2,h3,h4,h5,h6,h7,h8,h9,aB,aN,bp,az,af,AV.view]
def Qo (o:Option (Nat×Sg)):Int:=match o with|some (k,_)=>(k:Int)|none=>-1
theorem Qp {s:List UInt8}{l:List Sg}{k:Nat}(h:k<l.length):nM s k (l.drop k)=if l[k].nm=s then some (k,l[k]) else nM s (k+1) (l.drop (k+1)):=by
 rw[List.drop_eq_getElem_cons h];rfl
theorem KT {s:List UInt8}:∀{l:List Sg}{i k:Nat}{t:Sg},nM s i l=some (k,t)->i<=k/\∃h:k-i<l.length,l[k-i]=t
 |[],_,_,_,h=>by cases h
 |f::l,i,k,t,h=>by
  unfold nM at h
  split at h
  ·cases h
   exact⟨Nat.le_refl _,by simp,by simp⟩
  ·obtain⟨h1,h2,h3⟩:=KT h
   refine⟨by omega,by simp only[List.length_cons];omega,?_⟩
   have:k-i=(k-(i+1))+1:=by omega
   simp only[this,List.getElem_cons_succ]
   exact h3
theorem XY {s:List UInt8}{l:List Sg}{k:Nat}{t:Sg}(h:nM s 0 l=some (k,t)):∃h:k<l.length,l[k]=t:=by
 obtain⟨_,h1,h2⟩:=KT h
 exact⟨by simpa using h1,by simpa using h2⟩
theorem Ub (aa:Nat)(g:Sg)(e:E)(o:fh):(aW S).call 0 aa 102 [.agg g.row,.ptr 1 0 0 0] [o,.rows 0 11 [e.row]]=some (.bool (decide (g.nm=e.nm)),[o,.rows 0 11 [e.row]]):=by
 refine ax (sf:=Xm) rfl rfl rfl ?_
 rw[E.aE]
 simp[Xm,Sg.row,cut,AV.view]
theorem Mz (aa:Nat)(l:List Sg)(e:E)(o:fh)(hn:l.length<1000000000):(aW S).call 0 aa 39 [aA 6 (l.map Sg.row),.fn 102 [] [.ptr 1 0 0 0]] [o,.rows 0 11 [e.row]]=some (.int .i64 (Qo (nM e.nm 0 l)),[o,.rows 0 11 [e.row]]):=by
 have el:=λaa f=>Ub aa f e o
 simp only[Sg.row]at el
 have hz:cI 6 (aA 6 (l.map Sg.row))=true:=iC (by simp[fits,Sg.row])
 generalize fh.rows 0 11 [e.row]=o2 at *
 refine ax (sf:=ZW) rfl rfl rfl ?_
 simp[ZW]
 refine bC Jh.eq_1 (λq:Nat×Int=>⟨[(0,.val (aA 6 (l.map Sg.row))),(1,.val (.fn 102 [] [.ptr 1 0 0 0])),(7,.val (.int .i64 l.length)),(8,.val (.int .i64 q.1))],[],[o,o2]⟩)
  (λq=>q.1<=l.length/\nM e.nm 0 l=nM e.nm q.1 (l.drop q.1)) (λq=>l.length-q.1) (0,0) (by simp) ⟨by simp,by simp⟩ ?_
 rintro⟨k,bb⟩ ⟨hk,hp⟩ ih
 simp only at hk hp ih
 by_cases aZ:k<l.length
 ·have hw:IntKind.i64.wrap ((k:Int)+1)=((k+1:Nat):Int):=by rw[wrap64]<;>omega
  rw[Qp aZ]at hp
  have e1:=λaa=>el aa l[k]
  by_cases h:l[k].nm=e.nm
  ·rw[if_pos h]at hp
   rw[hp]
   rw[decide_eq_true h]at e1
   simp[aZ,hz,e1,Sg.row,Qo]
  ·rw[if_neg h]at hp
   rw[decide_eq_false h]at e1
   simp[aZ,hz,e1,Sg.row,hw]
   exact ih (k+1,0) ⟨by simp;omega,hp⟩ (by simp;omega)
 ·have iK:k=l.length:=by omega
  have:nM e.nm 0 l=none:=by rw[hp,iK,List.drop_length];rfl
  rw[this]
  simp[aZ,Qo]
theorem MA {l:List Vd}{r:List E}:∀{k:Nat}(h1:k<l.length)(h2:k<r.length),lM (l.drop k) (r.drop k)=(decide (r[k].ty=l[k].ty)&&lM (l.drop (k+1)) (r.drop (k+1))):=by
 intro k h1 h2
 rw[List.drop_eq_getElem_cons h1,List.drop_eq_getElem_cons h2]
 rfl
theorem Hy:∀{l:List Vd}{r:List E},lM l r=true->l.length=r.length
 |[],[],_=>rfl
 |[],_::_,h=>by cases h
 |_::_,[],h=>by cases h
 |_::l,_::r,h=>by
  simp only[lM,Bool.and_eq_true]at h
  simp[Hy h.2]
end K9
namespace K9
open Ax Go cp V7 j4 k8
theorem XZ {wl aa:Nat}{o:fh}{e:E}{bx:aS}:aI wl aa (.load false 1 false) [.val (.ptr 1 0 0 5)] [o,.rows 0 11 [e.row]] bx=some (.val (aT e.kids),[o,.rows 0 11 [e.row]],bx):=by
 simp[E.aE,cut]
theorem B0 {l:List E}{k:Nat}(h:k<l.length):(E.rows l)[k]?=some l[k].row:=by simp[gC,h]
theorem vF {l:List E}{k:Nat}(h:k<l.length)(h2:k<(E.rows l).length):(E.rows l)[k]=l[k].row:=by simp[gC]
theorem wB (aa:Nat)(c:CK)(e:E)(hs:Small c)(hn:e.kids.length<1000000000):(aW S).call 0 aa 96 [.ptr 0 0 0 0,.agg e.row] [c.obj]=some (qF (BJ c.H e.nm e.kids),[c.obj]):=by
 have en:=λwl aa st=>jG wl aa st
 have ei:=λaa=>Mz aa c.H.sigs e c.obj hs.S
 have hzS:cI 6 (aA 6 (c.H.sigs.map Sg.row))=true:=iC (by simp[fits,Sg.row])
 have hzE:cI 11 (aT e.kids)=true:=qf
 have eY:aP (aT e.kids)=E.rows e.kids:=aR
 have hS:=hs.S
 have ek:=λwl aa bx=>XZ (wl:=wl) (aa:=aa) (o:=c.obj) (e:=e) (bx:=bx)
 have hsi:=λwl aa bx=>acN (wl:=wl) (aa:=aa) (c:=c) (r:=[.rows 0 11 [e.row]]) (bx:=bx)
 have rR:∀bx,aI 0 1 (.box 11) [.val (.agg e.row)] [c.obj] bx=some (.val (.ptr 1 0 0 0),[c.obj,.rows 0 11 [e.row]],bx):=λbx=>by rw[E.aE];simp
 refine ax (sf:=s96) rfl rfl rfl ?_
 unfold BJ
 generalize hO:fh.rows 0 11 [e.row]=o at *
 cases h1:nM e.nm 0 c.H.sigs with
 |none=>
  rw[h1]at ei
  simp only[Qo]at ei
  simp[-au,-ag,-Ku,s96,rR,hsi,ei,en,qF,aB,az,af]
 |some y=>
  obtain⟨i,s⟩:=y
  obtain⟨hi,hg⟩:=XY h1
  rw[h1]at ei
  simp only[Qo]at ei
  have hi0:¬((i:Int)<0):=by omega
  have hP:=hs.P _ (List.getElem_mem hi)
  rw[hg]at hP
  have gS:(c.H.sigs.map Sg.row)[i]?=some [.str s.nm,cj s.ps,.bool s.has,.int .i64 s.res.b,.int .i64 s.res.r,.int .i64 s.res.d]:=by simp[hi,hg,Sg.row]
  have JD:∀h:i<(c.H.sigs.map Sg.row).length,(c.H.sigs.map Sg.row)[i]=[.str s.nm,cj s.ps,.bool s.has,.int .i64 s.res.b,.int .i64 s.res.r,.int .i64 s.res.d]:=λh=>by simp[hg,Sg.row]
  simp only
  by_cases hl:s.ps.length=e.kids.length
  ·have nA:¬((s.ps.length:Int)≠(e.kids.length:Int)):=by omega
   simp[-au,-ag,-Ku,s96,rR,hsi,ei,hi0,ek,hzS,hi,JD,bH,eY,hl,qF,aB,az,AV.view]
   refine bC Pv.eq_1 (λy:Nat×List AV=>⟨[(0,.val (.ptr 0 0 0 0)),(3,.val (.ptr 1 0 0 0)),(4,.fp 0 0),(7,.val (.int .i64 i)),(44,.val (cj s.ps)),(45,.val (.int .i64 e.kids.length)),(46,.val (.int .i64 y.1))],
    [[.int .i64 0,.int .i64 0,.int .i64 0],y.2],[c.obj,o]⟩) (λy=>y.1<=e.kids.length/\lM s.ps e.kids=lM (s.ps.drop y.1) (e.kids.drop y.1)) (λy=>e.kids.length-y.1) (0,[]) rfl ⟨by simp,by simp⟩ ?_
   rintro⟨k,b2⟩ ⟨hk,hp⟩ ih
   simp only at hk hp ih
   by_cases aZ:k<e.kids.length
   ·have uE:k<s.ps.length:=by omega
    have hw:IntKind.i64.wrap ((k:Int)+1)=((k+1:Nat):Int):=by rw[wrap64]<;>omega
    rw[MA uE aZ]at hp
    have gP:(s.ps.map Vd.row)[k]?=some [.str s.ps[k].nm,.int .i64 s.ps[k].ty.b,.int .i64 s.ps[k].ty.r,.int .i64 s.ps[k].ty.d]:=by simp[uE,Vd.row]
    have gP':∀h:k<(s.ps.map Vd.row).length,(s.ps.map Vd.row)[k]=[.str s.ps[k].nm,.int .i64 s.ps[k].ty.b,.int .i64 s.ps[k].ty.r,.int .i64 s.ps[k].ty.d]:=λh=>by simp[Vd.row]
    have gE:=B0 aZ
    have rY:=λh2=>vF aZ h2
    simp only[E.aE]at gE rY
    by_cases q:e.kids[k].ty=s.ps[k].ty
    ·rw[decide_eq_true q,Bool.true_and]at hp
     have ey:=λb=>ih (k+1,b) ⟨by simp only;omega,hp⟩ (by simp only;omega)
     simp only at ey
     rw[q]at gE rY
     generalize e.kids[k]=x at *
     generalize s.ps[k]=p at *
     simp[-au,-ag,aZ,uE,hw,gP',rY,ek,hzE,eY,bH,aB,az,af,AV.view]
     exact ey _
    ·rw[decide_eq_false q,Bool.false_and]at hp
     generalize e.kids[k]=x at *
     generalize s.ps[k]=p at *
     simp[-au,-ag,aZ,uE,gP',rY,ek,hzE,eY,bH,dU,q,hp,en,aB,az,af,AV.view]
   ·have iK:k=e.kids.length:=by omega
    have:lM s.ps e.kids=true:=by rw[hp,iK,List.drop_length,<-hl,List.drop_length];rfl
    have ahs:=λwl aa bx=>acN (wl:=wl) (aa:=aa) (c:=c) (r:=[o]) (bx:=bx)
    simp[-au,-ag,aZ,this,ahs,hzS,hi,JD,bH,af,AV.view]
  ·have jH:lM s.ps e.kids=false:=by
    cases h:lM s.ps e.kids with
    |false=>rfl
    |true=>exact absurd (Hy h) hl
   have nA:¬((s.ps.length:Int)=(e.kids.length:Int)):=by omega
   rw[jH]
   simp[-au,-ag,-Ku,s96,rR,hsi,ei,hi0,ek,hzS,hi,JD,bH,eY,hl,en,qF,aB,az,af,AV.view]
end K9
namespace K9
open Ax Go cp V7 j4 k8
def Qq (o:Option (T3×Int))(v:AV):Prop:=∃(t:T3)(z:Int),v=.fm [.agg [.int .i64 t.b,.int .i64 t.r,.int .i64 t.d],.int .i64 z,.bool o.isSome]/\∀u r,o=some (u,r)->t=u/\z=r
theorem JE (o:Option (T3×Int)):Qq o (qF o):=by
 cases o with
 |none=>exact⟨T0,0,rfl,λ_ _ h=>by cases h⟩
 |some x=>exact⟨x.1,x.2,rfl,λu r h=>by cases h;exact⟨rfl,rfl⟩⟩
theorem kI (b:Bool)(t:T3):Qq (Dz b t) (.fm [.agg [.int .i64 t.b,.int .i64 t.r,.int .i64 t.d],.int .i64 0,.bool b]):=by
 refine⟨t,0,?_,λu r h=>E2 h⟩
 rw[iE]
theorem gh {aa f:Nat}{sf:aC}{args:List AV}{st:aj}{o:Option (T3×Int)}(hf:S f=some sf)(ha:alone sf args=false)(hl:args.length=sf.nparams)(v:AV)(hv:Qq o v)
  (h:W S (sf.mode.va st.length 0) (sf.mode.oz st.length aa) sf.results (Gy sf.results sf.mode st (v,st)) [.code sf.body] .normal (oA sf args st)) :
  ∃v,Qq o v/\(aW S).call 0 aa f args st=some (v,st):=⟨v,hv,ax hf ha hl h⟩
theorem wR (aa:Nat)(c:CK)(e:E)(hs:Small c)(hn:e.kids.length<1000000000)(hk:cR e.k e.n e.kids.length=true)(hRS:c.H.rs.length=c.H.ct.length)(hw:∀x∈e.kids,WT c.H.rs.length x.ty) :
  ∃v,Qq (mD c.H c.V e.k e.nm e.on e.od e.kids) v/\(aW S).call 0 aa 86 [.ptr 0 0 0 0,.agg e.row] [c.obj]=some (v,[c.obj]):=by
 have eN:=λwl aa st=>ye wl aa st
 have eT:=λwl aa st=>BY wl aa st
 have eV:=λaa=>zd aa c e.nm [] hs
 have ze:=λwl aa st=>wQ wl aa c.H.rs e.on e.od st hs.R
 have erf:=λwl aa st=>Jy wl aa (cH c.H.rs e.on e.od).1 st
 have cP:=E.aE e
 have hz:cI 11 (aT e.kids)=true:=qf
 have dA:aG (aT e.kids)=true:=bg
 have g9:(aT e.kids).view=aT e.kids:=bz
 have eY:aP (aT e.kids)=E.rows e.kids:=aR
 have one:∀j,e.k=j->(j=5\/j=9\/j=10\/j=12\/j=13)->∃x,e.kids=[x]:=λj hj h=>by
  have hlen:e.kids.length=1:=by
   rw[hj]at hk
   rcases h with h|h|h|h|h<;>subst h<;>simpa [cR] using hk
  match hh:e.kids,hlen with
  |[x],_=>exact⟨x,rfl⟩
 have two:e.k≠1->e.k≠2->e.k≠3->e.k≠4->e.k≠5->e.k≠7->e.k≠8->e.k≠9->e.k≠10->e.k≠11->e.k≠12->e.k≠13->∃x y,e.kids=[x,y]:=λh1 h2 h3 h4 h5 h7 h8 h9 Cz z6 JB Ir=>by
  have hlen:e.kids.length=2:=by
   simp[cR,h1,h2,h3,h4,h5,h7,h8,h9,Cz,z6,JB,Ir]at hk
   exact hk.2
  match hh:e.kids,hlen with
  |[x,y],_=>exact⟨x,y,rfl⟩
 have fld:=λx (h:e.kids=[x]) aa=>Qn aa c e x h hs (by
  have:=(hw x (by rw[h];exact List.mem_cons_self)).2.2
  rw[hRS]at this
  exact this)
 have cal:=λaa=>wB aa c e hs hn
 have tw:=λx y (h:e.kids=[x,y]) aa=>XX aa c e x y h
 rw[cP]at fld cal tw
 rw[cP]
 unfold mD
 by_cases h1:e.k=1
 ·rw[if_pos (.inl h1)]
  rw[h1]
  refine gh (sf:=rS) rfl rfl rfl _ (kI true tI) ?_
  simp[-au,-ag,rS,eN,af,AV.view]
 by_cases z6:e.k=11
 ·rw[if_pos (.inr z6)]
  rw[z6]
  refine gh (sf:=rS) rfl rfl rfl _ (kI true tI) ?_
  simp[-au,-ag,rS,eN,af,AV.view]
 rw[if_neg (λh=>h.elim h1 z6)]
 by_cases h2:e.k=2
 ·rw[if_pos h2,h2]
  refine gh (sf:=rS) rfl rfl rfl _ (kI true tB) ?_
  simp[-au,-ag,rS,eT,af,AV.view]
 rw[if_neg h2]
 by_cases h3:e.k=3
 ·rw[if_pos h3,h3]
  refine gh (sf:=rS) rfl rfl rfl _ (kI _ _) ?_
  unfold VD at ze
  generalize cH c.H.rs e.on e.od=tt at *
  obtain⟨t,b⟩:=tt
  cases b<;>simp[-au,-ag,rS,vE,ze,erf,aB,aN,bp,az,af,AV.view]
 rw[if_neg h3]
 by_cases h4:e.k=4
 ·rw[if_pos h4,h4]
  refine gh (sf:=rS) rfl rfl rfl _ (JE _) ?_
  generalize x4 c.H c.V e.nm=o at *
  cases o with
  |none=>simp[-au,-ag,rS,eV,Hx,qF,af,AV.view]
  |some x=>simp[-au,-ag,rS,eV,Hx,qF,af,AV.view]
 rw[if_neg h4]
 by_cases h5:e.k=5
 ·rw[if_pos h5]
  obtain⟨x,hx⟩:=one 5 h5 (by simp)
  have f:=fld x hx
  rw[h5]at f ⊢
  have:rV e.kids=x.ty:=by rw[hx];rfl
  rw[this]
  refine gh (sf:=rS) rfl rfl rfl _ (JE _) ?_
  generalize x5 c.H x.ty e.nm=o at *
  generalize aT e.kids=kv at *
  cases o with
  |none=>
   simp only[qF]at f
   simp[-au,-ag,rS,f,dA,g9,qF,af,AV.view]
  |some x=>
   simp only[qF]at f
   simp[-au,-ag,rS,f,dA,g9,qF,af,AV.view]
 rw[if_neg h5]
 by_cases h6:e.k=6
 ·rw[if_pos h6]
  obtain⟨x,y,hx⟩:=two h1 h2 h3 h4 h5 (by omega) (by omega) (by omega) (by omega) z6 (by omega) (by omega)
  have a1:rV e.kids=x.ty:=by rw[hx];rfl
  have a2:BI e.kids=y.ty:=by rw[hx];rfl
  have wx:=hw x (by rw[hx];exact List.mem_cons_self)
  rw[show E.rows e.kids=E.rows [x,y] from by rw[hx]]at eY
  rw[a1,a2,h6]
  simp only[E.rows,E.aE]at eY
  generalize aT e.kids=kv at *
  have rE:IntKind.i64.wrap (x.ty.d-1)=x.ty.d-1:=by
   have:=wx.1;have:=wx.2.1
   rw[wrap64]<;>omega
  refine gh (sf:=rS) rfl rfl rfl _ (kI _ _) ?_
  by_cases q:0<x.ty.d
  ·simp[-au,-ag,rS,bH,hz,dA,g9,eY,q,eN,dI,rE,aB,az,af,AV.view]
  ·simp[-au,-ag,rS,bH,hz,dA,g9,eY,q,rE,aB,az,af,AV.view]
 rw[if_neg h6]
 by_cases h7:e.k=7
 ·rw[if_pos h7]
  rw[h7]at cal ⊢
  refine gh (sf:=rS) rfl rfl rfl _ (JE _) ?_
  generalize BJ c.H e.nm e.kids=o at *
  generalize aT e.kids=kv at *
  cases o with
  |none=>
   simp only[qF]at cal
   simp[-au,-ag,rS,cal,dA,g9,qF,af,AV.view]
  |some x=>
   simp only[qF]at cal
   simp[-au,-ag,rS,cal,dA,g9,qF,af,AV.view]
 rw[if_neg h7]
 by_cases h8:e.k=8
 ·rw[if_pos h8,h8]
  refine gh (sf:=rS) rfl rfl rfl _ (kI _ _) ?_
  unfold VD at ze
  generalize cH c.H.rs e.on e.od=tt at *
  obtain⟨t,b⟩:=tt
  cases b with
  |false=>simp[-au,-ag,rS,vE,ze,aB,aN,bp,az,af,AV.view]
  |true=>
   by_cases q:t.b=3
   ·simp[-au,-ag,rS,vE,ze,q,aB,aN,bp,az,af,AV.view]
   ·simp[-au,-ag,rS,vE,ze,q,aB,aN,bp,az,af,AV.view]
 rw[if_neg h8]
 by_cases h9:e.k=9
 ·rw[if_pos h9]
  obtain⟨x,hx⟩:=one 9 h9 (by simp)
  have a1:rV e.kids=x.ty:=by rw[hx];rfl
  rw[show E.rows e.kids=E.rows [x] from by rw[hx]]at eY
  rw[a1,h9]
  simp only[E.rows,E.aE]at eY
  generalize aT e.kids=kv at *
  have wt:=lN c.H.rs e.on e.od
  have rE:IntKind.i64.wrap ((cH c.H.rs e.on e.od).1.d+1)=(cH c.H.rs e.on e.od).1.d+1:=by
   have:=wt.1;have:=wt.2.1
   rw[wrap64]<;>omega
  refine gh (sf:=rS) rfl rfl rfl _ (kI _ _) ?_
  unfold VD at ze
  generalize cH c.H.rs e.on e.od=tt at *
  obtain⟨t,b⟩:=tt
  cases b with
  |false=>simp[-au,-ag,rS,vE,ze,dA,rE,aB,aN,bp,az,af,AV.view]
  |true=>
   by_cases q:t.d<3
   ·simp[-au,-ag,rS,vE,ze,bH,hz,dA,g9,eY,q,eN,dI,rE,aB,aN,bp,az,af,AV.view]
   ·simp[-au,-ag,rS,vE,ze,dA,q,rE,aB,aN,bp,az,af,AV.view]
 rw[if_neg h9]
 by_cases Cz:e.k=10
 ·rw[if_pos Cz]
  obtain⟨x,hx⟩:=one 10 Cz (by simp)
  have a1:rV e.kids=x.ty:=by rw[hx];rfl
  rw[show E.rows e.kids=E.rows [x] from by rw[hx]]at eY
  rw[a1,Cz]
  simp only[E.rows,E.aE]at eY
  generalize aT e.kids=kv at *
  refine gh (sf:=rS) rfl rfl rfl _ (kI _ _) ?_
  simp[-au,-ag,rS,bH,hz,dA,g9,eY,eN,aB,az,af,AV.view]
 rw[if_neg Cz]
 by_cases JB:e.k=12
 ·rw[if_pos JB]
  obtain⟨x,hx⟩:=one 12 JB (by simp)
  have a1:rV e.kids=x.ty:=by rw[hx];rfl
  rw[show E.rows e.kids=E.rows [x] from by rw[hx]]at eY
  rw[a1,JB]
  simp only[E.rows,E.aE]at eY
  generalize aT e.kids=kv at *
  refine gh (sf:=rS) rfl rfl rfl _ (kI _ _) ?_
  simp[-au,-ag,rS,bH,hz,dA,g9,eY,eN,dI,aB,az,af,AV.view]
 rw[if_neg JB]
 by_cases Ir:e.k=13
 ·rw[if_pos Ir]
  obtain⟨x,hx⟩:=one 13 Ir (by simp)
  have a1:rV e.kids=x.ty:=by rw[hx];rfl
  rw[show E.rows e.kids=E.rows [x] from by rw[hx]]at eY
  rw[a1,Ir]
  simp only[E.rows,E.aE]at eY
  generalize aT e.kids=kv at *
  refine gh (sf:=rS) rfl rfl rfl _ (kI _ _) ?_
  simp[-au,-ag,rS,bH,hz,dA,g9,eY,eN,eT,dB,aB,az,af,AV.view]
 rw[if_neg Ir]
 obtain⟨x,y,hx⟩:=two h1 h2 h3 h4 h5 h7 h8 h9 Cz z6 JB Ir
 have a1:rV e.kids=x.ty:=by rw[hx];rfl
 have a2:BI e.kids=y.ty:=by rw[hx];rfl
 rw[a1,a2]
 have t2:=tw x y hx
 generalize aT e.kids=kv at *
 refine gh (sf:=rS) rfl rfl rfl (.fm [.agg [.int .i64 (CP e.k).b,.int .i64 (CP e.k).r,.int .i64 (CP e.k).d],.int .i64 0,.bool (EF e.k x.ty y.ty).isSome]) ⟨CP e.k,0,rfl,λu r h=>XW h⟩ ?_
 simp[-au,-ag,rS,h1,h2,h3,h4,h5,h6,h7,h8,h9,Cz,z6,JB,Ir,t2,dA,g9,af,AV.view]
end K9
namespace K9
open Ax Go cp V7 j4 k8
theorem iP {c:CK}{a:Int}:(c.fail a).fe≠0:=by
 unfold CK.fail
 split
 ·show (3:Int)≠0;decide
 ·assumption
theorem X1 {c:CK}{a b:Int}:(c.fail a).fail b=c.fail a:=by
 have h:=iP (c:=c) (a:=a)
 generalize c.fail a=d at *
 unfold CK.fail
 rw[if_neg h]
def OkX (c:CK)(e:E):Prop:=match rW c.H c.V e with
 |.ok y=>∀aa,(aW S).call 0 aa 74 [.ptr 0 0 0 0,.agg e.row] [c.obj]=some (.agg y.row,[c.obj])
 |.error a=>∀aa,∃y:E,(aW S).call 0 aa 74 [.ptr 0 0 0 0,.agg e.row] [c.obj]=some (.agg y.row,[(c.fail a).obj])
def JF (c:CK)(e:E):Except Int E:=match rW c.H c.V e with
 |.error x=>.error x
 |.ok y=>if y.ty=T0 then .error y.a else .ok y
def OkW (c:CK)(e:E):Prop:=match JF c e with
 |.ok y=>∀aa,(aW S).call 0 aa 87 [.ptr 0 0 0 0,.agg e.row] [c.obj]=some (.agg y.row,[c.obj])
 |.error a=>∀aa,∃y:E,(aW S).call 0 aa 87 [.ptr 0 0 0 0,.agg e.row] [c.obj]=some (.agg y.row,[(c.fail a).obj])
theorem Hz (c:CK)(e:E)(h:OkX c e):OkW c e:=by
 unfold OkX at h
 unfold OkW JF
 have en:=λwl aa st=>jG wl aa st
 cases hc:rW c.H c.V e with
 |error a=>
  rw[hc]at h
  simp only at h ⊢
  obtain⟨y,e1⟩:=h 1
  refine λaa=>⟨y,?_⟩
  have ef:=λaa=>dF aa (c.fail a) y.a []
  rw[X1]at ef
  rw[E.aE e]at e1 ⊢
  rw[E.aE y]at e1 ⊢
  generalize (c.fail a).obj=o at *
  refine ax (sf:=Vw) rfl rfl rfl ?_
  by_cases q:y.ty=T0
  ·simp[-au,-ag,Vw,e1,en,q,ef,af,AV.view,aB,az]
  ·simp[-au,-ag,Vw,e1,en,d0,q,af,AV.view,aB,az]
 |ok y=>
  rw[hc]at h
  simp only at h ⊢
  by_cases q:y.ty=T0
  ·rw[if_pos q]
   refine λaa=>⟨y,?_⟩
   have ef:=λaa=>dF aa c y.a []
   rw[E.aE e]at h ⊢
   rw[E.aE y]at h ⊢
   generalize (c.fail y.a).obj=o at *
   refine ax (sf:=Vw) rfl rfl rfl ?_
   simp[-au,-ag,Vw,h,en,q,ef,af,AV.view,aB,az]
  ·rw[if_neg q]
   intro aa
   rw[E.aE e]at h ⊢
   rw[E.aE y]at h ⊢
   refine ax (sf:=Vw) rfl rfl rfl ?_
   simp[-au,-ag,Vw,h,en,d0,q,af,AV.view,aB,az]
theorem Uc {c:CK}{e:E}{l:List E}:kG c.H c.V (e::l)=match JF c e with
  |.error x=>.error x
  |.ok y=>match kG c.H c.V l with
   |.error x=>.error x
   |.ok ys=>.ok (y::ys):=by
 conv=>lhs;unfold kG
 unfold JF
 split
 ·simp_all
 ·rename_i y h
  rw[h]
  simp only
  split<;>rfl
def E3 (ys:List E)(r:Except Int (List E)):Except Int (List E):=match r with
 |.error x=>.error x
 |.ok zs=>.ok (ys++zs)
def X2 (rs:List jA)(m:Ax.Mode)(st:aj)(P:AV->aj->Prop)(x:Ex)(s:St):Prop:=∃r,Gy rs m st r x s/\P r.1 r.2
theorem z8 {S:Nat->Option aC}{wl aa f:Nat}{sf:aC}(hf:S f=some sf){args:List AV}(ha:alone sf args=false)(hl:args.length=sf.nparams){st:aj}{P:AV->aj->Prop}
  (h:W S (sf.mode.va st.length wl) (sf.mode.oz st.length aa) sf.results (X2 sf.results sf.mode st P) [.code sf.body] .normal (oA sf args st)) :
  ∃v bK,(aW S).call wl aa f args st=some (v,bK)/\P v bK:=by
 obtain⟨x',s',h1,r,h2,h3⟩:=h
 exact⟨r.1,r.2,ax hf ha hl ⟨x',s',h1,h2⟩,h3⟩
@[simp] theorem aeM {rs:List jA} {st:aj} {P:AV->aj->Prop} {v:AV} {s:St}:X2 rs Ax.Mode.lq st P (.ret v) s↔v.an=true/\P v (s.st.take st.length):=by
 simp only[X2,Gz,Ax.Mode.fin]
 constructor
 ·rintro⟨r,h1,h2⟩
  split at h1
  ·rename_i hp
   cases h1
   exact⟨hp,h2⟩
  ·cases h1
 ·rintro⟨h1,h2⟩
  exact⟨(v,s.st.take st.length),by rw[if_pos h1],h2⟩
@[simp] theorem aeN {rs:List jA} {st:aj} {P:AV->aj->Prop} {s:St}:X2 rs Ax.Mode.lq st P .normal s↔∃v,u9 s rs=some v/\v.an=true/\P v (s.st.take st.length):=by
 simp only[X2,Ow,Ax.Mode.fin]
 constructor
 ·rintro⟨r,⟨v,h0,h1⟩,h2⟩
  split at h1
  ·rename_i hp
   cases h1
   exact⟨v,h0,hp,h2⟩
  ·cases h1
 ·rintro⟨v,h0,h1,h2⟩
  exact⟨(v,s.st.take st.length),⟨v,h0,by rw[if_pos h1]⟩,h2⟩
theorem HA {c:CK}{l:List E}{ys:List E}{k:Nat}(h:k<l.length):E3 ys (kG c.H c.V (l.drop k))=match JF c l[k] with
  |.error x=>.error x
  |.ok y=>E3 (ys++[y]) (kG c.H c.V (l.drop (k+1))):=by
 rw[List.drop_eq_getElem_cons h,Uc]
 split
 ·rfl
 ·split
  ·rename_i h1;rw[h1];rfl
  ·rename_i h1;rw[h1];simp[E3]
theorem j9 (c:CK)(l:List E)(hf:c.fe=0)(hn:l.length<1000000000)(hl:∀e∈l,OkX c e):match kG c.H c.V l with
  |.ok ys=>∀aa,(aW S).call 0 aa 75 [.ptr 0 0 0 0,aT l] [c.obj]=some (b8 11 (E.rows ys),[c.obj])
  |.error a=>∀aa,∃v,aG v=true/\(aW S).call 0 aa 75 [.ptr 0 0 0 0,aT l] [c.obj]=some (v,[(c.fail a).obj]):=by
 have hz:cI 11 (aT l)=true:=qf
 have dA:aG (aT l)=true:=bg
 have g9:(aT l).view=aT l:=bz
 have eY:aP (aT l)=E.rows l:=aR
 have lg:=λaa=>cu aa c []
 rw[decide_eq_true hf]at lg
 have nc:∀(ys:List E) (y:E),ys.length<1000000000->uC 11 120 (b8 11 (E.rows ys)) [y.row]=some (b8 11 (E.rows (ys++[y]))):=λys y h=>by
  rw[eU (by simp[fits,E.aE]) (by simp[room];omega)]
  simp[gC]
 cases hR:kG c.H c.V l with
 |ok zs=>
  intro aa
  refine ax (sf:=s75) rfl rfl rfl ?_
  generalize aT l=lv at *
  simp[-au,-ag,s75,dA,g9,eY]
  refine bC Jl.eq_1 (λx:Nat×List E×List AV=>⟨[(0,.val (.ptr 0 0 0 0)),(5,.val (b8 11 (E.rows x.2.1))),(8,.val lv),(9,.val (.int .i64 l.length)),(10,.val (.int .i64 x.1))],[x.2.2],[c.obj]⟩)
   (λx=>x.1<=l.length/\x.2.1.length=x.1/\E3 x.2.1 (kG c.H c.V (l.drop x.1))=.ok zs) (λx=>l.length-x.1) (0,[],[]) rfl ⟨by simp,rfl,by simp[E3,hR]⟩ ?_
  rintro⟨k,ys,b⟩ ⟨hk,hy,hp⟩ ih
  simp only at hk hy hp ih
  by_cases aZ:k<l.length
  ·have hw:IntKind.i64.wrap ((k:Int)+1)=((k+1:Nat):Int):=by rw[wrap64]<;>omega
   have hv:=Hz c l[k] (hl _ (List.getElem_mem aZ))
   unfold OkW at hv
   rw[HA aZ]at hp
   have gE:=B0 aZ
   have rY:=λh2=>vF aZ h2
   cases hx:JF c l[k] with
   |error a=>rw[hx]at hp;cases hp
   |ok y=>
    rw[hx]at hp hv
    simp only at hp hv
    have ap:=nc ys y (by omega)
    have ey:=λb=>ih (k+1,ys++[y],b) ⟨by simp only;omega,by simp[hy],hp⟩ (by simp only;omega)
    simp only at ey
    generalize b8 11 (E.rows (ys++[y]))=R at *
    rw[E.aE l[k]]at hv gE
    simp only[E.aE l[k]]at rY
    rw[E.aE y]at hv ap
    generalize l[k]=x at *
    simp[-au,-ag,bH,aZ,hw,hz,eY,rY,lg,hv,ap,af,AV.view]
    exact ey _
  ·have iK:k=l.length:=by omega
   have:ys=zs:=by
    rw[iK,List.drop_length]at hp
    simpa [kG,E3] using hp
   subst this
   simp[-au,-ag,aZ]
 |error a=>
  intro aa
  have FD:=iP (c:=c) (a:=a)
  have jx:=λaa=>cu aa (c.fail a) []
  rw[decide_eq_false FD]at jx
  obtain⟨v,bK,h1,h2,h3⟩:∃v bK,(aW S).call 0 aa 75 [.ptr 0 0 0 0,aT l] [c.obj]=some (v,bK)/\aG v=true/\bK=[(c.fail a).obj]:=by
   refine z8 (sf:=s75) rfl rfl rfl ?_
   generalize aT l=lv at *
   simp[-au,-ag,s75,dA,g9,eY]
   refine bC Jl.eq_1 (λx:Nat×List E×CK×List AV=>⟨[(0,.val (.ptr 0 0 0 0)),(5,.val (b8 11 (E.rows x.2.1))),(8,.val lv),(9,.val (.int .i64 l.length)),(10,.val (.int .i64 x.1))],[x.2.2.2],[x.2.2.1.obj]⟩)
    (λx=>x.1<=l.length/\x.2.1.length=x.1/\(x.2.2.1=c/\E3 x.2.1 (kG c.H c.V (l.drop x.1))=.error a\/x.2.2.1=c.fail a)) (λx=>l.length-x.1) (0,[],c,[]) rfl ⟨by simp,rfl,.inl ⟨rfl,by simp[E3,hR]⟩⟩ ?_
   rintro⟨k,ys,d,b⟩ ⟨hk,hy,hp⟩ ih
   simp only at hk hy hp ih
   by_cases aZ:k<l.length
   ·have hw:IntKind.i64.wrap ((k:Int)+1)=((k+1:Nat):Int):=by rw[wrap64]<;>omega
    have gE:=B0 aZ
    have rY:=λh2=>vF aZ h2
    rcases hp with⟨hd,hp⟩|hd
    ·subst hd
     have hv:=Hz d l[k] (hl _ (List.getElem_mem aZ))
     unfold OkW at hv
     rw[HA aZ]at hp
     cases hx:JF d l[k] with
     |error a'=>
      rw[hx]at hp hv
      simp only at hp hv
      cases hp
      obtain⟨y,hv⟩:=hv 1
      have ap:=nc ys y (by omega)
      have ey:=λb=>ih (k+1,ys++[y],d.fail a,b) ⟨by simp only;omega,by simp[hy],.inr rfl⟩ (by simp only;omega)
      simp only at ey
      generalize b8 11 (E.rows (ys++[y]))=R at *
      rw[E.aE l[k]]at hv gE
      simp only[E.aE l[k]]at rY
      rw[E.aE y]at hv ap
      generalize l[k]=x at *
      simp[-au,-ag,bH,aZ,hw,hz,eY,rY,lg,hv,ap,af,AV.view]
      exact ey _
     |ok y=>
      rw[hx]at hp hv
      simp only at hp hv
      have ap:=nc ys y (by omega)
      have ey:=λb=>ih (k+1,ys++[y],d,b) ⟨by simp only;omega,by simp[hy],.inl ⟨rfl,hp⟩⟩ (by simp only;omega)
      simp only at ey
      generalize b8 11 (E.rows (ys++[y]))=R at *
      rw[E.aE l[k]]at hv gE
      simp only[E.aE l[k]]at rY
      rw[E.aE y]at hv ap
      generalize l[k]=x at *
      simp[-au,-ag,bH,aZ,hw,hz,eY,rY,lg,hv,ap,af,AV.view]
      exact ey _
    ·subst hd
     simp only[E.aE l[k]]at rY
     rw[E.aE l[k]]at gE
     generalize l[k]=x at *
     simp[-au,-ag,bH,aZ,hz,eY,rY,jx,af,AV.view]
   ·have iK:k=l.length:=by omega
    rcases hp with⟨hd,hp⟩|hd
    ·rw[iK,List.drop_length]at hp
     simp[kG,E3]at hp
    ·subst hd
     simp[-au,-ag,aZ]
  rw[h3]at h1
  exact⟨v,h2,h1⟩
end K9
namespace K9
open Ax Go cp V7 j4 k8
structure Way (c:CK):Prop where
 s:Small c
 H:c.H.ok
 V:∀f∈c.V,WT c.H.rs.length f.ty
def E0:E:=.mk 0 0 [] [] 0 [] 0 T0 0
theorem gx (c:CK)(hf:c.fe=0)(hw:Way c)(e:E):E.sz e<1000000000->OkX c e:=by
 induction e using E.ind with
 |_ e ih=>
  intro dL
  have mq:=E.rz e
  have iK:=E.eW e.kids
  have cw:=j9 c e.kids hf (by omega) λx hx=>ih x hx (by have:=E.iO hx;omega)
  have CQ:=λwl aa st=>Ql wl aa e st
  have DF:=λwl aa st=>Ua wl aa e st
  have z9:=λaa=>dF aa c e.a []
  have lg:=λaa=>cu aa c []
  rw[decide_eq_true hf]at lg
  have tH:rW c.H c.V e=if cR e.k e.n e.kids.length then
    match kG c.H c.V e.kids with
    |.error x=>.error x
    |.ok ks=>match mD c.H c.V e.k e.nm e.on e.od ks with
     |none=>.error e.a
     |some (t,r)=>.ok (.mk e.k (jV e.k e.n) (fz e.k e.nm) (fM e.k e.on) (fN e.k e.od) ks e.a t r)
    else .error e.a:=by
   obtain⟨k,n,nm,on,od,kids,a,ty,ref⟩:=e
   conv=>lhs;unfold rW
   rfl
  unfold OkX
  rw[tH]
  have NF:E0.row=[.int .i64 0,.int .i64 0,.str [],.str [],.int .i64 0,.U,.int .i64 0,.int .i64 0,.int .i64 0,.int .i64 0,.int .i64 0]:=by simp[E0,E.row,E.rows]
  have Zi:aG (aT e.kids)=true:=bg
  cases hk:cR e.k e.n e.kids.length with
  |false=>
   simp only[Bool.false_eq_true,if_false]
   intro aa
   refine⟨E0,?_⟩
   rw[hk]at CQ
   rw[NF]
   rw[E.aE e]at CQ ⊢
   generalize (c.fail e.a).obj=o at *
   refine ax (sf:=TC) rfl rfl rfl ?_
   simp[-au,-ag,TC,CQ,z9,af,AV.view,AV.an,AV.ah]
  |true=>
   simp only[if_true]
   rw[hk]at CQ
   cases hv:kG c.H c.V e.kids with
   |error a=>
    rw[hv]at cw
    simp only at cw ⊢
    intro aa
    refine⟨E0,?_⟩
    obtain⟨v,dA,ev⟩:=cw 1
    have CC:=bu dA
    have Mx:=cm dA
    have jx:=λaa=>cu aa (c.fail a) []
    rw[decide_eq_false iP]at jx
    rw[NF]
    rw[E.aE e]at CQ DF ⊢
    generalize (c.fail a).obj=o at *
    refine ax (sf:=TC) rfl rfl rfl ?_
    simp[-au,-ag,TC,CQ,DF,ev,dA,jx,af,AV.view,AV.an,AV.ah]
   |ok ks=>
    rw[hv]at cw
    simp only at cw ⊢
    obtain⟨X,hX⟩:∃X:E,X=.mk e.k (jV e.k e.n) (fz e.k e.nm) (fM e.k e.on) (fN e.k e.od) ks e.a T0 0:=⟨_,rfl⟩
    have hXr:X.row=[.int .i64 e.k,.int .i64 (jV e.k e.n),.str (fz e.k e.nm),.str (fM e.k e.on),.int .i64 (fN e.k e.od),aT ks,.int .i64 e.a,.int .i64 0,.int .i64 0,.int .i64 0,.int .i64 0]:=by rw[hX];simp[E.row,aT]
    have Ze:cR X.k X.n X.kids.length=true:=by
     rw[hX]
     simp only[E.k,E.n,E.kids]
     rw[ud hv]
     exact Ju hk
    have hwt:=pS hv λx _ y hy=>XA hw.H hw.V x y hy
    obtain⟨tv,⟨t,z,rfl,htr⟩,VE⟩:=wR 1 c X hw.s (by rw[hX];simp only[E.kids];rw[ud hv];omega) Ze hw.H.rs (by rw[hX];exact hwt)
    have aht:mD c.H c.V X.k X.nm X.on X.od X.kids=mD c.H c.V e.k e.nm e.on e.od ks:=by rw[hX];exact P1
    rw[aht]at htr VE
    rw[hXr]at VE
    have dA:aG (b8 11 (E.rows ks))=true:=cV
    have Qi:(b8 11 (E.rows ks)).view=aT ks:=rfl
    have hkc:aG (aT ks)=true:=bg
    generalize b8 11 (E.rows ks)=mv at *
    have CC:=bu dA
    have Mx:=cm dA
    cases hT:mD c.H c.V e.k e.nm e.on e.od ks with
    |none=>
     simp only
     intro aa
     refine⟨.mk e.k (jV e.k e.n) (fz e.k e.nm) (fM e.k e.on) (fN e.k e.od) ks e.a t z,?_⟩
     rw[hT]at VE
     simp only[E.row,Option.isSome_none]at VE ⊢
     rw[E.aE e]at CQ DF ⊢
     have hq:aA 11 (E.rows ks)=aT ks:=rfl
     rw[hq]
     generalize aT ks=kv at *
     generalize (c.fail e.a).obj=o at *
     refine ax (sf:=TC) rfl rfl rfl ?_
     simp[-au,-ag,TC,CQ,DF,cw,Qi,dA,hkc,lg,VE,z9,af,AV.view,AV.an,AV.ah]
    |some y=>
     obtain⟨u,r⟩:=y
     obtain⟨h1,h2⟩:=htr u r hT
     subst h1 h2
     simp only
     intro aa
     rw[hT]at VE
     simp only[E.row,Option.isSome_some]at VE ⊢
     rw[E.aE e]at CQ DF ⊢
     have hq:aA 11 (E.rows ks)=aT ks:=rfl
     rw[hq]
     generalize aT ks=kv at *
     refine ax (sf:=TC) rfl rfl rfl ?_
     simp[-au,-ag,TC,CQ,DF,cw,Qi,dA,hkc,lg,VE,af,AV.view,AV.an,AV.ah]
end K9
