/-
  The type checker's small functions.
-/
import Derived.Test.YtachcambnjecnaaCode2
import Derived.Test.YtachcambnjecnaaP

set_option maxRecDepth 100000
set_option maxHeartbeats 8000000
namespace K9
open Ax Go cz V7 kL lV
def gT(l:List (List UInt8)):List (List AV):=l.map λs=>[.str s]
structure CK where
 H:Hd
 main:Int
 sg:Sg
 V:List Vd
 fe:Int
 fa:Int
def CK.bC(c:CK):fL:=.rows 0 14 [[aB 2 (c.H.cF.map iF),cw c.H.globals,aB 6 (c.H.sigs.map Sg.row),.int .i64 c.main,cD 1 (gT c.H.rs),.str c.sg.nm,cw c.sg.ps,.bool c.sg.bO,.int .i64 c.sg.br.b,.int .i64 c.sg.br.r,.int .i64 c.sg.br.d,cD 4 (c.V.map Vd.row),.int .i64 c.fe,.int .i64 c.fa]]
def CK.fail(c:CK)(a:Int):CK:=if c.fe=0 then { c with fe:=3,fa:=a } else c
@[simp]theorem jz{l:List Vd}:aJ (cw l)=true:=bp
@[simp]theorem jT{l:List Vd}:(cw l).view=cw l:=bq
@[simp]theorem abJ{l:List Vd}:aZ (cw l)=l.map Vd.row:=aT
@[simp]theorem abK{l:List E}:(E.rows l).length=l.length:=by simp[iu]
@[simp]theorem Zq{l:List Sm}:(Sm.rows l).length=l.length:=by simp[gH]
theorem jt{sz:Nat}{r:List (List AV)}(h:bU sz r=true):dc sz (aB sz r)=true:=by
 cases r with
 |nil=>rfl
 |cons a r=>simp[dc,h]
@[simp]theorem abL{l:List Vd}:dc 4 (cw l)=true:=jt (by simp[bU,Vd.row])
@[simp]theorem qX{l:List E}:dc 11 (aB 11 (E.rows l))=true:=jt (by simp[bU,iu,E.aG])
@[simp]theorem F6{l:List Sm}:dc 9 (aB 9 (Sm.rows l))=true:=jt (by simp[bU,gH,Sm.aG])
theorem ajf{wl aa:Nat}{c:CK}{r:aj}{bx:aU}:aL wl aa (.load false 1 false) [.val (.ptr 0 0 0 12)] (c.bC::r) bx=some (.val (.int .i64 c.fe),c.bC::r,bx):=by
 simp[CK.bC,cut,AV.view]
theorem wT{wl aa:Nat}{c:CK}{r:aj}{bx:aU}:aL wl aa (.load false 1 false) [.val (.ptr 0 0 0 4)] (c.bC::r) bx=some (.val (aB 1 (gT c.H.rs)),c.bC::r,bx):=by
 simp[CK.bC,cut,aB]
theorem ael{wl aa:Nat}{c:CK}{r:aj}{bx:aU}:aL wl aa (.load false 1 false) [.val (.ptr 0 0 0 0)] (c.bC::r) bx=some (.val (aB 2 (c.H.cF.map iF)),c.bC::r,bx):=by
 simp[CK.bC,cut]
theorem aem{wl aa:Nat}{c:CK}{r:aj}{bx:aU}:aL wl aa (.load false 1 false) [.val (.ptr 0 0 0 1)] (c.bC::r) bx=some (.val (cw c.H.globals),c.bC::r,bx):=by
 simp[CK.bC,cut]
theorem aen{wl aa:Nat}{c:CK}{r:aj}{bx:aU}:aL wl aa (.load false 1 false) [.val (.ptr 0 0 0 2)] (c.bC::r) bx=some (.val (aB 6 (c.H.sigs.map Sg.row)),c.bC::r,bx):=by
 simp[CK.bC,cut]
theorem aeo{wl aa:Nat}{c:CK}{r:aj}{bx:aU}:aL wl aa (.load false 1 false) [.val (.ptr 0 0 0 7)] (c.bC::r) bx=some (.val (.bool c.sg.bO),c.bC::r,bx):=by
 simp[CK.bC,cut,AV.view]
theorem aep{wl aa:Nat}{c:CK}{r:aj}{bx:aU}:aL wl aa (.load true 3 false) [.val (.ptr 0 0 0 8)] (c.bC::r) bx=some (.val (.agg [.int .i64 c.sg.br.b,.int .i64 c.sg.br.r,.int .i64 c.sg.br.d]),c.bC::r,bx):=by
 simp[CK.bC,cut,AV.view]
theorem IF{wl aa:Nat}{c:CK}{r:aj}{bx:aU}:aL wl aa (.load false 1 false) [.val (.ptr 0 0 0 11)] (c.bC::r) bx=some (.val (cw c.V),c.bC::r,bx):=by
 simp[CK.bC,cut,cw,aB]
theorem aeq{aa:Nat}{c:CK}{a:Int}{r:aj}{bx:aU}:aL 0 aa (.store 2) [.val (.ptr 0 0 0 12),.val (.agg [.int .i64 3,.int .i64 a])] (c.bC::r) bx=some (.none,({ c with fe:=3,fa:=a }:CK).bC::r,bx):=by
 simp[CK.bC,bh,AV.ah,AV.an,af]
theorem j7(wl aa:Nat)(st:aj):(bg S).call wl aa 71 [] st=some (.agg [.int .i64 0,.int .i64 0,.int .i64 0],st):=by
 refine b8 (sf:=s71) rfl rfl (by simp) rfl (by simp[AV.an,AV.ah]) ?_
 simp[s71]
theorem CS(wl aa:Nat)(st:aj):(bg S).call wl aa 90 [] st=some (.agg [.int .i64 2,.int .i64 0,.int .i64 0],st):=by
 refine b8 (sf:=s90) rfl rfl (by simp) rfl (by simp[AV.an,AV.ah]) ?_
 simp[s90]
theorem zd(wl aa:Nat)(st:aj):(bg S).call wl aa 91 [] st=some (.agg [.int .i64 1,.int .i64 0,.int .i64 0],st):=by
 refine b8 (sf:=s91) rfl rfl (by simp) rfl (by simp[AV.an,AV.ah]) ?_
 simp[s91]
theorem cG(aa:Nat)(c:CK)(r:aj):(bg S).call 0 aa 25 [.ptr 0 0 0 0] (c.bC::r)=some (.bool (!decide (c.fe=0)),c.bC::r):=by
 refine ax (sf:=s25) rfl rfl rfl ?_
 simp[-au,-ag,s25,ajf]
theorem eu(aa:Nat)(c:CK)(a:Int)(r:aj):(bg S).call 0 aa 73 [.ptr 0 0 0 0,.int .i64 a] (c.bC::r)=some (.fK [],(c.fail a).bC::r):=by
 have e:=λaa=>cG aa c r
 refine ax (sf:=s73) rfl rfl rfl ?_
 unfold CK.fail
 by_cases h:c.fe=0
 ·rw[if_pos h]
  simp[-au,-ag,s73,e,h,aeq]
 ·rw[if_neg h]
  simp[-au,-ag,s73,e,h]
theorem RD(wl aa:Nat)(e:E)(st:aj):(bg S).call wl aa 84 [.agg e.row] st=some (.bool (dY e.k e.n e.az.length),st):=by
 obtain⟨k,n,nm,on,od,az,a,ty,cN⟩:=e
 refine b8 (sf:=El) rfl rfl (by simp[E.row,AV.ah,AV.an]) rfl (by simp) ?_
 simp only[E.row,E.k,E.n,E.az]
 unfold dY
 have m0:((az.length:Int)=0)=(az.length=0):=by simp
 have m1:((az.length:Int)=1)=(az.length=1):=by apply propext;omega
 have m2:((az.length:Int)=2)=(az.length=2):=by apply propext;omega
 have hl:mV [] .sl (aB 11 (E.rows az))=some az.length:=by simp[mV]
 generalize hv:aB 11 (E.rows az)=v at *
 have v1:aJ v=true:=by rw[<-hv];simp
 have v2:v.view=v:=by rw[<-hv];simp
 have v3:(aZ v).length=az.length:=by rw[<-hv];simp
 generalize az.length=m at *
 by_cases h1:k=1
 ·subst h1;simp[El,v1,v2,v3]
 by_cases h3:k=3
 ·subst h3;simp[El,v1,v2,v3]
 by_cases h4:k=4
 ·subst h4;simp[El,v1,v2,v3]
 by_cases h8:k=8
 ·subst h8;simp[El,v1,v2,v3]
 by_cases AY:k=11
 ·subst AY;simp[El,v1,v2,v3]
 by_cases h2:k=2
 ·subst h2
  by_cases q:m=0
  ·by_cases n0:n=0
   ·simp[El,v1,v2,v3,q,n0]
   ·simp[El,v1,v2,v3,q,n0]
  ·simp[El,v1,v2,v3,q]
 by_cases h7:k=7
 ·subst h7;simp[El,v1]
 by_cases h5:k=5
 ·subst h5;simp[El,v1,v2,v3,m1]
 by_cases h9:k=9
 ·subst h9;simp[El,v1,v2,v3,m1]
 by_cases Bv:k=10
 ·subst Bv;simp[El,v1,v2,v3,m1]
 by_cases KA:k=12
 ·subst KA;simp[El,v1,v2,v3,m1]
 by_cases Jr:k=13
 ·subst Jr;simp[El,v1,v2,v3,m1]
 by_cases h6:k=6
 ·subst h6;simp[El,v1,v2,v3,m2]
 by_cases g1:14<=k
 ·by_cases g2:k<=24
  ·simp[El,v1,v2,v3,h1,h2,h3,h4,h5,h6,h7,h8,h9,Bv,AY,KA,Jr,g1,g2,m2]
  ·simp[El,v1,h1,h2,h3,h4,h5,h6,h7,h8,h9,Bv,AY,KA,Jr,g1,g2]
 ·simp[El,v1,h1,h2,h3,h4,h5,h6,h7,h8,h9,Bv,AY,KA,Jr,g1]
theorem Vy(wl aa:Nat)(e:E)(st:aj):(bg S).call wl aa 85 [.agg e.row] st=some (.agg [.int .i64 e.k,.int .i64 (lR e.k e.n),.str (gx e.k e.nm),.str (g8 e.k e.on),.int .i64 (hJ e.k e.od),.U,.int .i64 e.a,.int .i64 0,.int .i64 0,.int .i64 0,.int .i64 0],st):=by
 obtain⟨k,n,nm,on,od,az,a,ty,cN⟩:=e
 refine b8 (sf:=QV) rfl rfl (by simp[E.row,AV.ah,AV.an]) rfl (by simp[AV.ah,AV.an]) ?_
 simp only[E.row,E.k,E.n,E.nm,E.on,E.od,E.a]
 unfold lR gx g8 hJ
 by_cases h1:k=1
 ·subst h1;simp[QV,af]
 by_cases h2:k=2
 ·subst h2;simp[QV,af]
 by_cases h3:k=3
 ·subst h3;simp[QV,af]
 by_cases h8:k=8
 ·subst h8;simp[QV,af]
 by_cases h9:k=9
 ·subst h9;simp[QV,af]
 by_cases h4:k=4
 ·subst h4;simp[QV,af]
 by_cases h5:k=5
 ·subst h5;simp[QV,af]
 by_cases h7:k=7
 ·subst h7;simp[QV,af]
 simp[QV,af,h1,h2,h3,h4,h5,h7,h8,h9]
end K9
namespace K9
open Ax Go cz V7 kL lV
theorem bP{wl aa:Nat}{agg:Bool}{n sz i k:Nat}{rows:List (List AV)}{st:aj}{bx:aU}:aL wl aa (.load agg n false) [.val (.ox sz rows i k)] st bx=qf st bx ((fY st (.ox sz rows i k) n).bind λcs=>b9 agg (AV.cL cs)):=au
def td(o:Option (Nat×T3)):Int:=match o with|some (k,_)=>(k:Int)|none=>-1
theorem NP{s:List UInt8}{l:List Vd}{k:Nat}(h:k<l.length):ij s k (l.drop k)=if l[k].nm=s then some (k,l[k].ty) else ij s (k+1) (l.drop (k+1)):=by
 rw[List.drop_eq_getElem_cons h];rfl
theorem Zr(aa:Nat)(f:Vd)(s:List UInt8):(bg S).call 0 aa 104 [.agg f.row,.ptr 0 0 0 0] [.rows 0 1 [[.str s]]]=some (.bool (decide (f.nm=s)),[.rows 0 1 [[.str s]]]):=by
 refine ax (sf:=YZ) rfl rfl rfl ?_
 simp[YZ,Vd.row,cut,AV.view]
theorem y9(aa:Nat)(l:List Vd)(s:List UInt8)(hn:l.length<1000000000):(bg S).call 0 aa 103 [cw l,.fn 104 [] [.ptr 0 0 0 0]] [.rows 0 1 [[.str s]]]=some (.int .i64 (td (ij s 0 l)),[.rows 0 1 [[.str s]]]):=by
 have el:=λaa f=>Zr aa f s
 simp only[Vd.row,T3.cells]at el
 refine ax (sf:=YY) rfl rfl rfl ?_
 simp[YY]
 refine bM LW.eq_1 (λq:Nat×Int=>⟨[(0,.val (cw l)),(1,.val (.fn 104 [] [.ptr 0 0 0 0])),(7,.val (.int .i64 l.length)),(8,.val (.int .i64 q.1))],[],[.rows 0 1 [[.str s]]]⟩)
  (λq=>q.1<=l.length/\ij s 0 l=ij s q.1 (l.drop q.1)) (λq=>l.length-q.1) (0,0) (by simp) ⟨by simp,by simp⟩ ?_
 rintro⟨k,bb⟩ ⟨hk,hp⟩ ih
 simp only at hk hp ih
 by_cases bn:k<l.length
 ·have hw:IntKind.i64.wrap ((k:Int)+1)=((k+1:Nat):Int):=by rw[aY]<;>omega
  rw[NP bn]at hp
  have e1:=λaa=>el aa l[k]
  by_cases e:l[k].nm=s
  ·rw[if_pos e]at hp
   rw[hp]
   rw[decide_eq_true e]at e1
   simp[bn,e1,Vd.row,td]
  ·rw[if_neg e]at hp
   rw[decide_eq_false e]at e1
   simp[bn,e1,Vd.row,hw]
   exact ih (k+1,0) ⟨by simp;omega,hp⟩ (by simp;omega)
 ·have jq:k=l.length:=by omega
  have:ij s 0 l=none:=by rw[hp,jq,List.drop_length];rfl
  rw[this]
  simp[bn,td]
theorem x8(wl aa:Nat)(l:List Vd)(s:List UInt8)(st:aj)(hn:l.length<1000000000):(bg S).call wl aa 98 [cw l,.str s] st=some (.int .i64 (td (ij s 0 l)),st):=by
 have e:=λaa=>y9 aa l s hn
 refine b8 (sf:=s98) rfl rfl (by simp[AV.ah]) rfl (by simp) ?_
 simp[s98,e]
theorem qa{s:List UInt8}:∀{l:List Vd}{i k:Nat}{t:T3},ij s i l=some (k,t)->i<=k/\∃h:k-i<l.length,l[k-i].ty=t/\l[k-i].nm=s
 |[],_,_,_,h=>by cases h
 |f::l,i,k,t,h=>by
  unfold ij at h
  split at h
  ·rename_i hs
   cases h
   exact⟨Nat.le_refl _,by simp,by simp,by simpa using hs⟩
  ·obtain⟨h1,h2,h3,h4⟩:=qa h
   refine⟨by omega,by simp only[List.length_cons];omega,?_⟩
   have:k-i=(k-(i+1))+1:=by omega
   simp only[this,List.getElem_cons_succ]
   exact⟨h3,h4⟩
theorem F7{s:List UInt8}{l:List Vd}{k:Nat}{t:T3}(h:ij s 0 l=some (k,t)):∃h:k<l.length,l[k].ty=t:=by
 obtain⟨_,h1,h2,_⟩:=qa h
 exact⟨by simpa using h1,by simpa using h2⟩
structure Ac (c:CK):Prop where
 V:c.V.length<1000000000
 G:c.H.globals.length<1000000000
 S:c.H.sigs.length<1000000000
 R:c.H.rs.length<1000000000
 F:∀s∈c.H.cF,s.2.length<1000000000
 P:∀s∈c.H.sigs,s.ps.length<1000000000
def IG(o:Option (T3×Int)):AV:=match o with
 |some (t,r)=>.fK [.int .i64 r,.agg t.cells,.bool true]
 |none=>.fK [.int .i64 0,.agg T0.cells,.bool false]
theorem Ad(aa:Nat)(c:CK)(s:List UInt8)(r:aj)(hs:Ac c):(bg S).call 0 aa 89 [.ptr 0 0 0 0,.str s] (c.bC::r)=some (IG (yX c.H c.V s),c.bC::r):=by
 have e1:=λwl aa st=>x8 wl aa c.V s st hs.V
 have e2:=λwl aa st=>x8 wl aa c.H.globals s st hs.G
 have en:=λwl aa st=>j7 wl aa st
 have hV:=hs.V
 have hG:=hs.G
 refine ax (sf:=s89) rfl rfl rfl ?_
 unfold yX
 cases h1:ij s 0 c.V with
 |some x=>
  obtain⟨k,t⟩:=x
  obtain⟨hk,ht⟩:=F7 h1
  subst ht
  rw[h1]at e1
  simp only[td]at e1
  have uv:¬((k:Int)<0):=by omega
  simp[-au,-ag,s89,IF,e1,IG,bP,hk,Vd.row,aC,aA,af]
 |none=>
  rw[h1]at e1
  simp only[td]at e1
  cases h2:ij s 0 c.H.globals with
  |some x=>
   obtain⟨k,t⟩:=x
   obtain⟨hk,ht⟩:=F7 h2
   subst ht
   rw[h2]at e2
   simp only[td]at e2
   have uv:¬((k:Int)<0):=by omega
   have hw:IntKind.i64.wrap (-1-(k:Int)) = -1-(k:Int):=by rw[aY]<;>omega
   simp[-au,-ag,s89,IF,aem,e1,e2,hw,IG,bP,hk,Vd.row,aC,aA,af]
  |none=>
   rw[h2]at e2
   simp only[td]at e2
   simp[-au,-ag,s89,IF,aem,e1,e2,en,IG,af]
def rI(o:Option (T3×Int)):AV:=match o with
 |some (t,r)=>.fK [.agg [.int .i64 t.b,.int .i64 t.r,.int .i64 t.d],.int .i64 r,.bool true]
 |none=>.fK [.agg [.int .i64 0,.int .i64 0,.int .i64 0],.int .i64 0,.bool false]
def CT(V:List Vd)(o:Option (Nat×T3)):AV:=match o with|some _=>.fK [.int .i64 0,.bool false]|none=>.fK [.int .i64 V.length,.bool true]
def CK.RE(c:CK)(w:AV):fL:=.rows 0 14 [[aB 2 (c.H.cF.map iF),cw c.H.globals,aB 6 (c.H.sigs.map Sg.row),.int .i64 c.main,cD 1 (gT c.H.rs),.str c.sg.nm,cw c.sg.ps,.bool c.sg.bO,.int .i64 c.sg.br.b,.int .i64 c.sg.br.r,.int .i64 c.sg.br.d,w,.int .i64 c.fe,.int .i64 c.fa]]
theorem Zs{aa:Nat}{c:CK}{bx:aU}:aL 0 aa (.load false 1 true) [.val (.ptr 0 0 0 11)] [c.bC] bx=some (.val (cD 4 (c.V.map Vd.row)),[c.RE (cD 4 (c.V.map Vd.row)).iM],bx):=by
 simp only[CK.bC,CK.RE]
 generalize c.V.map Vd.row=rows
 cases rows with
 |nil=>simp[aL,cD,cut,fY,dR,bh,AV.iM,AV.an,AV.ah,af,b9]
 |cons a l=>simp[aL,cD,cut,fY,dR,bh,AV.iM,AV.an,AV.ah,af,b9]
theorem aer{aa:Nat}{c:CK}{w:AV}{W:List Vd}{bx:aU}:aL 0 aa (.store 1) [.val (.ptr 0 0 0 11),.val (cD 4 (W.map Vd.row))] [c.RE w] bx=some (.none,[({ c with V:=W }:CK).bC],bx):=by
 simp[CK.bC,CK.RE,bh,AV.ah,af]
theorem KB(aa:Nat)(c:CK)(s:List UInt8)(t:T3)(hs:Ac c):(bg S).call 0 aa 88 [.ptr 0 0 0 0,.str s,.agg [.int .i64 t.b,.int .i64 t.r,.int .i64 t.d]] [c.bC] =
  some (CT c.V (ij s 0 c.V),[(match ij s 0 c.V with|some _=>c|none=>{ c with V:=c.V++[(⟨s,t⟩:Vd)] }:CK).bC]):=by
 have e1:=λwl aa st=>x8 wl aa c.V s st hs.V
 have hV:=hs.V
 refine ax (sf:=s88) rfl rfl rfl ?_
 cases h1:ij s 0 c.V with
 |some x=>
  obtain⟨k,u⟩:=x
  rw[h1]at e1
  simp only[td]at e1
  have uv:(0:Int)<=(k:Int):=by omega
  simp[-au,-ag,s88,IF,e1,uv,CT]
 |none=>
  rw[h1]at e1
  simp only[td]at e1
  have oM:=fW (sz:=4) (bytes:=40) (r:=c.V.map Vd.row) (new:=[[.str s,.int .i64 t.b,.int .i64 t.r,.int .i64 t.d]]) (by simp[bU]) (by simp[dQ];omega)
  have Zk:c.V.map Vd.row++[[.str s,.int .i64 t.b,.int .i64 t.r,.int .i64 t.d]]=(c.V++[(⟨s,t⟩:Vd)]).map Vd.row:=by simp[Vd.row]
  rw[Zk]at oM
  have ep:=λaa bx=>aer (aa:=aa) (c:=c) (w:=(cD 4 (c.V.map Vd.row)).iM) (W:=c.V++[(⟨s,t⟩:Vd)]) (bx:=bx)
  have et:=λaa bx=>Zs (aa:=aa) (c:=c) (bx:=bx)
  have ev:=λwl aa bx=>IF (wl:=wl) (aa:=aa) (c:={ c with V:=c.V++[(⟨s,t⟩:Vd)] }) (r:=[]) (bx:=bx)
  simp only at ev
  have hLl:(aZ (cw (c.V++[(⟨s,t⟩:Vd)]))).length=c.V.length+1:=by simp
  have hLs:aJ (cw (c.V++[(⟨s,t⟩:Vd)]))=true:=jz
  generalize cw (c.V++[(⟨s,t⟩:Vd)])=R2 at *
  generalize ({ c with V:=c.V++[(⟨s,t⟩:Vd)] }:CK).bC=XJ at *
  generalize c.RE (cD 4 (c.V.map Vd.row)).iM=ob1 at *
  generalize cD 4 ((c.V++[(⟨s,t⟩:Vd)]).map Vd.row)=R at *
  generalize cD 4 (c.V.map Vd.row)=R0 at *
  have hw:IntKind.i64.wrap (c.V.length:Int)=(c.V.length:Int):=by rw[aY]<;>omega
  simp[-au,-ag,s88,IF,e1,CT,et,ep,ev,oM,hLs,hLl,hw,aC,aA,AV.view]
end K9
namespace K9
open Ax Go cz V7 kL lV
theorem Zt(wl aa:Nat)(l:List (List UInt8))(s:List UInt8)(st:aj)(hn:l.length<1000000000) :
  (bg S).call wl aa 69 [aB 1 (gT l),.str s] st=some (.int .i64 (tr l s),st):=by
 have hz:dc 1 (aB 1 (gT l))=true:=jt (by simp[bU,gT])
 have hl:(gT l).length=l.length:=by simp[gT]
 have hg:∀k (h:k<(gT l).length),(gT l)[k]=[.str (l[k]'(by simpa [gT] using h))]:=λk h=>by simp[gT]
 have Zn:∀k (h:k<l.length),(gT l)[k]?=some [.str l[k]]:=λk h=>by simp[gT,h]
 refine b8 (sf:=s69) rfl rfl (by simp) rfl (by simp) ?_
 simp[s69,hl]
 refine bM Kh.eq_1 (λq:Nat×Int=>⟨[(0,.val (aB 1 (gT l))),(1,.val (.str s)),(7,.val (.int .i64 l.length)),(8,.val (.int .i64 q.1))],[],[]⟩)
  (λq=>q.1<=l.length/\Ie (λx=>decide (x=s)) l q.1) (λq=>l.length-q.1) (0,0) (by simp) ⟨by simp,yV⟩ ?_
 rintro⟨k,bb⟩ ⟨hk,hp⟩ ih
 simp only at hk hp ih
 by_cases bn:k<l.length
 ·have hw:IntKind.i64.wrap ((k:Int)+1)=((k+1:Nat):Int):=by rw[aY]<;>omega
  have g:=Zn k bn
  by_cases e:l[k]=s
  ·have hi:=L1 hp bn e
   simp[bn,hz,hl,hg,e,hi]
  ·have e':¬s=l[k]:=λh=>e h.symm
   simp[bn,hz,hl,hg,e',hw]
   exact ih (k+1,0) ⟨by simp;omega,yW hp bn (by simpa using e)⟩ (by simp;omega)
 ·have jq:k=l.length:=by omega
  have hi:=Ep (jq ▸ hp)
  simp[bn,hi]
def Xe(x:T3×Bool):AV:=.fK [.agg [.int .i64 x.1.b,.int .i64 x.1.r,.int .i64 x.1.d],.bool x.2]
theorem xX(wl aa:Nat)(l:List (List UInt8))(s:List UInt8)(d:Int)(st:aj)(hn:l.length<1000000000) :
  (bg S).call wl aa 70 [aB 1 (gT l),.agg [.str s,.int .i64 d]] st=some (Xe (dh l s d),st):=by
 have hi:=Zt 0 0 l s [] hn
 refine b8 (sf:=Ki) rfl rfl (by simp[AV.ah,AV.an]) rfl (by simp[Xe,AV.an,AV.ah]) ?_
 unfold Xe
 by_cases d0:d<0
 ·have:dh l s d=(T0,false):=if_pos (.inl d0)
  rw[this]
  simp[Ki,d0]
 by_cases d3:3<d
 ·have:dh l s d=(T0,false):=if_pos (.inr d3)
  rw[this]
  simp[Ki,d0,d3]
 have hd:¬(d<0\/3<d):=by omega
 unfold dh
 rw[if_neg hd]
 by_cases i1:s=[105,110,116]
 ·simp[Ki,d0,d3,i1]
 by_cases i2:s=[98,111,111,108]
 ·simp[Ki,d0,d3,i2]
 rw[if_neg i1,if_neg i2]
 by_cases i3:tr l s<0
 ·simp[Ki,d0,d3,i1,i2,hi,i3]
 ·simp[Ki,d0,d3,i1,i2,hi,i3]
theorem Kx(wl aa:Nat)(t:T3)(st:aj):(bg S).call wl aa 28 [.agg [.int .i64 t.b,.int .i64 t.r,.int .i64 t.d]] st=some (.bool (xM t),st):=by
 refine b8 (sf:=YS) rfl rfl (by simp[AV.ah,AV.an]) rfl (by simp) ?_
 unfold xM
 by_cases b:t.b=3
 ·simp[YS,b]
 ·simp[YS,b]
theorem RG(aa:Nat)(c:CK)(e:E)(x:E)(hk:e.az=[x])(hs:Ac c)(hx:x.ty.b=3->0<=x.ty.r/\x.ty.r<c.H.cF.length) :
  (bg S).call 0 aa 95 [.ptr 0 0 0 0,.agg e.row] [c.bC]=some (rI (yY c.H x.ty e.nm),[c.bC]):=by
 have en:=λwl aa st=>j7 wl aa st
 have dg:=E.aG e
 have hz:dc 11 (aW e.az)=true:=qX
 have kT:aZ (aW e.az)=[x.row]:=by rw[hk];simp[aW,E.rows]
 have dV:aJ (aW e.az)=true:=bu
 have iL:(aW e.az).view=aW e.az:=bF
 rw[E.aG x]at kT
 rw[dg]
 generalize aW e.az=kv at *
 have OW:dc 2 (aB 2 (c.H.cF.map iF))=true:=jt (by simp[bU,iF])
 refine ax (sf:=s95) rfl rfl rfl ?_
 unfold yY
 by_cases hb:x.ty.b=3
 ·by_cases hd:x.ty.d=0
  ·rw[if_pos ⟨hb,hd⟩]
   obtain⟨h0,h1⟩:=hx hb
   obtain⟨k,G9⟩:∃k:Nat,x.ty.r=k:=⟨x.ty.r.toNat,by omega⟩
   have jq:k<c.H.cF.length:=by omega
   have hg:c.H.cF[k]?=some c.H.cF[k]:=List.getElem?_eq_getElem jq
   have hF:=hs.F _ (List.getElem_mem jq)
   generalize hsh:c.H.cF[k]=sh at *
   have e1:=λwl aa st=>x8 wl aa sh.2 e.nm st hF
   rw[G9,Int.toNat_natCast,hg]
   simp only
   rw[G9]at kT
   have hgm:∀h:k<(c.H.cF.map iF).length,(c.H.cF.map iF)[k]=[.str sh.1,cw sh.2]:=λh=>by simp[hsh,iF]
   cases h2:ij e.nm 0 sh.2 with
   |some y=>
    obtain⟨j,u⟩:=y
    obtain⟨hj,hu⟩:=F7 h2
    subst hu
    rw[h2]at e1
    simp only[td]at e1
    have hj0:¬((j:Int)<0):=by omega
    simp[-au,-ag,s95,bP,ael,hz,dV,iL,kT,hb,hd,OW,jq,hgm,e1,hj0,hj,Vd.row,rI,aC,aA,af,AV.view]
   |none=>
    rw[h2]at e1
    simp only[td]at e1
    simp[-au,-ag,s95,bP,ael,hz,dV,iL,kT,hb,hd,OW,jq,hgm,e1,en,rI,aC,aA,af,AV.view]
  ·rw[if_neg (λh=>hd h.2)]
   simp[-au,-ag,s95,bP,hz,dV,iL,kT,hb,hd,en,rI,af,AV.view]
 ·rw[if_neg (λh=>hb h.1)]
  simp[-au,-ag,s95,bP,hz,dV,iL,kT,hb,en,rI,af,AV.view]
theorem ajg(t u:T3):(t=u)=(t.b=u.b/\t.r=u.r/\t.d=u.d):=by
 obtain⟨a,b,c⟩:=t
 obtain⟨d,e,f⟩:=u
 simp
theorem dU(t u:T3):(decide (t.b=u.b)&&(decide (t.r=u.r)&&decide (t.d=u.d)))=decide (t=u):=by
 rw[Bool.eq_iff_iff]
 simp only[Bool.and_eq_true,decide_eq_true_eq]
 exact(iff_of_eq (ajg t u)).symm
theorem dI(t:T3):(decide (t.b=1)&&(decide (t.r=0)&&decide (t.d=0)))=decide (t=tI):=dU t tI
theorem dB(t:T3):(decide (t.b=2)&&(decide (t.r=0)&&decide (t.d=0)))=decide (t=tB):=dU t tB
theorem d0(t:T3):(decide (t.b=0)&&(decide (t.r=0)&&decide (t.d=0)))=decide (t=T0):=dU t T0
def DJ(k:Int):T3:=if k=14\/k=15\/k=16\/k=17\/k=18 then tI else tB
theorem iY{b:Bool}{t:T3}:(GK b t).isSome=b:=by cases b<;>rfl
theorem F8{b:Bool}{t u:T3}{r:Int}(h:GK b t=some (u,r)):t=u/\0=r:=by cases b<;>cases h;exact⟨rfl,rfl⟩
theorem Zu{k:Int}{a b u:T3}{r:Int}(h:FJ k a b=some (u,r)):DJ k=u/\0=r:=by
 unfold FJ at h
 unfold DJ
 split at h
 ·rename_i c;rw[if_pos c];exact F8 h
 ·rename_i c
  rw[if_neg c]
  split at h
  ·exact F8 h
  ·split at h<;>exact F8 h
theorem Zv(aa:Nat)(c:CK)(e x y:E)(hk:e.az=[x,y]):(bg S).call 0 aa 97 [.ptr 0 0 0 0,.agg e.row] [c.bC] =
  some (.fK [.agg [.int .i64 (DJ e.k).b,.int .i64 (DJ e.k).r,.int .i64 (DJ e.k).d],.int .i64 0,.bool (FJ e.k x.ty y.ty).isSome],[c.bC]):=by
 have et:=λwl aa st=>CS wl aa st
 have en:=λwl aa st=>zd wl aa st
 have hz:dc 11 (aW e.az)=true:=qX
 have kT:aZ (aW e.az)=[x.row,y.row]:=by rw[hk];simp[aW,E.rows]
 have dV:aJ (aW e.az)=true:=bu
 have iL:(aW e.az).view=aW e.az:=bF
 rw[E.aG x,E.aG y]at kT
 rw[E.aG e]
 generalize aW e.az=kv at *
 refine ax (sf:=Ox) rfl rfl rfl ?_
 unfold FJ DJ
 generalize e.k=k
 have kJ:∀(p:Bool) (t:T3),(GK p t).isSome=p:=λp t=>iY
 by_cases h1:k=14
 ·subst h1;by_cases q:x.ty=tI<;>simp[-au,-ag,Ox,bP,hz,dV,iL,kT,en,dI,q,kJ,aC,aQ,bw,aA,af,AV.view]
 by_cases h2:k=15
 ·subst h2;by_cases q:x.ty=tI<;>simp[-au,-ag,Ox,bP,hz,dV,iL,kT,en,dI,q,kJ,aC,aQ,bw,aA,af,AV.view]
 by_cases h3:k=16
 ·subst h3;by_cases q:x.ty=tI<;>simp[-au,-ag,Ox,bP,hz,dV,iL,kT,en,dI,q,kJ,aC,aQ,bw,aA,af,AV.view]
 by_cases h4:k=17
 ·subst h4;by_cases q:x.ty=tI<;>simp[-au,-ag,Ox,bP,hz,dV,iL,kT,en,dI,q,kJ,aC,aQ,bw,aA,af,AV.view]
 by_cases h5:k=18
 ·subst h5;by_cases q:x.ty=tI<;>simp[-au,-ag,Ox,bP,hz,dV,iL,kT,en,dI,q,kJ,aC,aQ,bw,aA,af,AV.view]
 by_cases h6:k=19
 ·subst h6;by_cases q:x.ty=tI<;>simp[-au,-ag,Ox,bP,hz,dV,iL,kT,en,et,dI,q,kJ,aC,aQ,bw,aA,af,AV.view]
 by_cases h7:k=20
 ·subst h7;by_cases q:x.ty=tI<;>simp[-au,-ag,Ox,bP,hz,dV,iL,kT,en,et,dI,q,kJ,aC,aQ,bw,aA,af,AV.view]
 by_cases h8:k=21
 ·subst h8;simp[-au,-ag,Ox,bP,hz,dV,iL,kT,et,dU,kJ,aC,aQ,bw,aA,af,AV.view]
 by_cases h9:k=22
 ·subst h9;simp[-au,-ag,Ox,bP,hz,dV,iL,kT,et,dU,kJ,aC,aQ,bw,aA,af,AV.view]
 by_cases q:x.ty=tB<;>simp[-au,-ag,Ox,bP,hz,dV,iL,kT,et,dB,q,kJ,h1,h2,h3,h4,h5,h6,h7,h8,h9,aC,aQ,bw,aA,af,AV.view]
def RH(o:Option (Nat×Sg)):Int:=match o with|some (k,_)=>(k:Int)|none=>-1
theorem RI{s:List UInt8}{l:List Sg}{k:Nat}(h:k<l.length):oB s k (l.drop k)=if l[k].nm=s then some (k,l[k]) else oB s (k+1) (l.drop (k+1)):=by
 rw[List.drop_eq_getElem_cons h];rfl
theorem Mf{s:List UInt8}:∀{l:List Sg}{i k:Nat}{t:Sg},oB s i l=some (k,t)->i<=k/\∃h:k-i<l.length,l[k-i]=t
 |[],_,_,_,h=>by cases h
 |f::l,i,k,t,h=>by
  unfold oB at h
  split at h
  ·cases h
   exact⟨Nat.le_refl _,by simp,by simp⟩
  ·obtain⟨h1,h2,h3⟩:=Mf h
   refine⟨by omega,by simp only[List.length_cons];omega,?_⟩
   have:k-i=(k-(i+1))+1:=by omega
   simp only[this,List.getElem_cons_succ]
   exact h3
theorem Zw{s:List UInt8}{l:List Sg}{k:Nat}{t:Sg}(h:oB s 0 l=some (k,t)):∃h:k<l.length,l[k]=t:=by
 obtain⟨_,h1,h2⟩:=Mf h
 exact⟨by simpa using h1,by simpa using h2⟩
theorem Vz(aa:Nat)(g:Sg)(e:E)(o:fL):(bg S).call 0 aa 102 [.agg g.row,.ptr 1 0 0 0] [o,.rows 0 11 [e.row]]=some (.bool (decide (g.nm=e.nm)),[o,.rows 0 11 [e.row]]):=by
 refine ax (sf:=YX) rfl rfl rfl ?_
 rw[E.aG]
 simp[YX,Sg.row,cut,AV.view]
theorem NQ(aa:Nat)(l:List Sg)(e:E)(o:fL)(hn:l.length<1000000000):(bg S).call 0 aa 39 [aB 6 (l.map Sg.row),.fn 102 [] [.ptr 1 0 0 0]] [o,.rows 0 11 [e.row]]=some (.int .i64 (RH (oB e.nm 0 l)),[o,.rows 0 11 [e.row]]):=by
 have el:=λaa f=>Vz aa f e o
 simp only[Sg.row]at el
 have hz:dc 6 (aB 6 (l.map Sg.row))=true:=jt (by simp[bU,Sg.row])
 generalize fL.rows 0 11 [e.row]=o2 at *
 refine ax (sf:=s39) rfl rfl rfl ?_
 simp[s39]
 refine bM Kf.eq_1 (λq:Nat×Int=>⟨[(0,.val (aB 6 (l.map Sg.row))),(1,.val (.fn 102 [] [.ptr 1 0 0 0])),(7,.val (.int .i64 l.length)),(8,.val (.int .i64 q.1))],[],[o,o2]⟩)
  (λq=>q.1<=l.length/\oB e.nm 0 l=oB e.nm q.1 (l.drop q.1)) (λq=>l.length-q.1) (0,0) (by simp) ⟨by simp,by simp⟩ ?_
 rintro⟨k,bb⟩ ⟨hk,hp⟩ ih
 simp only at hk hp ih
 by_cases bn:k<l.length
 ·have hw:IntKind.i64.wrap ((k:Int)+1)=((k+1:Nat):Int):=by rw[aY]<;>omega
  rw[RI bn]at hp
  have e1:=λaa=>el aa l[k]
  by_cases h:l[k].nm=e.nm
  ·rw[if_pos h]at hp
   rw[hp]
   rw[decide_eq_true h]at e1
   simp[bn,hz,e1,Sg.row,RH]
  ·rw[if_neg h]at hp
   rw[decide_eq_false h]at e1
   simp[bn,hz,e1,Sg.row,hw]
   exact ih (k+1,0) ⟨by simp;omega,hp⟩ (by simp;omega)
 ·have jq:k=l.length:=by omega
  have:oB e.nm 0 l=none:=by rw[hp,jq,List.drop_length];rfl
  rw[this]
  simp[bn,RH]
theorem NR{l:List Vd}{r:List E}:∀{k:Nat}(h1:k<l.length)(h2:k<r.length),mE (l.drop k) (r.drop k)=(decide (r[k].ty=l[k].ty)&&mE (l.drop (k+1)) (r.drop (k+1))):=by
 intro k h1 h2
 rw[List.drop_eq_getElem_cons h1,List.drop_eq_getElem_cons h2]
 rfl
theorem II:∀{l:List Vd}{r:List E},mE l r=true->l.length=r.length
 |[],[],_=>rfl
 |[],_::_,h=>by cases h
 |_::_,[],h=>by cases h
 |_::l,_::r,h=>by
  simp only[mE,Bool.and_eq_true]at h
  simp[II h.2]
end K9
namespace K9
open Ax Go cz V7 kL lV
theorem Zx{wl aa:Nat}{o:fL}{e:E}{bx:aU}:aL wl aa (.load false 1 false) [.val (.ptr 1 0 0 5)] [o,.rows 0 11 [e.row]] bx=some (.val (aW e.az),[o,.rows 0 11 [e.row]],bx):=by
 simp[E.aG,cut]
theorem CU{l:List E}{k:Nat}(h:k<l.length):(E.rows l)[k]?=some l[k].row:=by simp[iu,h]
theorem wU{l:List E}{k:Nat}(h:k<l.length)(h2:k<(E.rows l).length):(E.rows l)[k]=l[k].row:=by simp[iu]
theorem xH(aa:Nat)(c:CK)(e:E)(hs:Ac c)(hn:e.az.length<1000000000):(bg S).call 0 aa 96 [.ptr 0 0 0 0,.agg e.row] [c.bC]=some (rI (CE c.H e.nm e.az),[c.bC]):=by
 have en:=λwl aa st=>j7 wl aa st
 have ei:=λaa=>NQ aa c.H.sigs e c.bC hs.S
 have hzS:dc 6 (aB 6 (c.H.sigs.map Sg.row))=true:=jt (by simp[bU,Sg.row])
 have hzE:dc 11 (aW e.az)=true:=qX
 have fH:aZ (aW e.az)=E.rows e.az:=aT
 have hS:=hs.S
 have ek:=λwl aa bx=>Zx (wl:=wl) (aa:=aa) (o:=c.bC) (e:=e) (bx:=bx)
 have hsi:=λwl aa bx=>aen (wl:=wl) (aa:=aa) (c:=c) (r:=[.rows 0 11 [e.row]]) (bx:=bx)
 have th:∀bx,aL 0 1 (.box 11) [.val (.agg e.row)] [c.bC] bx=some (.val (.ptr 1 0 0 0),[c.bC,.rows 0 11 [e.row]],bx):=λbx=>by rw[E.aG];simp
 refine ax (sf:=s96) rfl rfl rfl ?_
 unfold CE
 generalize hO:fL.rows 0 11 [e.row]=o at *
 cases h1:oB e.nm 0 c.H.sigs with
 |none=>
  rw[h1]at ei
  simp only[RH]at ei
  simp[-au,-ag,-LO,s96,th,hsi,ei,en,rI,aC,aA,af]
 |some y=>
  obtain⟨i,s⟩:=y
  obtain⟨hi,hg⟩:=Zw h1
  rw[h1]at ei
  simp only[RH]at ei
  have hi0:¬((i:Int)<0):=by omega
  have hP:=hs.P _ (List.getElem_mem hi)
  rw[hg]at hP
  have gS:(c.H.sigs.map Sg.row)[i]?=some [.str s.nm,cw s.ps,.bool s.bO,.int .i64 s.br.b,.int .i64 s.br.r,.int .i64 s.br.d]:=by simp[hi,hg,Sg.row]
  have KC:∀h:i<(c.H.sigs.map Sg.row).length,(c.H.sigs.map Sg.row)[i]=[.str s.nm,cw s.ps,.bool s.bO,.int .i64 s.br.b,.int .i64 s.br.r,.int .i64 s.br.d]:=λh=>by simp[hg,Sg.row]
  simp only
  by_cases hl:s.ps.length=e.az.length
  ·have oc:¬((s.ps.length:Int)≠(e.az.length:Int)):=by omega
   simp[-au,-ag,-LO,s96,th,hsi,ei,hi0,ek,hzS,hi,KC,bP,fH,hl,rI,aC,aA,AV.view]
   refine bM QX.eq_1 (λy:Nat×List AV=>⟨[(0,.val (.ptr 0 0 0 0)),(3,.val (.ptr 1 0 0 0)),(4,.fp 0 0),(7,.val (.int .i64 i)),(44,.val (cw s.ps)),(45,.val (.int .i64 e.az.length)),(46,.val (.int .i64 y.1))],
    [[.int .i64 0,.int .i64 0,.int .i64 0],y.2],[c.bC,o]⟩) (λy=>y.1<=e.az.length/\mE s.ps e.az=mE (s.ps.drop y.1) (e.az.drop y.1)) (λy=>e.az.length-y.1) (0,[]) rfl ⟨by simp,by simp⟩ ?_
   rintro⟨k,b2⟩ ⟨hk,hp⟩ ih
   simp only at hk hp ih
   by_cases bn:k<e.az.length
   ·have vO:k<s.ps.length:=by omega
    have hw:IntKind.i64.wrap ((k:Int)+1)=((k+1:Nat):Int):=by rw[aY]<;>omega
    rw[NR vO bn]at hp
    have gP:(s.ps.map Vd.row)[k]?=some [.str s.ps[k].nm,.int .i64 s.ps[k].ty.b,.int .i64 s.ps[k].ty.r,.int .i64 s.ps[k].ty.d]:=by simp[vO,Vd.row]
    have gP':∀h:k<(s.ps.map Vd.row).length,(s.ps.map Vd.row)[k]=[.str s.ps[k].nm,.int .i64 s.ps[k].ty.b,.int .i64 s.ps[k].ty.r,.int .i64 s.ps[k].ty.d]:=λh=>by simp[Vd.row]
    have gE:=CU bn
    have tF:=λh2=>wU bn h2
    simp only[E.aG]at gE tF
    by_cases q:e.az[k].ty=s.ps[k].ty
    ·rw[decide_eq_true q,Bool.true_and]at hp
     have eU:=λb=>ih (k+1,b) ⟨by simp only;omega,hp⟩ (by simp only;omega)
     simp only at eU
     rw[q]at gE tF
     generalize e.az[k]=x at *
     generalize s.ps[k]=p at *
     simp[-au,-ag,bn,vO,hw,gP',tF,ek,hzE,fH,bP,aC,aA,af,AV.view]
     exact eU _
    ·rw[decide_eq_false q,Bool.false_and]at hp
     generalize e.az[k]=x at *
     generalize s.ps[k]=p at *
     simp[-au,-ag,bn,vO,gP',tF,ek,hzE,fH,bP,dU,q,hp,en,aC,aA,af,AV.view]
   ·have jq:k=e.az.length:=by omega
    have:mE s.ps e.az=true:=by rw[hp,jq,List.drop_length,<-hl,List.drop_length];rfl
    have ajj:=λwl aa bx=>aen (wl:=wl) (aa:=aa) (c:=c) (r:=[o]) (bx:=bx)
    simp[-au,-ag,bn,this,ajj,hzS,hi,KC,bP,af,AV.view]
  ·have ku:mE s.ps e.az=false:=by
    cases h:mE s.ps e.az with
    |false=>rfl
    |true=>exact absurd (II h) hl
   have oc:¬((s.ps.length:Int)=(e.az.length:Int)):=by omega
   rw[ku]
   simp[-au,-ag,-LO,s96,th,hsi,ei,hi0,ek,hzS,hi,KC,bP,fH,hl,en,rI,aC,aA,af,AV.view]
end K9
namespace K9
open Ax Go cz V7 kL lV
def RJ(o:Option (T3×Int))(v:AV):Prop:=∃(t:T3)(z:Int),v=.fK [.agg [.int .i64 t.b,.int .i64 t.r,.int .i64 t.d],.int .i64 z,.bool o.isSome]/\∀u r,o=some (u,r)->t=u/\z=r
theorem KD(o:Option (T3×Int)):RJ o (rI o):=by
 cases o with
 |none=>exact⟨T0,0,rfl,λ_ _ h=>by cases h⟩
 |some x=>exact⟨x.1,x.2,rfl,λu r h=>by cases h;exact⟨rfl,rfl⟩⟩
theorem lu(b:Bool)(t:T3):RJ (GK b t) (.fK [.agg [.int .i64 t.b,.int .i64 t.r,.int .i64 t.d],.int .i64 0,.bool b]):=by
 refine⟨t,0,?_,λu r h=>F8 h⟩
 rw[iY]
theorem gG{aa f:Nat}{sf:aD}{args:List AV}{st:aj}{o:Option (T3×Int)}(hf:S f=some sf)(ha:qn sf args=false)(hl:args.length=sf.aF)(v:AV)(hv:RJ o v)
  (h:W S (sf.mode.wC st.length 0) (sf.mode.pC st.length aa) sf.results (HQ sf.results sf.mode st (v,st)) [.code sf.body] .normal (pD sf args st)) :
  ∃v,RJ o v/\(bg S).call 0 aa f args st=some (v,st):=⟨v,hv,ax hf ha hl h⟩
theorem xY(aa:Nat)(c:CK)(e:E)(hs:Ac c)(hn:e.az.length<1000000000)(hk:dY e.k e.n e.az.length=true)(hRS:c.H.rs.length=c.H.cF.length)(hw:∀x∈e.az,WT c.H.rs.length x.ty) :
  ∃v,RJ (oO c.H c.V e.k e.nm e.on e.od e.az) v/\(bg S).call 0 aa 86 [.ptr 0 0 0 0,.agg e.row] [c.bC]=some (v,[c.bC]):=by
 have eN:=λwl aa st=>zd wl aa st
 have eT:=λwl aa st=>CS wl aa st
 have eV:=λaa=>Ad aa c e.nm [] hs
 have Ae:=λwl aa st=>xX wl aa c.H.rs e.on e.od st hs.R
 have erf:=λwl aa st=>Kx wl aa (dh c.H.rs e.on e.od).1 st
 have dg:=E.aG e
 have hz:dc 11 (aW e.az)=true:=qX
 have dV:aJ (aW e.az)=true:=bu
 have iL:(aW e.az).view=aW e.az:=bF
 have fH:aZ (aW e.az)=E.rows e.az:=aT
 have one:∀j,e.k=j->(j=5\/j=9\/j=10\/j=12\/j=13)->∃x,e.az=[x]:=λj hj h=>by
  have hlen:e.az.length=1:=by
   rw[hj]at hk
   rcases h with h|h|h|h|h<;>subst h<;>simpa [dY] using hk
  match hh:e.az,hlen with
  |[x],_=>exact⟨x,rfl⟩
 have two:e.k≠1->e.k≠2->e.k≠3->e.k≠4->e.k≠5->e.k≠7->e.k≠8->e.k≠9->e.k≠10->e.k≠11->e.k≠12->e.k≠13->∃x y,e.az=[x,y]:=λh1 h2 h3 h4 h5 h7 h8 h9 Bv AY KA Jr=>by
  have hlen:e.az.length=2:=by
   simp[dY,h1,h2,h3,h4,h5,h7,h8,h9,Bv,AY,KA,Jr]at hk
   exact hk.2
  match hh:e.az,hlen with
  |[x,y],_=>exact⟨x,y,rfl⟩
 have fld:=λx (h:e.az=[x]) aa=>RG aa c e x h hs (by
  have:=(hw x (by rw[h];exact List.mem_cons_self)).2.2
  rw[hRS]at this
  exact this)
 have cal:=λaa=>xH aa c e hs hn
 have tw:=λx y (h:e.az=[x,y]) aa=>Zv aa c e x y h
 rw[dg]at fld cal tw
 rw[dg]
 unfold oO
 by_cases h1:e.k=1
 ·rw[if_pos (.inl h1)]
  rw[h1]
  refine gG (sf:=tj) rfl rfl rfl _ (lu true tI) ?_
  simp[-au,-ag,tj,eN,af,AV.view]
 by_cases AY:e.k=11
 ·rw[if_pos (.inr AY)]
  rw[AY]
  refine gG (sf:=tj) rfl rfl rfl _ (lu true tI) ?_
  simp[-au,-ag,tj,eN,af,AV.view]
 rw[if_neg (λh=>h.elim h1 AY)]
 by_cases h2:e.k=2
 ·rw[if_pos h2,h2]
  refine gG (sf:=tj) rfl rfl rfl _ (lu true tB) ?_
  simp[-au,-ag,tj,eT,af,AV.view]
 rw[if_neg h2]
 by_cases h3:e.k=3
 ·rw[if_pos h3,h3]
  refine gG (sf:=tj) rfl rfl rfl _ (lu _ _) ?_
  unfold Xe at Ae
  generalize dh c.H.rs e.on e.od=tt at *
  obtain⟨t,b⟩:=tt
  cases b<;>simp[-au,-ag,tj,wT,Ae,erf,aC,aQ,bw,aA,af,AV.view]
 rw[if_neg h3]
 by_cases h4:e.k=4
 ·rw[if_pos h4,h4]
  refine gG (sf:=tj) rfl rfl rfl _ (KD _) ?_
  generalize yX c.H c.V e.nm=o at *
  cases o with
  |none=>simp[-au,-ag,tj,eV,IG,rI,af,AV.view]
  |some x=>simp[-au,-ag,tj,eV,IG,rI,af,AV.view]
 rw[if_neg h4]
 by_cases h5:e.k=5
 ·rw[if_pos h5]
  obtain⟨x,hx⟩:=one 5 h5 (by simp)
  have f:=fld x hx
  rw[h5]at f ⊢
  have:vn e.az=x.ty:=by rw[hx];rfl
  rw[this]
  refine gG (sf:=tj) rfl rfl rfl _ (KD _) ?_
  generalize yY c.H x.ty e.nm=o at *
  generalize aW e.az=kv at *
  cases o with
  |none=>
   simp only[rI]at f
   simp[-au,-ag,tj,f,dV,iL,rI,af,AV.view]
  |some x=>
   simp only[rI]at f
   simp[-au,-ag,tj,f,dV,iL,rI,af,AV.view]
 rw[if_neg h5]
 by_cases h6:e.k=6
 ·rw[if_pos h6]
  obtain⟨x,y,hx⟩:=two h1 h2 h3 h4 h5 (by omega) (by omega) (by omega) (by omega) AY (by omega) (by omega)
  have a1:vn e.az=x.ty:=by rw[hx];rfl
  have a2:CD e.az=y.ty:=by rw[hx];rfl
  have wx:=hw x (by rw[hx];exact List.mem_cons_self)
  rw[show E.rows e.az=E.rows [x,y] from by rw[hx]]at fH
  rw[a1,a2,h6]
  simp only[E.rows,E.aG]at fH
  generalize aW e.az=kv at *
  have tE:IntKind.i64.wrap (x.ty.d-1)=x.ty.d-1:=by
   have:=wx.1;have:=wx.2.1
   rw[aY]<;>omega
  refine gG (sf:=tj) rfl rfl rfl _ (lu _ _) ?_
  by_cases q:0<x.ty.d
  ·simp[-au,-ag,tj,bP,hz,dV,iL,fH,q,eN,dI,tE,aC,aA,af,AV.view]
  ·simp[-au,-ag,tj,bP,hz,dV,iL,fH,q,tE,aC,aA,af,AV.view]
 rw[if_neg h6]
 by_cases h7:e.k=7
 ·rw[if_pos h7]
  rw[h7]at cal ⊢
  refine gG (sf:=tj) rfl rfl rfl _ (KD _) ?_
  generalize CE c.H e.nm e.az=o at *
  generalize aW e.az=kv at *
  cases o with
  |none=>
   simp only[rI]at cal
   simp[-au,-ag,tj,cal,dV,iL,rI,af,AV.view]
  |some x=>
   simp only[rI]at cal
   simp[-au,-ag,tj,cal,dV,iL,rI,af,AV.view]
 rw[if_neg h7]
 by_cases h8:e.k=8
 ·rw[if_pos h8,h8]
  refine gG (sf:=tj) rfl rfl rfl _ (lu _ _) ?_
  unfold Xe at Ae
  generalize dh c.H.rs e.on e.od=tt at *
  obtain⟨t,b⟩:=tt
  cases b with
  |false=>simp[-au,-ag,tj,wT,Ae,aC,aQ,bw,aA,af,AV.view]
  |true=>
   by_cases q:t.b=3
   ·simp[-au,-ag,tj,wT,Ae,q,aC,aQ,bw,aA,af,AV.view]
   ·simp[-au,-ag,tj,wT,Ae,q,aC,aQ,bw,aA,af,AV.view]
 rw[if_neg h8]
 by_cases h9:e.k=9
 ·rw[if_pos h9]
  obtain⟨x,hx⟩:=one 9 h9 (by simp)
  have a1:vn e.az=x.ty:=by rw[hx];rfl
  rw[show E.rows e.az=E.rows [x] from by rw[hx]]at fH
  rw[a1,h9]
  simp only[E.rows,E.aG]at fH
  generalize aW e.az=kv at *
  have wt:=mF c.H.rs e.on e.od
  have tE:IntKind.i64.wrap ((dh c.H.rs e.on e.od).1.d+1)=(dh c.H.rs e.on e.od).1.d+1:=by
   have:=wt.1;have:=wt.2.1
   rw[aY]<;>omega
  refine gG (sf:=tj) rfl rfl rfl _ (lu _ _) ?_
  unfold Xe at Ae
  generalize dh c.H.rs e.on e.od=tt at *
  obtain⟨t,b⟩:=tt
  cases b with
  |false=>simp[-au,-ag,tj,wT,Ae,dV,tE,aC,aQ,bw,aA,af,AV.view]
  |true=>
   by_cases q:t.d<3
   ·simp[-au,-ag,tj,wT,Ae,bP,hz,dV,iL,fH,q,eN,dI,tE,aC,aQ,bw,aA,af,AV.view]
   ·simp[-au,-ag,tj,wT,Ae,dV,q,tE,aC,aQ,bw,aA,af,AV.view]
 rw[if_neg h9]
 by_cases Bv:e.k=10
 ·rw[if_pos Bv]
  obtain⟨x,hx⟩:=one 10 Bv (by simp)
  have a1:vn e.az=x.ty:=by rw[hx];rfl
  rw[show E.rows e.az=E.rows [x] from by rw[hx]]at fH
  rw[a1,Bv]
  simp only[E.rows,E.aG]at fH
  generalize aW e.az=kv at *
  refine gG (sf:=tj) rfl rfl rfl _ (lu _ _) ?_
  simp[-au,-ag,tj,bP,hz,dV,iL,fH,eN,aC,aA,af,AV.view]
 rw[if_neg Bv]
 by_cases KA:e.k=12
 ·rw[if_pos KA]
  obtain⟨x,hx⟩:=one 12 KA (by simp)
  have a1:vn e.az=x.ty:=by rw[hx];rfl
  rw[show E.rows e.az=E.rows [x] from by rw[hx]]at fH
  rw[a1,KA]
  simp only[E.rows,E.aG]at fH
  generalize aW e.az=kv at *
  refine gG (sf:=tj) rfl rfl rfl _ (lu _ _) ?_
  simp[-au,-ag,tj,bP,hz,dV,iL,fH,eN,dI,aC,aA,af,AV.view]
 rw[if_neg KA]
 by_cases Jr:e.k=13
 ·rw[if_pos Jr]
  obtain⟨x,hx⟩:=one 13 Jr (by simp)
  have a1:vn e.az=x.ty:=by rw[hx];rfl
  rw[show E.rows e.az=E.rows [x] from by rw[hx]]at fH
  rw[a1,Jr]
  simp only[E.rows,E.aG]at fH
  generalize aW e.az=kv at *
  refine gG (sf:=tj) rfl rfl rfl _ (lu _ _) ?_
  simp[-au,-ag,tj,bP,hz,dV,iL,fH,eN,eT,dB,aC,aA,af,AV.view]
 rw[if_neg Jr]
 obtain⟨x,y,hx⟩:=two h1 h2 h3 h4 h5 h7 h8 h9 Bv AY KA Jr
 have a1:vn e.az=x.ty:=by rw[hx];rfl
 have a2:CD e.az=y.ty:=by rw[hx];rfl
 rw[a1,a2]
 have t2:=tw x y hx
 generalize aW e.az=kv at *
 refine gG (sf:=tj) rfl rfl rfl (.fK [.agg [.int .i64 (DJ e.k).b,.int .i64 (DJ e.k).r,.int .i64 (DJ e.k).d],.int .i64 0,.bool (FJ e.k x.ty y.ty).isSome]) ⟨DJ e.k,0,rfl,λu r h=>Zu h⟩ ?_
 simp[-au,-ag,tj,h1,h2,h3,h4,h5,h6,h7,h8,h9,Bv,AY,KA,Jr,t2,dV,iL,af,AV.view]
end K9
namespace K9
open Ax Go cz V7 kL lV
theorem jk{c:CK}{a:Int}:(c.fail a).fe≠0:=by
 unfold CK.fail
 split
 ·show (3:Int)≠0;decide
 ·assumption
theorem Zy{c:CK}{a b:Int}:(c.fail a).fail b=c.fail a:=by
 have h:=jk (c:=c) (a:=a)
 generalize c.fail a=d at *
 unfold CK.fail
 rw[if_neg h]
def OkX(c:CK)(e:E):Prop:=match vo c.H c.V e with
 |.ok y=>∀aa,(bg S).call 0 aa 74 [.ptr 0 0 0 0,.agg e.row] [c.bC]=some (.agg y.row,[c.bC])
 |.error a=>∀aa,∃y:E,(bg S).call 0 aa 74 [.ptr 0 0 0 0,.agg e.row] [c.bC]=some (.agg y.row,[(c.fail a).bC])
def KE(c:CK)(e:E):Except Int E:=match vo c.H c.V e with
 |.error x=>.error x
 |.ok y=>if y.ty=T0 then .error y.a else .ok y
def OkW(c:CK)(e:E):Prop:=match KE c e with
 |.ok y=>∀aa,(bg S).call 0 aa 87 [.ptr 0 0 0 0,.agg e.row] [c.bC]=some (.agg y.row,[c.bC])
 |.error a=>∀aa,∃y:E,(bg S).call 0 aa 87 [.ptr 0 0 0 0,.agg e.row] [c.bC]=some (.agg y.row,[(c.fail a).bC])
theorem IJ(c:CK)(e:E)(h:OkX c e):OkW c e:=by
 unfold OkX at h
 unfold OkW KE
 have en:=λwl aa st=>j7 wl aa st
 cases hc:vo c.H c.V e with
 |error a=>
  rw[hc]at h
  simp only at h ⊢
  obtain⟨y,e1⟩:=h 1
  refine λaa=>⟨y,?_⟩
  have ef:=λaa=>eu aa (c.fail a) y.a []
  rw[Zy]at ef
  rw[E.aG e]at e1 ⊢
  rw[E.aG y]at e1 ⊢
  generalize (c.fail a).bC=o at *
  refine ax (sf:=W6) rfl rfl rfl ?_
  by_cases q:y.ty=T0
  ·simp[-au,-ag,W6,e1,en,q,ef,af,AV.view,aC,aA]
  ·simp[-au,-ag,W6,e1,en,d0,q,af,AV.view,aC,aA]
 |ok y=>
  rw[hc]at h
  simp only at h ⊢
  by_cases q:y.ty=T0
  ·rw[if_pos q]
   refine λaa=>⟨y,?_⟩
   have ef:=λaa=>eu aa c y.a []
   rw[E.aG e]at h ⊢
   rw[E.aG y]at h ⊢
   generalize (c.fail y.a).bC=o at *
   refine ax (sf:=W6) rfl rfl rfl ?_
   simp[-au,-ag,W6,h,en,q,ef,af,AV.view,aC,aA]
  ·rw[if_neg q]
   intro aa
   rw[E.aG e]at h ⊢
   rw[E.aG y]at h ⊢
   refine ax (sf:=W6) rfl rfl rfl ?_
   simp[-au,-ag,W6,h,en,d0,q,af,AV.view,aC,aA]
theorem VA{c:CK}{e:E}{l:List E}:lW c.H c.V (e::l)=match KE c e with
  |.error x=>.error x
  |.ok y=>match lW c.H c.V l with
   |.error x=>.error x
   |.ok ys=>.ok (y::ys):=by
 conv=>lhs;unfold lW
 unfold KE
 split
 ·simp_all
 ·rename_i y h
  rw[h]
  simp only
  split<;>rfl
def F9(ys:List E)(r:Except Int (List E)):Except Int (List E):=match r with
 |.error x=>.error x
 |.ok zs=>.ok (ys++zs)
def Zz(rs:List jV)(m:Ax.Mode)(st:aj)(P:AV->aj->Prop)(x:Ex)(s:St):Prop:=∃r,HQ rs m st r x s/\P r.1 r.2
theorem A2{S:Nat->Option aD}{wl aa f:Nat}{sf:aD}(hf:S f=some sf){args:List AV}(ha:qn sf args=false)(hl:args.length=sf.aF){st:aj}{P:AV->aj->Prop}
  (h:W S (sf.mode.wC st.length wl) (sf.mode.pC st.length aa) sf.results (Zz sf.results sf.mode st P) [.code sf.body] .normal (pD sf args st)) :
  ∃v bS,(bg S).call wl aa f args st=some (v,bS)/\P v bS:=by
 obtain⟨x',s',h1,r,h2,h3⟩:=h
 exact⟨r.1,r.2,ax hf ha hl ⟨x',s',h1,h2⟩,h3⟩
@[simp]theorem agu{rs:List jV}{st:aj}{P:AV->aj->Prop}{v:AV}{s:St}:Zz rs Ax.Mode.l9 st P (.ret v) s↔v.an=true/\P v (s.st.take st.length):=by
 simp only[Zz,HR,Ax.Mode.kJ]
 constructor
 ·rintro⟨r,h1,h2⟩
  split at h1
  ·rename_i hp
   cases h1
   exact⟨hp,h2⟩
  ·cases h1
 ·rintro⟨h1,h2⟩
  exact⟨(v,s.st.take st.length),by rw[if_pos h1],h2⟩
@[simp]theorem agv{rs:List jV}{st:aj}{P:AV->aj->Prop}{s:St}:Zz rs Ax.Mode.l9 st P .normal s↔∃v,wB s rs=some v/\v.an=true/\P v (s.st.take st.length):=by
 simp only[Zz,P6,Ax.Mode.kJ]
 constructor
 ·rintro⟨r,⟨v,h0,h1⟩,h2⟩
  split at h1
  ·rename_i hp
   cases h1
   exact⟨v,h0,hp,h2⟩
  ·cases h1
 ·rintro⟨v,h0,h1,h2⟩
  exact⟨(v,s.st.take st.length),⟨v,h0,by rw[if_pos h1]⟩,h2⟩
theorem IK{c:CK}{l:List E}{ys:List E}{k:Nat}(h:k<l.length):F9 ys (lW c.H c.V (l.drop k))=match KE c l[k] with
  |.error x=>.error x
  |.ok y=>F9 (ys++[y]) (lW c.H c.V (l.drop (k+1))):=by
 rw[List.drop_eq_getElem_cons h,VA]
 split
 ·rfl
 ·split
  ·rename_i h1;rw[h1];rfl
  ·rename_i h1;rw[h1];simp[F9]
theorem kP(c:CK)(l:List E)(hf:c.fe=0)(hn:l.length<1000000000)(hl:∀e∈l,OkX c e):match lW c.H c.V l with
  |.ok ys=>∀aa,(bg S).call 0 aa 75 [.ptr 0 0 0 0,aW l] [c.bC]=some (cD 11 (E.rows ys),[c.bC])
  |.error a=>∀aa,∃v,aJ v=true/\(bg S).call 0 aa 75 [.ptr 0 0 0 0,aW l] [c.bC]=some (v,[(c.fail a).bC]):=by
 have hz:dc 11 (aW l)=true:=qX
 have dV:aJ (aW l)=true:=bu
 have iL:(aW l).view=aW l:=bF
 have fH:aZ (aW l)=E.rows l:=aT
 have l5:=λaa=>cG aa c []
 rw[decide_eq_true hf]at l5
 have oM:∀(ys:List E) (y:E),ys.length<1000000000->vN 11 120 (cD 11 (E.rows ys)) [y.row]=some (cD 11 (E.rows (ys++[y]))):=λys y h=>by
  rw[fW (by simp[bU,E.aG]) (by simp[dQ];omega)]
  simp[iu]
 cases hR:lW c.H c.V l with
 |ok zs=>
  intro aa
  refine ax (sf:=s75) rfl rfl rfl ?_
  generalize aW l=lv at *
  simp[-au,-ag,s75,dV,iL,fH]
  refine bM Kj.eq_1 (λx:Nat×List E×List AV=>⟨[(0,.val (.ptr 0 0 0 0)),(5,.val (cD 11 (E.rows x.2.1))),(8,.val lv),(9,.val (.int .i64 l.length)),(10,.val (.int .i64 x.1))],[x.2.2],[c.bC]⟩)
   (λx=>x.1<=l.length/\x.2.1.length=x.1/\F9 x.2.1 (lW c.H c.V (l.drop x.1))=.ok zs) (λx=>l.length-x.1) (0,[],[]) rfl ⟨by simp,rfl,by simp[F9,hR]⟩ ?_
  rintro⟨k,ys,b⟩ ⟨hk,hy,hp⟩ ih
  simp only at hk hy hp ih
  by_cases bn:k<l.length
  ·have hw:IntKind.i64.wrap ((k:Int)+1)=((k+1:Nat):Int):=by rw[aY]<;>omega
   have hv:=IJ c l[k] (hl _ (List.getElem_mem bn))
   unfold OkW at hv
   rw[IK bn]at hp
   have gE:=CU bn
   have tF:=λh2=>wU bn h2
   cases hx:KE c l[k] with
   |error a=>rw[hx]at hp;cases hp
   |ok y=>
    rw[hx]at hp hv
    simp only at hp hv
    have ap:=oM ys y (by omega)
    have eU:=λb=>ih (k+1,ys++[y],b) ⟨by simp only;omega,by simp[hy],hp⟩ (by simp only;omega)
    simp only at eU
    generalize cD 11 (E.rows (ys++[y]))=R at *
    rw[E.aG l[k]]at hv gE
    simp only[E.aG l[k]]at tF
    rw[E.aG y]at hv ap
    generalize l[k]=x at *
    simp[-au,-ag,bP,bn,hw,hz,fH,tF,l5,hv,ap,af,AV.view]
    exact eU _
  ·have jq:k=l.length:=by omega
   have:ys=zs:=by
    rw[jq,List.drop_length]at hp
    simpa [lW,F9] using hp
   subst this
   simp[-au,-ag,bn]
 |error a=>
  intro aa
  have GM:=jk (c:=c) (a:=a)
  have jS:=λaa=>cG aa (c.fail a) []
  rw[decide_eq_false GM]at jS
  obtain⟨v,bS,h1,h2,h3⟩:∃v bS,(bg S).call 0 aa 75 [.ptr 0 0 0 0,aW l] [c.bC]=some (v,bS)/\aJ v=true/\bS=[(c.fail a).bC]:=by
   refine A2 (sf:=s75) rfl rfl rfl ?_
   generalize aW l=lv at *
   simp[-au,-ag,s75,dV,iL,fH]
   refine bM Kj.eq_1 (λx:Nat×List E×CK×List AV=>⟨[(0,.val (.ptr 0 0 0 0)),(5,.val (cD 11 (E.rows x.2.1))),(8,.val lv),(9,.val (.int .i64 l.length)),(10,.val (.int .i64 x.1))],[x.2.2.2],[x.2.2.1.bC]⟩)
    (λx=>x.1<=l.length/\x.2.1.length=x.1/\(x.2.2.1=c/\F9 x.2.1 (lW c.H c.V (l.drop x.1))=.error a\/x.2.2.1=c.fail a)) (λx=>l.length-x.1) (0,[],c,[]) rfl ⟨by simp,rfl,.inl ⟨rfl,by simp[F9,hR]⟩⟩ ?_
   rintro⟨k,ys,d,b⟩ ⟨hk,hy,hp⟩ ih
   simp only at hk hy hp ih
   by_cases bn:k<l.length
   ·have hw:IntKind.i64.wrap ((k:Int)+1)=((k+1:Nat):Int):=by rw[aY]<;>omega
    have gE:=CU bn
    have tF:=λh2=>wU bn h2
    rcases hp with⟨hd,hp⟩|hd
    ·subst hd
     have hv:=IJ d l[k] (hl _ (List.getElem_mem bn))
     unfold OkW at hv
     rw[IK bn]at hp
     cases hx:KE d l[k] with
     |error a'=>
      rw[hx]at hp hv
      simp only at hp hv
      cases hp
      obtain⟨y,hv⟩:=hv 1
      have ap:=oM ys y (by omega)
      have eU:=λb=>ih (k+1,ys++[y],d.fail a,b) ⟨by simp only;omega,by simp[hy],.inr rfl⟩ (by simp only;omega)
      simp only at eU
      generalize cD 11 (E.rows (ys++[y]))=R at *
      rw[E.aG l[k]]at hv gE
      simp only[E.aG l[k]]at tF
      rw[E.aG y]at hv ap
      generalize l[k]=x at *
      simp[-au,-ag,bP,bn,hw,hz,fH,tF,l5,hv,ap,af,AV.view]
      exact eU _
     |ok y=>
      rw[hx]at hp hv
      simp only at hp hv
      have ap:=oM ys y (by omega)
      have eU:=λb=>ih (k+1,ys++[y],d,b) ⟨by simp only;omega,by simp[hy],.inl ⟨rfl,hp⟩⟩ (by simp only;omega)
      simp only at eU
      generalize cD 11 (E.rows (ys++[y]))=R at *
      rw[E.aG l[k]]at hv gE
      simp only[E.aG l[k]]at tF
      rw[E.aG y]at hv ap
      generalize l[k]=x at *
      simp[-au,-ag,bP,bn,hw,hz,fH,tF,l5,hv,ap,af,AV.view]
      exact eU _
    ·subst hd
     simp only[E.aG l[k]]at tF
     rw[E.aG l[k]]at gE
     generalize l[k]=x at *
     simp[-au,-ag,bP,bn,hz,fH,tF,jS,af,AV.view]
   ·have jq:k=l.length:=by omega
    rcases hp with⟨hd,hp⟩|hd
    ·rw[jq,List.drop_length]at hp
     simp[lW,F9]at hp
    ·subst hd
     simp[-au,-ag,bn]
  rw[h3]at h1
  exact⟨v,h2,h1⟩
end K9
namespace K9
open Ax Go cz V7 kL lV
structure yA (c:CK):Prop where
 s:Ac c
 H:c.H.ok
 V:∀f∈c.V,WT c.H.rs.length f.ty
def E0:E:=.mk 0 0 [] [] 0 [] 0 T0 0
theorem ig(c:CK)(hf:c.fe=0)(hw:yA c)(e:E):E.sz e<1000000000->OkX c e:=by
 induction e using E.vp with
 |_ e ih=>
  intro eH
  have oy:=E.sK e
  have jq:=E.fF e.az
  have cJ:=kP c e.az hf (by omega) λx hx=>ih x hx (by have:=E.jj hx;omega)
  have DK:=λwl aa st=>RD wl aa e st
  have EG:=λwl aa st=>Vy wl aa e st
  have A3:=λaa=>eu aa c e.a []
  have l5:=λaa=>cG aa c []
  rw[decide_eq_true hf]at l5
  have uK:vo c.H c.V e=if dY e.k e.n e.az.length then
    match lW c.H c.V e.az with
    |.error x=>.error x
    |.ok ks=>match oO c.H c.V e.k e.nm e.on e.od ks with
     |none=>.error e.a
     |some (t,r)=>.ok (.mk e.k (lR e.k e.n) (gx e.k e.nm) (g8 e.k e.on) (hJ e.k e.od) ks e.a t r)
    else .error e.a:=by
   obtain⟨k,n,nm,on,od,az,a,ty,cN⟩:=e
   conv=>lhs;unfold vo
   rfl
  unfold OkX
  rw[uK]
  have O5:E0.row=[.int .i64 0,.int .i64 0,.str [],.str [],.int .i64 0,.U,.int .i64 0,.int .i64 0,.int .i64 0,.int .i64 0,.int .i64 0]:=by simp[E0,E.row,E.rows]
  have hkv:aJ (aW e.az)=true:=bu
  cases hk:dY e.k e.n e.az.length with
  |false=>
   simp only[Bool.false_eq_true,if_false]
   intro aa
   refine⟨E0,?_⟩
   rw[hk]at DK
   rw[O5]
   rw[E.aG e]at DK ⊢
   generalize (c.fail e.a).bC=o at *
   refine ax (sf:=U5) rfl rfl rfl ?_
   simp[-au,-ag,U5,DK,A3,af,AV.view,AV.an,AV.ah]
  |true=>
   simp only[if_true]
   rw[hk]at DK
   cases hv:lW c.H c.V e.az with
   |error a=>
    rw[hv]at cJ
    simp only at cJ ⊢
    intro aa
    refine⟨E0,?_⟩
    obtain⟨v,dV,ev⟩:=cJ 1
    have Dy:=bE dV
    have NO:=cC dV
    have jS:=λaa=>cG aa (c.fail a) []
    rw[decide_eq_false jk]at jS
    rw[O5]
    rw[E.aG e]at DK EG ⊢
    generalize (c.fail a).bC=o at *
    refine ax (sf:=U5) rfl rfl rfl ?_
    simp[-au,-ag,U5,DK,EG,ev,dV,jS,af,AV.view,AV.an,AV.ah]
   |ok ks=>
    rw[hv]at cJ
    simp only at cJ ⊢
    obtain⟨X,hX⟩:∃X:E,X=.mk e.k (lR e.k e.n) (gx e.k e.nm) (g8 e.k e.on) (hJ e.k e.od) ks e.a T0 0:=⟨_,rfl⟩
    have hXr:X.row=[.int .i64 e.k,.int .i64 (lR e.k e.n),.str (gx e.k e.nm),.str (g8 e.k e.on),.int .i64 (hJ e.k e.od),aW ks,.int .i64 e.a,.int .i64 0,.int .i64 0,.int .i64 0,.int .i64 0]:=by rw[hX];simp[E.row,aW]
    have Wn:dY X.k X.n X.az.length=true:=by
     rw[hX]
     simp only[E.k,E.n,E.az]
     rw[vq hv]
     exact Ks hk
    have hwt:=qE hv λx _ y hy=>Y9 hw.H hw.V x y hy
    obtain⟨tv,⟨t,z,rfl,htr⟩,Xf⟩:=xY 1 c X hw.s (by rw[hX];simp only[E.az];rw[vq hv];omega) Wn hw.H.rs (by rw[hX];exact hwt)
    have ajl:oO c.H c.V X.k X.nm X.on X.od X.az=oO c.H c.V e.k e.nm e.on e.od ks:=by rw[hX];exact Rk
    rw[ajl]at htr Xf
    rw[hXr]at Xf
    have dV:aJ (cD 11 (E.rows ks))=true:=dz
    have Rz:(cD 11 (E.rows ks)).view=aW ks:=rfl
    have hkc:aJ (aW ks)=true:=bu
    generalize cD 11 (E.rows ks)=mv at *
    have Dy:=bE dV
    have NO:=cC dV
    cases hT:oO c.H c.V e.k e.nm e.on e.od ks with
    |none=>
     simp only
     intro aa
     refine⟨.mk e.k (lR e.k e.n) (gx e.k e.nm) (g8 e.k e.on) (hJ e.k e.od) ks e.a t z,?_⟩
     rw[hT]at Xf
     simp only[E.row,Option.isSome_none]at Xf ⊢
     rw[E.aG e]at DK EG ⊢
     have hq:aB 11 (E.rows ks)=aW ks:=rfl
     rw[hq]
     generalize aW ks=kv at *
     generalize (c.fail e.a).bC=o at *
     refine ax (sf:=U5) rfl rfl rfl ?_
     simp[-au,-ag,U5,DK,EG,cJ,Rz,dV,hkc,l5,Xf,A3,af,AV.view,AV.an,AV.ah]
    |some y=>
     obtain⟨u,r⟩:=y
     obtain⟨h1,h2⟩:=htr u r hT
     subst h1 h2
     simp only
     intro aa
     rw[hT]at Xf
     simp only[E.row,Option.isSome_some]at Xf ⊢
     rw[E.aG e]at DK EG ⊢
     have hq:aB 11 (E.rows ks)=aW ks:=rfl
     rw[hq]
     generalize aW ks=kv at *
     refine ax (sf:=U5) rfl rfl rfl ?_
     simp[-au,-ag,U5,DK,EG,cJ,Rz,dV,hkc,l5,Xf,af,AV.view,AV.an,AV.ah]
end K9
