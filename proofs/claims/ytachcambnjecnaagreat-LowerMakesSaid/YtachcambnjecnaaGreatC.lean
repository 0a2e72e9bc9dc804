/- Part of a proof. -/
import Derived.Test.YtachcambnjecnaaGreatCode2
import Derived.Test.YtachcambnjecnaaGreatP

set_option maxRecDepth 100000
set_option maxHeartbeats 8000000
namespace K9
open Ax Go bu V7 jG ke
def ga(l:List (List UInt8)):List (List AV):=l.map λs=>[.str s]
structure CK where
 H:Hd
 main:Int
 sg:Sg
 V:List Vd
 fe:Int
 fa:Int
def CK.aU(c:CK):dz:=.rows 0 14 [[aA 2 (c.H.bK.map dx),br c.H.globals,aA 6 (c.H.sigs.map Sg.row),.int .i64 c.main,bD 1 (ga c.H.rs),.str c.sg.nm,br c.sg.ps,.bool c.sg.bP,.int .i64 c.sg.bz.b,.int .i64 c.sg.bz.r,.int .i64 c.sg.bz.d,bD 4 (c.V.map Vd.row),.int .i64 c.fe,.int .i64 c.fa]]
def CK.fail(c:CK)(a:Int):CK:=if c.fe=0 then { c with fe:=3,fa:=a } else c
@[simp]theorem dL{l:List Vd}:aD (br l)=true:=aL
@[simp]theorem fC{l:List Vd}:(br l).view=br l:=aJ
@[simp]theorem oX{l:List Vd}:aM (br l)=l.map Vd.row:=aE
@[simp]theorem ab5{l:List E}:(E.rows l).length=l.length:=by simp[gh]
@[simp]theorem aah{l:List Sm}:(Sm.rows l).length=l.length:=by simp[fY]
theorem gf{sz:Nat}{r:List (List AV)}(h:bL sz r=true):bX sz (aA sz r)=true:=by
 cases r with
 |nil=>rfl|cons a r=>simp[bX,h]
@[simp]theorem qU{l:List Vd}:bX 4 (br l)=true:=gf (by simp[bL,Vd.row])
@[simp]theorem iM{l:List E}:bX 11 (aA 11 (E.rows l))=true:=gf (by simp[bL,gh,E.az])
@[simp]theorem Al{l:List Sm}:bX 9 (aA 9 (Sm.rows l))=true:=gf (by simp[bL,fY,Sm.az])
theorem aai{wl af:Nat}{c:CK}{r:aj}{bx:bF}:aW wl af (.load false 1 false) [.val (.ptr 0 0 0 12)] (c.aU::r) bx=some (.val (.int .i64 c.fe),c.aU::r,bx):=by
 simp[CK.aU,cut,AV.view]
theorem uN{wl af:Nat}{c:CK}{r:aj}{bx:bF}:aW wl af (.load false 1 false) [.val (.ptr 0 0 0 4)] (c.aU::r) bx=some (.val (aA 1 (ga c.H.rs)),c.aU::r,bx):=by
 simp[CK.aU,cut,aA]
theorem V5{wl af:Nat}{c:CK}{r:aj}{bx:bF}:aW wl af (.load false 1 false) [.val (.ptr 0 0 0 0)] (c.aU::r) bx=some (.val (aA 2 (c.H.bK.map dx)),c.aU::r,bx):=by
 simp[CK.aU,cut]
theorem V6{wl af:Nat}{c:CK}{r:aj}{bx:bF}:aW wl af (.load false 1 false) [.val (.ptr 0 0 0 1)] (c.aU::r) bx=some (.val (br c.H.globals),c.aU::r,bx):=by
 simp[CK.aU,cut]
theorem S1{wl af:Nat}{c:CK}{r:aj}{bx:bF}:aW wl af (.load false 1 false) [.val (.ptr 0 0 0 2)] (c.aU::r) bx=some (.val (aA 6 (c.H.sigs.map Sg.row)),c.aU::r,bx):=by
 simp[CK.aU,cut]
theorem wJ{wl af:Nat}{c:CK}{r:aj}{bx:bF}:aW wl af (.load false 1 false) [.val (.ptr 0 0 0 7)] (c.aU::r) bx=some (.val (.bool c.sg.bP),c.aU::r,bx):=by
 simp[CK.aU,cut,AV.view]
theorem yy{wl af:Nat}{c:CK}{r:aj}{bx:bF}:aW wl af (.load true 3 false) [.val (.ptr 0 0 0 8)] (c.aU::r) bx=some (.val (.agg [.int .i64 c.sg.bz.b,.int .i64 c.sg.bz.r,.int .i64 c.sg.bz.d]),c.aU::r,bx):=by
 simp[CK.aU,cut,AV.view]
theorem Am{wl af:Nat}{c:CK}{r:aj}{bx:bF}:aW wl af (.load false 1 false) [.val (.ptr 0 0 0 11)] (c.aU::r) bx=some (.val (br c.V),c.aU::r,bx):=by
 simp[CK.aU,cut,br,aA]
theorem S2{af:Nat}{c:CK}{a:Int}{r:aj}{bx:bF}:aW 0 af (.store 2) [.val (.ptr 0 0 0 12),.val (.agg [.int .i64 3,.int .i64 a])] (c.aU::r) bx=some (.none,({ c with fe:=3,fa:=a }:CK).aU::r,bx):=by
 simp[CK.aU,aQ,AV.ai,AV.ax,ag]
theorem lC(wl af:Nat)(st:aj):(bh S).call wl af 119 [] st=some (.agg [.int .i64 0,.int .i64 0,.int .i64 0],st):=by
 refine bN (sf:=ZD) rfl rfl (by simp) rfl (by simp[AV.ax,AV.ai]) ?_;simp[ZD]
theorem Eu(wl af:Nat)(st:aj):(bh S).call wl af 141 [] st=some (.agg [.int .i64 2,.int .i64 0,.int .i64 0],st):=by
 refine bN (sf:=ZI) rfl rfl (by simp) rfl (by simp[AV.ax,AV.ai]) ?_;simp[ZI]
theorem Bh(wl af:Nat)(st:aj):(bh S).call wl af 142 [] st=some (.agg [.int .i64 1,.int .i64 0,.int .i64 0],st):=by
 refine bN (sf:=ZJ) rfl rfl (by simp) rfl (by simp[AV.ax,AV.ai]) ?_;simp[ZJ]
theorem cU(af:Nat)(c:CK)(r:aj):(bh S).call 0 af 43 [.ptr 0 0 0 0] (c.aU::r)=some (.bool (!decide (c.fe=0)),c.aU::r):=by
 refine ay (sf:=s43) rfl rfl rfl ?_;simp[-ah,-aa,s43,aai]
theorem eX(af:Nat)(c:CK)(a:Int)(r:aj):(bh S).call 0 af 121 [.ptr 0 0 0 0,.int .i64 a] (c.aU::r)=some (.fm [],(c.fail a).aU::r):=by
 have e:=λaf=>cU af c r;refine ay (sf:=Vx) rfl rfl rfl ?_;unfold CK.fail;by_cases h:c.fe=0;rw[if_pos h];simp[-ah,-aa,Vx,e,h,S2];rw[if_neg h];simp[-ah,-aa,Vx,e,h]
theorem S3(wl af:Nat)(e:E)(st:aj):(bh S).call wl af 135 [.agg e.row] st=some (.bool (gq e.k e.n e.aC.length),st):=by
 obtain⟨k,n,nm,on,od,aC,a,ty,cH⟩:=e;refine bN (sf:=tG) rfl rfl (by simp[E.row,AV.ai,AV.ax]) rfl (by simp) ?_;simp only[E.row,E.k,E.n,E.aC];unfold gq;have m0:((aC.length:Int)=0)=(aC.length=0):=by simp
 have m1:((aC.length:Int)=1)=(aC.length=1):=by apply propext;omega
 have m2:((aC.length:Int)=2)=(aC.length=2):=by apply propext;omega
 have hl:ov [] .sl (aA 11 (E.rows aC))=some aC.length:=by simp[ov]
 generalize hv:aA 11 (E.rows aC)=v at *;have v1:aD v=true:=by rw[<-hv];simp
 have v2:v.view=v:=by rw[<-hv];simp
 have v3:(aM v).length=aC.length:=by rw[<-hv];simp
 generalize aC.length=m at *;by_cases h1:k=1;subst h1;simp[tG,v1,v2,v3];by_cases h3:k=3;subst h3;simp[tG,v1,v2,v3];by_cases h4:k=4;subst h4;simp[tG,v1,v2,v3];by_cases h8:k=8;subst h8;simp[tG,v1,v2,v3];by_cases zg:k=11;subst zg;simp[tG,v1,v2,v3];by_cases h2:k=2;subst h2;by_cases q:m=0;by_cases n0:n=0;simp[tG,v1,v2,v3,q,n0];simp[tG,v1,v2,v3,q,n0];simp[tG,v1,v2,v3,q];by_cases h7:k=7;subst h7;simp[tG,v1];by_cases h5:k=5;subst h5;simp[tG,v1,v2,v3,m1];by_cases h9:k=9;subst h9;simp[tG,v1,v2,v3,m1];by_cases AP:k=10;subst AP;simp[tG,v1,v2,v3,m1];by_cases tN:k=12;subst tN;simp[tG,v1,v2,v3,m1];by_cases Fe:k=13;subst Fe;simp[tG,v1,v2,v3,m1];by_cases h6:k=6;subst h6;simp[tG,v1,v2,v3,m2];by_cases g1:14<=k;by_cases g2:k<=24;simp[tG,v1,v2,v3,h1,h2,h3,h4,h5,h6,h7,h8,h9,AP,zg,tN,Fe,g1,g2,m2];simp[tG,v1,h1,h2,h3,h4,h5,h6,h7,h8,h9,AP,zg,tN,Fe,g1,g2];simp[tG,v1,h1,h2,h3,h4,h5,h6,h7,h8,h9,AP,zg,tN,Fe,g1]
theorem V8(wl af:Nat)(e:E)(st:aj):(bh S).call wl af 136 [.agg e.row] st=some (.agg [.int .i64 e.k,.int .i64 (pT e.k e.n),.str (kG e.k e.nm),.str (kH e.k e.on),.int .i64 (kI e.k e.od),.U,.int .i64 e.a,.int .i64 0,.int .i64 0,.int .i64 0,.int .i64 0],st):=by
 obtain⟨k,n,nm,on,od,aC,a,ty,cH⟩:=e;refine bN (sf:=DZ) rfl rfl (by simp[E.row,AV.ai,AV.ax]) rfl (by simp[AV.ai,AV.ax]) ?_;simp only[E.row,E.k,E.n,E.nm,E.on,E.od,E.a];unfold pT kG kH kI;by_cases h1:k=1;subst h1;simp[DZ,ag];by_cases h2:k=2;subst h2;simp[DZ,ag];by_cases h3:k=3;subst h3;simp[DZ,ag];by_cases h8:k=8;subst h8;simp[DZ,ag];by_cases h9:k=9;subst h9;simp[DZ,ag];by_cases h4:k=4;subst h4;simp[DZ,ag];by_cases h5:k=5;subst h5;simp[DZ,ag];by_cases h7:k=7;subst h7;simp[DZ,ag];simp[DZ,ag,h1,h2,h3,h4,h5,h7,h8,h9]
end K9
namespace K9
open Ax Go bu V7 jG ke
theorem aY{wl af:Nat}{agg:Bool}{n sz i k:Nat}{rows:List (List AV)}{st:aj}{bx:bF}:aW wl af (.load agg n false) [.val (.qg sz rows i k)] st bx=qz st bx ((dA st (.qg sz rows i k) n).bind λcs=>bM agg (AV.cq cs)):=ah
def u0(o:Option (Nat×T3)):Int:=match o with|some (k,_)=>(k:Int)|none=>-1
theorem tO{s:List UInt8}{l:List Vd}{k:Nat}(h:k<l.length):eJ s k (l.drop k)=if l[k].nm=s then some (k,l[k].ty) else eJ s (k+1) (l.drop (k+1)):=by
 rw[List.drop_eq_getElem_cons h];rfl
theorem aaj(af:Nat)(f:Vd)(s:List UInt8):(bh S).call 0 af 154 [.agg f.row,.ptr 0 0 0 0] [.rows 0 1 [[.str s]]]=some (.bool (decide (f.nm=s)),[.rows 0 1 [[.str s]]]):=by
 refine ay (sf:=ZP) rfl rfl rfl ?_;simp[ZP,Vd.row,cut,AV.view]
theorem Be(af:Nat)(l:List Vd)(s:List UInt8)(hn:l.length<1000000000):(bh S).call 0 af 153 [br l,.fn 154 [] [.ptr 0 0 0 0]] [.rows 0 1 [[.str s]]]=some (.int .i64 (u0 (eJ s 0 l)),[.rows 0 1 [[.str s]]]):=by
 have el:=λaf f=>aaj af f s;simp only[Vd.row,T3.cells]at el;refine ay (sf:=ZO) rfl rfl rfl ?_;simp[ZO];refine bf M9.eq_1 (λq:Nat×Int=>⟨[(0,.val (br l)),(1,.val (.fn 154 [] [.ptr 0 0 0 0])),(7,.val (.int .i64 l.length)),(8,.val (.int .i64 q.1))],[],[.rows 0 1 [[.str s]]]⟩)
  (λq=>q.1<=l.length/\eJ s 0 l=eJ s q.1 (l.drop q.1)) (λq=>l.length-q.1) (0,0) (by simp) ⟨by simp,by simp⟩ ?_
 rintro⟨k,bb⟩ ⟨hk,hp⟩ ih;simp only at hk hp ih;by_cases aX:k<l.length;have hw:=wk k (by omega);rw[tO aX]at hp;have e1:=λaf=>el af l[k];by_cases e:l[k].nm=s;rw[if_pos e]at hp;rw[hp];rw[decide_eq_true e]at e1;simp[aX,e1,Vd.row,u0];rw[if_neg e]at hp;rw[decide_eq_false e]at e1;simp[aX,e1,Vd.row,hw];exact ih (k+1,0) ⟨by simp;omega,hp⟩ (by simp;omega);have eL:k=l.length:=by omega
 have:eJ s 0 l=none:=by rw[hp,eL,List.drop_length];rfl
 rw[this];simp[aX,u0]
theorem An(wl af:Nat)(l:List Vd)(s:List UInt8)(st:aj)(hn:l.length<1000000000):(bh S).call wl af 151 [br l,.str s] st=some (.int .i64 (u0 (eJ s 0 l)),st):=by
 have e:=λaf=>Be af l s hn;refine bN (sf:=ZM) rfl rfl (by simp[AV.ai]) rfl (by simp) ?_;simp[ZM,e]
theorem rR{s:List UInt8}:∀{l:List Vd}{i k:Nat}{t:T3},eJ s i l=some (k,t)->i<=k/\∃h:k-i<l.length,l[k-i].ty=t/\l[k-i].nm=s
 |[],_,_,_,h=>by cases h|f::l,i,k,t,h=>by
  unfold eJ at h;split at h;rename_i hs;cases h;exact⟨Nat.le_refl _,by simp,by simp,by simpa using hs⟩;obtain⟨h1,h2,h3,h4⟩:=rR h;refine⟨by omega,by simp only[List.length_cons];omega,?_⟩;have:k-i=(k-(i+1))+1:=by omega
  simp only[this,List.getElem_cons_succ];exact⟨h3,h4⟩
theorem H7{s:List UInt8}{l:List Vd}{k:Nat}{t:T3}(h:eJ s 0 l=some (k,t)):∃h:k<l.length,l[k].ty=t:=by
 obtain⟨_,h1,h2,_⟩:=rR h;exact⟨by simpa using h1,by simpa using h2⟩
structure oh (c:CK):Prop where
 V:c.V.length<1000000000
 G:c.H.globals.length<1000000000
 S:c.H.sigs.length<1000000000
 R:c.H.rs.length<1000000000
 F:∀s∈c.H.bK,s.2.length<1000000000
 P:∀s∈c.H.sigs,s.ps.length<1000000000
def wK(o:Option (T3×Int)):AV:=match o with
 |some (t,r)=>.fm [.int .i64 r,.agg t.cells,.bool true]|none=>.fm [.int .i64 0,.agg T0.cells,.bool false]
theorem gO(af:Nat)(c:CK)(s:List UInt8)(r:aj)(hs:oh c):(bh S).call 0 af 140 [.ptr 0 0 0 0,.str s] (c.aU::r)=some (wK (rZ c.H c.V s),c.aU::r):=by
 have e1:=λwl af st=>An wl af c.V s st hs.V;have e2:=λwl af st=>An wl af c.H.globals s st hs.G;have en:=λwl af st=>lC wl af st;have hV:=hs.V;have hG:=hs.G;refine ay (sf:=Sh) rfl rfl rfl ?_;unfold rZ;cases h1:eJ s 0 c.V with
 |some x=>
  obtain⟨k,t⟩:=x;obtain⟨hk,ht⟩:=H7 h1;subst ht;rw[h1]at e1;simp only[u0]at e1;have XQ:¬((k:Int)<0):=by omega
  simp[-ah,-aa,Sh,Am,e1,wK,aY,hk,Vd.row,au,an,ag]
 |none=>
  rw[h1]at e1;simp only[u0]at e1;cases h2:eJ s 0 c.H.globals with
  |some x=>
   obtain⟨k,t⟩:=x;obtain⟨hk,ht⟩:=H7 h2;subst ht;rw[h2]at e2;simp only[u0]at e2;have XQ:¬((k:Int)<0):=(by omega);have hw:IntKind.i64.wrap (-1-(k:Int)) = -1-(k:Int):=(by rw[ee]<;>omega);simp[-ah,-aa,Sh,Am,V6,e1,e2,hw,wK,aY,hk,Vd.row,au,an,ag]
  |none=>
   rw[h2]at e2;simp only[u0]at e2;simp[-ah,-aa,Sh,Am,V6,e1,e2,en,wK,ag]
def tP(o:Option (T3×Int)):AV:=match o with
 |some (t,r)=>.fm [.agg [.int .i64 t.b,.int .i64 t.r,.int .i64 t.d],.int .i64 r,.bool true]|none=>.fm [.agg [.int .i64 0,.int .i64 0,.int .i64 0],.int .i64 0,.bool false]
def Ev(V:List Vd)(o:Option (Nat×T3)):AV:=match o with|some _=>.fm [.int .i64 0,.bool false]|none=>.fm [.int .i64 V.length,.bool true]
def CK.Ew(c:CK)(w:AV):dz:=.rows 0 14 [[aA 2 (c.H.bK.map dx),br c.H.globals,aA 6 (c.H.sigs.map Sg.row),.int .i64 c.main,bD 1 (ga c.H.rs),.str c.sg.nm,br c.sg.ps,.bool c.sg.bP,.int .i64 c.sg.bz.b,.int .i64 c.sg.bz.r,.int .i64 c.sg.bz.d,w,.int .i64 c.fe,.int .i64 c.fa]]
theorem H8{af:Nat}{c:CK}{bx:bF}:aW 0 af (.load false 1 true) [.val (.ptr 0 0 0 11)] [c.aU] bx=some (.val (bD 4 (c.V.map Vd.row)),[c.Ew (bD 4 (c.V.map Vd.row)).di],bx):=by
 simp only[CK.aU,CK.Ew];generalize c.V.map Vd.row=rows;cases rows with
 |nil=>simp[aW,bD,cut,dA,cu,aQ,AV.di,AV.ax,AV.ai,ag,bM]|cons a l=>simp[aW,bD,cut,dA,cu,aQ,AV.di,AV.ax,AV.ai,ag,bM]
theorem Ns{af:Nat}{c:CK}{w:AV}{W:List Vd}{bx:bF}:aW 0 af (.store 1) [.val (.ptr 0 0 0 11),.val (bD 4 (W.map Vd.row))] [c.Ew w] bx=some (.none,[({ c with V:=W }:CK).aU],bx):=by
 simp[CK.aU,CK.Ew,aQ,AV.ai,ag]
theorem LI(af:Nat)(c:CK)(s:List UInt8)(t:T3)(hs:oh c):(bh S).call 0 af 139 [.ptr 0 0 0 0,.str s,.agg [.int .i64 t.b,.int .i64 t.r,.int .i64 t.d]] [c.aU] =
  some (Ev c.V (eJ s 0 c.V),[(match eJ s 0 c.V with|some _=>c|none=>{ c with V:=c.V++[(⟨s,t⟩:Vd)] }:CK).aU]):=by
 have e1:=λwl af st=>An wl af c.V s st hs.V;have hV:=hs.V;refine ay (sf:=Vz) rfl rfl rfl ?_;cases h1:eJ s 0 c.V with
 |some x=>
  obtain⟨k,u⟩:=x;rw[h1]at e1;simp only[u0]at e1;have XQ:(0:Int)<=(k:Int):=by omega
  simp[-ah,-aa,Vz,Am,e1,XQ,Ev]
 |none=>
  rw[h1]at e1;simp only[u0]at e1;have lJ:=dV (sz:=4) (bytes:=40) (r:=c.V.map Vd.row) (new:=[[.str s,.int .i64 t.b,.int .i64 t.r,.int .i64 t.d]]) (by simp[bL]) (by simp[cT];omega);have V1:c.V.map Vd.row++[[.str s,.int .i64 t.b,.int .i64 t.r,.int .i64 t.d]]=(c.V++[(⟨s,t⟩:Vd)]).map Vd.row:=by simp[Vd.row]
  rw[V1]at lJ;have ep:=λaf bx=>Ns (af:=af) (c:=c) (w:=(bD 4 (c.V.map Vd.row)).di) (W:=c.V++[(⟨s,t⟩:Vd)]) (bx:=bx);have et:=λaf bx=>H8 (af:=af) (c:=c) (bx:=bx);have ev:=λwl af bx=>Am (wl:=wl) (af:=af) (c:={ c with V:=c.V++[(⟨s,t⟩:Vd)] }) (r:=[]) (bx:=bx);simp only at ev;have hLl:(aM (br (c.V++[(⟨s,t⟩:Vd)]))).length=c.V.length+1:=by simp
  have hLs:aD (br (c.V++[(⟨s,t⟩:Vd)]))=true:=dL;generalize br (c.V++[(⟨s,t⟩:Vd)])=R2 at *;generalize ({ c with V:=c.V++[(⟨s,t⟩:Vd)] }:CK).aU=Yp at *;generalize c.Ew (bD 4 (c.V.map Vd.row)).di=ob1 at *;generalize bD 4 ((c.V++[(⟨s,t⟩:Vd)]).map Vd.row)=R at *;generalize bD 4 (c.V.map Vd.row)=R0 at *;have hw:IntKind.i64.wrap (c.V.length:Int)=(c.V.length:Int):=by rw[ee]<;>omega
  simp[-ah,-aa,Vz,Am,e1,Ev,et,ep,ev,lJ,hLs,hLl,hw,au,an,AV.view]
end K9
namespace K9
open Ax Go bu V7 jG ke
theorem aak(wl af:Nat)(l:List (List UInt8))(s:List UInt8)(st:aj)(hn:l.length<1000000000) :
  (bh S).call wl af 117 [aA 1 (ga l),.str s] st=some (.int .i64 (vq l s),st):=by
 have hz:bX 1 (aA 1 (ga l))=true:=gf (by simp[bL,ga]);have hl:(ga l).length=l.length:=by simp[ga]
 have hg:∀k (h:k<(ga l).length),(ga l)[k]=[.str (l[k]'(by simpa [ga] using h))]:=λk h=>by simp[ga]
 have V2:∀k (h:k<l.length),(ga l)[k]?=some [.str l[k]]:=λk h=>by simp[ga,h]
 refine bN (sf:=Sc) rfl rfl (by simp) rfl (by simp) ?_;simp[Sc,hl];refine bf HF.eq_1 (λq:Nat×Int=>⟨[(0,.val (aA 1 (ga l))),(1,.val (.str s)),(7,.val (.int .i64 l.length)),(8,.val (.int .i64 q.1))],[],[]⟩)
  (λq=>q.1<=l.length/\Co (λx=>decide (x=s)) l q.1) (λq=>l.length-q.1) (0,0) (by simp) ⟨by simp,qP⟩ ?_
 rintro⟨k,bb⟩ ⟨hk,hp⟩ ih;simp only at hk hp ih;by_cases aX:k<l.length;have hw:=wk k (by omega);have g:=V2 k aX;by_cases e:l[k]=s;have hi:=HN hp aX e;simp[aX,hz,hl,hg,e,hi];have e':¬s=l[k]:=λh=>e h.symm;simp[aX,hz,hl,hg,e',hw];exact ih (k+1,0) ⟨by simp;omega,qQ hp aX (by simpa using e)⟩ (by simp;omega);have eL:k=l.length:=by omega
 have hi:=A5 (eL ▸ hp);simp[aX,hi]
def LJ(x:T3×Bool):AV:=.fm [.agg [.int .i64 x.1.b,.int .i64 x.1.r,.int .i64 x.1.d],.bool x.2]
theorem Af(wl af:Nat)(l:List (List UInt8))(s:List UInt8)(d:Int)(st:aj)(hn:l.length<1000000000) :
  (bh S).call wl af 118 [aA 1 (ga l),.agg [.str s,.int .i64 d]] st=some (LJ (bZ l s d),st):=by
 have hi:=aak 0 0 l s [] hn;refine bN (sf:=yP) rfl rfl (by simp[AV.ai,AV.ax]) rfl (by simp[LJ,AV.ax,AV.ai]) ?_;unfold LJ;by_cases d0:d<0;have:bZ l s d=(T0,false):=if_pos (.inl d0);rw[this];simp[yP,d0];by_cases d3:3<d;have:bZ l s d=(T0,false):=if_pos (.inr d3);rw[this];simp[yP,d0,d3];have hd:¬(d<0\/3<d):=by omega
 unfold bZ;rw[if_neg hd];by_cases i1:s=[105,110,116];simp[yP,d0,d3,i1];by_cases i2:s=[98,111,111,108];simp[yP,d0,d3,i2];rw[if_neg i1,if_neg i2];by_cases i3:vq l s<0;simp[yP,d0,d3,i1,i2,hi,i3];simp[yP,d0,d3,i1,i2,hi,i3]
theorem LD(wl af:Nat)(t:T3)(st:aj):(bh S).call wl af 46 [.agg [.int .i64 t.b,.int .i64 t.r,.int .i64 t.d]] st=some (.bool (nK t),st):=by
 refine bN (sf:=Zr) rfl rfl (by simp[AV.ai,AV.ax]) rfl (by simp) ?_;unfold nK;by_cases b:t.b=3;simp[Zr,b];simp[Zr,b]
theorem S4(af:Nat)(c:CK)(e:E)(x:E)(hk:e.aC=[x])(hs:oh c)(hx:x.ty.b=3->0<=x.ty.r/\x.ty.r<c.H.bK.length) :
  (bh S).call 0 af 148 [.ptr 0 0 0 0,.agg e.row] [c.aU]=some (tP (wE c.H x.ty e.nm),[c.aU]):=by
 have en:=λwl af st=>lC wl af st;have cZ:=E.az e;have hz:bX 11 (aI e.aC)=true:=iM;have mF:aM (aI e.aC)=[x.row]:=by rw[hk];simp[aI,E.rows]
 have cC:aD (aI e.aC)=true:=aR;have dW:(aI e.aC).view=aI e.aC:=aN;rw[E.az x]at mF;rw[cZ];generalize aI e.aC=kv at *;have Ym:bX 2 (aA 2 (c.H.bK.map dx))=true:=gf (by simp[bL,dx]);refine ay (sf:=OB) rfl rfl rfl ?_;unfold wE;by_cases hb:x.ty.b=3;by_cases hd:x.ty.d=0;rw[if_pos ⟨hb,hd⟩];obtain⟨h0,h1⟩:=hx hb;obtain⟨k,KN⟩:∃k:Nat,x.ty.r=k:=⟨x.ty.r.toNat,by omega⟩;have eL:k<c.H.bK.length:=by omega
 have hg:c.H.bK[k]?=some c.H.bK[k]:=List.getElem?_eq_getElem eL;have hF:=hs.F _ (List.getElem_mem eL);generalize hsh:c.H.bK[k]=sh at *;have e1:=λwl af st=>An wl af sh.2 e.nm st hF;rw[KN,Int.toNat_natCast,hg];simp only;rw[KN]at mF;have XT:∀h:k<(c.H.bK.map dx).length,(c.H.bK.map dx)[k]=[.str sh.1,br sh.2]:=λh=>by simp[hsh,dx]
 cases h2:eJ e.nm 0 sh.2 with
 |some y=>
  obtain⟨j,u⟩:=y;obtain⟨hj,hu⟩:=H7 h2;subst hu;rw[h2]at e1;simp only[u0]at e1;have hj0:¬((j:Int)<0):=by omega
  simp[-ah,-aa,OB,aY,V5,hz,cC,dW,mF,hb,hd,Ym,eL,XT,e1,hj0,hj,Vd.row,tP,au,an,ag,AV.view]
 |none=>
  rw[h2]at e1;simp only[u0]at e1;simp[-ah,-aa,OB,aY,V5,hz,cC,dW,mF,hb,hd,Ym,eL,XT,e1,en,tP,au,an,ag,AV.view]
 rw[if_neg (λh=>hd h.2)];simp[-ah,-aa,OB,aY,hz,cC,dW,mF,hb,hd,en,tP,ag,AV.view];rw[if_neg (λh=>hb h.1)];simp[-ah,-aa,OB,aY,hz,cC,dW,mF,hb,en,tP,ag,AV.view]
theorem ai7(t u:T3):(t=u)=(t.b=u.b/\t.r=u.r/\t.d=u.d):=by
 obtain⟨a,b,c⟩:=t;obtain⟨d,e,f⟩:=u;simp
theorem dU(t u:T3):(decide (t.b=u.b)&&(decide (t.r=u.r)&&decide (t.d=u.d)))=decide (t=u):=by
 rw[Bool.eq_iff_iff];simp only[Bool.and_eq_true,decide_eq_true_eq];exact(iff_of_eq (ai7 t u)).symm
theorem dI(t:T3):(decide (t.b=1)&&(decide (t.r=0)&&decide (t.d=0)))=decide (t=tI):=dU t tI
theorem dB(t:T3):(decide (t.b=2)&&(decide (t.r=0)&&decide (t.d=0)))=decide (t=tB):=dU t tB
theorem d0(t:T3):(decide (t.b=0)&&(decide (t.r=0)&&decide (t.d=0)))=decide (t=T0):=dU t T0
def Fy(k:Int):T3:=if k=14\/k=15\/k=16\/k=17\/k=18 then tI else tB
theorem jD{b:Bool}{t:T3}:(Cp b t).isSome=b:=by cases b<;>rfl
theorem H9{b:Bool}{t u:T3}{r:Int}(h:Cp b t=some (u,r)):t=u/\0=r:=by cases b<;>cases h;exact⟨rfl,rfl⟩
theorem aal{k:Int}{a b u:T3}{r:Int}(h:Fv k a b=some (u,r)):Fy k=u/\0=r:=by
 unfold Fv at h;unfold Fy;split at h;rename_i c;rw[if_pos c];exact H9 h;rename_i c;rw[if_neg c];split at h;exact H9 h;split at h<;>exact H9 h
theorem aam(af:Nat)(c:CK)(e x y:E)(hk:e.aC=[x,y]):(bh S).call 0 af 150 [.ptr 0 0 0 0,.agg e.row] [c.aU] =
  some (.fm [.agg [.int .i64 (Fy e.k).b,.int .i64 (Fy e.k).r,.int .i64 (Fy e.k).d],.int .i64 0,.bool (Fv e.k x.ty y.ty).isSome],[c.aU]):=by
 have et:=λwl af st=>Eu wl af st;have en:=λwl af st=>Bh wl af st;have hz:bX 11 (aI e.aC)=true:=iM;have mF:aM (aI e.aC)=[x.row,y.row]:=by rw[hk];simp[aI,E.rows]
 have cC:aD (aI e.aC)=true:=aR;have dW:(aI e.aC).view=aI e.aC:=aN;rw[E.az x,E.az y]at mF;rw[E.az e];generalize aI e.aC=kv at *;refine ay (sf:=Cn) rfl rfl rfl ?_;unfold Fv Fy;generalize e.k=k;have lG:∀(p:Bool) (t:T3),(Cp p t).isSome=p:=λp t=>jD;by_cases h1:k=14;subst h1;by_cases q:x.ty=tI<;>simp[-ah,-aa,Cn,aY,hz,cC,dW,mF,en,dI,q,lG,au,aV,bG,an,ag,AV.view];by_cases h2:k=15;subst h2;by_cases q:x.ty=tI<;>simp[-ah,-aa,Cn,aY,hz,cC,dW,mF,en,dI,q,lG,au,aV,bG,an,ag,AV.view];by_cases h3:k=16;subst h3;by_cases q:x.ty=tI<;>simp[-ah,-aa,Cn,aY,hz,cC,dW,mF,en,dI,q,lG,au,aV,bG,an,ag,AV.view];by_cases h4:k=17;subst h4;by_cases q:x.ty=tI<;>simp[-ah,-aa,Cn,aY,hz,cC,dW,mF,en,dI,q,lG,au,aV,bG,an,ag,AV.view];by_cases h5:k=18;subst h5;by_cases q:x.ty=tI<;>simp[-ah,-aa,Cn,aY,hz,cC,dW,mF,en,dI,q,lG,au,aV,bG,an,ag,AV.view];by_cases h6:k=19;subst h6;by_cases q:x.ty=tI<;>simp[-ah,-aa,Cn,aY,hz,cC,dW,mF,en,et,dI,q,lG,au,aV,bG,an,ag,AV.view];by_cases h7:k=20;subst h7;by_cases q:x.ty=tI<;>simp[-ah,-aa,Cn,aY,hz,cC,dW,mF,en,et,dI,q,lG,au,aV,bG,an,ag,AV.view];by_cases h8:k=21;subst h8;simp[-ah,-aa,Cn,aY,hz,cC,dW,mF,et,dU,lG,au,aV,bG,an,ag,AV.view];by_cases h9:k=22;subst h9;simp[-ah,-aa,Cn,aY,hz,cC,dW,mF,et,dU,lG,au,aV,bG,an,ag,AV.view];by_cases q:x.ty=tB<;>simp[-ah,-aa,Cn,aY,hz,cC,dW,mF,et,dB,q,lG,h1,h2,h3,h4,h5,h6,h7,h8,h9,au,aV,bG,an,ag,AV.view]
def S5(o:Option (Nat×Sg)):Int:=match o with|some (k,_)=>(k:Int)|none=>-1
theorem EA{s:List UInt8}{l:List Sg}{k:Nat}(h:k<l.length):mH s k (l.drop k)=if l[k].nm=s then some (k,l[k]) else mH s (k+1) (l.drop (k+1)):=by
 rw[List.drop_eq_getElem_cons h];rfl
theorem Nt{s:List UInt8}:∀{l:List Sg}{i k:Nat}{t:Sg},mH s i l=some (k,t)->i<=k/\∃h:k-i<l.length,l[k-i]=t
 |[],_,_,_,h=>by cases h|f::l,i,k,t,h=>by
  unfold mH at h;split at h;cases h;exact⟨Nat.le_refl _,by simp,by simp⟩;obtain⟨h1,h2,h3⟩:=Nt h;refine⟨by omega,by simp only[List.length_cons];omega,?_⟩;have:k-i=(k-(i+1))+1:=by omega
  simp only[this,List.getElem_cons_succ];exact h3
theorem aan{s:List UInt8}{l:List Sg}{k:Nat}{t:Sg}(h:mH s 0 l=some (k,t)):∃h:k<l.length,l[k]=t:=by
 obtain⟨_,h1,h2⟩:=Nt h;exact⟨by simpa using h1,by simpa using h2⟩
theorem V9(af:Nat)(g:Sg)(e:E)(o:dz):(bh S).call 0 af 152 [.agg g.row,.ptr 1 0 0 0] [o,.rows 0 11 [e.row]]=some (.bool (decide (g.nm=e.nm)),[o,.rows 0 11 [e.row]]):=by
 refine ay (sf:=ZN) rfl rfl rfl ?_;rw[E.az];simp[ZN,Sg.row,cut,AV.view]
theorem O1(af:Nat)(l:List Sg)(e:E)(o:dz)(hn:l.length<1000000000):(bh S).call 0 af 79 [aA 6 (l.map Sg.row),.fn 152 [] [.ptr 1 0 0 0]] [o,.rows 0 11 [e.row]]=some (.int .i64 (S5 (mH e.nm 0 l)),[o,.rows 0 11 [e.row]]):=by
 have el:=λaf f=>V9 af f e o;simp only[Sg.row]at el;have hz:bX 6 (aA 6 (l.map Sg.row))=true:=gf (by simp[bL,Sg.row]);generalize dz.rows 0 11 [e.row]=o2 at *;refine ay (sf:=s79) rfl rfl rfl ?_;simp[s79];refine bf Li.eq_1 (λq:Nat×Int=>⟨[(0,.val (aA 6 (l.map Sg.row))),(1,.val (.fn 152 [] [.ptr 1 0 0 0])),(7,.val (.int .i64 l.length)),(8,.val (.int .i64 q.1))],[],[o,o2]⟩)
  (λq=>q.1<=l.length/\mH e.nm 0 l=mH e.nm q.1 (l.drop q.1)) (λq=>l.length-q.1) (0,0) (by simp) ⟨by simp,by simp⟩ ?_
 rintro⟨k,bb⟩ ⟨hk,hp⟩ ih;simp only at hk hp ih;by_cases aX:k<l.length;have hw:=wk k (by omega);rw[EA aX]at hp;have e1:=λaf=>el af l[k];by_cases h:l[k].nm=e.nm;rw[if_pos h]at hp;rw[hp];rw[decide_eq_true h]at e1;simp[aX,hz,e1,Sg.row,S5];rw[if_neg h]at hp;rw[decide_eq_false h]at e1;simp[aX,hz,e1,Sg.row,hw];exact ih (k+1,0) ⟨by simp;omega,hp⟩ (by simp;omega);have eL:k=l.length:=by omega
 have:mH e.nm 0 l=none:=by rw[hp,eL,List.drop_length];rfl
 rw[this];simp[aX,S5]
theorem Gz{l:List Vd}{r:List E}:∀{k:Nat}(h1:k<l.length)(h2:k<r.length),ji (l.drop k) (r.drop k)=(decide (r[k].ty=l[k].ty)&&ji (l.drop (k+1)) (r.drop (k+1))):=by
 intro k h1 h2;rw[List.drop_eq_getElem_cons h1,List.drop_eq_getElem_cons h2]
 rfl
theorem Ao:∀{l:List Vd}{r:List E},ji l r=true->l.length=r.length
 |[],[],_=>rfl|[],_::_,h=>by cases h|_::_,[],h=>by cases h|_::l,_::r,h=>by
  simp only[ji,Bool.and_eq_true]at h;simp[Ao h.2]
end K9
namespace K9
open Ax Go bu V7 jG ke
theorem aao{wl af:Nat}{o:dz}{e:E}{bx:bF}:aW wl af (.load false 1 false) [.val (.ptr 1 0 0 5)] [o,.rows 0 11 [e.row]] bx=some (.val (aI e.aC),[o,.rows 0 11 [e.row]],bx):=by
 simp[E.az,cut]
theorem u5{l:List E}{k:Nat}(h:k<l.length):(E.rows l)[k]?=some l[k].row:=by simp[gh,h]
theorem oY{l:List E}{k:Nat}(h:k<l.length)(h2:k<(E.rows l).length):(E.rows l)[k]=l[k].row:=by simp[gh]
theorem zM(af:Nat)(c:CK)(e:E)(hs:oh c)(hn:e.aC.length<1000000000):(bh S).call 0 af 149 [.ptr 0 0 0 0,.agg e.row] [c.aU]=some (tP (oD c.H e.nm e.aC),[c.aU]):=by
 have en:=λwl af st=>lC wl af st;have ei:=λaf=>O1 af c.H.sigs e c.aU hs.S;have S6:bX 6 (aA 6 (c.H.sigs.map Sg.row))=true:=gf (by simp[bL,Sg.row]);have hzE:bX 11 (aI e.aC)=true:=iM;have cP:aM (aI e.aC)=E.rows e.aC:=aE;have hS:=hs.S;have ek:=λwl af bx=>aao (wl:=wl) (af:=af) (o:=c.aU) (e:=e) (bx:=bx);have hsi:=λwl af bx=>S1 (wl:=wl) (af:=af) (c:=c) (r:=[.rows 0 11 [e.row]]) (bx:=bx);have vm:∀bx,aW 0 1 (.box 11) [.val (.agg e.row)] [c.aU] bx=some (.val (.ptr 1 0 0 0),[c.aU,.rows 0 11 [e.row]],bx):=λbx=>by rw[E.az];simp
 refine ay (sf:=Sj) rfl rfl rfl ?_;unfold oD;generalize hO:dz.rows 0 11 [e.row]=o at *;cases h1:mH e.nm 0 c.H.sigs with
 |none=>
  rw[h1]at ei;simp only[S5]at ei;simp[-ah,-aa,-MW,Sj,vm,hsi,ei,en,tP,au,an,ag]
 |some y=>
  obtain⟨i,s⟩:=y;obtain⟨hi,hg⟩:=aan h1;rw[h1]at ei;simp only[S5]at ei;have hi0:¬((i:Int)<0):=by omega
  have hP:=hs.P _ (List.getElem_mem hi);rw[hg]at hP;have gS:(c.H.sigs.map Sg.row)[i]?=some [.str s.nm,br s.ps,.bool s.bP,.int .i64 s.bz.b,.int .i64 s.bz.r,.int .i64 s.bz.d]:=by simp[hi,hg,Sg.row]
  have yz:∀h:i<(c.H.sigs.map Sg.row).length,(c.H.sigs.map Sg.row)[i]=[.str s.nm,br s.ps,.bool s.bP,.int .i64 s.bz.b,.int .i64 s.bz.r,.int .i64 s.bz.d]:=λh=>by simp[hg,Sg.row]
  simp only;by_cases hl:s.ps.length=e.aC.length;have sL:¬((s.ps.length:Int)≠(e.aC.length:Int)):=by omega
  simp[-ah,-aa,-MW,Sj,vm,hsi,ei,hi0,ek,S6,hi,yz,aY,cP,hl,tP,au,an,AV.view];refine bf M8.eq_1 (λy:Nat×List AV=>⟨[(0,.val (.ptr 0 0 0 0)),(3,.val (.ptr 1 0 0 0)),(4,.fp 0 0),(7,.val (.int .i64 i)),(44,.val (br s.ps)),(45,.val (.int .i64 e.aC.length)),(46,.val (.int .i64 y.1))],
   [[.int .i64 0,.int .i64 0,.int .i64 0],y.2],[c.aU,o]⟩) (λy=>y.1<=e.aC.length/\ji s.ps e.aC=ji (s.ps.drop y.1) (e.aC.drop y.1)) (λy=>e.aC.length-y.1) (0,[]) rfl ⟨by simp,by simp⟩ ?_
  rintro⟨k,b2⟩ ⟨hk,hp⟩ ih;simp only at hk hp ih;by_cases aX:k<e.aC.length;have qd:k<s.ps.length:=by omega
  have hw:=wk k (by omega);rw[Gz qd aX]at hp;have gP:(s.ps.map Vd.row)[k]?=some [.str s.ps[k].nm,.int .i64 s.ps[k].ty.b,.int .i64 s.ps[k].ty.r,.int .i64 s.ps[k].ty.d]:=by simp[qd,Vd.row]
  have gP':∀h:k<(s.ps.map Vd.row).length,(s.ps.map Vd.row)[k]=[.str s.ps[k].nm,.int .i64 s.ps[k].ty.b,.int .i64 s.ps[k].ty.r,.int .i64 s.ps[k].ty.d]:=λh=>by simp[Vd.row]
  have gE:=u5 aX;have m9:=λh2=>oY aX h2;simp only[E.az]at gE m9;by_cases q:e.aC[k].ty=s.ps[k].ty;rw[decide_eq_true q,Bool.true_and]at hp;have dy:=λb=>ih (k+1,b) ⟨by simp only;omega,hp⟩ (by simp only;omega);simp only at dy;rw[q]at gE m9;generalize e.aC[k]=x at *;generalize s.ps[k]=p at *;simp[-ah,-aa,aX,qd,hw,gP',m9,ek,hzE,cP,aY,au,an,ag,AV.view];exact dy _;rw[decide_eq_false q,Bool.false_and]at hp;generalize e.aC[k]=x at *;generalize s.ps[k]=p at *;simp[-ah,-aa,aX,qd,gP',m9,ek,hzE,cP,aY,dU,q,hp,en,au,an,ag,AV.view];have eL:k=e.aC.length:=by omega
  have:ji s.ps e.aC=true:=by rw[hp,eL,List.drop_length,<-hl,List.drop_length];rfl
  have ai9:=λwl af bx=>S1 (wl:=wl) (af:=af) (c:=c) (r:=[o]) (bx:=bx);simp[-ah,-aa,aX,this,ai9,S6,hi,yz,aY,ag,AV.view];have jn:ji s.ps e.aC=false:=by
   cases h:ji s.ps e.aC with
   |false=>rfl|true=>exact absurd (Ao h) hl
  have sL:¬((s.ps.length:Int)=(e.aC.length:Int)):=by omega
  rw[jn];simp[-ah,-aa,-MW,Sj,vm,hsi,ei,hi0,ek,S6,hi,yz,aY,cP,hl,en,tP,au,an,ag,AV.view]
end K9
namespace K9
open Ax Go bu V7 jG ke
def S7(o:Option (T3×Int))(v:AV):Prop:=∃(t:T3)(z:Int),v=.fm [.agg [.int .i64 t.b,.int .i64 t.r,.int .i64 t.d],.int .i64 z,.bool o.isSome]/\∀u r,o=some (u,r)->t=u/\z=r
theorem LM(o:Option (T3×Int)):S7 o (tP o):=by
 cases o with
 |none=>exact⟨T0,0,rfl,λ_ _ h=>by cases h⟩|some x=>exact⟨x.1,x.2,rfl,λu r h=>by cases h;exact⟨rfl,rfl⟩⟩
theorem mQ(b:Bool)(t:T3):S7 (Cp b t) (.fm [.agg [.int .i64 t.b,.int .i64 t.r,.int .i64 t.d],.int .i64 0,.bool b]):=by
 refine⟨t,0,?_,λu r h=>H9 h⟩;rw[jD]
theorem iI{af f:Nat}{sf:aH}{args:List AV}{st:aj}{o:Option (T3×Int)}(hf:S f=some sf)(ha:zk sf args=false)(hl:args.length=sf.aF)(v:AV)(hv:S7 o v)
  (h:W S (sf.mode.vh st.length 0) (sf.mode.oC st.length af) sf.results (zO sf.results sf.mode st (v,st)) [.code sf.body] .normal (pI sf args st)) :
  ∃v,S7 o v/\(bh S).call 0 af f args st=some (v,st):=⟨v,hv,ay hf ha hl h⟩
theorem Ah(af:Nat)(c:CK)(e:E)(hs:oh c)(hn:e.aC.length<1000000000)(hk:gq e.k e.n e.aC.length=true)(Wa:c.H.rs.length=c.H.bK.length)(hw:∀x∈e.aC,WT c.H.rs.length x.ty) :
  ∃v,S7 (lV c.H c.V e.k e.nm e.on e.od e.aC) v/\(bh S).call 0 af 137 [.ptr 0 0 0 0,.agg e.row] [c.aU]=some (v,[c.aU]):=by
 have eN:=λwl af st=>Bh wl af st;have eT:=λwl af st=>Eu wl af st;have eV:=λaf=>gO af c e.nm [] hs;have pU:=λwl af st=>Af wl af c.H.rs e.on e.od st hs.R;have Nu:=λwl af st=>LD wl af (bZ c.H.rs e.on e.od).1 st;have cZ:=E.az e;have hz:bX 11 (aI e.aC)=true:=iM;have cC:aD (aI e.aC)=true:=aR;have dW:(aI e.aC).view=aI e.aC:=aN;have cP:aM (aI e.aC)=E.rows e.aC:=aE;have one:∀j,e.k=j->(j=5\/j=9\/j=10\/j=12\/j=13)->∃x,e.aC=[x]:=λj hj h=>by
  have hlen:e.aC.length=1:=by
   rw[hj]at hk;rcases h with h|h|h|h|h<;>subst h<;>simpa [gq] using hk
  match hh:e.aC,hlen with
  |[x],_=>exact⟨x,rfl⟩
 have two:e.k≠1->e.k≠2->e.k≠3->e.k≠4->e.k≠5->e.k≠7->e.k≠8->e.k≠9->e.k≠10->e.k≠11->e.k≠12->e.k≠13->∃x y,e.aC=[x,y]:=λh1 h2 h3 h4 h5 h7 h8 h9 AP zg tN Fe=>by
  have hlen:e.aC.length=2:=by
   simp[gq,h1,h2,h3,h4,h5,h7,h8,h9,AP,zg,tN,Fe]at hk;exact hk.2
  match hh:e.aC,hlen with
  |[x,y],_=>exact⟨x,y,rfl⟩
 have fld:=λx (h:e.aC=[x]) af=>S4 af c e x h hs (by
  have:=(hw x (by rw[h];exact List.mem_cons_self)).2.2;rw[Wa]at this;exact this)
 have cal:=λaf=>zM af c e hs hn;have tw:=λx y (h:e.aC=[x,y]) af=>aam af c e x y h;rw[cZ]at fld cal tw;rw[cZ];unfold lV;by_cases h1:e.k=1;rw[if_pos (.inl h1)];rw[h1];refine iI (sf:=lf) rfl rfl rfl _ (mQ true tI) ?_;simp[-ah,-aa,lf,eN,ag,AV.view];by_cases zg:e.k=11;rw[if_pos (.inr zg)];rw[zg];refine iI (sf:=lf) rfl rfl rfl _ (mQ true tI) ?_;simp[-ah,-aa,lf,eN,ag,AV.view];rw[if_neg (λh=>h.elim h1 zg)];by_cases h2:e.k=2;rw[if_pos h2,h2];refine iI (sf:=lf) rfl rfl rfl _ (mQ true tB) ?_;simp[-ah,-aa,lf,eT,ag,AV.view];rw[if_neg h2];by_cases h3:e.k=3;rw[if_pos h3,h3];refine iI (sf:=lf) rfl rfl rfl _ (mQ _ _) ?_;unfold LJ at pU;generalize bZ c.H.rs e.on e.od=tt at *;obtain⟨t,b⟩:=tt;cases b<;>simp[-ah,-aa,lf,uN,pU,Nu,au,aV,bG,an,ag,AV.view];rw[if_neg h3];by_cases h4:e.k=4;rw[if_pos h4,h4];refine iI (sf:=lf) rfl rfl rfl _ (LM _) ?_;generalize rZ c.H c.V e.nm=o at *;cases o with
 |none=>simp[-ah,-aa,lf,eV,wK,tP,ag,AV.view]|some x=>simp[-ah,-aa,lf,eV,wK,tP,ag,AV.view]
 rw[if_neg h4];by_cases h5:e.k=5;rw[if_pos h5];obtain⟨x,hx⟩:=one 5 h5 (by simp);have f:=fld x hx;rw[h5]at f ⊢;have:qS e.aC=x.ty:=by rw[hx];rfl
 rw[this];refine iI (sf:=lf) rfl rfl rfl _ (LM _) ?_;generalize wE c.H x.ty e.nm=o at *;generalize aI e.aC=kv at *;cases o with
 |none=>
  simp only[tP]at f;simp[-ah,-aa,lf,f,cC,dW,tP,ag,AV.view]
 |some x=>
  simp only[tP]at f;simp[-ah,-aa,lf,f,cC,dW,tP,ag,AV.view]
 rw[if_neg h5];by_cases h6:e.k=6;rw[if_pos h6];obtain⟨x,y,hx⟩:=two h1 h2 h3 h4 h5 (by omega) (by omega) (by omega) (by omega) zg (by omega) (by omega);have a1:qS e.aC=x.ty:=by rw[hx];rfl
 have a2:B0 e.aC=y.ty:=by rw[hx];rfl
 have wx:=hw x (by rw[hx];exact List.mem_cons_self);rw[show E.rows e.aC=E.rows [x,y] from by rw[hx]]at cP;rw[a1,a2,h6];simp only[E.rows,E.az]at cP;generalize aI e.aC=kv at *;have mI:IntKind.i64.wrap (x.ty.d-1)=x.ty.d-1:=by
  have:=wx.1;have:=wx.2.1;rw[ee]<;>omega
 refine iI (sf:=lf) rfl rfl rfl _ (mQ _ _) ?_;by_cases q:0<x.ty.d;simp[-ah,-aa,lf,aY,hz,cC,dW,cP,q,eN,dI,mI,au,an,ag,AV.view];simp[-ah,-aa,lf,aY,hz,cC,dW,cP,q,mI,au,an,ag,AV.view];rw[if_neg h6];by_cases h7:e.k=7;rw[if_pos h7];rw[h7]at cal ⊢;refine iI (sf:=lf) rfl rfl rfl _ (LM _) ?_;generalize oD c.H e.nm e.aC=o at *;generalize aI e.aC=kv at *;cases o with
 |none=>
  simp only[tP]at cal;simp[-ah,-aa,lf,cal,cC,dW,tP,ag,AV.view]
 |some x=>
  simp only[tP]at cal;simp[-ah,-aa,lf,cal,cC,dW,tP,ag,AV.view]
 rw[if_neg h7];by_cases h8:e.k=8;rw[if_pos h8,h8];refine iI (sf:=lf) rfl rfl rfl _ (mQ _ _) ?_;unfold LJ at pU;generalize bZ c.H.rs e.on e.od=tt at *;obtain⟨t,b⟩:=tt;cases b with
 |false=>simp[-ah,-aa,lf,uN,pU,au,aV,bG,an,ag,AV.view]|true=>
  by_cases q:t.b=3;simp[-ah,-aa,lf,uN,pU,q,au,aV,bG,an,ag,AV.view];simp[-ah,-aa,lf,uN,pU,q,au,aV,bG,an,ag,AV.view]
 rw[if_neg h8];by_cases h9:e.k=9;rw[if_pos h9];obtain⟨x,hx⟩:=one 9 h9 (by simp);have a1:qS e.aC=x.ty:=by rw[hx];rfl
 rw[show E.rows e.aC=E.rows [x] from by rw[hx]]at cP;rw[a1,h9];simp only[E.rows,E.az]at cP;generalize aI e.aC=kv at *;have wt:=mY c.H.rs e.on e.od;have mI:IntKind.i64.wrap ((bZ c.H.rs e.on e.od).1.d+1)=(bZ c.H.rs e.on e.od).1.d+1:=by
  have:=wt.1;have:=wt.2.1;rw[ee]<;>omega
 refine iI (sf:=lf) rfl rfl rfl _ (mQ _ _) ?_;unfold LJ at pU;generalize bZ c.H.rs e.on e.od=tt at *;obtain⟨t,b⟩:=tt;cases b with
 |false=>simp[-ah,-aa,lf,uN,pU,cC,mI,au,aV,bG,an,ag,AV.view]|true=>
  by_cases q:t.d<3;simp[-ah,-aa,lf,uN,pU,aY,hz,cC,dW,cP,q,eN,dI,mI,au,aV,bG,an,ag,AV.view];simp[-ah,-aa,lf,uN,pU,cC,q,mI,au,aV,bG,an,ag,AV.view]
 rw[if_neg h9];by_cases AP:e.k=10;rw[if_pos AP];obtain⟨x,hx⟩:=one 10 AP (by simp);have a1:qS e.aC=x.ty:=by rw[hx];rfl
 rw[show E.rows e.aC=E.rows [x] from by rw[hx]]at cP;rw[a1,AP];simp only[E.rows,E.az]at cP;generalize aI e.aC=kv at *;refine iI (sf:=lf) rfl rfl rfl _ (mQ _ _) ?_;simp[-ah,-aa,lf,aY,hz,cC,dW,cP,eN,au,an,ag,AV.view];rw[if_neg AP];by_cases tN:e.k=12;rw[if_pos tN];obtain⟨x,hx⟩:=one 12 tN (by simp);have a1:qS e.aC=x.ty:=by rw[hx];rfl
 rw[show E.rows e.aC=E.rows [x] from by rw[hx]]at cP;rw[a1,tN];simp only[E.rows,E.az]at cP;generalize aI e.aC=kv at *;refine iI (sf:=lf) rfl rfl rfl _ (mQ _ _) ?_;simp[-ah,-aa,lf,aY,hz,cC,dW,cP,eN,dI,au,an,ag,AV.view];rw[if_neg tN];by_cases Fe:e.k=13;rw[if_pos Fe];obtain⟨x,hx⟩:=one 13 Fe (by simp);have a1:qS e.aC=x.ty:=by rw[hx];rfl
 rw[show E.rows e.aC=E.rows [x] from by rw[hx]]at cP;rw[a1,Fe];simp only[E.rows,E.az]at cP;generalize aI e.aC=kv at *;refine iI (sf:=lf) rfl rfl rfl _ (mQ _ _) ?_;simp[-ah,-aa,lf,aY,hz,cC,dW,cP,eN,eT,dB,au,an,ag,AV.view];rw[if_neg Fe];obtain⟨x,y,hx⟩:=two h1 h2 h3 h4 h5 h7 h8 h9 AP zg tN Fe;have a1:qS e.aC=x.ty:=by rw[hx];rfl
 have a2:B0 e.aC=y.ty:=by rw[hx];rfl
 rw[a1,a2];have t2:=tw x y hx;generalize aI e.aC=kv at *;refine iI (sf:=lf) rfl rfl rfl (.fm [.agg [.int .i64 (Fy e.k).b,.int .i64 (Fy e.k).r,.int .i64 (Fy e.k).d],.int .i64 0,.bool (Fv e.k x.ty y.ty).isSome]) ⟨Fy e.k,0,rfl,λu r h=>aal h⟩ ?_;simp[-ah,-aa,lf,h1,h2,h3,h4,h5,h6,h7,h8,h9,AP,zg,tN,Fe,t2,cC,dW,ag,AV.view]
end K9
namespace K9
open Ax Go bu V7 jG ke
theorem fV{c:CK}{a:Int}:(c.fail a).fe≠0:=by
 unfold CK.fail;split;show (3:Int)≠0;decide
 assumption
theorem aap{c:CK}{a b:Int}:(c.fail a).fail b=c.fail a:=by
 have h:=fV (c:=c) (a:=a);generalize c.fail a=d at *;unfold CK.fail;rw[if_neg h]
def J0(c:CK)(e:E):Prop:=match xE c.H c.V e with
 |.ok y=>∀af,(bh S).call 0 af 122 [.ptr 0 0 0 0,.agg e.row] [c.aU]=some (.agg y.row,[c.aU])|.error a=>∀af,∃y:E,(bh S).call 0 af 122 [.ptr 0 0 0 0,.agg e.row] [c.aU]=some (.agg y.row,[(c.fail a).aU])
def EB(c:CK)(e:E):Except Int E:=match xE c.H c.V e with
 |.error x=>.error x|.ok y=>if y.ty=T0 then .error y.a else .ok y
def Kx(c:CK)(e:E):Prop:=match EB c e with
 |.ok y=>∀af,(bh S).call 0 af 138 [.ptr 0 0 0 0,.agg e.row] [c.aU]=some (.agg y.row,[c.aU])|.error a=>∀af,∃y:E,(bh S).call 0 af 138 [.ptr 0 0 0 0,.agg e.row] [c.aU]=some (.agg y.row,[(c.fail a).aU])
theorem wL(c:CK)(e:E)(h:J0 c e):Kx c e:=by
 unfold J0 at h;unfold Kx EB;have en:=λwl af st=>lC wl af st;cases hc:xE c.H c.V e with
 |error a=>
  rw[hc]at h;simp only at h ⊢;obtain⟨y,e1⟩:=h 1;refine λaf=>⟨y,?_⟩;have ef:=λaf=>eX af (c.fail a) y.a [];rw[aap]at ef;rw[E.az e]at e1 ⊢;rw[E.az y]at e1 ⊢;generalize (c.fail a).aU=o at *;refine ay (sf:=Jw) rfl rfl rfl ?_;by_cases q:y.ty=T0;simp[-ah,-aa,Jw,e1,en,q,ef,ag,AV.view,au,an];simp[-ah,-aa,Jw,e1,en,d0,q,ag,AV.view,au,an]
 |ok y=>
  rw[hc]at h;simp only at h ⊢;by_cases q:y.ty=T0;rw[if_pos q];refine λaf=>⟨y,?_⟩;have ef:=λaf=>eX af c y.a [];rw[E.az e]at h ⊢;rw[E.az y]at h ⊢;generalize (c.fail y.a).aU=o at *;refine ay (sf:=Jw) rfl rfl rfl ?_;simp[-ah,-aa,Jw,h,en,q,ef,ag,AV.view,au,an];rw[if_neg q];intro af;rw[E.az e]at h ⊢;rw[E.az y]at h ⊢;refine ay (sf:=Jw) rfl rfl rfl ?_;simp[-ah,-aa,Jw,h,en,d0,q,ag,AV.view,au,an]
theorem Wb{c:CK}{e:E}{l:List E}:kN c.H c.V (e::l)=match EB c e with
  |.error x=>.error x|.ok y=>match kN c.H c.V l with
   |.error x=>.error x|.ok ys=>.ok (y::ys):=by
 conv=>lhs;unfold kN
 unfold EB;split;simp_all;rename_i y h;rw[h];simp only;split<;>rfl
def y8(ys:List E)(r:Except Int (List E)):Except Int (List E):=match r with
 |.error x=>.error x|.ok zs=>.ok (ys++zs)
def Wc(rs:List iE)(m:Ax.Mode)(st:aj)(P:AV->aj->Prop)(x:Ex)(s:St):Prop:=∃r,zO rs m st r x s/\P r.1 r.2
theorem iT{S:Nat->Option aH}{wl af f:Nat}{sf:aH}(hf:S f=some sf){args:List AV}(ha:zk sf args=false)(hl:args.length=sf.aF){st:aj}{P:AV->aj->Prop}
  (h:W S (sf.mode.vh st.length wl) (sf.mode.oC st.length af) sf.results (Wc sf.results sf.mode st P) [.code sf.body] .normal (pI sf args st)) :
  ∃v bV,(bh S).call wl af f args st=some (v,bV)/\P v bV:=by
 obtain⟨x',s',h1,r,h2,h3⟩:=h;exact⟨r.1,r.2,ay hf ha hl ⟨x',s',h1,h2⟩,h3⟩
@[simp]theorem agB{rs:List iE}{st:aj}{P:AV->aj->Prop}{v:AV}{s:St}:Wc rs Ax.Mode.kh st P (.ret v) s↔v.ax=true/\P v (s.st.take st.length):=by
 simp only[Wc,Jp,Ax.Mode.lG];constructor;rintro⟨r,h1,h2⟩;split at h1;rename_i hp;cases h1;exact⟨hp,h2⟩;cases h1;rintro⟨h1,h2⟩;exact⟨(v,s.st.take st.length),by rw[if_pos h1],h2⟩
@[simp]theorem agC{rs:List iE}{st:aj}{P:AV->aj->Prop}{s:St}:Wc rs Ax.Mode.kh st P .normal s↔∃v,xS s rs=some v/\v.ax=true/\P v (s.st.take st.length):=by
 simp only[Wc,Jq,Ax.Mode.lG];constructor;rintro⟨r,⟨v,h0,h1⟩,h2⟩;split at h1;rename_i hp;cases h1;exact⟨v,h0,hp,h2⟩;cases h1;rintro⟨v,h0,h1,h2⟩;exact⟨(v,s.st.take st.length),⟨v,h0,by rw[if_pos h1]⟩,h2⟩
theorem Ap{c:CK}{l:List E}{ys:List E}{k:Nat}(h:k<l.length):y8 ys (kN c.H c.V (l.drop k))=match EB c l[k] with
  |.error x=>.error x|.ok y=>y8 (ys++[y]) (kN c.H c.V (l.drop (k+1))):=by
 rw[List.drop_eq_getElem_cons h,Wb];split
 rfl
 split;rename_i h1;rw[h1];rfl;rename_i h1;rw[h1];simp[y8]
theorem mB(c:CK)(l:List E)(hf:c.fe=0)(hn:l.length<1000000000)(hl:∀e∈l,J0 c e):match kN c.H c.V l with
  |.ok ys=>∀af,(bh S).call 0 af 123 [.ptr 0 0 0 0,aI l] [c.aU]=some (bD 11 (E.rows ys),[c.aU])|.error a=>∀af,∃v,aD v=true/\(bh S).call 0 af 123 [.ptr 0 0 0 0,aI l] [c.aU]=some (v,[(c.fail a).aU]):=by
 have hz:bX 11 (aI l)=true:=iM;have cC:aD (aI l)=true:=aR;have dW:(aI l).view=aI l:=aN;have cP:aM (aI l)=E.rows l:=aE;have fy:=λaf=>cU af c [];rw[decide_eq_true hf]at fy;have lJ:∀(ys:List E) (y:E),ys.length<1000000000->nI 11 120 (bD 11 (E.rows ys)) [y.row]=some (bD 11 (E.rows (ys++[y]))):=λys y h=>by
  rw[dV (by simp[bL,E.az]) (by simp[cT];omega)];simp[gh]
 cases hR:kN c.H c.V l with
 |ok zs=>
  intro af;refine ay (sf:=Se) rfl rfl rfl ?_;generalize aI l=lv at *;simp[-ah,-aa,Se,cC,dW,cP];refine bf HI.eq_1 (λx:Nat×List E×List AV=>⟨[(0,.val (.ptr 0 0 0 0)),(5,.val (bD 11 (E.rows x.2.1))),(8,.val lv),(9,.val (.int .i64 l.length)),(10,.val (.int .i64 x.1))],[x.2.2],[c.aU]⟩)
   (λx=>x.1<=l.length/\x.2.1.length=x.1/\y8 x.2.1 (kN c.H c.V (l.drop x.1))=.ok zs) (λx=>l.length-x.1) (0,[],[]) rfl ⟨by simp,rfl,by simp[y8,hR]⟩ ?_
  rintro⟨k,ys,b⟩ ⟨hk,hy,hp⟩ ih;simp only at hk hy hp ih;by_cases aX:k<l.length;have hw:=wk k (by omega);have hv:=wL c l[k] (hl _ (List.getElem_mem aX));unfold Kx at hv;rw[Ap aX]at hp;have gE:=u5 aX;have m9:=λh2=>oY aX h2;cases hx:EB c l[k] with
  |error a=>rw[hx]at hp;cases hp|ok y=>
   rw[hx]at hp hv;simp only at hp hv;have ap:=lJ ys y (by omega);have dy:=λb=>ih (k+1,ys++[y],b) ⟨by simp only;omega,by simp[hy],hp⟩ (by simp only;omega);simp only at dy;generalize bD 11 (E.rows (ys++[y]))=R at *;rw[E.az l[k]]at hv gE;simp only[E.az l[k]]at m9;rw[E.az y]at hv ap;generalize l[k]=x at *;simp[-ah,-aa,aY,aX,hw,hz,cP,m9,fy,hv,ap,ag,AV.view];exact dy _
  have eL:k=l.length:=by omega
  have:ys=zs:=by
   rw[eL,List.drop_length]at hp;simpa [kN,y8] using hp
  subst this;simp[-ah,-aa,aX]
 |error a=>
  intro af;have xZ:=fV (c:=c) (a:=a);have gr:=λaf=>cU af (c.fail a) [];rw[decide_eq_false xZ]at gr;obtain⟨v,bV,h1,h2,h3⟩:∃v bV,(bh S).call 0 af 123 [.ptr 0 0 0 0,aI l] [c.aU]=some (v,bV)/\aD v=true/\bV=[(c.fail a).aU]:=by
   refine iT (sf:=Se) rfl rfl rfl ?_;generalize aI l=lv at *;simp[-ah,-aa,Se,cC,dW,cP];refine bf HI.eq_1 (λx:Nat×List E×CK×List AV=>⟨[(0,.val (.ptr 0 0 0 0)),(5,.val (bD 11 (E.rows x.2.1))),(8,.val lv),(9,.val (.int .i64 l.length)),(10,.val (.int .i64 x.1))],[x.2.2.2],[x.2.2.1.aU]⟩)
    (λx=>x.1<=l.length/\x.2.1.length=x.1/\(x.2.2.1=c/\y8 x.2.1 (kN c.H c.V (l.drop x.1))=.error a\/x.2.2.1=c.fail a)) (λx=>l.length-x.1) (0,[],c,[]) rfl ⟨by simp,rfl,.inl ⟨rfl,by simp[y8,hR]⟩⟩ ?_
   rintro⟨k,ys,d,b⟩ ⟨hk,hy,hp⟩ ih;simp only at hk hy hp ih;by_cases aX:k<l.length;have hw:=wk k (by omega);have gE:=u5 aX;have m9:=λh2=>oY aX h2;rcases hp with⟨hd,hp⟩|hd;subst hd;have hv:=wL d l[k] (hl _ (List.getElem_mem aX));unfold Kx at hv;rw[Ap aX]at hp;cases hx:EB d l[k] with
   |error a'=>
    rw[hx]at hp hv;simp only at hp hv;cases hp;obtain⟨y,hv⟩:=hv 1;have ap:=lJ ys y (by omega);have dy:=λb=>ih (k+1,ys++[y],d.fail a,b) ⟨by simp only;omega,by simp[hy],.inr rfl⟩ (by simp only;omega);simp only at dy;generalize bD 11 (E.rows (ys++[y]))=R at *;rw[E.az l[k]]at hv gE;simp only[E.az l[k]]at m9;rw[E.az y]at hv ap;generalize l[k]=x at *;simp[-ah,-aa,aY,aX,hw,hz,cP,m9,fy,hv,ap,ag,AV.view];exact dy _
   |ok y=>
    rw[hx]at hp hv;simp only at hp hv;have ap:=lJ ys y (by omega);have dy:=λb=>ih (k+1,ys++[y],d,b) ⟨by simp only;omega,by simp[hy],.inl ⟨rfl,hp⟩⟩ (by simp only;omega);simp only at dy;generalize bD 11 (E.rows (ys++[y]))=R at *;rw[E.az l[k]]at hv gE;simp only[E.az l[k]]at m9;rw[E.az y]at hv ap;generalize l[k]=x at *;simp[-ah,-aa,aY,aX,hw,hz,cP,m9,fy,hv,ap,ag,AV.view];exact dy _
   subst hd;simp only[E.az l[k]]at m9;rw[E.az l[k]]at gE;generalize l[k]=x at *;simp[-ah,-aa,aY,aX,hz,cP,m9,gr,ag,AV.view];have eL:k=l.length:=(by omega);rcases hp with⟨hd,hp⟩|hd;rw[eL,List.drop_length]at hp;simp[kN,y8]at hp;subst hd;simp[-ah,-aa,aX]
  rw[h3]at h1;exact⟨v,h2,h1⟩
end K9
namespace K9
open Ax Go bu V7 jG ke
structure pV (c:CK):Prop where
 s:oh c
 H:c.H.ok
 V:∀f∈c.V,WT c.H.rs.length f.ty
def E0:E:=.mk 0 0 [] [] 0 [] 0 T0 0
theorem eR(c:CK)(hf:c.fe=0)(hw:pV c)(e:E):E.sz e<1000000000->J0 c e:=by
 induction e using E.yx with
 |_ e ih=>
  intro dH;have nk:=E.mz e;have eL:=E.dG e.aC;have cY:=mB c e.aC hf (by omega) λx hx=>ih x hx (by have:=E.iA hx;omega);have Fz:=λwl af st=>S3 wl af e st;have GA:=λwl af st=>V8 wl af e st;have oy:=λaf=>eX af c e.a [];have fy:=λaf=>cU af c [];rw[decide_eq_true hf]at fy;have wW:xE c.H c.V e=if gq e.k e.n e.aC.length then
    match kN c.H c.V e.aC with
    |.error x=>.error x|.ok ks=>match lV c.H c.V e.k e.nm e.on e.od ks with
     |none=>.error e.a|some (t,r)=>.ok (.mk e.k (pT e.k e.n) (kG e.k e.nm) (kH e.k e.on) (kI e.k e.od) ks e.a t r)
    else .error e.a:=by
   obtain⟨k,n,nm,on,od,aC,a,ty,cH⟩:=e;conv=>lhs;unfold xE
   rfl
  unfold J0;rw[wW];have Dj:E0.row=[.int .i64 0,.int .i64 0,.str [],.str [],.int .i64 0,.U,.int .i64 0,.int .i64 0,.int .i64 0,.int .i64 0,.int .i64 0]:=by simp[E0,E.row,E.rows]
  have ow:aD (aI e.aC)=true:=aR;cases hk:gq e.k e.n e.aC.length with
  |false=>
   simp only[Bool.false_eq_true,if_false];intro af;refine⟨E0,?_⟩;rw[hk]at Fz;rw[Dj];rw[E.az e]at Fz ⊢;generalize (c.fail e.a).aU=o at *;refine ay (sf:=HH) rfl rfl rfl ?_;simp[-ah,-aa,HH,Fz,oy,ag,AV.view,AV.ax,AV.ai]
  |true=>
   simp only[if_true];rw[hk]at Fz;cases hv:kN c.H c.V e.aC with
   |error a=>
    rw[hv]at cY;simp only at cY ⊢;intro af;refine⟨E0,?_⟩;obtain⟨v,cC,ev⟩:=cY 1;have Fk:=bU cC;have Cr:=ck cC;have gr:=λaf=>cU af (c.fail a) [];rw[decide_eq_false fV]at gr;rw[Dj];rw[E.az e]at Fz GA ⊢;generalize (c.fail a).aU=o at *;refine ay (sf:=HH) rfl rfl rfl ?_;simp[-ah,-aa,HH,Fz,GA,ev,cC,gr,ag,AV.view,AV.ax,AV.ai]
   |ok ks=>
    rw[hv]at cY;simp only at cY ⊢;obtain⟨X,hX⟩:∃X:E,X=.mk e.k (pT e.k e.n) (kG e.k e.nm) (kH e.k e.on) (kI e.k e.od) ks e.a T0 0:=⟨_,rfl⟩;have hXr:X.row=[.int .i64 e.k,.int .i64 (pT e.k e.n),.str (kG e.k e.nm),.str (kH e.k e.on),.int .i64 (kI e.k e.od),aI ks,.int .i64 e.a,.int .i64 0,.int .i64 0,.int .i64 0,.int .i64 0]:=(by rw[hX];simp[E.row,aI]);have hkn:gq X.k X.n X.aC.length=true:=by
     rw[hX];simp only[E.k,E.n,E.aC];rw[nY hv];exact Lx hk
    have XU:=qE hv λx _ y hy=>SD hw.H hw.V x y hy;obtain⟨tv,⟨t,z,rfl,htr⟩,XW⟩:=Ah 1 c X hw.s (by rw[hX];simp only[E.aC];rw[nY hv];omega) hkn hw.H.rs (by rw[hX];exact XU);have aja:lV c.H c.V X.k X.nm X.on X.od X.aC=lV c.H c.V e.k e.nm e.on e.od ks:=(by rw[hX];exact SE);rw[aja]at htr XW;rw[hXr]at XW;have cC:aD (bD 11 (E.rows ks))=true:=bY;have SU:(bD 11 (E.rows ks)).view=aI ks:=rfl;have hkc:aD (aI ks)=true:=aR;generalize bD 11 (E.rows ks)=mv at *;have Fk:=bU cC;have Cr:=ck cC;cases hT:lV c.H c.V e.k e.nm e.on e.od ks with
    |none=>
     simp only;intro af;refine⟨.mk e.k (pT e.k e.n) (kG e.k e.nm) (kH e.k e.on) (kI e.k e.od) ks e.a t z,?_⟩;rw[hT]at XW;simp only[E.row,Option.isSome_none]at XW ⊢;rw[E.az e]at Fz GA ⊢;have hq:aA 11 (E.rows ks)=aI ks:=rfl;rw[hq];generalize aI ks=kv at *;generalize (c.fail e.a).aU=o at *;refine ay (sf:=HH) rfl rfl rfl ?_;simp[-ah,-aa,HH,Fz,GA,cY,SU,cC,hkc,fy,XW,oy,ag,AV.view,AV.ax,AV.ai]
    |some y=>
     obtain⟨u,r⟩:=y;obtain⟨h1,h2⟩:=htr u r hT;subst h1 h2;simp only;intro af;rw[hT]at XW;simp only[E.row,Option.isSome_some]at XW ⊢;rw[E.az e]at Fz GA ⊢;have hq:aA 11 (E.rows ks)=aI ks:=rfl;rw[hq];generalize aI ks=kv at *;refine ay (sf:=HH) rfl rfl rfl ?_;simp[-ah,-aa,HH,Fz,GA,cY,SU,cC,hkc,fy,XW,ag,AV.view,AV.ax,AV.ai]
end K9
