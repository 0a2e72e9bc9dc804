/- Part of a proof. -/
import Derived.Test.YtachcambnjecnaaGreatCode2
import Derived.Test.YtachcambnjecnaaGreatP

set_option maxRecDepth 100000
set_option maxHeartbeats 8000000
namespace K9
open Ax Go bu V7 jG j9
def ga(l:List (List UInt8)):List (List AV):=l.map λs=>[.str s]
structure CK where
 H:Hd
 main:Int
 sg:Sg
 V:List Vd
 fe:Int
 fa:Int
def CK.aT(c:CK):dy:=.rows 0 14 [[aA 2 (c.H.bK.map dw),br c.H.globals,aA 6 (c.H.sigs.map Sg.row),.int .i64 c.main,bD 1 (ga c.H.rs),.str c.sg.nm,br c.sg.ps,.bool c.sg.bO,.int .i64 c.sg.bz.b,.int .i64 c.sg.bz.r,.int .i64 c.sg.bz.d,bD 4 (c.V.map Vd.row),.int .i64 c.fe,.int .i64 c.fa]]
def CK.fail(c:CK)(a:Int):CK:=if c.fe=0 then { c with fe:=3,fa:=a } else c
@[simp]theorem dK{l:List Vd}:aD (br l)=true:=aL
@[simp]theorem fC{l:List Vd}:(br l).view=br l:=aJ
@[simp]theorem oV{l:List Vd}:aM (br l)=l.map Vd.row:=aE
@[simp]theorem ab0{l:List E}:(E.rows l).length=l.length:=by simp[gh]
@[simp]theorem aab{l:List Sm}:(Sm.rows l).length=l.length:=by simp[fY]
theorem gf{sz:Nat}{r:List (List AV)}(h:bN sz r=true):bX sz (aA sz r)=true:=by
 cases r with
 |nil=>rfl|cons a r=>simp[bX,h]
@[simp]theorem qR{l:List Vd}:bX 4 (br l)=true:=gf (by simp[bN,Vd.row])
@[simp]theorem iM{l:List E}:bX 11 (aA 11 (E.rows l))=true:=gf (by simp[bN,gh,E.az])
@[simp]theorem Aj{l:List Sm}:bX 9 (aA 9 (Sm.rows l))=true:=gf (by simp[bN,fY,Sm.az])
theorem aac{wl af:Nat}{c:CK}{r:aj}{bx:bF}:aV wl af (.load false 1 false) [.val (.ptr 0 0 0 12)] (c.aT::r) bx=some (.val (.int .i64 c.fe),c.aT::r,bx):=by
 simp[CK.aT,cut,AV.view]
theorem uL{wl af:Nat}{c:CK}{r:aj}{bx:bF}:aV wl af (.load false 1 false) [.val (.ptr 0 0 0 4)] (c.aT::r) bx=some (.val (aA 1 (ga c.H.rs)),c.aT::r,bx):=by
 simp[CK.aT,cut,aA]
theorem V1{wl af:Nat}{c:CK}{r:aj}{bx:bF}:aV wl af (.load false 1 false) [.val (.ptr 0 0 0 0)] (c.aT::r) bx=some (.val (aA 2 (c.H.bK.map dw)),c.aT::r,bx):=by
 simp[CK.aT,cut]
theorem V2{wl af:Nat}{c:CK}{r:aj}{bx:bF}:aV wl af (.load false 1 false) [.val (.ptr 0 0 0 1)] (c.aT::r) bx=some (.val (br c.H.globals),c.aT::r,bx):=by
 simp[CK.aT,cut]
theorem SW{wl af:Nat}{c:CK}{r:aj}{bx:bF}:aV wl af (.load false 1 false) [.val (.ptr 0 0 0 2)] (c.aT::r) bx=some (.val (aA 6 (c.H.sigs.map Sg.row)),c.aT::r,bx):=by
 simp[CK.aT,cut]
theorem wH{wl af:Nat}{c:CK}{r:aj}{bx:bF}:aV wl af (.load false 1 false) [.val (.ptr 0 0 0 7)] (c.aT::r) bx=some (.val (.bool c.sg.bO),c.aT::r,bx):=by
 simp[CK.aT,cut,AV.view]
theorem yw{wl af:Nat}{c:CK}{r:aj}{bx:bF}:aV wl af (.load true 3 false) [.val (.ptr 0 0 0 8)] (c.aT::r) bx=some (.val (.agg [.int .i64 c.sg.bz.b,.int .i64 c.sg.bz.r,.int .i64 c.sg.bz.d]),c.aT::r,bx):=by
 simp[CK.aT,cut,AV.view]
theorem Ak{wl af:Nat}{c:CK}{r:aj}{bx:bF}:aV wl af (.load false 1 false) [.val (.ptr 0 0 0 11)] (c.aT::r) bx=some (.val (br c.V),c.aT::r,bx):=by
 simp[CK.aT,cut,br,aA]
theorem SX{af:Nat}{c:CK}{a:Int}{r:aj}{bx:bF}:aV 0 af (.store 2) [.val (.ptr 0 0 0 12),.val (.agg [.int .i64 3,.int .i64 a])] (c.aT::r) bx=some (.none,({ c with fe:=3,fa:=a }:CK).aT::r,bx):=by
 simp[CK.aT,aY,AV.ai,AV.ax,ag]
theorem lC(wl af:Nat)(st:aj):(bh S).call wl af 119 [] st=some (.agg [.int .i64 0,.int .i64 0,.int .i64 0],st):=by
 refine bL (sf:=Zw) rfl rfl (by simp) rfl (by simp[AV.ax,AV.ai]) ?_;simp[Zw]
theorem Ep(wl af:Nat)(st:aj):(bh S).call wl af 141 [] st=some (.agg [.int .i64 2,.int .i64 0,.int .i64 0],st):=by
 refine bL (sf:=ZC) rfl rfl (by simp) rfl (by simp[AV.ax,AV.ai]) ?_;simp[ZC]
theorem Bf(wl af:Nat)(st:aj):(bh S).call wl af 142 [] st=some (.agg [.int .i64 1,.int .i64 0,.int .i64 0],st):=by
 refine bL (sf:=ZD) rfl rfl (by simp) rfl (by simp[AV.ax,AV.ai]) ?_;simp[ZD]
theorem cT(af:Nat)(c:CK)(r:aj):(bh S).call 0 af 43 [.ptr 0 0 0 0] (c.aT::r)=some (.bool (!decide (c.fe=0)),c.aT::r):=by
 refine ay (sf:=s43) rfl rfl rfl ?_;simp[-ah,-aa,s43,aac]
theorem eW(af:Nat)(c:CK)(a:Int)(r:aj):(bh S).call 0 af 121 [.ptr 0 0 0 0,.int .i64 a] (c.aT::r)=some (.fm [],(c.fail a).aT::r):=by
 have e:=λaf=>cT af c r;refine ay (sf:=Vt) rfl rfl rfl ?_;unfold CK.fail;by_cases h:c.fe=0;rw[if_pos h];simp[-ah,-aa,Vt,e,h,SX];rw[if_neg h];simp[-ah,-aa,Vt,e,h]
theorem SY(wl af:Nat)(e:E)(st:aj):(bh S).call wl af 135 [.agg e.row] st=some (.bool (gq e.k e.n e.aC.length),st):=by
 obtain⟨k,n,nm,on,od,aC,a,ty,cG⟩:=e;refine bL (sf:=tE) rfl rfl (by simp[E.row,AV.ai,AV.ax]) rfl (by simp) ?_;simp only[E.row,E.k,E.n,E.aC];unfold gq;have m0:((aC.length:Int)=0)=(aC.length=0):=by simp
 have m1:((aC.length:Int)=1)=(aC.length=1):=by apply propext;omega
 have m2:((aC.length:Int)=2)=(aC.length=2):=by apply propext;omega
 have hl:ov [] .sl (aA 11 (E.rows aC))=some aC.length:=by simp[ov]
 generalize hv:aA 11 (E.rows aC)=v at *;have v1:aD v=true:=by rw[<-hv];simp
 have v2:v.view=v:=by rw[<-hv];simp
 have v3:(aM v).length=aC.length:=by rw[<-hv];simp
 generalize aC.length=m at *;by_cases h1:k=1;subst h1;simp[tE,v1,v2,v3];by_cases h3:k=3;subst h3;simp[tE,v1,v2,v3];by_cases h4:k=4;subst h4;simp[tE,v1,v2,v3];by_cases h8:k=8;subst h8;simp[tE,v1,v2,v3];by_cases ze:k=11;subst ze;simp[tE,v1,v2,v3];by_cases h2:k=2;subst h2;by_cases q:m=0;by_cases n0:n=0;simp[tE,v1,v2,v3,q,n0];simp[tE,v1,v2,v3,q,n0];simp[tE,v1,v2,v3,q];by_cases h7:k=7;subst h7;simp[tE,v1];by_cases h5:k=5;subst h5;simp[tE,v1,v2,v3,m1];by_cases h9:k=9;subst h9;simp[tE,v1,v2,v3,m1];by_cases AN:k=10;subst AN;simp[tE,v1,v2,v3,m1];by_cases tL:k=12;subst tL;simp[tE,v1,v2,v3,m1];by_cases E7:k=13;subst E7;simp[tE,v1,v2,v3,m1];by_cases h6:k=6;subst h6;simp[tE,v1,v2,v3,m2];by_cases g1:14<=k;by_cases g2:k<=24;simp[tE,v1,v2,v3,h1,h2,h3,h4,h5,h6,h7,h8,h9,AN,ze,tL,E7,g1,g2,m2];simp[tE,v1,h1,h2,h3,h4,h5,h6,h7,h8,h9,AN,ze,tL,E7,g1,g2];simp[tE,v1,h1,h2,h3,h4,h5,h6,h7,h8,h9,AN,ze,tL,E7,g1]
theorem V3(wl af:Nat)(e:E)(st:aj):(bh S).call wl af 136 [.agg e.row] st=some (.agg [.int .i64 e.k,.int .i64 (pP e.k e.n),.str (kF e.k e.nm),.str (kG e.k e.on),.int .i64 (kH e.k e.od),.U,.int .i64 e.a,.int .i64 0,.int .i64 0,.int .i64 0,.int .i64 0],st):=by
 obtain⟨k,n,nm,on,od,aC,a,ty,cG⟩:=e;refine bL (sf:=DU) rfl rfl (by simp[E.row,AV.ai,AV.ax]) rfl (by simp[AV.ai,AV.ax]) ?_;simp only[E.row,E.k,E.n,E.nm,E.on,E.od,E.a];unfold pP kF kG kH;by_cases h1:k=1;subst h1;simp[DU,ag];by_cases h2:k=2;subst h2;simp[DU,ag];by_cases h3:k=3;subst h3;simp[DU,ag];by_cases h8:k=8;subst h8;simp[DU,ag];by_cases h9:k=9;subst h9;simp[DU,ag];by_cases h4:k=4;subst h4;simp[DU,ag];by_cases h5:k=5;subst h5;simp[DU,ag];by_cases h7:k=7;subst h7;simp[DU,ag];simp[DU,ag,h1,h2,h3,h4,h5,h7,h8,h9]
end K9
namespace K9
open Ax Go bu V7 jG j9
theorem aX{wl af:Nat}{agg:Bool}{n sz i k:Nat}{rows:List (List AV)}{st:aj}{bx:bF}:aV wl af (.load agg n false) [.val (.qd sz rows i k)] st bx=qw st bx ((dM st (.qd sz rows i k) n).bind λcs=>bP agg (AV.cq cs)):=ah
def uY(o:Option (Nat×T3)):Int:=match o with|some (k,_)=>(k:Int)|none=>-1
theorem tM{s:List UInt8}{l:List Vd}{k:Nat}(h:k<l.length):eH s k (l.drop k)=if l[k].nm=s then some (k,l[k].ty) else eH s (k+1) (l.drop (k+1)):=by
 rw[List.drop_eq_getElem_cons h];rfl
theorem aad(af:Nat)(f:Vd)(s:List UInt8):(bh S).call 0 af 154 [.agg f.row,.ptr 0 0 0 0] [.rows 0 1 [[.str s]]]=some (.bool (decide (f.nm=s)),[.rows 0 1 [[.str s]]]):=by
 refine ay (sf:=ZJ) rfl rfl rfl ?_;simp[ZJ,Vd.row,cut,AV.view]
theorem Bb(af:Nat)(l:List Vd)(s:List UInt8)(hn:l.length<1000000000):(bh S).call 0 af 153 [br l,.fn 154 [] [.ptr 0 0 0 0]] [.rows 0 1 [[.str s]]]=some (.int .i64 (uY (eH s 0 l)),[.rows 0 1 [[.str s]]]):=by
 have el:=λaf f=>aad af f s;simp only[Vd.row,T3.cells]at el;refine ay (sf:=ZI) rfl rfl rfl ?_;simp[ZI];refine bf M0.eq_1 (λq:Nat×Int=>⟨[(0,.val (br l)),(1,.val (.fn 154 [] [.ptr 0 0 0 0])),(7,.val (.int .i64 l.length)),(8,.val (.int .i64 q.1))],[],[.rows 0 1 [[.str s]]]⟩)
  (λq=>q.1<=l.length/\eH s 0 l=eH s q.1 (l.drop q.1)) (λq=>l.length-q.1) (0,0) (by simp) ⟨by simp,by simp⟩ ?_
 rintro⟨k,bb⟩ ⟨hk,hp⟩ ih;simp only at hk hp ih;by_cases aW:k<l.length;have hw:=wk k (by omega);rw[tM aW]at hp;have e1:=λaf=>el af l[k];by_cases e:l[k].nm=s;rw[if_pos e]at hp;rw[hp];rw[decide_eq_true e]at e1;simp[aW,e1,Vd.row,uY];rw[if_neg e]at hp;rw[decide_eq_false e]at e1;simp[aW,e1,Vd.row,hw];exact ih (k+1,0) ⟨by simp;omega,hp⟩ (by simp;omega);have eK:k=l.length:=by omega
 have:eH s 0 l=none:=by rw[hp,eK,List.drop_length];rfl
 rw[this];simp[aW,uY]
theorem Al(wl af:Nat)(l:List Vd)(s:List UInt8)(st:aj)(hn:l.length<1000000000):(bh S).call wl af 151 [br l,.str s] st=some (.int .i64 (uY (eH s 0 l)),st):=by
 have e:=λaf=>Bb af l s hn;refine bL (sf:=ZG) rfl rfl (by simp[AV.ai]) rfl (by simp) ?_;simp[ZG,e]
theorem rQ{s:List UInt8}:∀{l:List Vd}{i k:Nat}{t:T3},eH s i l=some (k,t)->i<=k/\∃h:k-i<l.length,l[k-i].ty=t/\l[k-i].nm=s
 |[],_,_,_,h=>by cases h|f::l,i,k,t,h=>by
  unfold eH at h;split at h;rename_i hs;cases h;exact⟨Nat.le_refl _,by simp,by simp,by simpa using hs⟩;obtain⟨h1,h2,h3,h4⟩:=rQ h;refine⟨by omega,by simp only[List.length_cons];omega,?_⟩;have:k-i=(k-(i+1))+1:=by omega
  simp only[this,List.getElem_cons_succ];exact⟨h3,h4⟩
theorem HX{s:List UInt8}{l:List Vd}{k:Nat}{t:T3}(h:eH s 0 l=some (k,t)):∃h:k<l.length,l[k].ty=t:=by
 obtain⟨_,h1,h2,_⟩:=rQ h;exact⟨by simpa using h1,by simpa using h2⟩
structure oh (c:CK):Prop where
 V:c.V.length<1000000000
 G:c.H.globals.length<1000000000
 S:c.H.sigs.length<1000000000
 R:c.H.rs.length<1000000000
 F:∀s∈c.H.bK,s.2.length<1000000000
 P:∀s∈c.H.sigs,s.ps.length<1000000000
def wI(o:Option (T3×Int)):AV:=match o with
 |some (t,r)=>.fm [.int .i64 r,.agg t.cells,.bool true]|none=>.fm [.int .i64 0,.agg T0.cells,.bool false]
theorem gK(af:Nat)(c:CK)(s:List UInt8)(r:aj)(hs:oh c):(bh S).call 0 af 140 [.ptr 0 0 0 0,.str s] (c.aT::r)=some (wI (rX c.H c.V s),c.aT::r):=by
 have e1:=λwl af st=>Al wl af c.V s st hs.V;have e2:=λwl af st=>Al wl af c.H.globals s st hs.G;have en:=λwl af st=>lC wl af st;have hV:=hs.V;have hG:=hs.G;refine ay (sf:=Sa) rfl rfl rfl ?_;unfold rX;cases h1:eH s 0 c.V with
 |some x=>
  obtain⟨k,t⟩:=x;obtain⟨hk,ht⟩:=HX h1;subst ht;rw[h1]at e1;simp only[uY]at e1;have XM:¬((k:Int)<0):=by omega
  simp[-ah,-aa,Sa,Ak,e1,wI,aX,hk,Vd.row,au,an,ag]
 |none=>
  rw[h1]at e1;simp only[uY]at e1;cases h2:eH s 0 c.H.globals with
  |some x=>
   obtain⟨k,t⟩:=x;obtain⟨hk,ht⟩:=HX h2;subst ht;rw[h2]at e2;simp only[uY]at e2;have XM:¬((k:Int)<0):=(by omega);have hw:IntKind.i64.wrap (-1-(k:Int)) = -1-(k:Int):=(by rw[dZ]<;>omega);simp[-ah,-aa,Sa,Ak,V2,e1,e2,hw,wI,aX,hk,Vd.row,au,an,ag]
  |none=>
   rw[h2]at e2;simp only[uY]at e2;simp[-ah,-aa,Sa,Ak,V2,e1,e2,en,wI,ag]
def tN(o:Option (T3×Int)):AV:=match o with
 |some (t,r)=>.fm [.agg [.int .i64 t.b,.int .i64 t.r,.int .i64 t.d],.int .i64 r,.bool true]|none=>.fm [.agg [.int .i64 0,.int .i64 0,.int .i64 0],.int .i64 0,.bool false]
def Er(V:List Vd)(o:Option (Nat×T3)):AV:=match o with|some _=>.fm [.int .i64 0,.bool false]|none=>.fm [.int .i64 V.length,.bool true]
def CK.Es(c:CK)(w:AV):dy:=.rows 0 14 [[aA 2 (c.H.bK.map dw),br c.H.globals,aA 6 (c.H.sigs.map Sg.row),.int .i64 c.main,bD 1 (ga c.H.rs),.str c.sg.nm,br c.sg.ps,.bool c.sg.bO,.int .i64 c.sg.bz.b,.int .i64 c.sg.bz.r,.int .i64 c.sg.bz.d,w,.int .i64 c.fe,.int .i64 c.fa]]
theorem HY{af:Nat}{c:CK}{bx:bF}:aV 0 af (.load false 1 true) [.val (.ptr 0 0 0 11)] [c.aT] bx=some (.val (bD 4 (c.V.map Vd.row)),[c.Es (bD 4 (c.V.map Vd.row)).dJ],bx):=by
 simp only[CK.aT,CK.Es];generalize c.V.map Vd.row=rows;cases rows with
 |nil=>simp[aV,bD,cut,dM,cV,aY,AV.dJ,AV.ax,AV.ai,ag,bP]|cons a l=>simp[aV,bD,cut,dM,cV,aY,AV.dJ,AV.ax,AV.ai,ag,bP]
theorem Nm{af:Nat}{c:CK}{w:AV}{W:List Vd}{bx:bF}:aV 0 af (.store 1) [.val (.ptr 0 0 0 11),.val (bD 4 (W.map Vd.row))] [c.Es w] bx=some (.none,[({ c with V:=W }:CK).aT],bx):=by
 simp[CK.aT,CK.Es,aY,AV.ai,ag]
theorem Lz(af:Nat)(c:CK)(s:List UInt8)(t:T3)(hs:oh c):(bh S).call 0 af 139 [.ptr 0 0 0 0,.str s,.agg [.int .i64 t.b,.int .i64 t.r,.int .i64 t.d]] [c.aT] =
  some (Er c.V (eH s 0 c.V),[(match eH s 0 c.V with|some _=>c|none=>{ c with V:=c.V++[(⟨s,t⟩:Vd)] }:CK).aT]):=by
 have e1:=λwl af st=>Al wl af c.V s st hs.V;have hV:=hs.V;refine ay (sf:=Vv) rfl rfl rfl ?_;cases h1:eH s 0 c.V with
 |some x=>
  obtain⟨k,u⟩:=x;rw[h1]at e1;simp only[uY]at e1;have XM:(0:Int)<=(k:Int):=by omega
  simp[-ah,-aa,Vv,Ak,e1,XM,Er]
 |none=>
  rw[h1]at e1;simp only[uY]at e1;have lJ:=dV (sz:=4) (bytes:=40) (r:=c.V.map Vd.row) (new:=[[.str s,.int .i64 t.b,.int .i64 t.r,.int .i64 t.d]]) (by simp[bN]) (by simp[cR];omega);have VW:c.V.map Vd.row++[[.str s,.int .i64 t.b,.int .i64 t.r,.int .i64 t.d]]=(c.V++[(⟨s,t⟩:Vd)]).map Vd.row:=by simp[Vd.row]
  rw[VW]at lJ;have ep:=λaf bx=>Nm (af:=af) (c:=c) (w:=(bD 4 (c.V.map Vd.row)).dJ) (W:=c.V++[(⟨s,t⟩:Vd)]) (bx:=bx);have et:=λaf bx=>HY (af:=af) (c:=c) (bx:=bx);have ev:=λwl af bx=>Ak (wl:=wl) (af:=af) (c:={ c with V:=c.V++[(⟨s,t⟩:Vd)] }) (r:=[]) (bx:=bx);simp only at ev;have hLl:(aM (br (c.V++[(⟨s,t⟩:Vd)]))).length=c.V.length+1:=by simp
  have hLs:aD (br (c.V++[(⟨s,t⟩:Vd)]))=true:=dK;generalize br (c.V++[(⟨s,t⟩:Vd)])=R2 at *;generalize ({ c with V:=c.V++[(⟨s,t⟩:Vd)] }:CK).aT=Yj at *;generalize c.Es (bD 4 (c.V.map Vd.row)).dJ=ob1 at *;generalize bD 4 ((c.V++[(⟨s,t⟩:Vd)]).map Vd.row)=R at *;generalize bD 4 (c.V.map Vd.row)=R0 at *;have hw:IntKind.i64.wrap (c.V.length:Int)=(c.V.length:Int):=by rw[dZ]<;>omega
  simp[-ah,-aa,Vv,Ak,e1,Er,et,ep,ev,lJ,hLs,hLl,hw,au,an,AV.view]
end K9
namespace K9
open Ax Go bu V7 jG j9
theorem aae(wl af:Nat)(l:List (List UInt8))(s:List UInt8)(st:aj)(hn:l.length<1000000000) :
  (bh S).call wl af 117 [aA 1 (ga l),.str s] st=some (.int .i64 (vo l s),st):=by
 have hz:bX 1 (aA 1 (ga l))=true:=gf (by simp[bN,ga]);have hl:(ga l).length=l.length:=by simp[ga]
 have hg:∀k (h:k<(ga l).length),(ga l)[k]=[.str (l[k]'(by simpa [ga] using h))]:=λk h=>by simp[ga]
 have VX:∀k (h:k<l.length),(ga l)[k]?=some [.str l[k]]:=λk h=>by simp[ga,h]
 refine bL (sf:=R6) rfl rfl (by simp) rfl (by simp) ?_;simp[R6,hl];refine bf HB.eq_1 (λq:Nat×Int=>⟨[(0,.val (aA 1 (ga l))),(1,.val (.str s)),(7,.val (.int .i64 l.length)),(8,.val (.int .i64 q.1))],[],[]⟩)
  (λq=>q.1<=l.length/\Cl (λx=>decide (x=s)) l q.1) (λq=>l.length-q.1) (0,0) (by simp) ⟨by simp,qM⟩ ?_
 rintro⟨k,bb⟩ ⟨hk,hp⟩ ih;simp only at hk hp ih;by_cases aW:k<l.length;have hw:=wk k (by omega);have g:=VX k aW;by_cases e:l[k]=s;have hi:=HJ hp aW e;simp[aW,hz,hl,hg,e,hi];have e':¬s=l[k]:=λh=>e h.symm;simp[aW,hz,hl,hg,e',hw];exact ih (k+1,0) ⟨by simp;omega,qN hp aW (by simpa using e)⟩ (by simp;omega);have eK:k=l.length:=by omega
 have hi:=AY (eK ▸ hp);simp[aW,hi]
def LA(x:T3×Bool):AV:=.fm [.agg [.int .i64 x.1.b,.int .i64 x.1.r,.int .i64 x.1.d],.bool x.2]
theorem Ad(wl af:Nat)(l:List (List UInt8))(s:List UInt8)(d:Int)(st:aj)(hn:l.length<1000000000) :
  (bh S).call wl af 118 [aA 1 (ga l),.agg [.str s,.int .i64 d]] st=some (LA (bZ l s d),st):=by
 have hi:=aae 0 0 l s [] hn;refine bL (sf:=yN) rfl rfl (by simp[AV.ai,AV.ax]) rfl (by simp[LA,AV.ax,AV.ai]) ?_;unfold LA;by_cases d0:d<0;have:bZ l s d=(T0,false):=if_pos (.inl d0);rw[this];simp[yN,d0];by_cases d3:3<d;have:bZ l s d=(T0,false):=if_pos (.inr d3);rw[this];simp[yN,d0,d3];have hd:¬(d<0\/3<d):=by omega
 unfold bZ;rw[if_neg hd];by_cases i1:s=[105,110,116];simp[yN,d0,d3,i1];by_cases i2:s=[98,111,111,108];simp[yN,d0,d3,i2];rw[if_neg i1,if_neg i2];by_cases i3:vo l s<0;simp[yN,d0,d3,i1,i2,hi,i3];simp[yN,d0,d3,i1,i2,hi,i3]
theorem Lw(wl af:Nat)(t:T3)(st:aj):(bh S).call wl af 46 [.agg [.int .i64 t.b,.int .i64 t.r,.int .i64 t.d]] st=some (.bool (nJ t),st):=by
 refine bL (sf:=Zl) rfl rfl (by simp[AV.ai,AV.ax]) rfl (by simp) ?_;unfold nJ;by_cases b:t.b=3;simp[Zl,b];simp[Zl,b]
theorem SZ(af:Nat)(c:CK)(e:E)(x:E)(hk:e.aC=[x])(hs:oh c)(hx:x.ty.b=3->0<=x.ty.r/\x.ty.r<c.H.bK.length) :
  (bh S).call 0 af 148 [.ptr 0 0 0 0,.agg e.row] [c.aT]=some (tN (wC c.H x.ty e.nm),[c.aT]):=by
 have en:=λwl af st=>lC wl af st;have cZ:=E.az e;have hz:bX 11 (aI e.aC)=true:=iM;have mF:aM (aI e.aC)=[x.row]:=by rw[hk];simp[aI,E.rows]
 have cA:aD (aI e.aC)=true:=aQ;have dW:(aI e.aC).view=aI e.aC:=aN;rw[E.az x]at mF;rw[cZ];generalize aI e.aC=kv at *;have Yg:bX 2 (aA 2 (c.H.bK.map dw))=true:=gf (by simp[bN,dw]);refine ay (sf:=Ow) rfl rfl rfl ?_;unfold wC;by_cases hb:x.ty.b=3;by_cases hd:x.ty.d=0;rw[if_pos ⟨hb,hd⟩];obtain⟨h0,h1⟩:=hx hb;obtain⟨k,KJ⟩:∃k:Nat,x.ty.r=k:=⟨x.ty.r.toNat,by omega⟩;have eK:k<c.H.bK.length:=by omega
 have hg:c.H.bK[k]?=some c.H.bK[k]:=List.getElem?_eq_getElem eK;have hF:=hs.F _ (List.getElem_mem eK);generalize hsh:c.H.bK[k]=sh at *;have e1:=λwl af st=>Al wl af sh.2 e.nm st hF;rw[KJ,Int.toNat_natCast,hg];simp only;rw[KJ]at mF;have XP:∀h:k<(c.H.bK.map dw).length,(c.H.bK.map dw)[k]=[.str sh.1,br sh.2]:=λh=>by simp[hsh,dw]
 cases h2:eH e.nm 0 sh.2 with
 |some y=>
  obtain⟨j,u⟩:=y;obtain⟨hj,hu⟩:=HX h2;subst hu;rw[h2]at e1;simp only[uY]at e1;have hj0:¬((j:Int)<0):=by omega
  simp[-ah,-aa,Ow,aX,V1,hz,cA,dW,mF,hb,hd,Yg,eK,XP,e1,hj0,hj,Vd.row,tN,au,an,ag,AV.view]
 |none=>
  rw[h2]at e1;simp only[uY]at e1;simp[-ah,-aa,Ow,aX,V1,hz,cA,dW,mF,hb,hd,Yg,eK,XP,e1,en,tN,au,an,ag,AV.view]
 rw[if_neg (λh=>hd h.2)];simp[-ah,-aa,Ow,aX,hz,cA,dW,mF,hb,hd,en,tN,ag,AV.view];rw[if_neg (λh=>hb h.1)];simp[-ah,-aa,Ow,aX,hz,cA,dW,mF,hb,en,tN,ag,AV.view]
theorem ai3(t u:T3):(t=u)=(t.b=u.b/\t.r=u.r/\t.d=u.d):=by
 obtain⟨a,b,c⟩:=t;obtain⟨d,e,f⟩:=u;simp
theorem dU(t u:T3):(decide (t.b=u.b)&&(decide (t.r=u.r)&&decide (t.d=u.d)))=decide (t=u):=by
 rw[Bool.eq_iff_iff];simp only[Bool.and_eq_true,decide_eq_true_eq];exact(iff_of_eq (ai3 t u)).symm
theorem dI(t:T3):(decide (t.b=1)&&(decide (t.r=0)&&decide (t.d=0)))=decide (t=tI):=dU t tI
theorem dB(t:T3):(decide (t.b=2)&&(decide (t.r=0)&&decide (t.d=0)))=decide (t=tB):=dU t tB
theorem d0(t:T3):(decide (t.b=0)&&(decide (t.r=0)&&decide (t.d=0)))=decide (t=T0):=dU t T0
def Ft(k:Int):T3:=if k=14\/k=15\/k=16\/k=17\/k=18 then tI else tB
theorem jD{b:Bool}{t:T3}:(Cm b t).isSome=b:=by cases b<;>rfl
theorem HZ{b:Bool}{t u:T3}{r:Int}(h:Cm b t=some (u,r)):t=u/\0=r:=by cases b<;>cases h;exact⟨rfl,rfl⟩
theorem aaf{k:Int}{a b u:T3}{r:Int}(h:Fp k a b=some (u,r)):Ft k=u/\0=r:=by
 unfold Fp at h;unfold Ft;split at h;rename_i c;rw[if_pos c];exact HZ h;rename_i c;rw[if_neg c];split at h;exact HZ h;split at h<;>exact HZ h
theorem aag(af:Nat)(c:CK)(e x y:E)(hk:e.aC=[x,y]):(bh S).call 0 af 150 [.ptr 0 0 0 0,.agg e.row] [c.aT] =
  some (.fm [.agg [.int .i64 (Ft e.k).b,.int .i64 (Ft e.k).r,.int .i64 (Ft e.k).d],.int .i64 0,.bool (Fp e.k x.ty y.ty).isSome],[c.aT]):=by
 have et:=λwl af st=>Ep wl af st;have en:=λwl af st=>Bf wl af st;have hz:bX 11 (aI e.aC)=true:=iM;have mF:aM (aI e.aC)=[x.row,y.row]:=by rw[hk];simp[aI,E.rows]
 have cA:aD (aI e.aC)=true:=aQ;have dW:(aI e.aC).view=aI e.aC:=aN;rw[E.az x,E.az y]at mF;rw[E.az e];generalize aI e.aC=kv at *;refine ay (sf:=Ck) rfl rfl rfl ?_;unfold Fp Ft;generalize e.k=k;have lG:∀(p:Bool) (t:T3),(Cm p t).isSome=p:=λp t=>jD;by_cases h1:k=14;subst h1;by_cases q:x.ty=tI<;>simp[-ah,-aa,Ck,aX,hz,cA,dW,mF,en,dI,q,lG,au,aU,bG,an,ag,AV.view];by_cases h2:k=15;subst h2;by_cases q:x.ty=tI<;>simp[-ah,-aa,Ck,aX,hz,cA,dW,mF,en,dI,q,lG,au,aU,bG,an,ag,AV.view];by_cases h3:k=16;subst h3;by_cases q:x.ty=tI<;>simp[-ah,-aa,Ck,aX,hz,cA,dW,mF,en,dI,q,lG,au,aU,bG,an,ag,AV.view];by_cases h4:k=17;subst h4;by_cases q:x.ty=tI<;>simp[-ah,-aa,Ck,aX,hz,cA,dW,mF,en,dI,q,lG,au,aU,bG,an,ag,AV.view];by_cases h5:k=18;subst h5;by_cases q:x.ty=tI<;>simp[-ah,-aa,Ck,aX,hz,cA,dW,mF,en,dI,q,lG,au,aU,bG,an,ag,AV.view];by_cases h6:k=19;subst h6;by_cases q:x.ty=tI<;>simp[-ah,-aa,Ck,aX,hz,cA,dW,mF,en,et,dI,q,lG,au,aU,bG,an,ag,AV.view];by_cases h7:k=20;subst h7;by_cases q:x.ty=tI<;>simp[-ah,-aa,Ck,aX,hz,cA,dW,mF,en,et,dI,q,lG,au,aU,bG,an,ag,AV.view];by_cases h8:k=21;subst h8;simp[-ah,-aa,Ck,aX,hz,cA,dW,mF,et,dU,lG,au,aU,bG,an,ag,AV.view];by_cases h9:k=22;subst h9;simp[-ah,-aa,Ck,aX,hz,cA,dW,mF,et,dU,lG,au,aU,bG,an,ag,AV.view];by_cases q:x.ty=tB<;>simp[-ah,-aa,Ck,aX,hz,cA,dW,mF,et,dB,q,lG,h1,h2,h3,h4,h5,h6,h7,h8,h9,au,aU,bG,an,ag,AV.view]
def S0(o:Option (Nat×Sg)):Int:=match o with|some (k,_)=>(k:Int)|none=>-1
theorem Et{s:List UInt8}{l:List Sg}{k:Nat}(h:k<l.length):mH s k (l.drop k)=if l[k].nm=s then some (k,l[k]) else mH s (k+1) (l.drop (k+1)):=by
 rw[List.drop_eq_getElem_cons h];rfl
theorem Nn{s:List UInt8}:∀{l:List Sg}{i k:Nat}{t:Sg},mH s i l=some (k,t)->i<=k/\∃h:k-i<l.length,l[k-i]=t
 |[],_,_,_,h=>by cases h|f::l,i,k,t,h=>by
  unfold mH at h;split at h;cases h;exact⟨Nat.le_refl _,by simp,by simp⟩;obtain⟨h1,h2,h3⟩:=Nn h;refine⟨by omega,by simp only[List.length_cons];omega,?_⟩;have:k-i=(k-(i+1))+1:=by omega
  simp only[this,List.getElem_cons_succ];exact h3
theorem aah{s:List UInt8}{l:List Sg}{k:Nat}{t:Sg}(h:mH s 0 l=some (k,t)):∃h:k<l.length,l[k]=t:=by
 obtain⟨_,h1,h2⟩:=Nn h;exact⟨by simpa using h1,by simpa using h2⟩
theorem V4(af:Nat)(g:Sg)(e:E)(o:dy):(bh S).call 0 af 152 [.agg g.row,.ptr 1 0 0 0] [o,.rows 0 11 [e.row]]=some (.bool (decide (g.nm=e.nm)),[o,.rows 0 11 [e.row]]):=by
 refine ay (sf:=ZH) rfl rfl rfl ?_;rw[E.az];simp[ZH,Sg.row,cut,AV.view]
theorem OU(af:Nat)(l:List Sg)(e:E)(o:dy)(hn:l.length<1000000000):(bh S).call 0 af 79 [aA 6 (l.map Sg.row),.fn 152 [] [.ptr 1 0 0 0]] [o,.rows 0 11 [e.row]]=some (.int .i64 (S0 (mH e.nm 0 l)),[o,.rows 0 11 [e.row]]):=by
 have el:=λaf f=>V4 af f e o;simp only[Sg.row]at el;have hz:bX 6 (aA 6 (l.map Sg.row))=true:=gf (by simp[bN,Sg.row]);generalize dy.rows 0 11 [e.row]=o2 at *;refine ay (sf:=s79) rfl rfl rfl ?_;simp[s79];refine bf Lc.eq_1 (λq:Nat×Int=>⟨[(0,.val (aA 6 (l.map Sg.row))),(1,.val (.fn 152 [] [.ptr 1 0 0 0])),(7,.val (.int .i64 l.length)),(8,.val (.int .i64 q.1))],[],[o,o2]⟩)
  (λq=>q.1<=l.length/\mH e.nm 0 l=mH e.nm q.1 (l.drop q.1)) (λq=>l.length-q.1) (0,0) (by simp) ⟨by simp,by simp⟩ ?_
 rintro⟨k,bb⟩ ⟨hk,hp⟩ ih;simp only at hk hp ih;by_cases aW:k<l.length;have hw:=wk k (by omega);rw[Et aW]at hp;have e1:=λaf=>el af l[k];by_cases h:l[k].nm=e.nm;rw[if_pos h]at hp;rw[hp];rw[decide_eq_true h]at e1;simp[aW,hz,e1,Sg.row,S0];rw[if_neg h]at hp;rw[decide_eq_false h]at e1;simp[aW,hz,e1,Sg.row,hw];exact ih (k+1,0) ⟨by simp;omega,hp⟩ (by simp;omega);have eK:k=l.length:=by omega
 have:mH e.nm 0 l=none:=by rw[hp,eK,List.drop_length];rfl
 rw[this];simp[aW,S0]
theorem Gt{l:List Vd}{r:List E}:∀{k:Nat}(h1:k<l.length)(h2:k<r.length),ji (l.drop k) (r.drop k)=(decide (r[k].ty=l[k].ty)&&ji (l.drop (k+1)) (r.drop (k+1))):=by
 intro k h1 h2;rw[List.drop_eq_getElem_cons h1,List.drop_eq_getElem_cons h2]
 rfl
theorem Am:∀{l:List Vd}{r:List E},ji l r=true->l.length=r.length
 |[],[],_=>rfl|[],_::_,h=>by cases h|_::_,[],h=>by cases h|_::l,_::r,h=>by
  simp only[ji,Bool.and_eq_true]at h;simp[Am h.2]
end K9
namespace K9
open Ax Go bu V7 jG j9
theorem aai{wl af:Nat}{o:dy}{e:E}{bx:bF}:aV wl af (.load false 1 false) [.val (.ptr 1 0 0 5)] [o,.rows 0 11 [e.row]] bx=some (.val (aI e.aC),[o,.rows 0 11 [e.row]],bx):=by
 simp[E.az,cut]
theorem uZ{l:List E}{k:Nat}(h:k<l.length):(E.rows l)[k]?=some l[k].row:=by simp[gh,h]
theorem oW{l:List E}{k:Nat}(h:k<l.length)(h2:k<(E.rows l).length):(E.rows l)[k]=l[k].row:=by simp[gh]
theorem zJ(af:Nat)(c:CK)(e:E)(hs:oh c)(hn:e.aC.length<1000000000):(bh S).call 0 af 149 [.ptr 0 0 0 0,.agg e.row] [c.aT]=some (tN (oC c.H e.nm e.aC),[c.aT]):=by
 have en:=λwl af st=>lC wl af st;have ei:=λaf=>OU af c.H.sigs e c.aT hs.S;have S1:bX 6 (aA 6 (c.H.sigs.map Sg.row))=true:=gf (by simp[bN,Sg.row]);have hzE:bX 11 (aI e.aC)=true:=iM;have cN:aM (aI e.aC)=E.rows e.aC:=aE;have hS:=hs.S;have ek:=λwl af bx=>aai (wl:=wl) (af:=af) (o:=c.aT) (e:=e) (bx:=bx);have hsi:=λwl af bx=>SW (wl:=wl) (af:=af) (c:=c) (r:=[.rows 0 11 [e.row]]) (bx:=bx);have vh:∀bx,aV 0 1 (.box 11) [.val (.agg e.row)] [c.aT] bx=some (.val (.ptr 1 0 0 0),[c.aT,.rows 0 11 [e.row]],bx):=λbx=>by rw[E.az];simp
 refine ay (sf:=Sc) rfl rfl rfl ?_;unfold oC;generalize hO:dy.rows 0 11 [e.row]=o at *;cases h1:mH e.nm 0 c.H.sigs with
 |none=>
  rw[h1]at ei;simp only[S0]at ei;simp[-ah,-aa,-MN,Sc,vh,hsi,ei,en,tN,au,an,ag]
 |some y=>
  obtain⟨i,s⟩:=y;obtain⟨hi,hg⟩:=aah h1;rw[h1]at ei;simp only[S0]at ei;have hi0:¬((i:Int)<0):=by omega
  have hP:=hs.P _ (List.getElem_mem hi);rw[hg]at hP;have gS:(c.H.sigs.map Sg.row)[i]?=some [.str s.nm,br s.ps,.bool s.bO,.int .i64 s.bz.b,.int .i64 s.bz.r,.int .i64 s.bz.d]:=by simp[hi,hg,Sg.row]
  have yx:∀h:i<(c.H.sigs.map Sg.row).length,(c.H.sigs.map Sg.row)[i]=[.str s.nm,br s.ps,.bool s.bO,.int .i64 s.bz.b,.int .i64 s.bz.r,.int .i64 s.bz.d]:=λh=>by simp[hg,Sg.row]
  simp only;by_cases hl:s.ps.length=e.aC.length;have sJ:¬((s.ps.length:Int)≠(e.aC.length:Int)):=by omega
  simp[-ah,-aa,-MN,Sc,vh,hsi,ei,hi0,ek,S1,hi,yx,aX,cN,hl,tN,au,an,AV.view];refine bf MZ.eq_1 (λy:Nat×List AV=>⟨[(0,.val (.ptr 0 0 0 0)),(3,.val (.ptr 1 0 0 0)),(4,.fp 0 0),(7,.val (.int .i64 i)),(44,.val (br s.ps)),(45,.val (.int .i64 e.aC.length)),(46,.val (.int .i64 y.1))],
   [[.int .i64 0,.int .i64 0,.int .i64 0],y.2],[c.aT,o]⟩) (λy=>y.1<=e.aC.length/\ji s.ps e.aC=ji (s.ps.drop y.1) (e.aC.drop y.1)) (λy=>e.aC.length-y.1) (0,[]) rfl ⟨by simp,by simp⟩ ?_
  rintro⟨k,b2⟩ ⟨hk,hp⟩ ih;simp only at hk hp ih;by_cases aW:k<e.aC.length;have qa:k<s.ps.length:=by omega
  have hw:=wk k (by omega);rw[Gt qa aW]at hp;have gP:(s.ps.map Vd.row)[k]?=some [.str s.ps[k].nm,.int .i64 s.ps[k].ty.b,.int .i64 s.ps[k].ty.r,.int .i64 s.ps[k].ty.d]:=by simp[qa,Vd.row]
  have gP':∀h:k<(s.ps.map Vd.row).length,(s.ps.map Vd.row)[k]=[.str s.ps[k].nm,.int .i64 s.ps[k].ty.b,.int .i64 s.ps[k].ty.r,.int .i64 s.ps[k].ty.d]:=λh=>by simp[Vd.row]
  have gE:=uZ aW;have mZ:=λh2=>oW aW h2;simp only[E.az]at gE mZ;by_cases q:e.aC[k].ty=s.ps[k].ty;rw[decide_eq_true q,Bool.true_and]at hp;have dx:=λb=>ih (k+1,b) ⟨by simp only;omega,hp⟩ (by simp only;omega);simp only at dx;rw[q]at gE mZ;generalize e.aC[k]=x at *;generalize s.ps[k]=p at *;simp[-ah,-aa,aW,qa,hw,gP',mZ,ek,hzE,cN,aX,au,an,ag,AV.view];exact dx _;rw[decide_eq_false q,Bool.false_and]at hp;generalize e.aC[k]=x at *;generalize s.ps[k]=p at *;simp[-ah,-aa,aW,qa,gP',mZ,ek,hzE,cN,aX,dU,q,hp,en,au,an,ag,AV.view];have eK:k=e.aC.length:=by omega
  have:ji s.ps e.aC=true:=by rw[hp,eK,List.drop_length,<-hl,List.drop_length];rfl
  have ai5:=λwl af bx=>SW (wl:=wl) (af:=af) (c:=c) (r:=[o]) (bx:=bx);simp[-ah,-aa,aW,this,ai5,S1,hi,yx,aX,ag,AV.view];have jn:ji s.ps e.aC=false:=by
   cases h:ji s.ps e.aC with
   |false=>rfl|true=>exact absurd (Am h) hl
  have sJ:¬((s.ps.length:Int)=(e.aC.length:Int)):=by omega
  rw[jn];simp[-ah,-aa,-MN,Sc,vh,hsi,ei,hi0,ek,S1,hi,yx,aX,cN,hl,en,tN,au,an,ag,AV.view]
end K9
namespace K9
open Ax Go bu V7 jG j9
def S2(o:Option (T3×Int))(v:AV):Prop:=∃(t:T3)(z:Int),v=.fm [.agg [.int .i64 t.b,.int .i64 t.r,.int .i64 t.d],.int .i64 z,.bool o.isSome]/\∀u r,o=some (u,r)->t=u/\z=r
theorem LD(o:Option (T3×Int)):S2 o (tN o):=by
 cases o with
 |none=>exact⟨T0,0,rfl,λ_ _ h=>by cases h⟩|some x=>exact⟨x.1,x.2,rfl,λu r h=>by cases h;exact⟨rfl,rfl⟩⟩
theorem mP(b:Bool)(t:T3):S2 (Cm b t) (.fm [.agg [.int .i64 t.b,.int .i64 t.r,.int .i64 t.d],.int .i64 0,.bool b]):=by
 refine⟨t,0,?_,λu r h=>HZ h⟩;rw[jD]
theorem iI{af f:Nat}{sf:aH}{args:List AV}{st:aj}{o:Option (T3×Int)}(hf:S f=some sf)(ha:zi sf args=false)(hl:args.length=sf.aF)(v:AV)(hv:S2 o v)
  (h:W S (sf.mode.u7 st.length 0) (sf.mode.oB st.length af) sf.results (zM sf.results sf.mode st (v,st)) [.code sf.body] .normal (pF sf args st)) :
  ∃v,S2 o v/\(bh S).call 0 af f args st=some (v,st):=⟨v,hv,ay hf ha hl h⟩
theorem Ae(af:Nat)(c:CK)(e:E)(hs:oh c)(hn:e.aC.length<1000000000)(hk:gq e.k e.n e.aC.length=true)(V5:c.H.rs.length=c.H.bK.length)(hw:∀x∈e.aC,WT c.H.rs.length x.ty) :
  ∃v,S2 (lV c.H c.V e.k e.nm e.on e.od e.aC) v/\(bh S).call 0 af 137 [.ptr 0 0 0 0,.agg e.row] [c.aT]=some (v,[c.aT]):=by
 have eN:=λwl af st=>Bf wl af st;have eT:=λwl af st=>Ep wl af st;have eV:=λaf=>gK af c e.nm [] hs;have pQ:=λwl af st=>Ad wl af c.H.rs e.on e.od st hs.R;have No:=λwl af st=>Lw wl af (bZ c.H.rs e.on e.od).1 st;have cZ:=E.az e;have hz:bX 11 (aI e.aC)=true:=iM;have cA:aD (aI e.aC)=true:=aQ;have dW:(aI e.aC).view=aI e.aC:=aN;have cN:aM (aI e.aC)=E.rows e.aC:=aE;have one:∀j,e.k=j->(j=5\/j=9\/j=10\/j=12\/j=13)->∃x,e.aC=[x]:=λj hj h=>by
  have hlen:e.aC.length=1:=by
   rw[hj]at hk;rcases h with h|h|h|h|h<;>subst h<;>simpa [gq] using hk
  match hh:e.aC,hlen with
  |[x],_=>exact⟨x,rfl⟩
 have two:e.k≠1->e.k≠2->e.k≠3->e.k≠4->e.k≠5->e.k≠7->e.k≠8->e.k≠9->e.k≠10->e.k≠11->e.k≠12->e.k≠13->∃x y,e.aC=[x,y]:=λh1 h2 h3 h4 h5 h7 h8 h9 AN ze tL E7=>by
  have hlen:e.aC.length=2:=by
   simp[gq,h1,h2,h3,h4,h5,h7,h8,h9,AN,ze,tL,E7]at hk;exact hk.2
  match hh:e.aC,hlen with
  |[x,y],_=>exact⟨x,y,rfl⟩
 have fld:=λx (h:e.aC=[x]) af=>SZ af c e x h hs (by
  have:=(hw x (by rw[h];exact List.mem_cons_self)).2.2;rw[V5]at this;exact this)
 have cal:=λaf=>zJ af c e hs hn;have tw:=λx y (h:e.aC=[x,y]) af=>aag af c e x y h;rw[cZ]at fld cal tw;rw[cZ];unfold lV;by_cases h1:e.k=1;rw[if_pos (.inl h1)];rw[h1];refine iI (sf:=lf) rfl rfl rfl _ (mP true tI) ?_;simp[-ah,-aa,lf,eN,ag,AV.view];by_cases ze:e.k=11;rw[if_pos (.inr ze)];rw[ze];refine iI (sf:=lf) rfl rfl rfl _ (mP true tI) ?_;simp[-ah,-aa,lf,eN,ag,AV.view];rw[if_neg (λh=>h.elim h1 ze)];by_cases h2:e.k=2;rw[if_pos h2,h2];refine iI (sf:=lf) rfl rfl rfl _ (mP true tB) ?_;simp[-ah,-aa,lf,eT,ag,AV.view];rw[if_neg h2];by_cases h3:e.k=3;rw[if_pos h3,h3];refine iI (sf:=lf) rfl rfl rfl _ (mP _ _) ?_;unfold LA at pQ;generalize bZ c.H.rs e.on e.od=tt at *;obtain⟨t,b⟩:=tt;cases b<;>simp[-ah,-aa,lf,uL,pQ,No,au,aU,bG,an,ag,AV.view];rw[if_neg h3];by_cases h4:e.k=4;rw[if_pos h4,h4];refine iI (sf:=lf) rfl rfl rfl _ (LD _) ?_;generalize rX c.H c.V e.nm=o at *;cases o with
 |none=>simp[-ah,-aa,lf,eV,wI,tN,ag,AV.view]|some x=>simp[-ah,-aa,lf,eV,wI,tN,ag,AV.view]
 rw[if_neg h4];by_cases h5:e.k=5;rw[if_pos h5];obtain⟨x,hx⟩:=one 5 h5 (by simp);have f:=fld x hx;rw[h5]at f ⊢;have:qP e.aC=x.ty:=by rw[hx];rfl
 rw[this];refine iI (sf:=lf) rfl rfl rfl _ (LD _) ?_;generalize wC c.H x.ty e.nm=o at *;generalize aI e.aC=kv at *;cases o with
 |none=>
  simp only[tN]at f;simp[-ah,-aa,lf,f,cA,dW,tN,ag,AV.view]
 |some x=>
  simp only[tN]at f;simp[-ah,-aa,lf,f,cA,dW,tN,ag,AV.view]
 rw[if_neg h5];by_cases h6:e.k=6;rw[if_pos h6];obtain⟨x,y,hx⟩:=two h1 h2 h3 h4 h5 (by omega) (by omega) (by omega) (by omega) ze (by omega) (by omega);have a1:qP e.aC=x.ty:=by rw[hx];rfl
 have a2:BY e.aC=y.ty:=by rw[hx];rfl
 have wx:=hw x (by rw[hx];exact List.mem_cons_self);rw[show E.rows e.aC=E.rows [x,y] from by rw[hx]]at cN;rw[a1,a2,h6];simp only[E.rows,E.az]at cN;generalize aI e.aC=kv at *;have nK:IntKind.i64.wrap (x.ty.d-1)=x.ty.d-1:=by
  have:=wx.1;have:=wx.2.1;rw[dZ]<;>omega
 refine iI (sf:=lf) rfl rfl rfl _ (mP _ _) ?_;by_cases q:0<x.ty.d;simp[-ah,-aa,lf,aX,hz,cA,dW,cN,q,eN,dI,nK,au,an,ag,AV.view];simp[-ah,-aa,lf,aX,hz,cA,dW,cN,q,nK,au,an,ag,AV.view];rw[if_neg h6];by_cases h7:e.k=7;rw[if_pos h7];rw[h7]at cal ⊢;refine iI (sf:=lf) rfl rfl rfl _ (LD _) ?_;generalize oC c.H e.nm e.aC=o at *;generalize aI e.aC=kv at *;cases o with
 |none=>
  simp only[tN]at cal;simp[-ah,-aa,lf,cal,cA,dW,tN,ag,AV.view]
 |some x=>
  simp only[tN]at cal;simp[-ah,-aa,lf,cal,cA,dW,tN,ag,AV.view]
 rw[if_neg h7];by_cases h8:e.k=8;rw[if_pos h8,h8];refine iI (sf:=lf) rfl rfl rfl _ (mP _ _) ?_;unfold LA at pQ;generalize bZ c.H.rs e.on e.od=tt at *;obtain⟨t,b⟩:=tt;cases b with
 |false=>simp[-ah,-aa,lf,uL,pQ,au,aU,bG,an,ag,AV.view]|true=>
  by_cases q:t.b=3;simp[-ah,-aa,lf,uL,pQ,q,au,aU,bG,an,ag,AV.view];simp[-ah,-aa,lf,uL,pQ,q,au,aU,bG,an,ag,AV.view]
 rw[if_neg h8];by_cases h9:e.k=9;rw[if_pos h9];obtain⟨x,hx⟩:=one 9 h9 (by simp);have a1:qP e.aC=x.ty:=by rw[hx];rfl
 rw[show E.rows e.aC=E.rows [x] from by rw[hx]]at cN;rw[a1,h9];simp only[E.rows,E.az]at cN;generalize aI e.aC=kv at *;have wt:=mX c.H.rs e.on e.od;have nK:IntKind.i64.wrap ((bZ c.H.rs e.on e.od).1.d+1)=(bZ c.H.rs e.on e.od).1.d+1:=by
  have:=wt.1;have:=wt.2.1;rw[dZ]<;>omega
 refine iI (sf:=lf) rfl rfl rfl _ (mP _ _) ?_;unfold LA at pQ;generalize bZ c.H.rs e.on e.od=tt at *;obtain⟨t,b⟩:=tt;cases b with
 |false=>simp[-ah,-aa,lf,uL,pQ,cA,nK,au,aU,bG,an,ag,AV.view]|true=>
  by_cases q:t.d<3;simp[-ah,-aa,lf,uL,pQ,aX,hz,cA,dW,cN,q,eN,dI,nK,au,aU,bG,an,ag,AV.view];simp[-ah,-aa,lf,uL,pQ,cA,q,nK,au,aU,bG,an,ag,AV.view]
 rw[if_neg h9];by_cases AN:e.k=10;rw[if_pos AN];obtain⟨x,hx⟩:=one 10 AN (by simp);have a1:qP e.aC=x.ty:=by rw[hx];rfl
 rw[show E.rows e.aC=E.rows [x] from by rw[hx]]at cN;rw[a1,AN];simp only[E.rows,E.az]at cN;generalize aI e.aC=kv at *;refine iI (sf:=lf) rfl rfl rfl _ (mP _ _) ?_;simp[-ah,-aa,lf,aX,hz,cA,dW,cN,eN,au,an,ag,AV.view];rw[if_neg AN];by_cases tL:e.k=12;rw[if_pos tL];obtain⟨x,hx⟩:=one 12 tL (by simp);have a1:qP e.aC=x.ty:=by rw[hx];rfl
 rw[show E.rows e.aC=E.rows [x] from by rw[hx]]at cN;rw[a1,tL];simp only[E.rows,E.az]at cN;generalize aI e.aC=kv at *;refine iI (sf:=lf) rfl rfl rfl _ (mP _ _) ?_;simp[-ah,-aa,lf,aX,hz,cA,dW,cN,eN,dI,au,an,ag,AV.view];rw[if_neg tL];by_cases E7:e.k=13;rw[if_pos E7];obtain⟨x,hx⟩:=one 13 E7 (by simp);have a1:qP e.aC=x.ty:=by rw[hx];rfl
 rw[show E.rows e.aC=E.rows [x] from by rw[hx]]at cN;rw[a1,E7];simp only[E.rows,E.az]at cN;generalize aI e.aC=kv at *;refine iI (sf:=lf) rfl rfl rfl _ (mP _ _) ?_;simp[-ah,-aa,lf,aX,hz,cA,dW,cN,eN,eT,dB,au,an,ag,AV.view];rw[if_neg E7];obtain⟨x,y,hx⟩:=two h1 h2 h3 h4 h5 h7 h8 h9 AN ze tL E7;have a1:qP e.aC=x.ty:=by rw[hx];rfl
 have a2:BY e.aC=y.ty:=by rw[hx];rfl
 rw[a1,a2];have t2:=tw x y hx;generalize aI e.aC=kv at *;refine iI (sf:=lf) rfl rfl rfl (.fm [.agg [.int .i64 (Ft e.k).b,.int .i64 (Ft e.k).r,.int .i64 (Ft e.k).d],.int .i64 0,.bool (Fp e.k x.ty y.ty).isSome]) ⟨Ft e.k,0,rfl,λu r h=>aaf h⟩ ?_;simp[-ah,-aa,lf,h1,h2,h3,h4,h5,h6,h7,h8,h9,AN,ze,tL,E7,t2,cA,dW,ag,AV.view]
end K9
namespace K9
open Ax Go bu V7 jG j9
theorem fV{c:CK}{a:Int}:(c.fail a).fe≠0:=by
 unfold CK.fail;split;show (3:Int)≠0;decide
 assumption
theorem aaj{c:CK}{a b:Int}:(c.fail a).fail b=c.fail a:=by
 have h:=fV (c:=c) (a:=a);generalize c.fail a=d at *;unfold CK.fail;rw[if_neg h]
def JW(c:CK)(e:E):Prop:=match xC c.H c.V e with
 |.ok y=>∀af,(bh S).call 0 af 122 [.ptr 0 0 0 0,.agg e.row] [c.aT]=some (.agg y.row,[c.aT])|.error a=>∀af,∃y:E,(bh S).call 0 af 122 [.ptr 0 0 0 0,.agg e.row] [c.aT]=some (.agg y.row,[(c.fail a).aT])
def Eu(c:CK)(e:E):Except Int E:=match xC c.H c.V e with
 |.error x=>.error x|.ok y=>if y.ty=T0 then .error y.a else .ok y
def Kt(c:CK)(e:E):Prop:=match Eu c e with
 |.ok y=>∀af,(bh S).call 0 af 138 [.ptr 0 0 0 0,.agg e.row] [c.aT]=some (.agg y.row,[c.aT])|.error a=>∀af,∃y:E,(bh S).call 0 af 138 [.ptr 0 0 0 0,.agg e.row] [c.aT]=some (.agg y.row,[(c.fail a).aT])
theorem wJ(c:CK)(e:E)(h:JW c e):Kt c e:=by
 unfold JW at h;unfold Kt Eu;have en:=λwl af st=>lC wl af st;cases hc:xC c.H c.V e with
 |error a=>
  rw[hc]at h;simp only at h ⊢;obtain⟨y,e1⟩:=h 1;refine λaf=>⟨y,?_⟩;have ef:=λaf=>eW af (c.fail a) y.a [];rw[aaj]at ef;rw[E.az e]at e1 ⊢;rw[E.az y]at e1 ⊢;generalize (c.fail a).aT=o at *;refine ay (sf:=Js) rfl rfl rfl ?_;by_cases q:y.ty=T0;simp[-ah,-aa,Js,e1,en,q,ef,ag,AV.view,au,an];simp[-ah,-aa,Js,e1,en,d0,q,ag,AV.view,au,an]
 |ok y=>
  rw[hc]at h;simp only at h ⊢;by_cases q:y.ty=T0;rw[if_pos q];refine λaf=>⟨y,?_⟩;have ef:=λaf=>eW af c y.a [];rw[E.az e]at h ⊢;rw[E.az y]at h ⊢;generalize (c.fail y.a).aT=o at *;refine ay (sf:=Js) rfl rfl rfl ?_;simp[-ah,-aa,Js,h,en,q,ef,ag,AV.view,au,an];rw[if_neg q];intro af;rw[E.az e]at h ⊢;rw[E.az y]at h ⊢;refine ay (sf:=Js) rfl rfl rfl ?_;simp[-ah,-aa,Js,h,en,d0,q,ag,AV.view,au,an]
theorem V6{c:CK}{e:E}{l:List E}:kM c.H c.V (e::l)=match Eu c e with
  |.error x=>.error x|.ok y=>match kM c.H c.V l with
   |.error x=>.error x|.ok ys=>.ok (y::ys):=by
 conv=>lhs;unfold kM
 unfold Eu;split;simp_all;rename_i y h;rw[h];simp only;split<;>rfl
def yZ(ys:List E)(r:Except Int (List E)):Except Int (List E):=match r with
 |.error x=>.error x|.ok zs=>.ok (ys++zs)
def V8(rs:List iE)(m:Ax.Mode)(st:aj)(P:AV->aj->Prop)(x:Ex)(s:St):Prop:=∃r,zM rs m st r x s/\P r.1 r.2
theorem iT{S:Nat->Option aH}{wl af f:Nat}{sf:aH}(hf:S f=some sf){args:List AV}(ha:zi sf args=false)(hl:args.length=sf.aF){st:aj}{P:AV->aj->Prop}
  (h:W S (sf.mode.u7 st.length wl) (sf.mode.oB st.length af) sf.results (V8 sf.results sf.mode st P) [.code sf.body] .normal (pF sf args st)) :
  ∃v bV,(bh S).call wl af f args st=some (v,bV)/\P v bV:=by
 obtain⟨x',s',h1,r,h2,h3⟩:=h;exact⟨r.1,r.2,ay hf ha hl ⟨x',s',h1,h2⟩,h3⟩
@[simp]theorem agv{rs:List iE}{st:aj}{P:AV->aj->Prop}{v:AV}{s:St}:V8 rs Ax.Mode.kg st P (.ret v) s↔v.ax=true/\P v (s.st.take st.length):=by
 simp only[V8,Jl,Ax.Mode.lG];constructor;rintro⟨r,h1,h2⟩;split at h1;rename_i hp;cases h1;exact⟨hp,h2⟩;cases h1;rintro⟨h1,h2⟩;exact⟨(v,s.st.take st.length),by rw[if_pos h1],h2⟩
@[simp]theorem agw{rs:List iE}{st:aj}{P:AV->aj->Prop}{s:St}:V8 rs Ax.Mode.kg st P .normal s↔∃v,xQ s rs=some v/\v.ax=true/\P v (s.st.take st.length):=by
 simp only[V8,Jm,Ax.Mode.lG];constructor;rintro⟨r,⟨v,h0,h1⟩,h2⟩;split at h1;rename_i hp;cases h1;exact⟨v,h0,hp,h2⟩;cases h1;rintro⟨v,h0,h1,h2⟩;exact⟨(v,s.st.take st.length),⟨v,h0,by rw[if_pos h1]⟩,h2⟩
theorem An{c:CK}{l:List E}{ys:List E}{k:Nat}(h:k<l.length):yZ ys (kM c.H c.V (l.drop k))=match Eu c l[k] with
  |.error x=>.error x|.ok y=>yZ (ys++[y]) (kM c.H c.V (l.drop (k+1))):=by
 rw[List.drop_eq_getElem_cons h,V6];split
 rfl
 split;rename_i h1;rw[h1];rfl;rename_i h1;rw[h1];simp[yZ]
theorem mB(c:CK)(l:List E)(hf:c.fe=0)(hn:l.length<1000000000)(hl:∀e∈l,JW c e):match kM c.H c.V l with
  |.ok ys=>∀af,(bh S).call 0 af 123 [.ptr 0 0 0 0,aI l] [c.aT]=some (bD 11 (E.rows ys),[c.aT])|.error a=>∀af,∃v,aD v=true/\(bh S).call 0 af 123 [.ptr 0 0 0 0,aI l] [c.aT]=some (v,[(c.fail a).aT]):=by
 have hz:bX 11 (aI l)=true:=iM;have cA:aD (aI l)=true:=aQ;have dW:(aI l).view=aI l:=aN;have cN:aM (aI l)=E.rows l:=aE;have fy:=λaf=>cT af c [];rw[decide_eq_true hf]at fy;have lJ:∀(ys:List E) (y:E),ys.length<1000000000->nH 11 120 (bD 11 (E.rows ys)) [y.row]=some (bD 11 (E.rows (ys++[y]))):=λys y h=>by
  rw[dV (by simp[bN,E.az]) (by simp[cR];omega)];simp[gh]
 cases hR:kM c.H c.V l with
 |ok zs=>
  intro af;refine ay (sf:=R7) rfl rfl rfl ?_;generalize aI l=lv at *;simp[-ah,-aa,R7,cA,dW,cN];refine bf HD.eq_1 (λx:Nat×List E×List AV=>⟨[(0,.val (.ptr 0 0 0 0)),(5,.val (bD 11 (E.rows x.2.1))),(8,.val lv),(9,.val (.int .i64 l.length)),(10,.val (.int .i64 x.1))],[x.2.2],[c.aT]⟩)
   (λx=>x.1<=l.length/\x.2.1.length=x.1/\yZ x.2.1 (kM c.H c.V (l.drop x.1))=.ok zs) (λx=>l.length-x.1) (0,[],[]) rfl ⟨by simp,rfl,by simp[yZ,hR]⟩ ?_
  rintro⟨k,ys,b⟩ ⟨hk,hy,hp⟩ ih;simp only at hk hy hp ih;by_cases aW:k<l.length;have hw:=wk k (by omega);have hv:=wJ c l[k] (hl _ (List.getElem_mem aW));unfold Kt at hv;rw[An aW]at hp;have gE:=uZ aW;have mZ:=λh2=>oW aW h2;cases hx:Eu c l[k] with
  |error a=>rw[hx]at hp;cases hp|ok y=>
   rw[hx]at hp hv;simp only at hp hv;have ap:=lJ ys y (by omega);have dx:=λb=>ih (k+1,ys++[y],b) ⟨by simp only;omega,by simp[hy],hp⟩ (by simp only;omega);simp only at dx;generalize bD 11 (E.rows (ys++[y]))=R at *;rw[E.az l[k]]at hv gE;simp only[E.az l[k]]at mZ;rw[E.az y]at hv ap;generalize l[k]=x at *;simp[-ah,-aa,aX,aW,hw,hz,cN,mZ,fy,hv,ap,ag,AV.view];exact dx _
  have eK:k=l.length:=by omega
  have:ys=zs:=by
   rw[eK,List.drop_length]at hp;simpa [kM,yZ] using hp
  subst this;simp[-ah,-aa,aW]
 |error a=>
  intro af;have xX:=fV (c:=c) (a:=a);have gr:=λaf=>cT af (c.fail a) [];rw[decide_eq_false xX]at gr;obtain⟨v,bV,h1,h2,h3⟩:∃v bV,(bh S).call 0 af 123 [.ptr 0 0 0 0,aI l] [c.aT]=some (v,bV)/\aD v=true/\bV=[(c.fail a).aT]:=by
   refine iT (sf:=R7) rfl rfl rfl ?_;generalize aI l=lv at *;simp[-ah,-aa,R7,cA,dW,cN];refine bf HD.eq_1 (λx:Nat×List E×CK×List AV=>⟨[(0,.val (.ptr 0 0 0 0)),(5,.val (bD 11 (E.rows x.2.1))),(8,.val lv),(9,.val (.int .i64 l.length)),(10,.val (.int .i64 x.1))],[x.2.2.2],[x.2.2.1.aT]⟩)
    (λx=>x.1<=l.length/\x.2.1.length=x.1/\(x.2.2.1=c/\yZ x.2.1 (kM c.H c.V (l.drop x.1))=.error a\/x.2.2.1=c.fail a)) (λx=>l.length-x.1) (0,[],c,[]) rfl ⟨by simp,rfl,.inl ⟨rfl,by simp[yZ,hR]⟩⟩ ?_
   rintro⟨k,ys,d,b⟩ ⟨hk,hy,hp⟩ ih;simp only at hk hy hp ih;by_cases aW:k<l.length;have hw:=wk k (by omega);have gE:=uZ aW;have mZ:=λh2=>oW aW h2;rcases hp with⟨hd,hp⟩|hd;subst hd;have hv:=wJ d l[k] (hl _ (List.getElem_mem aW));unfold Kt at hv;rw[An aW]at hp;cases hx:Eu d l[k] with
   |error a'=>
    rw[hx]at hp hv;simp only at hp hv;cases hp;obtain⟨y,hv⟩:=hv 1;have ap:=lJ ys y (by omega);have dx:=λb=>ih (k+1,ys++[y],d.fail a,b) ⟨by simp only;omega,by simp[hy],.inr rfl⟩ (by simp only;omega);simp only at dx;generalize bD 11 (E.rows (ys++[y]))=R at *;rw[E.az l[k]]at hv gE;simp only[E.az l[k]]at mZ;rw[E.az y]at hv ap;generalize l[k]=x at *;simp[-ah,-aa,aX,aW,hw,hz,cN,mZ,fy,hv,ap,ag,AV.view];exact dx _
   |ok y=>
    rw[hx]at hp hv;simp only at hp hv;have ap:=lJ ys y (by omega);have dx:=λb=>ih (k+1,ys++[y],d,b) ⟨by simp only;omega,by simp[hy],.inl ⟨rfl,hp⟩⟩ (by simp only;omega);simp only at dx;generalize bD 11 (E.rows (ys++[y]))=R at *;rw[E.az l[k]]at hv gE;simp only[E.az l[k]]at mZ;rw[E.az y]at hv ap;generalize l[k]=x at *;simp[-ah,-aa,aX,aW,hw,hz,cN,mZ,fy,hv,ap,ag,AV.view];exact dx _
   subst hd;simp only[E.az l[k]]at mZ;rw[E.az l[k]]at gE;generalize l[k]=x at *;simp[-ah,-aa,aX,aW,hz,cN,mZ,gr,ag,AV.view];have eK:k=l.length:=(by omega);rcases hp with⟨hd,hp⟩|hd;rw[eK,List.drop_length]at hp;simp[kM,yZ]at hp;subst hd;simp[-ah,-aa,aW]
  rw[h3]at h1;exact⟨v,h2,h1⟩
end K9
namespace K9
open Ax Go bu V7 jG j9
structure pS (c:CK):Prop where
 s:oh c
 H:c.H.ok
 V:∀f∈c.V,WT c.H.rs.length f.ty
def E0:E:=.mk 0 0 [] [] 0 [] 0 T0 0
theorem eP(c:CK)(hf:c.fe=0)(hw:pS c)(e:E):E.sz e<1000000000->JW c e:=by
 induction e using E.yu with
 |_ e ih=>
  intro dF;have nj:=E.mz e;have eK:=E.dD e.aC;have cY:=mB c e.aC hf (by omega) λx hx=>ih x hx (by have:=E.iA hx;omega);have Fu:=λwl af st=>SY wl af e st;have Gu:=λwl af st=>V3 wl af e st;have oy:=λaf=>eW af c e.a [];have fy:=λaf=>cT af c [];rw[decide_eq_true hf]at fy;have wU:xC c.H c.V e=if gq e.k e.n e.aC.length then
    match kM c.H c.V e.aC with
    |.error x=>.error x|.ok ks=>match lV c.H c.V e.k e.nm e.on e.od ks with
     |none=>.error e.a|some (t,r)=>.ok (.mk e.k (pP e.k e.n) (kF e.k e.nm) (kG e.k e.on) (kH e.k e.od) ks e.a t r)
    else .error e.a:=by
   obtain⟨k,n,nm,on,od,aC,a,ty,cG⟩:=e;conv=>lhs;unfold xC
   rfl
  unfold JW;rw[wU];have IK:E0.row=[.int .i64 0,.int .i64 0,.str [],.str [],.int .i64 0,.U,.int .i64 0,.int .i64 0,.int .i64 0,.int .i64 0,.int .i64 0]:=by simp[E0,E.row,E.rows]
  have ow:aD (aI e.aC)=true:=aQ;cases hk:gq e.k e.n e.aC.length with
  |false=>
   simp only[Bool.false_eq_true,if_false];intro af;refine⟨E0,?_⟩;rw[hk]at Fu;rw[IK];rw[E.az e]at Fu ⊢;generalize (c.fail e.a).aT=o at *;refine ay (sf:=HC) rfl rfl rfl ?_;simp[-ah,-aa,HC,Fu,oy,ag,AV.view,AV.ax,AV.ai]
  |true=>
   simp only[if_true];rw[hk]at Fu;cases hv:kM c.H c.V e.aC with
   |error a=>
    rw[hv]at cY;simp only at cY ⊢;intro af;refine⟨E0,?_⟩;obtain⟨v,cA,ev⟩:=cY 1;have Ff:=bU cA;have Co:=ck cA;have gr:=λaf=>cT af (c.fail a) [];rw[decide_eq_false fV]at gr;rw[IK];rw[E.az e]at Fu Gu ⊢;generalize (c.fail a).aT=o at *;refine ay (sf:=HC) rfl rfl rfl ?_;simp[-ah,-aa,HC,Fu,Gu,ev,cA,gr,ag,AV.view,AV.ax,AV.ai]
   |ok ks=>
    rw[hv]at cY;simp only at cY ⊢;obtain⟨X,hX⟩:∃X:E,X=.mk e.k (pP e.k e.n) (kF e.k e.nm) (kG e.k e.on) (kH e.k e.od) ks e.a T0 0:=⟨_,rfl⟩;have hXr:X.row=[.int .i64 e.k,.int .i64 (pP e.k e.n),.str (kF e.k e.nm),.str (kG e.k e.on),.int .i64 (kH e.k e.od),aI ks,.int .i64 e.a,.int .i64 0,.int .i64 0,.int .i64 0,.int .i64 0]:=(by rw[hX];simp[E.row,aI]);have hkn:gq X.k X.n X.aC.length=true:=by
     rw[hX];simp only[E.k,E.n,E.aC];rw[nY hv];exact Ls hk
    have XQ:=qB hv λx _ y hy=>Sx hw.H hw.V x y hy;obtain⟨tv,⟨t,z,rfl,htr⟩,XR⟩:=Ae 1 c X hw.s (by rw[hX];simp only[E.aC];rw[nY hv];omega) hkn hw.H.rs (by rw[hX];exact XQ);have ai6:lV c.H c.V X.k X.nm X.on X.od X.aC=lV c.H c.V e.k e.nm e.on e.od ks:=(by rw[hX];exact Sy);rw[ai6]at htr XR;rw[hXr]at XR;have cA:aD (bD 11 (E.rows ks))=true:=bY;have SM:(bD 11 (E.rows ks)).view=aI ks:=rfl;have hkc:aD (aI ks)=true:=aQ;generalize bD 11 (E.rows ks)=mv at *;have Ff:=bU cA;have Co:=ck cA;cases hT:lV c.H c.V e.k e.nm e.on e.od ks with
    |none=>
     simp only;intro af;refine⟨.mk e.k (pP e.k e.n) (kF e.k e.nm) (kG e.k e.on) (kH e.k e.od) ks e.a t z,?_⟩;rw[hT]at XR;simp only[E.row,Option.isSome_none]at XR ⊢;rw[E.az e]at Fu Gu ⊢;have hq:aA 11 (E.rows ks)=aI ks:=rfl;rw[hq];generalize aI ks=kv at *;generalize (c.fail e.a).aT=o at *;refine ay (sf:=HC) rfl rfl rfl ?_;simp[-ah,-aa,HC,Fu,Gu,cY,SM,cA,hkc,fy,XR,oy,ag,AV.view,AV.ax,AV.ai]
    |some y=>
     obtain⟨u,r⟩:=y;obtain⟨h1,h2⟩:=htr u r hT;subst h1 h2;simp only;intro af;rw[hT]at XR;simp only[E.row,Option.isSome_some]at XR ⊢;rw[E.az e]at Fu Gu ⊢;have hq:aA 11 (E.rows ks)=aI ks:=rfl;rw[hq];generalize aI ks=kv at *;refine ay (sf:=HC) rfl rfl rfl ?_;simp[-ah,-aa,HC,Fu,Gu,cY,SM,cA,hkc,fy,XR,ag,AV.view,AV.ax,AV.ai]
end K9
