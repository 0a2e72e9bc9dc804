/- Part of a proof. -/
import Derived.Test.YtpnadocbfbbboaaGreatCode2
import Derived.Test.YtpnadocbfbbboaaGreatP

set_option maxRecDepth 100000
set_option maxHeartbeats 8000000
namespace K9
open Ax Go bX V7 lf mG
def iB(l:List (List UInt8)):List (List AV):=l.map λs=>[.str s]
structure CK where
 H:Hd
 main:Int
 sg:Sg
 V:List Vd
 fe:Int
 fa:Int
def CK.bC(c:CK):fq:=.rows 0 14 [[aK 2 (c.H.bZ.map gV),cM c.H.aH,aK 6 (c.H.cu.map Sg.aG),.int .i64 c.main,cC 1 (iB c.H.rs),.str c.sg.nm,cM c.sg.ps,.bool c.sg.ct,.int .i64 c.sg.res.b,.int .i64 c.sg.res.r,.int .i64 c.sg.res.d,cC 4 (c.V.map Vd.aG),.int .i64 c.fe,.int .i64 c.fa]]
def CK.fail(c:CK)(a:Int):CK:=if c.fe=0 then { c with fe:=3,fa:=a } else c
@[simp]theorem ig{l:List Vd}:aR (cM l)=true:=bL
@[simp]theorem iQ{l:List Vd}:(cM l).aa=cM l:=bO
@[simp]theorem afu{l:List Vd}:bg (cM l)=l.map Vd.aG:=aZ
@[simp]theorem afv{l:List E}:(E.rows l).length=l.length:=by simp[gd]
@[simp]theorem adn{l:List Sm}:(Sm.rows l).length=l.length:=by simp[iw]
theorem fZ{sz:Nat}{r:List (List AV)}(h:bV sz r=true):dg sz (aK sz r)=true:=by
 cases r with
 |nil=>rfl|cons a r=>simp[dg,h]
@[simp]theorem afw{l:List Vd}:dg 4 (cM l)=true:=fZ (by simp[bV,Vd.aG])
@[simp]theorem mY{l:List E}:dg 11 (aK 11 (E.rows l))=true:=fZ (by simp[bV,gd,E.aB])
@[simp]theorem Db{l:List Sm}:dg 9 (aK 9 (Sm.rows l))=true:=fZ (by simp[bV,iw,Sm.aB])
theorem amM{wl J:Nat}{c:CK}{r:ai}{bx:aX}:aP wl J (.load false 1 false) [.val (.ptr 0 0 0 12)] (c.bC::r) bx=some (.val (.int .i64 c.fe),c.bC::r,bx):=by
 simp[CK.bC,cut,AV.aa]
theorem y6{wl J:Nat}{c:CK}{r:ai}{bx:aX}:aP wl J (.load false 1 false) [.val (.ptr 0 0 0 4)] (c.bC::r) bx=some (.val (aK 1 (iB c.H.rs)),c.bC::r,bx):=by
 simp[CK.bC,cut,aK]
theorem ah1{wl J:Nat}{c:CK}{r:ai}{bx:aX}:aP wl J (.load false 1 false) [.val (.ptr 0 0 0 0)] (c.bC::r) bx=some (.val (aK 2 (c.H.bZ.map gV)),c.bC::r,bx):=by
 simp[CK.bC,cut]
theorem ah2{wl J:Nat}{c:CK}{r:ai}{bx:aX}:aP wl J (.load false 1 false) [.val (.ptr 0 0 0 1)] (c.bC::r) bx=some (.val (cM c.H.aH),c.bC::r,bx):=by
 simp[CK.bC,cut]
theorem ah3{wl J:Nat}{c:CK}{r:ai}{bx:aX}:aP wl J (.load false 1 false) [.val (.ptr 0 0 0 2)] (c.bC::r) bx=some (.val (aK 6 (c.H.cu.map Sg.aG)),c.bC::r,bx):=by
 simp[CK.bC,cut]
theorem ah4{wl J:Nat}{c:CK}{r:ai}{bx:aX}:aP wl J (.load false 1 false) [.val (.ptr 0 0 0 7)] (c.bC::r) bx=some (.val (.bool c.sg.ct),c.bC::r,bx):=by
 simp[CK.bC,cut,AV.aa]
theorem ah5{wl J:Nat}{c:CK}{r:ai}{bx:aX}:aP wl J (.load true 3 false) [.val (.ptr 0 0 0 8)] (c.bC::r) bx=some (.val (.agg [.int .i64 c.sg.res.b,.int .i64 c.sg.res.r,.int .i64 c.sg.res.d]),c.bC::r,bx):=by
 simp[CK.bC,cut,AV.aa]
theorem Ls{wl J:Nat}{c:CK}{r:ai}{bx:aX}:aP wl J (.load false 1 false) [.val (.ptr 0 0 0 11)] (c.bC::r) bx=some (.val (cM c.V),c.bC::r,bx):=by
 simp[CK.bC,cut,cM,aK]
theorem ah6{J:Nat}{c:CK}{a:Int}{r:ai}{bx:aX}:aP 0 J (.store 2) [.val (.ptr 0 0 0 12),.val (.agg [.int .i64 3,.int .i64 a])] (c.bC::r) bx=some (.none,({ c with fe:=3,fa:=a }:CK).bC::r,bx):=by
 simp[CK.bC,bq,AV.af,AV.au,ah]
theorem lz(wl J:Nat)(st:ai):(aT S).call wl J 117 [] st=some (.agg [.int .i64 0,.int .i64 0,.int .i64 0],st):=by
 refine bn (sf:=acI) rfl rfl (by simp) rfl (by simp[AV.au,AV.af]) ?_;simp[acI]
theorem EU(wl J:Nat)(st:ai):(aT S).call wl J 145 [] st=some (.agg [.int .i64 2,.int .i64 0,.int .i64 0],st):=by
 refine bn (sf:=acL) rfl rfl (by simp) rfl (by simp[AV.au,AV.af]) ?_;simp[acL]
theorem Bk(wl J:Nat)(st:ai):(aT S).call wl J 146 [] st=some (.agg [.int .i64 1,.int .i64 0,.int .i64 0],st):=by
 refine bn (sf:=acM) rfl rfl (by simp) rfl (by simp[AV.au,AV.af]) ?_;simp[acM]
theorem cF(J:Nat)(c:CK)(r:ai):(aT S).call 0 J 46 [.ptr 0 0 0 0] (c.bC::r)=some (.bool (!decide (c.fe=0)),c.bC::r):=by
 refine an (sf:=s46) rfl rfl rfl ?_;simp[-ax,-ag,s46,amM]
theorem eE(J:Nat)(c:CK)(a:Int)(r:ai):(aT S).call 0 J 119 [.ptr 0 0 0 0,.int .i64 a] (c.bC::r)=some (.fF [],(c.fail a).bC::r):=by
 have e:=λJ=>cF J c r;refine an (sf:=Yo) rfl rfl rfl ?_;unfold CK.fail;by_cases h:c.fe=0;rw[if_pos h];simp[-ax,-ag,Yo,e,h,ah6];rw[if_neg h];simp[-ax,-ag,Yo,e,h]
theorem Vk(wl J:Nat)(e:E)(st:ai):(aT S).call wl J 139 [.agg e.aG] st=some (.bool (dR e.k e.n e.ay.length),st):=by
 obtain⟨k,n,nm,on,od,ay,a,ty,ref⟩:=e;refine bn (sf:=um) rfl rfl (by simp[E.aG,AV.af,AV.au]) rfl (by simp) ?_;simp only[E.aG,E.k,E.n,E.ay];unfold dR;have m0:((ay.length:Int)=0)=(ay.length=0):=by simp
 have m1:((ay.length:Int)=1)=(ay.length=1):=by apply propext;omega
 have m2:((ay.length:Int)=2)=(ay.length=2):=by apply propext;omega
 have hl:oD [] .sl (aK 11 (E.rows ay))=some ay.length:=by simp[oD]
 generalize hv:aK 11 (E.rows ay)=v at *;have v1:aR v=true:=by rw[<-hv];simp
 have v2:v.aa=v:=by rw[<-hv];simp
 have v3:(bg v).length=ay.length:=by rw[<-hv];simp
 generalize ay.length=m at *;by_cases h1:k=1;subst h1;simp[um,v1,v2,v3];by_cases h3:k=3;subst h3;simp[um,v1,v2,v3];by_cases h4:k=4;subst h4;simp[um,v1,v2,v3];by_cases h8:k=8;subst h8;simp[um,v1,v2,v3];by_cases C9:k=11;subst C9;simp[um,v1,v2,v3];by_cases h2:k=2;subst h2;by_cases q:m=0;by_cases n0:n=0;simp[um,v1,v2,v3,q,n0];simp[um,v1,v2,v3,q,n0];simp[um,v1,v2,v3,q];by_cases h7:k=7;subst h7;simp[um,v1];by_cases h5:k=5;subst h5;simp[um,v1,v2,v3,m1];by_cases h9:k=9;subst h9;simp[um,v1,v2,v3,m1];by_cases zf:k=10;subst zf;simp[um,v1,v2,v3,m1];by_cases JT:k=12;subst JT;simp[um,v1,v2,v3,m1];by_cases I0:k=13;subst I0;simp[um,v1,v2,v3,m1];by_cases h6:k=6;subst h6;simp[um,v1,v2,v3,m2];by_cases g1:14<=k;by_cases g2:k<=24;simp[um,v1,v2,v3,h1,h2,h3,h4,h5,h6,h7,h8,h9,zf,C9,JT,I0,g1,g2,m2];simp[um,v1,h1,h2,h3,h4,h5,h6,h7,h8,h9,zf,C9,JT,I0,g1,g2];simp[um,v1,h1,h2,h3,h4,h5,h6,h7,h8,h9,zf,C9,JT,I0,g1]
theorem YT(wl J:Nat)(e:E)(st:ai):(aT S).call wl J 140 [.agg e.aG] st=some (.agg [.int .i64 e.k,.int .i64 (oC e.k e.n),.str (jV e.k e.nm),.str (kU e.k e.on),.int .i64 (kV e.k e.od),.U,.int .i64 e.a,.int .i64 0,.int .i64 0,.int .i64 0,.int .i64 0],st):=by
 obtain⟨k,n,nm,on,od,ay,a,ty,ref⟩:=e;refine bn (sf:=En) rfl rfl (by simp[E.aG,AV.af,AV.au]) rfl (by simp[AV.af,AV.au]) ?_;simp only[E.aG,E.k,E.n,E.nm,E.on,E.od,E.a];unfold oC jV kU kV;by_cases h1:k=1;subst h1;simp[En,ah];by_cases h2:k=2;subst h2;simp[En,ah];by_cases h3:k=3;subst h3;simp[En,ah];by_cases h8:k=8;subst h8;simp[En,ah];by_cases h9:k=9;subst h9;simp[En,ah];by_cases h4:k=4;subst h4;simp[En,ah];by_cases h5:k=5;subst h5;simp[En,ah];by_cases h7:k=7;subst h7;simp[En,ah];simp[En,ah,h1,h2,h3,h4,h5,h7,h8,h9]
end K9
namespace K9
open Ax Go bX V7 lf mG
theorem bM{wl J:Nat}{agg:Bool}{n sz i k:Nat}{rows:List (List AV)}{st:ai}{bx:aX}:aP wl J (.load agg n false) [.val (.qm sz rows i k)] st bx=sj st bx ((jD st (.qm sz rows i k) n).bind λcs=>ck agg (AV.cJ cs)):=ax
def vK(o:Option (Nat×T3)):Int:=match o with|some (k,_)=>(k:Int)|none=>-1
theorem Ri{s:List UInt8}{l:List Vd}{k:Nat}(h:k<l.length):js s k (l.drop k)=if l[k].nm=s then some (k,l[k].ty) else js s (k+1) (l.drop (k+1)):=by
 rw[List.drop_eq_getElem_cons h];rfl
theorem ado(J:Nat)(f:Vd)(s:List UInt8):(aT S).call 0 J 174 [.agg f.aG,.ptr 0 0 0 0] [.rows 0 1 [[.str s]]]=some (.bool (decide (f.nm=s)),[.rows 0 1 [[.str s]]]):=by
 refine an (sf:=acU) rfl rfl rfl ?_;simp[acU,Vd.aG,cut,AV.aa]
theorem Bi(J:Nat)(l:List Vd)(s:List UInt8)(hn:l.length<1000000000):(aT S).call 0 J 173 [cM l,.fn 174 [] [.ptr 0 0 0 0]] [.rows 0 1 [[.str s]]]=some (.int .i64 (vK (js s 0 l)),[.rows 0 1 [[.str s]]]):=by
 have el:=λJ f=>ado J f s;simp only[Vd.aG,T3.cells]at el;refine an (sf:=acT) rfl rfl rfl ?_;simp[acT];refine bu OL.eq_1 (λq:Nat×Int=>⟨[(0,.val (cM l)),(1,.val (.fn 174 [] [.ptr 0 0 0 0])),(7,.val (.int .i64 l.length)),(8,.val (.int .i64 q.1))],[],[.rows 0 1 [[.str s]]]⟩)
  (λq=>q.1<=l.length/\js s 0 l=js s q.1 (l.drop q.1)) (λq=>l.length-q.1) (0,0) (by simp) ⟨by simp,by simp⟩ ?_
 rintro⟨k,bb⟩ ⟨hk,hp⟩ ih;simp only at hk hp ih;by_cases bw:k<l.length;have hw:=wk k (by omega);rw[Ri bw]at hp;have e1:=λJ=>el J l[k];by_cases e:l[k].nm=s;rw[if_pos e]at hp;rw[hp];rw[decide_eq_true e]at e1;simp[bw,e1,Vd.aG,vK];rw[if_neg e]at hp;rw[decide_eq_false e]at e1;simp[bw,e1,Vd.aG,hw];exact ih (k+1,0) ⟨by simp;omega,hp⟩ (by simp;omega);have j8:k=l.length:=by omega
 have:js s 0 l=none:=by rw[hp,j8,List.drop_length];rfl
 rw[this];simp[bw,vK]
theorem Ae(wl J:Nat)(l:List Vd)(s:List UInt8)(st:ai)(hn:l.length<1000000000):(aT S).call wl J 168 [cM l,.str s] st=some (.int .i64 (vK (js s 0 l)),st):=by
 have e:=λJ=>Bi J l s hn;refine bn (sf:=acQ) rfl rfl (by simp[AV.af]) rfl (by simp) ?_;simp[acQ,e]
theorem Lt{s:List UInt8}:∀{l:List Vd}{i k:Nat}{t:T3},js s i l=some (k,t)->i<=k/\∃h:k-i<l.length,l[k-i].ty=t/\l[k-i].nm=s
 |[],_,_,_,h=>by cases h|f::l,i,k,t,h=>by
  unfold js at h;split at h;rename_i hs;cases h;exact⟨Nat.le_refl _,by simp,by simp,by simpa using hs⟩;obtain⟨h1,h2,h3,h4⟩:=Lt h;refine⟨by omega,by simp only[List.length_cons];omega,?_⟩;have:k-i=(k-(i+1))+1:=by omega
  simp only[this,List.getElem_cons_succ];exact⟨h3,h4⟩
theorem I8{s:List UInt8}{l:List Vd}{k:Nat}{t:T3}(h:js s 0 l=some (k,t)):∃h:k<l.length,l[k].ty=t:=by
 obtain⟨_,h1,h2,_⟩:=Lt h;exact⟨by simpa using h1,by simpa using h2⟩
structure Ce (c:CK):Prop where
 V:c.V.length<1000000000
 G:c.H.aH.length<1000000000
 S:c.H.cu.length<1000000000
 R:c.H.rs.length<1000000000
 F:∀s∈c.H.bZ,s.2.length<1000000000
 P:∀s∈c.H.cu,s.ps.length<1000000000
def Af(o:Option (T3×Int)):AV:=match o with
 |some (t,r)=>.fF [.int .i64 r,.agg t.cells,.bool true]|none=>.fF [.int .i64 0,.agg T0.cells,.bool false]
theorem Cf(J:Nat)(c:CK)(s:List UInt8)(r:ai)(hs:Ce c):(aT S).call 0 J 144 [.ptr 0 0 0 0,.str s] (c.bC::r)=some (Af (CG c.H c.V s),c.bC::r):=by
 have e1:=λwl J st=>Ae wl J c.V s st hs.V;have e2:=λwl J st=>Ae wl J c.H.aH s st hs.G;have en:=λwl J st=>lz wl J st;have hV:=hs.V;have hG:=hs.G;refine an (sf:=Uy) rfl rfl rfl ?_;unfold CG;cases h1:js s 0 c.V with
 |some x=>
  obtain⟨k,t⟩:=x;obtain⟨hk,ht⟩:=I8 h1;subst ht;rw[h1]at e1;simp only[vK]at e1;have y5:¬((k:Int)<0):=by omega
  simp[-ax,-ag,Uy,Ls,e1,Af,bM,hk,Vd.aG,aF,aC,ah]
 |none=>
  rw[h1]at e1;simp only[vK]at e1;cases h2:js s 0 c.H.aH with
  |some x=>
   obtain⟨k,t⟩:=x;obtain⟨hk,ht⟩:=I8 h2;subst ht;rw[h2]at e2;simp only[vK]at e2;have y5:¬((k:Int)<0):=(by omega);have hw:IntKind.i64.wrap (-1-(k:Int)) = -1-(k:Int):=(by rw[dn]<;>omega);simp[-ax,-ag,Uy,Ls,ah2,e1,e2,hw,Af,bM,hk,Vd.aG,aF,aC,ah]
  |none=>
   rw[h2]at e2;simp only[vK]at e2;simp[-ax,-ag,Uy,Ls,ah2,e1,e2,en,Af,ah]
def uu(o:Option (T3×Int)):AV:=match o with
 |some (t,r)=>.fF [.agg [.int .i64 t.b,.int .i64 t.r,.int .i64 t.d],.int .i64 r,.bool true]|none=>.fF [.agg [.int .i64 0,.int .i64 0,.int .i64 0],.int .i64 0,.bool false]
def EV(V:List Vd)(o:Option (Nat×T3)):AV:=match o with|some _=>.fF [.int .i64 0,.bool false]|none=>.fF [.int .i64 V.length,.bool true]
def CK.Vl(c:CK)(w:AV):fq:=.rows 0 14 [[aK 2 (c.H.bZ.map gV),cM c.H.aH,aK 6 (c.H.cu.map Sg.aG),.int .i64 c.main,cC 1 (iB c.H.rs),.str c.sg.nm,cM c.sg.ps,.bool c.sg.ct,.int .i64 c.sg.res.b,.int .i64 c.sg.res.r,.int .i64 c.sg.res.d,w,.int .i64 c.fe,.int .i64 c.fa]]
theorem adp{J:Nat}{c:CK}{bx:aX}:aP 0 J (.load false 1 true) [.val (.ptr 0 0 0 11)] [c.bC] bx=some (.val (cC 4 (c.V.map Vd.aG)),[c.Vl (cC 4 (c.V.map Vd.aG)).kQ],bx):=by
 simp only[CK.bC,CK.Vl];generalize c.V.map Vd.aG=rows;cases rows with
 |nil=>simp[aP,cC,cut,jD,fV,bq,AV.kQ,AV.au,AV.af,ah,ck]|cons a l=>simp[aP,cC,cut,jD,fV,bq,AV.kQ,AV.au,AV.af,ah,ck]
theorem ah7{J:Nat}{c:CK}{w:AV}{W:List Vd}{bx:aX}:aP 0 J (.store 1) [.val (.ptr 0 0 0 11),.val (cC 4 (W.map Vd.aG))] [c.Vl w] bx=some (.none,[({ c with V:=W }:CK).bC],bx):=by
 simp[CK.bC,CK.Vl,bq,AV.af,ah]
theorem NB(J:Nat)(c:CK)(s:List UInt8)(t:T3)(hs:Ce c):(aT S).call 0 J 143 [.ptr 0 0 0 0,.str s,.agg [.int .i64 t.b,.int .i64 t.r,.int .i64 t.d]] [c.bC] =
  some (EV c.V (js s 0 c.V),[(match js s 0 c.V with|some _=>c|none=>{ c with V:=c.V++[(⟨s,t⟩:Vd)] }:CK).bC]):=by
 have e1:=λwl J st=>Ae wl J c.V s st hs.V;have hV:=hs.V;refine an (sf:=Yp) rfl rfl rfl ?_;cases h1:js s 0 c.V with
 |some x=>
  obtain⟨k,u⟩:=x;rw[h1]at e1;simp only[vK]at e1;have y5:(0:Int)<=(k:Int):=by omega
  simp[-ax,-ag,Yp,Ls,e1,y5,EV]
 |none=>
  rw[h1]at e1;simp only[vK]at e1;have qi:=gm (sz:=4) (bytes:=40) (r:=c.V.map Vd.aG) (new:=[[.str s,.int .i64 t.b,.int .i64 t.r,.int .i64 t.d]]) (by simp[bV]) (by simp[dx];omega);have hrw:c.V.map Vd.aG++[[.str s,.int .i64 t.b,.int .i64 t.r,.int .i64 t.d]]=(c.V++[(⟨s,t⟩:Vd)]).map Vd.aG:=by simp[Vd.aG]
  rw[hrw]at qi;have ep:=λJ bx=>ah7 (J:=J) (c:=c) (w:=(cC 4 (c.V.map Vd.aG)).kQ) (W:=c.V++[(⟨s,t⟩:Vd)]) (bx:=bx);have et:=λJ bx=>adp (J:=J) (c:=c) (bx:=bx);have ev:=λwl J bx=>Ls (wl:=wl) (J:=J) (c:={ c with V:=c.V++[(⟨s,t⟩:Vd)] }) (r:=[]) (bx:=bx);simp only at ev;have hLl:(bg (cM (c.V++[(⟨s,t⟩:Vd)]))).length=c.V.length+1:=by simp
  have hLs:aR (cM (c.V++[(⟨s,t⟩:Vd)]))=true:=ig;generalize cM (c.V++[(⟨s,t⟩:Vd)])=R2 at *;generalize ({ c with V:=c.V++[(⟨s,t⟩:Vd)] }:CK).bC=ob2 at *;generalize c.Vl (cC 4 (c.V.map Vd.aG)).kQ=ob1 at *;generalize cC 4 ((c.V++[(⟨s,t⟩:Vd)]).map Vd.aG)=R at *;generalize cC 4 (c.V.map Vd.aG)=R0 at *;have hw:IntKind.i64.wrap (c.V.length:Int)=(c.V.length:Int):=by rw[dn]<;>omega
  simp[-ax,-ag,Yp,Ls,e1,EV,et,ep,ev,qi,hLs,hLl,hw,aF,aC,AV.aa]
end K9
namespace K9
open Ax Go bX V7 lf mG
theorem adq(wl J:Nat)(l:List (List UInt8))(s:List UInt8)(st:ai)(hn:l.length<1000000000) :
  (aT S).call wl J 115 [aK 1 (iB l),.str s] st=some (.int .i64 (vP l s),st):=by
 have hz:dg 1 (aK 1 (iB l))=true:=fZ (by simp[bV,iB]);have hl:(iB l).length=l.length:=by simp[iB]
 have hg:∀k (h:k<(iB l).length),(iB l)[k]=[.str (l[k]'(by simpa [iB] using h))]:=λk h=>by simp[iB]
 have Pa:∀k (h:k<l.length),(iB l)[k]?=some [.str l[k]]:=λk h=>by simp[iB,h]
 refine bn (sf:=Uv) rfl rfl (by simp) rfl (by simp) ?_;simp[Uv,hl];refine bu Iz.eq_1 (λq:Nat×Int=>⟨[(0,.val (aK 1 (iB l))),(1,.val (.str s)),(7,.val (.int .i64 l.length)),(8,.val (.int .i64 q.1))],[],[]⟩)
  (λq=>q.1<=l.length/\K5 (λx=>decide (x=s)) l q.1) (λq=>l.length-q.1) (0,0) (by simp) ⟨by simp,Bb⟩ ?_
 rintro⟨k,bb⟩ ⟨hk,hp⟩ ih;simp only at hk hp ih;by_cases bw:k<l.length;have hw:=wk k (by omega);have g:=Pa k bw;by_cases e:l[k]=s;have hi:=OP hp bw e;simp[bw,hz,hl,hg,e,hi];have e':¬s=l[k]:=λh=>e h.symm;simp[bw,hz,hl,hg,e',hw];exact ih (k+1,0) ⟨by simp;omega,Bc hp bw (by simpa using e)⟩ (by simp;omega);have j8:k=l.length:=by omega
 have hi:=GU (j8 ▸ hp);simp[bw,hi]
def tyV(x:T3×Bool):AV:=.fF [.agg [.int .i64 x.1.b,.int .i64 x.1.r,.int .i64 x.1.d],.bool x.2]
theorem mQ(wl J:Nat)(l:List (List UInt8))(s:List UInt8)(d:Int)(st:ai)(hn:l.length<1000000000) :
  (aT S).call wl J 116 [aK 1 (iB l),.agg [.str s,.int .i64 d]] st=some (tyV (dA l s d),st):=by
 have hi:=adq 0 0 l s [] hn;refine bn (sf:=yT) rfl rfl (by simp[AV.af,AV.au]) rfl (by simp[tyV,AV.au,AV.af]) ?_;unfold tyV;by_cases d0:d<0;have:dA l s d=(T0,false):=if_pos (.inl d0);rw[this];simp[yT,d0];by_cases d3:3<d;have:dA l s d=(T0,false):=if_pos (.inr d3);rw[this];simp[yT,d0,d3];have hd:¬(d<0\/3<d):=by omega
 unfold dA;rw[if_neg hd];by_cases i1:s=[105,110,116];simp[yT,d0,d3,i1];by_cases i2:s=[98,111,111,108];simp[yT,d0,d3,i2];rw[if_neg i1,if_neg i2];by_cases i3:vP l s<0;simp[yT,d0,d3,i1,i2,hi,i3];simp[yT,d0,d3,i1,i2,hi,i3]
theorem adr(wl J:Nat)(t:T3)(st:ai):(aT S).call wl J 164 [.agg [.int .i64 t.b,.int .i64 t.r,.int .i64 t.d]] st=some (.bool (ac0 t),st):=by
 refine bn (sf:=Yu) rfl rfl (by simp[AV.af,AV.au]) rfl (by simp) ?_;unfold ac0;by_cases b:t.b=3;simp[Yu,b];simp[Yu,b]
theorem Vm(J:Nat)(c:CK)(e:E)(x:E)(hk:e.ay=[x])(hs:Ce c)(hx:x.ty.b=3->0<=x.ty.r/\x.ty.r<c.H.bZ.length) :
  (aT S).call 0 J 165 [.ptr 0 0 0 0,.agg e.aG] [c.bC]=some (uu (Bf c.H x.ty e.nm),[c.bC]):=by
 have en:=λwl J st=>lz wl J st;have dj:=E.aB e;have hz:dg 11 (bf e.ay)=true:=mY;have mo:bg (bf e.ay)=[x.aG]:=by rw[hk];simp[bf,E.rows]
 have dw:aR (bf e.ay)=true:=bP;have gn:(bf e.ay).aa=bf e.ay:=bS;rw[E.aB x]at mo;rw[dj];generalize bf e.ay=kv at *;have Sq:dg 2 (aK 2 (c.H.bZ.map gV))=true:=fZ (by simp[bV,gV]);refine an (sf:=QZ) rfl rfl rfl ?_;unfold Bf;by_cases hb:x.ty.b=3;by_cases hd:x.ty.d=0;rw[if_pos ⟨hb,hd⟩];obtain⟨h0,h1⟩:=hx hb;obtain⟨k,Kc⟩:∃k:Nat,x.ty.r=k:=⟨x.ty.r.toNat,by omega⟩;have j8:k<c.H.bZ.length:=by omega
 have hg:c.H.bZ[k]?=some c.H.bZ[k]:=List.getElem?_eq_getElem j8;have hF:=hs.F _ (List.getElem_mem j8);generalize Rj:c.H.bZ[k]=sh at *;have e1:=λwl J st=>Ae wl J sh.2 e.nm st hF;rw[Kc,Int.toNat_natCast,hg];simp only;rw[Kc]at mo;have hgm:∀h:k<(c.H.bZ.map gV).length,(c.H.bZ.map gV)[k]=[.str sh.1,cM sh.2]:=λh=>by simp[Rj,gV]
 cases h2:js e.nm 0 sh.2 with
 |some y=>
  obtain⟨j,u⟩:=y;obtain⟨hj,hu⟩:=I8 h2;subst hu;rw[h2]at e1;simp only[vK]at e1;have hj0:¬((j:Int)<0):=by omega
  simp[-ax,-ag,QZ,bM,ah1,hz,dw,gn,mo,hb,hd,Sq,j8,hgm,e1,hj0,hj,Vd.aG,uu,aF,aC,ah,AV.aa]
 |none=>
  rw[h2]at e1;simp only[vK]at e1;simp[-ax,-ag,QZ,bM,ah1,hz,dw,gn,mo,hb,hd,Sq,j8,hgm,e1,en,uu,aF,aC,ah,AV.aa]
 rw[if_neg (λh=>hd h.2)];simp[-ax,-ag,QZ,bM,hz,dw,gn,mo,hb,hd,en,uu,ah,AV.aa];rw[if_neg (λh=>hb h.1)];simp[-ax,-ag,QZ,bM,hz,dw,gn,mo,hb,en,uu,ah,AV.aa]
theorem amN(t u:T3):(t=u)=(t.b=u.b/\t.r=u.r/\t.d=u.d):=by
 obtain⟨a,b,c⟩:=t;obtain⟨d,e,f⟩:=u;simp
theorem dU(t u:T3):(decide (t.b=u.b)&&(decide (t.r=u.r)&&decide (t.d=u.d)))=decide (t=u):=by
 rw[Bool.eq_iff_iff];simp only[Bool.and_eq_true,decide_eq_true_eq];exact(iff_of_eq (amN t u)).symm
theorem dI(t:T3):(decide (t.b=1)&&(decide (t.r=0)&&decide (t.d=0)))=decide (t=tI):=dU t tI
theorem dB(t:T3):(decide (t.b=2)&&(decide (t.r=0)&&decide (t.d=0)))=decide (t=tB):=dU t tB
theorem d0(t:T3):(decide (t.b=0)&&(decide (t.r=0)&&decide (t.d=0)))=decide (t=T0):=dU t T0
def F4(k:Int):T3:=if k=14\/k=15\/k=16\/k=17\/k=18 then tI else tB
theorem Lu{b:Bool}{t:T3}:(Le b t).isSome=b:=by cases b<;>rfl
theorem I9{b:Bool}{t u:T3}{r:Int}(h:Le b t=some (u,r)):t=u/\0=r:=by cases b<;>cases h;exact⟨rfl,rfl⟩
theorem adt{k:Int}{a b u:T3}{r:Int}(h:Ns k a b=some (u,r)):F4 k=u/\0=r:=by
 unfold Ns at h;unfold F4;split at h;rename_i c;rw[if_pos c];exact I9 h;rename_i c;rw[if_neg c];split at h;exact I9 h;split at h<;>exact I9 h
theorem adu(J:Nat)(c:CK)(e x y:E)(hk:e.ay=[x,y]):(aT S).call 0 J 167 [.ptr 0 0 0 0,.agg e.aG] [c.bC] =
  some (.fF [.agg [.int .i64 (F4 e.k).b,.int .i64 (F4 e.k).r,.int .i64 (F4 e.k).d],.int .i64 0,.bool (Ns e.k x.ty y.ty).isSome],[c.bC]):=by
 have et:=λwl J st=>EU wl J st;have en:=λwl J st=>Bk wl J st;have hz:dg 11 (bf e.ay)=true:=mY;have mo:bg (bf e.ay)=[x.aG,y.aG]:=by rw[hk];simp[bf,E.rows]
 have dw:aR (bf e.ay)=true:=bP;have gn:(bf e.ay).aa=bf e.ay:=bS;rw[E.aB x,E.aB y]at mo;rw[E.aB e];generalize bf e.ay=kv at *;refine an (sf:=CB) rfl rfl rfl ?_;unfold Ns F4;generalize e.k=k;have mM:∀(p:Bool) (t:T3),(Le p t).isSome=p:=λp t=>Lu;by_cases h1:k=14;subst h1;by_cases q:x.ty=tI<;>simp[-ax,-ag,CB,bM,hz,dw,gn,mo,en,dI,q,mM,aF,aV,bD,aC,ah,AV.aa];by_cases h2:k=15;subst h2;by_cases q:x.ty=tI<;>simp[-ax,-ag,CB,bM,hz,dw,gn,mo,en,dI,q,mM,aF,aV,bD,aC,ah,AV.aa];by_cases h3:k=16;subst h3;by_cases q:x.ty=tI<;>simp[-ax,-ag,CB,bM,hz,dw,gn,mo,en,dI,q,mM,aF,aV,bD,aC,ah,AV.aa];by_cases h4:k=17;subst h4;by_cases q:x.ty=tI<;>simp[-ax,-ag,CB,bM,hz,dw,gn,mo,en,dI,q,mM,aF,aV,bD,aC,ah,AV.aa];by_cases h5:k=18;subst h5;by_cases q:x.ty=tI<;>simp[-ax,-ag,CB,bM,hz,dw,gn,mo,en,dI,q,mM,aF,aV,bD,aC,ah,AV.aa];by_cases h6:k=19;subst h6;by_cases q:x.ty=tI<;>simp[-ax,-ag,CB,bM,hz,dw,gn,mo,en,et,dI,q,mM,aF,aV,bD,aC,ah,AV.aa];by_cases h7:k=20;subst h7;by_cases q:x.ty=tI<;>simp[-ax,-ag,CB,bM,hz,dw,gn,mo,en,et,dI,q,mM,aF,aV,bD,aC,ah,AV.aa];by_cases h8:k=21;subst h8;simp[-ax,-ag,CB,bM,hz,dw,gn,mo,et,dU,mM,aF,aV,bD,aC,ah,AV.aa];by_cases h9:k=22;subst h9;simp[-ax,-ag,CB,bM,hz,dw,gn,mo,et,dU,mM,aF,aV,bD,aC,ah,AV.aa];by_cases q:x.ty=tB<;>simp[-ax,-ag,CB,bM,hz,dw,gn,mo,et,dB,q,mM,h1,h2,h3,h4,h5,h6,h7,h8,h9,aF,aV,bD,aC,ah,AV.aa]
def Vn(o:Option (Nat×Sg)):Int:=match o with|some (k,_)=>(k:Int)|none=>-1
theorem Vo{s:List UInt8}{l:List Sg}{k:Nat}(h:k<l.length):qj s k (l.drop k)=if l[k].nm=s then some (k,l[k]) else qj s (k+1) (l.drop (k+1)):=by
 rw[List.drop_eq_getElem_cons h];rfl
theorem Pc{s:List UInt8}:∀{l:List Sg}{i k:Nat}{t:Sg},qj s i l=some (k,t)->i<=k/\∃h:k-i<l.length,l[k-i]=t
 |[],_,_,_,h=>by cases h|f::l,i,k,t,h=>by
  unfold qj at h;split at h;cases h;exact⟨Nat.le_refl _,by simp,by simp⟩;obtain⟨h1,h2,h3⟩:=Pc h;refine⟨by omega,by simp only[List.length_cons];omega,?_⟩;have:k-i=(k-(i+1))+1:=by omega
  simp only[this,List.getElem_cons_succ];exact h3
theorem adv{s:List UInt8}{l:List Sg}{k:Nat}{t:Sg}(h:qj s 0 l=some (k,t)):∃h:k<l.length,l[k]=t:=by
 obtain⟨_,h1,h2⟩:=Pc h;exact⟨by simpa using h1,by simpa using h2⟩
theorem YU(J:Nat)(g:Sg)(e:E)(o:fq):(aT S).call 0 J 172 [.agg g.aG,.ptr 1 0 0 0] [o,.rows 0 11 [e.aG]]=some (.bool (decide (g.nm=e.nm)),[o,.rows 0 11 [e.aG]]):=by
 refine an (sf:=acS) rfl rfl rfl ?_;rw[E.aB];simp[acS,Sg.aG,cut,AV.aa]
theorem Rk(J:Nat)(l:List Sg)(e:E)(o:fq)(hn:l.length<1000000000):(aT S).call 0 J 71 [aK 6 (l.map Sg.aG),.fn 172 [] [.ptr 1 0 0 0]] [o,.rows 0 11 [e.aG]]=some (.int .i64 (Vn (qj e.nm 0 l)),[o,.rows 0 11 [e.aG]]):=by
 have el:=λJ f=>YU J f e o;simp only[Sg.aG]at el;have hz:dg 6 (aK 6 (l.map Sg.aG))=true:=fZ (by simp[bV,Sg.aG]);generalize fq.rows 0 11 [e.aG]=o2 at *;refine an (sf:=s71) rfl rfl rfl ?_;simp[s71];refine bu Nc.eq_1 (λq:Nat×Int=>⟨[(0,.val (aK 6 (l.map Sg.aG))),(1,.val (.fn 172 [] [.ptr 1 0 0 0])),(7,.val (.int .i64 l.length)),(8,.val (.int .i64 q.1))],[],[o,o2]⟩)
  (λq=>q.1<=l.length/\qj e.nm 0 l=qj e.nm q.1 (l.drop q.1)) (λq=>l.length-q.1) (0,0) (by simp) ⟨by simp,by simp⟩ ?_
 rintro⟨k,bb⟩ ⟨hk,hp⟩ ih;simp only at hk hp ih;by_cases bw:k<l.length;have hw:=wk k (by omega);rw[Vo bw]at hp;have e1:=λJ=>el J l[k];by_cases h:l[k].nm=e.nm;rw[if_pos h]at hp;rw[hp];rw[decide_eq_true h]at e1;simp[bw,hz,e1,Sg.aG,Vn];rw[if_neg h]at hp;rw[decide_eq_false h]at e1;simp[bw,hz,e1,Sg.aG,hw];exact ih (k+1,0) ⟨by simp;omega,hp⟩ (by simp;omega);have j8:k=l.length:=by omega
 have:qj e.nm 0 l=none:=by rw[hp,j8,List.drop_length];rfl
 rw[this];simp[bw,Vn]
theorem Rl{l:List Vd}{r:List E}:∀{k:Nat}(h1:k<l.length)(h2:k<r.length),kT (l.drop k) (r.drop k)=(decide (r[k].ty=l[k].ty)&&kT (l.drop (k+1)) (r.drop (k+1))):=by
 intro k h1 h2;rw[List.drop_eq_getElem_cons h1,List.drop_eq_getElem_cons h2]
 rfl
theorem Lv:∀{l:List Vd}{r:List E},kT l r=true->l.length=r.length
 |[],[],_=>rfl|[],_::_,h=>by cases h|_::_,[],h=>by cases h|_::l,_::r,h=>by
  simp only[kT,Bool.and_eq_true]at h;simp[Lv h.2]
end K9
namespace K9
open Ax Go bX V7 lf mG
theorem adw{wl J:Nat}{o:fq}{e:E}{bx:aX}:aP wl J (.load false 1 false) [.val (.ptr 1 0 0 5)] [o,.rows 0 11 [e.aG]] bx=some (.val (bf e.ay),[o,.rows 0 11 [e.aG]],bx):=by
 simp[E.aB,cut]
theorem Hi{l:List E}{k:Nat}(h:k<l.length):(E.rows l)[k]?=some l[k].aG:=by simp[gd,h]
theorem Bl{l:List E}{k:Nat}(h:k<l.length)(h2:k<(E.rows l).length):(E.rows l)[k]=l[k].aG:=by simp[gd]
theorem xD(J:Nat)(c:CK)(e:E)(hs:Ce c)(hn:e.ay.length<1000000000):(aT S).call 0 J 166 [.ptr 0 0 0 0,.agg e.aG] [c.bC]=some (uu (ED c.H e.nm e.ay),[c.bC]):=by
 have en:=λwl J st=>lz wl J st;have ei:=λJ=>Rk J c.H.cu e c.bC hs.S;have hzS:dg 6 (aK 6 (c.H.cu.map Sg.aG))=true:=fZ (by simp[bV,Sg.aG]);have hzE:dg 11 (bf e.ay)=true:=mY;have eM:bg (bf e.ay)=E.rows e.ay:=aZ;have hS:=hs.S;have ek:=λwl J bx=>adw (wl:=wl) (J:=J) (o:=c.bC) (e:=e) (bx:=bx);have hsi:=λwl J bx=>ah3 (wl:=wl) (J:=J) (c:=c) (r:=[.rows 0 11 [e.aG]]) (bx:=bx);have vO:∀bx,aP 0 1 (.box 11) [.val (.agg e.aG)] [c.bC] bx=some (.val (.ptr 1 0 0 0),[c.bC,.rows 0 11 [e.aG]],bx):=λbx=>by rw[E.aB];simp
 refine an (sf:=UC) rfl rfl rfl ?_;unfold ED;generalize hO:fq.rows 0 11 [e.aG]=o at *;cases h1:qj e.nm 0 c.H.cu with
 |none=>
  rw[h1]at ei;simp only[Vn]at ei;simp[-ax,-ag,-OA,UC,vO,hsi,ei,en,uu,aF,aC,ah]
 |some y=>
  obtain⟨i,s⟩:=y;obtain⟨hi,hg⟩:=adv h1;rw[h1]at ei;simp only[Vn]at ei;have hi0:¬((i:Int)<0):=by omega
  have hP:=hs.P _ (List.getElem_mem hi);rw[hg]at hP;have gS:(c.H.cu.map Sg.aG)[i]?=some [.str s.nm,cM s.ps,.bool s.ct,.int .i64 s.res.b,.int .i64 s.res.r,.int .i64 s.res.d]:=by simp[hi,hg,Sg.aG]
  have YV:∀h:i<(c.H.cu.map Sg.aG).length,(c.H.cu.map Sg.aG)[i]=[.str s.nm,cM s.ps,.bool s.ct,.int .i64 s.res.b,.int .i64 s.res.r,.int .i64 s.res.d]:=λh=>by simp[hg,Sg.aG]
  simp only;by_cases hl:s.ps.length=e.ay.length;have pZ:¬((s.ps.length:Int)≠(e.ay.length:Int)):=by omega
  simp[-ax,-ag,-OA,UC,vO,hsi,ei,hi0,ek,hzS,hi,YV,bM,eM,hl,uu,aF,aC,AV.aa];refine bu OK.eq_1 (λy:Nat×List AV=>⟨[(0,.val (.ptr 0 0 0 0)),(3,.val (.ptr 1 0 0 0)),(4,.fp 0 0),(7,.val (.int .i64 i)),(44,.val (cM s.ps)),(45,.val (.int .i64 e.ay.length)),(46,.val (.int .i64 y.1))],
   [[.int .i64 0,.int .i64 0,.int .i64 0],y.2],[c.bC,o]⟩) (λy=>y.1<=e.ay.length/\kT s.ps e.ay=kT (s.ps.drop y.1) (e.ay.drop y.1)) (λy=>e.ay.length-y.1) (0,[]) rfl ⟨by simp,by simp⟩ ?_
  rintro⟨k,b2⟩ ⟨hk,hp⟩ ih;simp only at hk hp ih;by_cases bw:k<e.ay.length;have ya:k<s.ps.length:=by omega
  have hw:=wk k (by omega);rw[Rl ya bw]at hp;have gP:(s.ps.map Vd.aG)[k]?=some [.str s.ps[k].nm,.int .i64 s.ps[k].ty.b,.int .i64 s.ps[k].ty.r,.int .i64 s.ps[k].ty.d]:=by simp[ya,Vd.aG]
  have gP':∀h:k<(s.ps.map Vd.aG).length,(s.ps.map Vd.aG)[k]=[.str s.ps[k].nm,.int .i64 s.ps[k].ty.b,.int .i64 s.ps[k].ty.r,.int .i64 s.ps[k].ty.d]:=λh=>by simp[Vd.aG]
  have gE:=Hi bw;have uE:=λh2=>Bl bw h2;simp only[E.aB]at gE uE;by_cases q:e.ay[k].ty=s.ps[k].ty;rw[decide_eq_true q,Bool.true_and]at hp;have iF:=λb=>ih (k+1,b) ⟨by simp only;omega,hp⟩ (by simp only;omega);simp only at iF;rw[q]at gE uE;generalize e.ay[k]=x at *;generalize s.ps[k]=p at *;simp[-ax,-ag,bw,ya,hw,gP',uE,ek,hzE,eM,bM,aF,aC,ah,AV.aa];exact iF _;rw[decide_eq_false q,Bool.false_and]at hp;generalize e.ay[k]=x at *;generalize s.ps[k]=p at *;simp[-ax,-ag,bw,ya,gP',uE,ek,hzE,eM,bM,dU,q,hp,en,aF,aC,ah,AV.aa];have j8:k=e.ay.length:=by omega
  have:kT s.ps e.ay=true:=by rw[hp,j8,List.drop_length,<-hl,List.drop_length];rfl
  have amQ:=λwl J bx=>ah3 (wl:=wl) (J:=J) (c:=c) (r:=[o]) (bx:=bx);simp[-ax,-ag,bw,this,amQ,hzS,hi,YV,bM,ah,AV.aa];have iR:kT s.ps e.ay=false:=by
   cases h:kT s.ps e.ay with
   |false=>rfl|true=>exact absurd (Lv h) hl
  have pZ:¬((s.ps.length:Int)=(e.ay.length:Int)):=by omega
  rw[iR];simp[-ax,-ag,-OA,UC,vO,hsi,ei,hi0,ek,hzS,hi,YV,bM,eM,hl,en,uu,aF,aC,ah,AV.aa]
end K9
namespace K9
open Ax Go bX V7 lf mG
def Vp(o:Option (T3×Int))(v:AV):Prop:=∃(t:T3)(z:Int),v=.fF [.agg [.int .i64 t.b,.int .i64 t.r,.int .i64 t.d],.int .i64 z,.bool o.isSome]/\∀u r,o=some (u,r)->t=u/\z=r
theorem NC(o:Option (T3×Int)):Vp o (uu o):=by
 cases o with
 |none=>exact⟨T0,0,rfl,λ_ _ h=>by cases h⟩|some x=>exact⟨x.1,x.2,rfl,λu r h=>by cases h;exact⟨rfl,rfl⟩⟩
theorem mJ(b:Bool)(t:T3):Vp (Le b t) (.fF [.agg [.int .i64 t.b,.int .i64 t.r,.int .i64 t.d],.int .i64 0,.bool b]):=by
 refine⟨t,0,?_,λu r h=>I9 h⟩;rw[Lu]
theorem ij{J f:Nat}{sf:aD}{args:List AV}{st:ai}{o:Option (T3×Int)}(hf:S f=some sf)(ha:sG sf args=false)(hl:args.length=sf.aE)(v:AV)(hv:Vp o v)
  (h:W S (sf.mode.yH st.length 0) (sf.mode.qY st.length J) sf.results (M6 sf.results sf.mode st (v,st)) [.code sf.body] .normal (qZ sf args st)) :
  ∃v,Vp o v/\(aT S).call 0 J f args st=some (v,st):=⟨v,hv,an hf ha hl h⟩
theorem Ab(J:Nat)(c:CK)(e:E)(hs:Ce c)(hn:e.ay.length<1000000000)(hk:dR e.k e.n e.ay.length=true)(hRS:c.H.rs.length=c.H.bZ.length)(hw:∀x∈e.ay,WT c.H.rs.length x.ty) :
  ∃v,Vp (pL c.H c.V e.k e.nm e.on e.od e.ay) v/\(aT S).call 0 J 141 [.ptr 0 0 0 0,.agg e.aG] [c.bC]=some (v,[c.bC]):=by
 have eN:=λwl J st=>Bk wl J st;have eT:=λwl J st=>EU wl J st;have eV:=λJ=>Cf J c e.nm [] hs;have Cg:=λwl J st=>mQ wl J c.H.rs e.on e.od st hs.R;have erf:=λwl J st=>adr wl J (dA c.H.rs e.on e.od).1 st;have dj:=E.aB e;have hz:dg 11 (bf e.ay)=true:=mY;have dw:aR (bf e.ay)=true:=bP;have gn:(bf e.ay).aa=bf e.ay:=bS;have eM:bg (bf e.ay)=E.rows e.ay:=aZ;have one:∀j,e.k=j->(j=5\/j=9\/j=10\/j=12\/j=13)->∃x,e.ay=[x]:=λj hj h=>by
  have hlen:e.ay.length=1:=by
   rw[hj]at hk;rcases h with h|h|h|h|h<;>subst h<;>simpa [dR] using hk
  match hh:e.ay,hlen with
  |[x],_=>exact⟨x,rfl⟩
 have two:e.k≠1->e.k≠2->e.k≠3->e.k≠4->e.k≠5->e.k≠7->e.k≠8->e.k≠9->e.k≠10->e.k≠11->e.k≠12->e.k≠13->∃x y,e.ay=[x,y]:=λh1 h2 h3 h4 h5 h7 h8 h9 zf C9 JT I0=>by
  have hlen:e.ay.length=2:=by
   simp[dR,h1,h2,h3,h4,h5,h7,h8,h9,zf,C9,JT,I0]at hk;exact hk.2
  match hh:e.ay,hlen with
  |[x,y],_=>exact⟨x,y,rfl⟩
 have fld:=λx (h:e.ay=[x]) J=>Vm J c e x h hs (by
  have:=(hw x (by rw[h];exact List.mem_cons_self)).2.2;rw[hRS]at this;exact this)
 have cal:=λJ=>xD J c e hs hn;have tw:=λx y (h:e.ay=[x,y]) J=>adu J c e x y h;rw[dj]at fld cal tw;rw[dj];unfold pL;by_cases h1:e.k=1;rw[if_pos (.inl h1)];rw[h1];refine ij (sf:=kR) rfl rfl rfl _ (mJ true tI) ?_;simp[-ax,-ag,kR,eN,ah,AV.aa];by_cases C9:e.k=11;rw[if_pos (.inr C9)];rw[C9];refine ij (sf:=kR) rfl rfl rfl _ (mJ true tI) ?_;simp[-ax,-ag,kR,eN,ah,AV.aa];rw[if_neg (λh=>h.elim h1 C9)];by_cases h2:e.k=2;rw[if_pos h2,h2];refine ij (sf:=kR) rfl rfl rfl _ (mJ true tB) ?_;simp[-ax,-ag,kR,eT,ah,AV.aa];rw[if_neg h2];by_cases h3:e.k=3;rw[if_pos h3,h3];refine ij (sf:=kR) rfl rfl rfl _ (mJ _ _) ?_;unfold tyV at Cg;generalize dA c.H.rs e.on e.od=tt at *;obtain⟨t,b⟩:=tt;cases b<;>simp[-ax,-ag,kR,y6,Cg,erf,aF,aV,bD,aC,ah,AV.aa];rw[if_neg h3];by_cases h4:e.k=4;rw[if_pos h4,h4];refine ij (sf:=kR) rfl rfl rfl _ (NC _) ?_;generalize CG c.H c.V e.nm=o at *;cases o with
 |none=>simp[-ax,-ag,kR,eV,Af,uu,ah,AV.aa]|some x=>simp[-ax,-ag,kR,eV,Af,uu,ah,AV.aa]
 rw[if_neg h4];by_cases h5:e.k=5;rw[if_pos h5];obtain⟨x,hx⟩:=one 5 h5 (by simp);have f:=fld x hx;rw[h5]at f ⊢;have:xL e.ay=x.ty:=by rw[hx];rfl
 rw[this];refine ij (sf:=kR) rfl rfl rfl _ (NC _) ?_;generalize Bf c.H x.ty e.nm=o at *;generalize bf e.ay=kv at *;cases o with
 |none=>
  simp only[uu]at f;simp[-ax,-ag,kR,f,dw,gn,uu,ah,AV.aa]
 |some x=>
  simp only[uu]at f;simp[-ax,-ag,kR,f,dw,gn,uu,ah,AV.aa]
 rw[if_neg h5];by_cases h6:e.k=6;rw[if_pos h6];obtain⟨x,y,hx⟩:=two h1 h2 h3 h4 h5 (by omega) (by omega) (by omega) (by omega) C9 (by omega) (by omega);have a1:xL e.ay=x.ty:=by rw[hx];rfl
 have a2:EC e.ay=y.ty:=by rw[hx];rfl
 have wx:=hw x (by rw[hx];exact List.mem_cons_self);rw[show E.rows e.ay=E.rows [x,y] from by rw[hx]]at eM;rw[a1,a2,h6];simp only[E.rows,E.aB]at eM;generalize bf e.ay=kv at *;have FZ:IntKind.i64.wrap (x.ty.d-1)=x.ty.d-1:=by
  have:=wx.1;have:=wx.2.1;rw[dn]<;>omega
 refine ij (sf:=kR) rfl rfl rfl _ (mJ _ _) ?_;by_cases q:0<x.ty.d;simp[-ax,-ag,kR,bM,hz,dw,gn,eM,q,eN,dI,FZ,aF,aC,ah,AV.aa];simp[-ax,-ag,kR,bM,hz,dw,gn,eM,q,FZ,aF,aC,ah,AV.aa];rw[if_neg h6];by_cases h7:e.k=7;rw[if_pos h7];rw[h7]at cal ⊢;refine ij (sf:=kR) rfl rfl rfl _ (NC _) ?_;generalize ED c.H e.nm e.ay=o at *;generalize bf e.ay=kv at *;cases o with
 |none=>
  simp only[uu]at cal;simp[-ax,-ag,kR,cal,dw,gn,uu,ah,AV.aa]
 |some x=>
  simp only[uu]at cal;simp[-ax,-ag,kR,cal,dw,gn,uu,ah,AV.aa]
 rw[if_neg h7];by_cases h8:e.k=8;rw[if_pos h8,h8];refine ij (sf:=kR) rfl rfl rfl _ (mJ _ _) ?_;unfold tyV at Cg;generalize dA c.H.rs e.on e.od=tt at *;obtain⟨t,b⟩:=tt;cases b with
 |false=>simp[-ax,-ag,kR,y6,Cg,aF,aV,bD,aC,ah,AV.aa]|true=>
  by_cases q:t.b=3;simp[-ax,-ag,kR,y6,Cg,q,aF,aV,bD,aC,ah,AV.aa];simp[-ax,-ag,kR,y6,Cg,q,aF,aV,bD,aC,ah,AV.aa]
 rw[if_neg h8];by_cases h9:e.k=9;rw[if_pos h9];obtain⟨x,hx⟩:=one 9 h9 (by simp);have a1:xL e.ay=x.ty:=by rw[hx];rfl
 rw[show E.rows e.ay=E.rows [x] from by rw[hx]]at eM;rw[a1,h9];simp only[E.rows,E.aB]at eM;generalize bf e.ay=kv at *;have wt:=pz c.H.rs e.on e.od;have FZ:IntKind.i64.wrap ((dA c.H.rs e.on e.od).1.d+1)=(dA c.H.rs e.on e.od).1.d+1:=by
  have:=wt.1;have:=wt.2.1;rw[dn]<;>omega
 refine ij (sf:=kR) rfl rfl rfl _ (mJ _ _) ?_;unfold tyV at Cg;generalize dA c.H.rs e.on e.od=tt at *;obtain⟨t,b⟩:=tt;cases b with
 |false=>simp[-ax,-ag,kR,y6,Cg,dw,FZ,aF,aV,bD,aC,ah,AV.aa]|true=>
  by_cases q:t.d<3;simp[-ax,-ag,kR,y6,Cg,bM,hz,dw,gn,eM,q,eN,dI,FZ,aF,aV,bD,aC,ah,AV.aa];simp[-ax,-ag,kR,y6,Cg,dw,q,FZ,aF,aV,bD,aC,ah,AV.aa]
 rw[if_neg h9];by_cases zf:e.k=10;rw[if_pos zf];obtain⟨x,hx⟩:=one 10 zf (by simp);have a1:xL e.ay=x.ty:=by rw[hx];rfl
 rw[show E.rows e.ay=E.rows [x] from by rw[hx]]at eM;rw[a1,zf];simp only[E.rows,E.aB]at eM;generalize bf e.ay=kv at *;refine ij (sf:=kR) rfl rfl rfl _ (mJ _ _) ?_;simp[-ax,-ag,kR,bM,hz,dw,gn,eM,eN,aF,aC,ah,AV.aa];rw[if_neg zf];by_cases JT:e.k=12;rw[if_pos JT];obtain⟨x,hx⟩:=one 12 JT (by simp);have a1:xL e.ay=x.ty:=by rw[hx];rfl
 rw[show E.rows e.ay=E.rows [x] from by rw[hx]]at eM;rw[a1,JT];simp only[E.rows,E.aB]at eM;generalize bf e.ay=kv at *;refine ij (sf:=kR) rfl rfl rfl _ (mJ _ _) ?_;simp[-ax,-ag,kR,bM,hz,dw,gn,eM,eN,dI,aF,aC,ah,AV.aa];rw[if_neg JT];by_cases I0:e.k=13;rw[if_pos I0];obtain⟨x,hx⟩:=one 13 I0 (by simp);have a1:xL e.ay=x.ty:=by rw[hx];rfl
 rw[show E.rows e.ay=E.rows [x] from by rw[hx]]at eM;rw[a1,I0];simp only[E.rows,E.aB]at eM;generalize bf e.ay=kv at *;refine ij (sf:=kR) rfl rfl rfl _ (mJ _ _) ?_;simp[-ax,-ag,kR,bM,hz,dw,gn,eM,eN,eT,dB,aF,aC,ah,AV.aa];rw[if_neg I0];obtain⟨x,y,hx⟩:=two h1 h2 h3 h4 h5 h7 h8 h9 zf C9 JT I0;have a1:xL e.ay=x.ty:=by rw[hx];rfl
 have a2:EC e.ay=y.ty:=by rw[hx];rfl
 rw[a1,a2];have t2:=tw x y hx;generalize bf e.ay=kv at *;refine ij (sf:=kR) rfl rfl rfl (.fF [.agg [.int .i64 (F4 e.k).b,.int .i64 (F4 e.k).r,.int .i64 (F4 e.k).d],.int .i64 0,.bool (Ns e.k x.ty y.ty).isSome]) ⟨F4 e.k,0,rfl,λu r h=>adt h⟩ ?_;simp[-ax,-ag,kR,h1,h2,h3,h4,h5,h6,h7,h8,h9,zf,C9,JT,I0,t2,dw,gn,ah,AV.aa]
end K9
namespace K9
open Ax Go bX V7 lf mG
theorem jI{c:CK}{a:Int}:(c.fail a).fe≠0:=by
 unfold CK.fail;split;show (3:Int)≠0;decide
 assumption
theorem adx{c:CK}{a b:Int}:(c.fail a).fail b=c.fail a:=by
 have h:=jI (c:=c) (a:=a);generalize c.fail a=d at *;unfold CK.fail;rw[if_neg h]
def AO(c:CK)(e:E):Prop:=match xM c.H c.V e with
 |.ok y=>∀J,(aT S).call 0 J 120 [.ptr 0 0 0 0,.agg e.aG] [c.bC]=some (.agg y.aG,[c.bC])|.error a=>∀J,∃y:E,(aT S).call 0 J 120 [.ptr 0 0 0 0,.agg e.aG] [c.bC]=some (.agg y.aG,[(c.fail a).bC])
def ND(c:CK)(e:E):Except Int E:=match xM c.H c.V e with
 |.error x=>.error x|.ok y=>if y.ty=T0 then .error y.a else .ok y
def OkW(c:CK)(e:E):Prop:=match ND c e with
 |.ok y=>∀J,(aT S).call 0 J 142 [.ptr 0 0 0 0,.agg e.aG] [c.bC]=some (.agg y.aG,[c.bC])|.error a=>∀J,∃y:E,(aT S).call 0 J 142 [.ptr 0 0 0 0,.agg e.aG] [c.bC]=some (.agg y.aG,[(c.fail a).bC])
theorem Lw(c:CK)(e:E)(h:AO c e):OkW c e:=by
 unfold AO at h;unfold OkW ND;have en:=λwl J st=>lz wl J st;cases hc:xM c.H c.V e with
 |error a=>
  rw[hc]at h;simp only at h ⊢;obtain⟨y,e1⟩:=h 1;refine λJ=>⟨y,?_⟩;have ef:=λJ=>eE J (c.fail a) y.a [];rw[adx]at ef;rw[E.aB e]at e1 ⊢;rw[E.aB y]at e1 ⊢;generalize (c.fail a).bC=o at *;refine an (sf:=KX) rfl rfl rfl ?_;by_cases q:y.ty=T0;simp[-ax,-ag,KX,e1,en,q,ef,ah,AV.aa,aF,aC];simp[-ax,-ag,KX,e1,en,d0,q,ah,AV.aa,aF,aC]
 |ok y=>
  rw[hc]at h;simp only at h ⊢;by_cases q:y.ty=T0;rw[if_pos q];refine λJ=>⟨y,?_⟩;have ef:=λJ=>eE J c y.a [];rw[E.aB e]at h ⊢;rw[E.aB y]at h ⊢;generalize (c.fail y.a).bC=o at *;refine an (sf:=KX) rfl rfl rfl ?_;simp[-ax,-ag,KX,h,en,q,ef,ah,AV.aa,aF,aC];rw[if_neg q];intro J;rw[E.aB e]at h ⊢;rw[E.aB y]at h ⊢;refine an (sf:=KX) rfl rfl rfl ?_;simp[-ax,-ag,KX,h,en,d0,q,ah,AV.aa,aF,aC]
theorem YW{c:CK}{e:E}{l:List E}:oh c.H c.V (e::l)=match ND c e with
  |.error x=>.error x|.ok y=>match oh c.H c.V l with
   |.error x=>.error x|.ok ys=>.ok (y::ys):=by
 conv=>lhs;unfold oh
 unfold ND;split;simp_all;rename_i y h;rw[h];simp only;split<;>rfl
def Ag(ys:List E)(r:Except Int (List E)):Except Int (List E):=match r with
 |.error x=>.error x|.ok zs=>.ok (ys++zs)
def YX(rs:List kD)(m:Ax.Mode)(st:ai)(P:AV->ai->Prop)(x:Ex)(s:St):Prop:=∃r,M6 rs m st r x s/\P r.1 r.2
theorem qE{S:Nat->Option aD}{wl J f:Nat}{sf:aD}(hf:S f=some sf){args:List AV}(ha:sG sf args=false)(hl:args.length=sf.aE){st:ai}{P:AV->ai->Prop}
  (h:W S (sf.mode.yH st.length wl) (sf.mode.qY st.length J) sf.results (YX sf.results sf.mode st P) [.code sf.body] .normal (qZ sf args st)) :
  ∃v st',(aT S).call wl J f args st=some (v,st')/\P v st':=by
 obtain⟨x',s',h1,r,h2,h3⟩:=h;exact⟨r.1,r.2,an hf ha hl ⟨x',s',h1,h2⟩,h3⟩
@[simp]theorem aj8{rs:List kD}{st:ai}{P:AV->ai->Prop}{v:AV}{s:St}:YX rs Ax.Mode.mR st P (.ret v) s↔v.au=true/\P v (s.st.take st.length):=by
 simp only[YX,KL,Ax.Mode.mM];constructor;rintro⟨r,h1,h2⟩;split at h1;rename_i hp;cases h1;exact⟨hp,h2⟩;cases h1;rintro⟨h1,h2⟩;exact⟨(v,s.st.take st.length),by rw[if_pos h1],h2⟩
@[simp]theorem aj9{rs:List kD}{st:ai}{P:AV->ai->Prop}{s:St}:YX rs Ax.Mode.mR st P .normal s↔∃v,x3 s rs=some v/\v.au=true/\P v (s.st.take st.length):=by
 simp only[YX,KM,Ax.Mode.mM];constructor;rintro⟨r,⟨v,h0,h1⟩,h2⟩;split at h1;rename_i hp;cases h1;exact⟨v,h0,hp,h2⟩;cases h1;rintro⟨v,h0,h1,h2⟩;exact⟨(v,s.st.take st.length),⟨v,h0,by rw[if_pos h1]⟩,h2⟩
theorem Ly{c:CK}{l:List E}{ys:List E}{k:Nat}(h:k<l.length):Ag ys (oh c.H c.V (l.drop k))=match ND c l[k] with
  |.error x=>.error x|.ok y=>Ag (ys++[y]) (oh c.H c.V (l.drop (k+1))):=by
 rw[List.drop_eq_getElem_cons h,YW];split
 rfl
 split;rename_i h1;rw[h1];rfl;rename_i h1;rw[h1];simp[Ag]
theorem mc(c:CK)(l:List E)(hf:c.fe=0)(hn:l.length<1000000000)(hl:∀e∈l,AO c e):match oh c.H c.V l with
  |.ok ys=>∀J,(aT S).call 0 J 121 [.ptr 0 0 0 0,bf l] [c.bC]=some (cC 11 (E.rows ys),[c.bC])|.error a=>∀J,∃v,aR v=true/\(aT S).call 0 J 121 [.ptr 0 0 0 0,bf l] [c.bC]=some (v,[(c.fail a).bC]):=by
 have hz:dg 11 (bf l)=true:=mY;have dw:aR (bf l)=true:=bP;have gn:(bf l).aa=bf l:=bS;have eM:bg (bf l)=E.rows l:=aZ;have nE:=λJ=>cF J c [];rw[decide_eq_true hf]at nE;have qi:∀(ys:List E) (y:E),ys.length<1000000000->x7 11 120 (cC 11 (E.rows ys)) [y.aG]=some (cC 11 (E.rows (ys++[y]))):=λys y h=>by
  rw[gm (by simp[bV,E.aB]) (by simp[dx];omega)];simp[gd]
 cases hR:oh c.H c.V l with
 |ok zs=>
  intro J;refine an (sf:=Uw) rfl rfl rfl ?_;generalize bf l=lv at *;simp[-ax,-ag,Uw,dw,gn,eM];refine bu IB.eq_1 (λx:Nat×List E×List AV=>⟨[(0,.val (.ptr 0 0 0 0)),(5,.val (cC 11 (E.rows x.2.1))),(8,.val lv),(9,.val (.int .i64 l.length)),(10,.val (.int .i64 x.1))],[x.2.2],[c.bC]⟩)
   (λx=>x.1<=l.length/\x.2.1.length=x.1/\Ag x.2.1 (oh c.H c.V (l.drop x.1))=.ok zs) (λx=>l.length-x.1) (0,[],[]) rfl ⟨by simp,rfl,by simp[Ag,hR]⟩ ?_
  rintro⟨k,ys,b⟩ ⟨hk,hy,hp⟩ ih;simp only at hk hy hp ih;by_cases bw:k<l.length;have hw:=wk k (by omega);have hv:=Lw c l[k] (hl _ (List.getElem_mem bw));unfold OkW at hv;rw[Ly bw]at hp;have gE:=Hi bw;have uE:=λh2=>Bl bw h2;cases hx:ND c l[k] with
  |error a=>rw[hx]at hp;cases hp|ok y=>
   rw[hx]at hp hv;simp only at hp hv;have ap:=qi ys y (by omega);have iF:=λb=>ih (k+1,ys++[y],b) ⟨by simp only;omega,by simp[hy],hp⟩ (by simp only;omega);simp only at iF;generalize cC 11 (E.rows (ys++[y]))=R at *;rw[E.aB l[k]]at hv gE;simp only[E.aB l[k]]at uE;rw[E.aB y]at hv ap;generalize l[k]=x at *;simp[-ax,-ag,bM,bw,hw,hz,eM,uE,nE,hv,ap,ah,AV.aa];exact iF _
  have j8:k=l.length:=by omega
  have:ys=zs:=by
   rw[j8,List.drop_length]at hp;simpa [oh,Ag] using hp
  subst this;simp[-ax,-ag,bw]
 |error a=>
  intro J;have JS:=jI (c:=c) (a:=a);have kK:=λJ=>cF J (c.fail a) [];rw[decide_eq_false JS]at kK;obtain⟨v,st',h1,h2,h3⟩:∃v st',(aT S).call 0 J 121 [.ptr 0 0 0 0,bf l] [c.bC]=some (v,st')/\aR v=true/\st'=[(c.fail a).bC]:=by
   refine qE (sf:=Uw) rfl rfl rfl ?_;generalize bf l=lv at *;simp[-ax,-ag,Uw,dw,gn,eM];refine bu IB.eq_1 (λx:Nat×List E×CK×List AV=>⟨[(0,.val (.ptr 0 0 0 0)),(5,.val (cC 11 (E.rows x.2.1))),(8,.val lv),(9,.val (.int .i64 l.length)),(10,.val (.int .i64 x.1))],[x.2.2.2],[x.2.2.1.bC]⟩)
    (λx=>x.1<=l.length/\x.2.1.length=x.1/\(x.2.2.1=c/\Ag x.2.1 (oh c.H c.V (l.drop x.1))=.error a\/x.2.2.1=c.fail a)) (λx=>l.length-x.1) (0,[],c,[]) rfl ⟨by simp,rfl,.inl ⟨rfl,by simp[Ag,hR]⟩⟩ ?_
   rintro⟨k,ys,d,b⟩ ⟨hk,hy,hp⟩ ih;simp only at hk hy hp ih;by_cases bw:k<l.length;have hw:=wk k (by omega);have gE:=Hi bw;have uE:=λh2=>Bl bw h2;rcases hp with⟨hd,hp⟩|hd;subst hd;have hv:=Lw d l[k] (hl _ (List.getElem_mem bw));unfold OkW at hv;rw[Ly bw]at hp;cases hx:ND d l[k] with
   |error a'=>
    rw[hx]at hp hv;simp only at hp hv;cases hp;obtain⟨y,hv⟩:=hv 1;have ap:=qi ys y (by omega);have iF:=λb=>ih (k+1,ys++[y],d.fail a,b) ⟨by simp only;omega,by simp[hy],.inr rfl⟩ (by simp only;omega);simp only at iF;generalize cC 11 (E.rows (ys++[y]))=R at *;rw[E.aB l[k]]at hv gE;simp only[E.aB l[k]]at uE;rw[E.aB y]at hv ap;generalize l[k]=x at *;simp[-ax,-ag,bM,bw,hw,hz,eM,uE,nE,hv,ap,ah,AV.aa];exact iF _
   |ok y=>
    rw[hx]at hp hv;simp only at hp hv;have ap:=qi ys y (by omega);have iF:=λb=>ih (k+1,ys++[y],d,b) ⟨by simp only;omega,by simp[hy],.inl ⟨rfl,hp⟩⟩ (by simp only;omega);simp only at iF;generalize cC 11 (E.rows (ys++[y]))=R at *;rw[E.aB l[k]]at hv gE;simp only[E.aB l[k]]at uE;rw[E.aB y]at hv ap;generalize l[k]=x at *;simp[-ax,-ag,bM,bw,hw,hz,eM,uE,nE,hv,ap,ah,AV.aa];exact iF _
   subst hd;simp only[E.aB l[k]]at uE;rw[E.aB l[k]]at gE;generalize l[k]=x at *;simp[-ax,-ag,bM,bw,hz,eM,uE,kK,ah,AV.aa];have j8:k=l.length:=(by omega);rcases hp with⟨hd,hp⟩|hd;rw[j8,List.drop_length]at hp;simp[oh,Ag]at hp;subst hd;simp[-ax,-ag,bw]
  rw[h3]at h1;exact⟨v,h2,h1⟩
end K9
namespace K9
open Ax Go bX V7 lf mG
structure AP (c:CK):Prop where
 s:Ce c
 H:c.H.ok
 V:∀f∈c.V,WT c.H.rs.length f.ty
def E0:E:=.mk 0 0 [] [] 0 [] 0 T0 0
theorem jH(c:CK)(hf:c.fe=0)(hw:AP c)(e:E):E.sz e<1000000000->AO c e:=by
 induction e using E.xN with
 |_ e ih=>
  intro eI;have tT:=E.vp e;have j8:=E.fo e.ay;have cG:=mc c e.ay hf (by omega) λx hx=>ih x hx (by have:=E.cR hx;omega);have F5:=λwl J st=>Vk wl J e st;have Hj:=λwl J st=>YT wl J e st;have Dc:=λJ=>eE J c e.a [];have nE:=λJ=>cF J c [];rw[decide_eq_true hf]at nE;have w9:xM c.H c.V e=if dR e.k e.n e.ay.length then
    match oh c.H c.V e.ay with
    |.error x=>.error x|.ok ks=>match pL c.H c.V e.k e.nm e.on e.od ks with
     |none=>.error e.a|some (t,r)=>.ok (.mk e.k (oC e.k e.n) (jV e.k e.nm) (kU e.k e.on) (kV e.k e.od) ks e.a t r)
    else .error e.a:=by
   obtain⟨k,n,nm,on,od,ay,a,ty,ref⟩:=e;conv=>lhs;unfold xM
   rfl
  unfold AO;rw[w9];have hr0:E0.aG=[.int .i64 0,.int .i64 0,.str [],.str [],.int .i64 0,.U,.int .i64 0,.int .i64 0,.int .i64 0,.int .i64 0,.int .i64 0]:=by simp[E0,E.aG,E.rows]
  have hkv:aR (bf e.ay)=true:=bP;cases hk:dR e.k e.n e.ay.length with
  |false=>
   simp only[Bool.false_eq_true,if_false];intro J;refine⟨E0,?_⟩;rw[hk]at F5;rw[hr0];rw[E.aB e]at F5 ⊢;generalize (c.fail e.a).bC=o at *;refine an (sf:=IA) rfl rfl rfl ?_;simp[-ax,-ag,IA,F5,Dc,ah,AV.aa,AV.au,AV.af]
  |true=>
   simp only[if_true];rw[hk]at F5;cases hv:oh c.H c.V e.ay with
   |error a=>
    rw[hv]at cG;simp only at cG ⊢;intro J;refine⟨E0,?_⟩;obtain⟨v,dw,ev⟩:=cG 1;have FD:=bK dw;have Rh:=cm dw;have kK:=λJ=>cF J (c.fail a) [];rw[decide_eq_false jI]at kK;rw[hr0];rw[E.aB e]at F5 Hj ⊢;generalize (c.fail a).bC=o at *;refine an (sf:=IA) rfl rfl rfl ?_;simp[-ax,-ag,IA,F5,Hj,ev,dw,kK,ah,AV.aa,AV.au,AV.af]
   |ok ks=>
    rw[hv]at cG;simp only at cG ⊢;obtain⟨X,hX⟩:∃X:E,X=.mk e.k (oC e.k e.n) (jV e.k e.nm) (kU e.k e.on) (kV e.k e.od) ks e.a T0 0:=⟨_,rfl⟩;have hXr:X.aG=[.int .i64 e.k,.int .i64 (oC e.k e.n),.str (jV e.k e.nm),.str (kU e.k e.on),.int .i64 (kV e.k e.od),bf ks,.int .i64 e.a,.int .i64 0,.int .i64 0,.int .i64 0,.int .i64 0]:=(by rw[hX];simp[E.aG,bf]);have hkn:dR X.k X.n X.ay.length=true:=by
     rw[hX];simp only[E.k,E.n,E.ay];rw[z6 hv];exact Nv hk
    have hwt:=vq hv λx _ y hy=>ac5 hw.H hw.V x y hy;obtain⟨tv,⟨t,z,rfl,htr⟩,etv⟩:=Ab 1 c X hw.s (by rw[hX];simp only[E.ay];rw[z6 hv];omega) hkn hw.H.rs (by rw[hX];exact hwt);have amS:pL c.H c.V X.k X.nm X.on X.od X.ay=pL c.H c.V e.k e.nm e.on e.od ks:=(by rw[hX];exact EG);rw[amS]at htr etv;rw[hXr]at etv;have dw:aR (cC 11 (E.rows ks))=true:=dz;have Vh:(cC 11 (E.rows ks)).aa=bf ks:=rfl;have hkc:aR (bf ks)=true:=bP;generalize cC 11 (E.rows ks)=mv at *;have FD:=bK dw;have Rh:=cm dw;cases hT:pL c.H c.V e.k e.nm e.on e.od ks with
    |none=>
     simp only;intro J;refine⟨.mk e.k (oC e.k e.n) (jV e.k e.nm) (kU e.k e.on) (kV e.k e.od) ks e.a t z,?_⟩;rw[hT]at etv;simp only[E.aG,Option.isSome_none]at etv ⊢;rw[E.aB e]at F5 Hj ⊢;have hq:aK 11 (E.rows ks)=bf ks:=rfl;rw[hq];generalize bf ks=kv at *;generalize (c.fail e.a).bC=o at *;refine an (sf:=IA) rfl rfl rfl ?_;simp[-ax,-ag,IA,F5,Hj,cG,Vh,dw,hkc,nE,etv,Dc,ah,AV.aa,AV.au,AV.af]
    |some y=>
     obtain⟨u,r⟩:=y;obtain⟨h1,h2⟩:=htr u r hT;subst h1 h2;simp only;intro J;rw[hT]at etv;simp only[E.aG,Option.isSome_some]at etv ⊢;rw[E.aB e]at F5 Hj ⊢;have hq:aK 11 (E.rows ks)=bf ks:=rfl;rw[hq];generalize bf ks=kv at *;refine an (sf:=IA) rfl rfl rfl ?_;simp[-ax,-ag,IA,F5,Hj,cG,Vh,dw,hkc,nE,etv,ah,AV.aa,AV.au,AV.af]
end K9
