/- Part of a proof. -/
import Derived.Test.YtpnadocbfbbboaaGreatCode2
import Derived.Test.YtpnadocbfbbboaaGreatP

open List renaming drop_eq_getElem_cons->aaz,drop_length->aaC,length_cons->abr,getElem_cons_succ->agL,getElem_mem->aaq,mem_cons_self->acz
open Bool renaming and_eq_true->aac
set_option maxRecDepth 100000
set_option maxHeartbeats 8000000
namespace K9
open Ax Go bY V7 kN lZ
def gQ(l:List (List UInt8)):List (List AV):=l.map λs=>[.str s]
structure CK where
 H:Hd
 main:Int
 sg:Sg
 V:List Vd
 fe:Int
 fa:Int
def CK.aX(c:CK):dA:=.rows 0 14 [[aJ 2 (c.H.bE.map dz),bP c.H.aI,aJ 6 (c.H.aY.map Sg.aF),.int .i64 c.main,bK 1 (gQ c.H.rs),.str c.sg.nm,bP c.sg.ps,.bool c.sg.cP,.int .i64 c.sg.cH.b,.int .i64 c.sg.cH.r,.int .i64 c.sg.cH.d,bK 4 (c.V.map Vd.aF),.int .i64 c.fe,.int .i64 c.fa]]
def CK.fail(c:CK)(a:Int):CK:=if c.fe=0 then { c with fe:=3,fa:=a } else c
variable{l:List Vd}{r:ay}{wl aa:Nat}{c:CK}{bx:bG}
@[simp]theorem dn:aN (bP l)=true:=bI
@[simp]theorem eA:(bP l).ai=bP l:=bU
@[simp]theorem pL:bt (bP l)=l.map Vd.aF:=aW
@[simp]theorem aer{l:List E}:(E.rows l).length=l.length:=by simp[iC]
@[simp]theorem acg{l:List Sm}:(Sm.rows l).length=l.length:=by simp[kV]
theorem dQ{sz:Nat}{r:List (List AV)}(h:cn sz r=true):cJ sz (aJ sz r)=true:=by
 cases r with
 |nil=>rfl|cons a r=>simp[cJ,h]
@[simp]theorem rW:cJ 4 (bP l)=true:=dQ (by simp[cn,Vd.aF])
@[simp]theorem gn{l:List E}:cJ 11 (aJ 11 (E.rows l))=true:=dQ (by simp[cn,iC,E.aE])
@[simp]theorem wz{l:List Sm}:cJ 9 (aJ 9 (Sm.rows l))=true:=dQ (by simp[cn,kV,Sm.aE])
theorem ach:bn wl aa (.load false 1 false) [.val (.ptr 0 0 0 12)] (c.aX::r) bx=some (.val (.int .i64 c.fe),c.aX::r,bx):=by
 simp[CK.aX,cut,AV.ai]
theorem wA:bn wl aa (.load false 1 false) [.val (.ptr 0 0 0 4)] (c.aX::r) bx=some (.val (aJ 1 (gQ c.H.rs)),c.aX::r,bx):=by
 simp[CK.aX,cut,aJ]
theorem X7:bn wl aa (.load false 1 false) [.val (.ptr 0 0 0 0)] (c.aX::r) bx=some (.val (aJ 2 (c.H.bE.map dz)),c.aX::r,bx):=by
 simp[CK.aX,cut]
theorem X8:bn wl aa (.load false 1 false) [.val (.ptr 0 0 0 1)] (c.aX::r) bx=some (.val (bP c.H.aI),c.aX::r,bx):=by
 simp[CK.aX,cut]
theorem UO:bn wl aa (.load false 1 false) [.val (.ptr 0 0 0 2)] (c.aX::r) bx=some (.val (aJ 6 (c.H.aY.map Sg.aF)),c.aX::r,bx):=by
 simp[CK.aX,cut]
theorem xS:bn wl aa (.load false 1 false) [.val (.ptr 0 0 0 7)] (c.aX::r) bx=some (.val (.bool c.sg.cP),c.aX::r,bx):=by
 simp[CK.aX,cut,AV.ai]
theorem zi:bn wl aa (.load true 3 false) [.val (.ptr 0 0 0 8)] (c.aX::r) bx=some (.val (.agg [.int .i64 c.sg.cH.b,.int .i64 c.sg.cH.r,.int .i64 c.sg.cH.d]),c.aX::r,bx):=by
 simp[CK.aX,cut,AV.ai]
theorem AY:bn wl aa (.load false 1 false) [.val (.ptr 0 0 0 11)] (c.aX::r) bx=some (.val (bP c.V),c.aX::r,bx):=by
 simp[CK.aX,cut,bP,aJ]
theorem UP{a:Int}:bn 0 aa (.store 2) [.val (.ptr 0 0 0 12),.val (.agg [.int .i64 3,.int .i64 a])] (c.aX::r) bx=some (.none,({ c with fe:=3,fa:=a }:CK).aX::r,bx):=by
 simp[CK.aX,aV,AV.ax,AV.aB,au]
theorem lS(wl aa:Nat)(st:ay):(aZ S).call wl aa 117 [] st=some (.agg [.int .i64 0,.int .i64 0,.int .i64 0],st):=by
 refine bT (sf:=abC) rfl rfl (by simp) rfl (by simp[AV.aB,AV.ax]) ?_;simp[abC]
theorem Fp(wl aa:Nat)(st:ay):(aZ S).call wl aa 145 [] st=some (.agg [.int .i64 2,.int .i64 0,.int .i64 0],st):=by
 refine bT (sf:=abG) rfl rfl (by simp) rfl (by simp[AV.aB,AV.ax]) ?_;simp[abG]
theorem B4(wl aa:Nat)(st:ay):(aZ S).call wl aa 146 [] st=some (.agg [.int .i64 1,.int .i64 0,.int .i64 0],st):=by
 refine bT (sf:=abH) rfl rfl (by simp) rfl (by simp[AV.aB,AV.ax]) ?_;simp[abH]
theorem dF(aa:Nat)(c:CK)(r:ay):(aZ S).call 0 aa 46 [.ptr 0 0 0 0] (c.aX::r)=some (.bool (!decide (c.fe=0)),c.aX::r):=by
 refine aA (sf:=s46) rfl rfl rfl ?_;simp[-aj,-ag,s46,ach]
theorem fO(aa:Nat)(c:CK)(a:Int)(r:ay):(aZ S).call 0 aa 119 [.ptr 0 0 0 0,.int .i64 a] (c.aX::r)=some (.fK [],(c.fail a).aX::r):=by
 have e:=λaa=>dF aa c r;refine aA (sf:=Xu) rfl rfl rfl ?_;unfold CK.fail;by_cases h:c.fe=0;rw[ah h];simp[-aj,-ag,Xu,e,h,UP];rw[U h];simp[-aj,-ag,Xu,e,h]
theorem UQ(wl aa:Nat)(e:E)(st:ay):(aZ S).call wl aa 139 [.agg e.aF] st=some (.bool (gK e.k e.n e.aG.length),st):=by
 obtain⟨k,n,nm,on,od,aG,a,ty,ref⟩:=e;refine bT (sf:=uX) rfl rfl (by simp[E.aF,AV.ax,AV.aB]) rfl (by simp) ?_;simp only[E.aF,E.k,E.n,E.aG];unfold gK;have m0:((aG.length:Int)=0)=(aG.length=0):=by simp
 have m1:((aG.length:Int)=1)=(aG.length=1):=by apply propext;omega
 have m2:((aG.length:Int)=2)=(aG.length=2):=by apply propext;omega
 have hl:oK [] .sl (aJ 11 (E.rows aG))=some aG.length:=by simp[oK]
 generalize hv:aJ 11 (E.rows aG)=v at *;have v1:aN v=true:=by rw[<-hv];simp
 have v2:v.ai=v:=by rw[<-hv];simp
 have v3:(bt v).length=aG.length:=by rw[<-hv];simp
 generalize aG.length=m at *;by_cases h1:k=1;subst h1;simp[uX,v1,v2,v3];by_cases h3:k=3;subst h3;simp[uX,v1,v2,v3];by_cases h4:k=4;subst h4;simp[uX,v1,v2,v3];by_cases h8:k=8;subst h8;simp[uX,v1,v2,v3];by_cases z7:k=11;subst z7;simp[uX,v1,v2,v3];by_cases h2:k=2;subst h2;by_cases q:m=0;by_cases n0:n=0;simp[uX,v1,v2,v3,q,n0];simp[uX,v1,v2,v3,q,n0];simp[uX,v1,v2,v3,q];by_cases h7:k=7;subst h7;simp[uX,v1];by_cases h5:k=5;subst h5;simp[uX,v1,v2,v3,m1];by_cases h9:k=9;subst h9;simp[uX,v1,v2,v3,m1];by_cases Bx:k=10;subst Bx;simp[uX,v1,v2,v3,m1];by_cases sX:k=12;subst sX;simp[uX,v1,v2,v3,m1];by_cases Bs:k=13;subst Bs;simp[uX,v1,v2,v3,m1];by_cases h6:k=6;subst h6;simp[uX,v1,v2,v3,m2];by_cases g1:14<=k;by_cases g2:k<=24;simp[uX,v1,v2,v3,h1,h2,h3,h4,h5,h6,h7,h8,h9,Bx,z7,sX,Bs,g1,g2,m2];simp[uX,v1,h1,h2,h3,h4,h5,h6,h7,h8,h9,Bx,z7,sX,Bs,g1,g2];simp[uX,v1,h1,h2,h3,h4,h5,h6,h7,h8,h9,Bx,z7,sX,Bs,g1]
theorem X9(wl aa:Nat)(e:E)(st:ay):(aZ S).call wl aa 140 [.agg e.aF] st=some (.agg [.int .i64 e.k,.int .i64 (qt e.k e.n),.str (kY e.k e.nm),.str (kZ e.k e.on),.int .i64 (k5 e.k e.od),.af,.int .i64 e.a,.int .i64 0,.int .i64 0,.int .i64 0,.int .i64 0],st):=by
 obtain⟨k,n,nm,on,od,aG,a,ty,ref⟩:=e;refine bT (sf:=ET) rfl rfl (by simp[E.aF,AV.ax,AV.aB]) rfl (by simp[AV.ax,AV.aB]) ?_;simp only[E.aF,E.k,E.n,E.nm,E.on,E.od,E.a];unfold qt kY kZ k5;by_cases h1:k=1;subst h1;simp[ET,au];by_cases h2:k=2;subst h2;simp[ET,au];by_cases h3:k=3;subst h3;simp[ET,au];by_cases h8:k=8;subst h8;simp[ET,au];by_cases h9:k=9;subst h9;simp[ET,au];by_cases h4:k=4;subst h4;simp[ET,au];by_cases h5:k=5;subst h5;simp[ET,au];by_cases h7:k=7;subst h7;simp[ET,au];simp[ET,au,h1,h2,h3,h4,h5,h7,h8,h9]
end K9
namespace K9
open Ax Go bY V7 kN lZ
variable{aa k:Nat}{bx:bG}{s:List UInt8}{l:List Vd}
theorem br{wl:Nat}{agg:Bool}{n sz i:Nat}{rows:List (List AV)}{st:ay}:bn wl aa (.load agg n false) [.val (.qP sz rows i k)] st bx=ri st bx ((iT st (.qP sz rows i k) n).bind λcs=>cm agg (AV.cW cs)):=aj
def wJ(o:Option (Nat×T3)):Int:=match o with|some (k,_)=>(k:Int)|none=>-1
theorem u5(h:k<l.length):fN s k (l.drop k)=if l[k].nm=s then some (k,l[k].ty) else fN s (k+1) (l.drop (k+1)):=by
 rw[aaz h];rfl
theorem aci(aa:Nat)(f:Vd)(s:List UInt8):(aZ S).call 0 aa 174 [.agg f.aF,.ptr 0 0 0 0] [.rows 0 1 [[.str s]]]=some (.bool (decide (f.nm=s)),[.rows 0 1 [[.str s]]]):=by
 refine aA (sf:=abQ) rfl rfl rfl ?_;simp[abQ,Vd.aF,cut,AV.ai]
theorem B1(aa:Nat)(l:List Vd)(s:List UInt8)(hn:l.length<1000000000):(aZ S).call 0 aa 173 [bP l,.fn 174 [] [.ptr 0 0 0 0]] [.rows 0 1 [[.str s]]]=some (.int .i64 (wJ (fN s 0 l)),[.rows 0 1 [[.str s]]]):=by
 have el:=λaa f=>aci aa f s;simp only[Vd.aF,T3.cells]at el;refine aA (sf:=abP) rfl rfl rfl ?_;simp[abP];refine bH OH.eq_1 (λq:Nat×Int=>⟨[(0,.val (bP l)),(1,.val (.fn 174 [] [.ptr 0 0 0 0])),(7,.val (.int .i64 l.length)),(8,.val (.int .i64 q.1))],[],[.rows 0 1 [[.str s]]]⟩)
  (λq=>q.1<=l.length/\fN s 0 l=fN s q.1 (l.drop q.1)) (λq=>l.length-q.1) (0,0) (by simp) ⟨by simp,by simp⟩ ?_
 rintro⟨k,bb⟩ ⟨hk,hp⟩ ih;simp only at hk hp ih;by_cases bC:k<l.length;have hw:=wk k (by omega);rw[u5 bC]at hp;have e1:=λaa=>el aa l[k];by_cases e:l[k].nm=s;rw[ah e]at hp;rw[hp];rw[bM e]at e1;simp[bC,e1,Vd.aF,wJ];rw[U e]at hp;rw[cu e]at e1;simp[bC,e1,Vd.aF,hw];exact ih (k+1,0) ⟨by simp;omega,hp⟩ (by simp;omega);have fR:k=l.length:=by omega
 have:fN s 0 l=none:=by rw[hp,fR,aaC];rfl
 rw[this];simp[bC,wJ]
theorem AZ(wl aa:Nat)(l:List Vd)(s:List UInt8)(st:ay)(hn:l.length<1000000000):(aZ S).call wl aa 168 [bP l,.str s] st=some (.int .i64 (wJ (fN s 0 l)),st):=by
 have e:=λaa=>B1 aa l s hn;refine bT (sf:=abM) rfl rfl (by simp[AV.ax]) rfl (by simp) ?_;simp[abM,e]
theorem Ld{s:List UInt8}:∀{l:List Vd}{i k:Nat}{t:T3},fN s i l=some (k,t)->i<=k/\∃h:k-i<l.length,l[k-i].ty=t/\l[k-i].nm=s
 |[],_,_,_,h=>by cases h|f::l,i,k,t,h=>by
  unfold fN at h;split at h;rename_i hs;cases h;exact⟨Nat.le_refl _,by simp,by simp,by simpa using hs⟩;obtain⟨h1,h2,h3,h4⟩:=Ld h;refine⟨by omega,by simp only[abr];omega,?_⟩;have:k-i=(k-(i+1))+1:=by omega
  simp only[this,agL];exact⟨h3,h4⟩
theorem I6{t:T3}(h:fN s 0 l=some (k,t)):∃h:k<l.length,l[k].ty=t:=by
 obtain⟨_,h1,h2,_⟩:=Ld h;exact⟨by simpa using h1,by simpa using h2⟩
structure qV (c:CK):Prop where
 V:c.V.length<1000000000
 G:c.H.aI.length<1000000000
 S:c.H.aY.length<1000000000
 R:c.H.rs.length<1000000000
 F:∀s∈c.H.bE,s.2.length<1000000000
 P:∀s∈c.H.aY,s.ps.length<1000000000
def oR(o:Option (T3×Int)):AV:=match o with
 |some (t,r)=>.fK [.int .i64 r,.agg t.cells,.bool true]|none=>.fK [.int .i64 0,.agg T0.cells,.bool false]
theorem iF(aa:Nat)(c:CK)(s:List UInt8)(r:ay)(hs:qV c):(aZ S).call 0 aa 144 [.ptr 0 0 0 0,.str s] (c.aX::r)=some (oR (uw c.H c.V s),c.aX::r):=by
 have e1:=λwl aa st=>AZ wl aa c.V s st hs.V;have e2:=λwl aa st=>AZ wl aa c.H.aI s st hs.G;have en:=λwl aa st=>lS wl aa st;have hV:=hs.V;have hG:=hs.G;refine aA (sf:=Ub) rfl rfl rfl ?_;unfold uw;cases h1:fN s 0 c.V with
 |some x=>
  obtain⟨k,t⟩:=x;obtain⟨hk,ht⟩:=I6 h1;subst ht;rw[h1]at e1;simp only[wJ]at e1;have ZS:¬((k:Int)<0):=by omega
  simp[-aj,-ag,Ub,AY,e1,oR,br,hk,Vd.aF,aD,aC,au]
 |none=>
  rw[h1]at e1;simp only[wJ]at e1;cases h2:fN s 0 c.H.aI with
  |some x=>
   obtain⟨k,t⟩:=x;obtain⟨hk,ht⟩:=I6 h2;subst ht;rw[h2]at e2;simp only[wJ]at e2;have ZS:¬((k:Int)<0):=(by omega);have hw:IntKind.i64.wrap (-1-(k:Int)) = -1-(k:Int):=(by rw[eR]<;>omega);simp[-aj,-ag,Ub,AY,X8,e1,e2,hw,oR,br,hk,Vd.aF,aD,aC,au]
  |none=>
   rw[h2]at e2;simp only[wJ]at e2;simp[-aj,-ag,Ub,AY,X8,e1,e2,en,oR,au]
def u6(o:Option (T3×Int)):AV:=match o with
 |some (t,r)=>.fK [.agg [.int .i64 t.b,.int .i64 t.r,.int .i64 t.d],.int .i64 r,.bool true]|none=>.fK [.agg [.int .i64 0,.int .i64 0,.int .i64 0],.int .i64 0,.bool false]
def Fq(V:List Vd)(o:Option (Nat×T3)):AV:=match o with|some _=>.fK [.int .i64 0,.bool false]|none=>.fK [.int .i64 V.length,.bool true]
def CK.Fs(c:CK)(w:AV):dA:=.rows 0 14 [[aJ 2 (c.H.bE.map dz),bP c.H.aI,aJ 6 (c.H.aY.map Sg.aF),.int .i64 c.main,bK 1 (gQ c.H.rs),.str c.sg.nm,bP c.sg.ps,.bool c.sg.cP,.int .i64 c.sg.cH.b,.int .i64 c.sg.cH.r,.int .i64 c.sg.cH.d,w,.int .i64 c.fe,.int .i64 c.fa]]
theorem I7{c:CK}:bn 0 aa (.load false 1 true) [.val (.ptr 0 0 0 11)] [c.aX] bx=some (.val (bK 4 (c.V.map Vd.aF)),[c.Fs (bK 4 (c.V.map Vd.aF)).jX],bx):=by
 simp only[CK.aX,CK.Fs];generalize c.V.map Vd.aF=rows;cases rows with
 |nil=>simp[bn,bK,cut,iT,fo,aV,AV.jX,AV.aB,AV.ax,au,cm]|cons a l=>simp[bn,bK,cut,iT,fo,aV,AV.jX,AV.aB,AV.ax,au,cm]
theorem OZ{c:CK}{w:AV}{W:List Vd}:bn 0 aa (.store 1) [.val (.ptr 0 0 0 11),.val (bK 4 (W.map Vd.aF))] [c.Fs w] bx=some (.none,[({ c with V:=W }:CK).aX],bx):=by
 simp[CK.aX,CK.Fs,aV,AV.ax,au]
theorem Na(aa:Nat)(c:CK)(s:List UInt8)(t:T3)(hs:qV c):(aZ S).call 0 aa 143 [.ptr 0 0 0 0,.str s,.agg [.int .i64 t.b,.int .i64 t.r,.int .i64 t.d]] [c.aX] =
  some (Fq c.V (fN s 0 c.V),[(match fN s 0 c.V with|some _=>c|none=>{ c with V:=c.V++[(⟨s,t⟩:Vd)] }:CK).aX]):=by
 have e1:=λwl aa st=>AZ wl aa c.V s st hs.V;have hV:=hs.V;refine aA (sf:=Xv) rfl rfl rfl ?_;cases h1:fN s 0 c.V with
 |some x=>
  obtain⟨k,u⟩:=x;rw[h1]at e1;simp only[wJ]at e1;have ZS:(0:Int)<=(k:Int):=by omega
  simp[-aj,-ag,Xv,AY,e1,ZS,Fq]
 |none=>
  rw[h1]at e1;simp only[wJ]at e1;have lW:=eO (sz:=4) (bytes:=40) (r:=c.V.map Vd.aF) (new:=[[.str s,.int .i64 t.b,.int .i64 t.r,.int .i64 t.d]]) (by simp[cn]) (by simp[cN];omega);have X3:c.V.map Vd.aF++[[.str s,.int .i64 t.b,.int .i64 t.r,.int .i64 t.d]]=(c.V++[(⟨s,t⟩:Vd)]).map Vd.aF:=by simp[Vd.aF]
  rw[X3]at lW;have ep:=λaa bx=>OZ (aa:=aa) (c:=c) (w:=(bK 4 (c.V.map Vd.aF)).jX) (W:=c.V++[(⟨s,t⟩:Vd)]) (bx:=bx);have et:=λaa bx=>I7 (aa:=aa) (c:=c) (bx:=bx);have ev:=λwl aa bx=>AY (wl:=wl) (aa:=aa) (c:={ c with V:=c.V++[(⟨s,t⟩:Vd)] }) (r:=[]) (bx:=bx);simp only at ev;have hLl:(bt (bP (c.V++[(⟨s,t⟩:Vd)]))).length=c.V.length+1:=by simp
  have hLs:aN (bP (c.V++[(⟨s,t⟩:Vd)]))=true:=dn;generalize bP (c.V++[(⟨s,t⟩:Vd)])=R2,({ c with V:=c.V++[(⟨s,t⟩:Vd)] }:CK).aX=ob2,c.Fs (bK 4 (c.V.map Vd.aF)).jX=ob1,bK 4 ((c.V++[(⟨s,t⟩:Vd)]).map Vd.aF)=R at *;generalize bK 4 (c.V.map Vd.aF)=R0 at *;have hw:IntKind.i64.wrap (c.V.length:Int)=(c.V.length:Int):=by rw[eR]<;>omega
  simp[-aj,-ag,Xv,AY,e1,Fq,et,ep,ev,lW,hLs,hLl,hw,aD,aC,AV.ai]
end K9
namespace K9
open Ax Go bY V7 kN lZ
theorem acj(wl aa:Nat)(l:List (List UInt8))(s:List UInt8)(st:ay)(hn:l.length<1000000000) :
  (aZ S).call wl aa 115 [aJ 1 (gQ l),.str s] st=some (.int .i64 (wQ l s),st):=by
 have hz:cJ 1 (aJ 1 (gQ l))=true:=dQ (by simp[cn,gQ]);have hl:(gQ l).length=l.length:=by simp[gQ]
 have hg:∀k (h:k<(gQ l).length),(gQ l)[k]=[.str (l[k]'(by simpa [gQ] using h))]:=λk h=>by simp[gQ]
 have Gu:∀k (h:k<l.length),(gQ l)[k]?=some [.str l[k]]:=λk h=>by simp[gQ,h]
 refine bT (sf:=T5) rfl rfl (by simp) rfl (by simp) ?_;simp[T5,hl];refine bH IF.eq_1 (λq:Nat×Int=>⟨[(0,.val (aJ 1 (gQ l))),(1,.val (.str s)),(7,.val (.int .i64 l.length)),(8,.val (.int .i64 q.1))],[],[]⟩)
  (λq=>q.1<=l.length/\C5 (λx=>decide (x=s)) l q.1) (λq=>l.length-q.1) (0,0) (by simp) ⟨by simp,rR⟩ ?_
 rintro⟨k,bb⟩ ⟨hk,hp⟩ ih;simp only at hk hp ih;by_cases bC:k<l.length;have hw:=wk k (by omega);have g:=Gu k bC;by_cases e:l[k]=s;have hi:=IN hp bC e;simp[bC,hz,hl,hg,e,hi];have e':¬s=l[k]:=λh=>e h.symm;simp[bC,hz,hl,hg,e',hw];exact ih (k+1,0) ⟨by simp;omega,rS hp bC (by simpa using e)⟩ (by simp;omega);have fR:k=l.length:=by omega
 have hi:=BP (fR ▸ hp);simp[bC,hi]
def Nb(x:T3×Bool):AV:=.fK [.agg [.int .i64 x.1.b,.int .i64 x.1.r,.int .i64 x.1.d],.bool x.2]
theorem AQ(wl aa:Nat)(l:List (List UInt8))(s:List UInt8)(d:Int)(st:ay)(hn:l.length<1000000000) :
  (aZ S).call wl aa 116 [aJ 1 (gQ l),.agg [.str s,.int .i64 d]] st=some (Nb (cB l s d),st):=by
 have hi:=acj 0 0 l s [] hn;refine bT (sf:=zC) rfl rfl (by simp[AV.ax,AV.aB]) rfl (by simp[Nb,AV.aB,AV.ax]) ?_;unfold Nb;by_cases d0:d<0;have:cB l s d=(T0,false):=ah (.inl d0);rw[this];simp[zC,d0];by_cases d3:3<d;have:cB l s d=(T0,false):=ah (.inr d3);rw[this];simp[zC,d0,d3];have hd:¬(d<0\/3<d):=by omega
 unfold cB;rw[U hd];by_cases i1:s=[105,110,116];simp[zC,d0,d3,i1];by_cases i2:s=[98,111,111,108];simp[zC,d0,d3,i2];rw[U i1,U i2];by_cases i3:wQ l s<0;simp[zC,d0,d3,i1,i2,hi,i3];simp[zC,d0,d3,i1,i2,hi,i3]
theorem ack(wl aa:Nat)(t:T3)(st:ay):(aZ S).call wl aa 164 [.agg [.int .i64 t.b,.int .i64 t.r,.int .i64 t.d]] st=some (.bool (BQ t),st):=by
 refine bT (sf:=XC) rfl rfl (by simp[AV.ax,AV.aB]) rfl (by simp) ?_;unfold BQ;by_cases b:t.b=3;simp[XC,b];simp[XC,b]
theorem UR(aa:Nat)(c:CK)(e:E)(x:E)(hk:e.aG=[x])(hs:qV c)(hx:x.ty.b=3->0<=x.ty.r/\x.ty.r<c.H.bE.length) :
  (aZ S).call 0 aa 165 [.ptr 0 0 0 0,.agg e.aF] [c.aX]=some (u6 (xO c.H x.ty e.nm),[c.aX]):=by
 have en:=λwl aa st=>lS wl aa st;have dJ:=E.aE e;have hz:cJ 11 (aT e.aG)=true:=gn;have mT:bt (aT e.aG)=[x.aF]:=by rw[hk];simp[aT,E.rows]
 have cT:aN (aT e.aG)=true:=bz;have eC:(aT e.aG).ai=aT e.aG:=bu;rw[E.aE x]at mT;rw[dJ];generalize aT e.aG=kv at *;have Pt:cJ 2 (aJ 2 (c.H.bE.map dz))=true:=dQ (by simp[cn,dz]);refine aA (sf:=Qn) rfl rfl rfl ?_;unfold xO;by_cases hb:x.ty.b=3;by_cases hd:x.ty.d=0;rw[ah ⟨hb,hd⟩];obtain⟨h0,h1⟩:=hx hb;obtain⟨k,JW⟩:∃k:Nat,x.ty.r=k:=⟨x.ty.r.toNat,by omega⟩;have fR:k<c.H.bE.length:=by omega
 have hg:c.H.bE[k]?=some c.H.bE[k]:=List.getElem?_eq_getElem fR;have hF:=hs.F _ (aaq fR);generalize QI:c.H.bE[k]=sh at *;have e1:=λwl aa st=>AZ wl aa sh.2 e.nm st hF;rw[JW,Int.toNat_natCast,hg];simp only;rw[JW]at mT;have Ya:∀h:k<(c.H.bE.map dz).length,(c.H.bE.map dz)[k]=[.str sh.1,bP sh.2]:=λh=>by simp[QI,dz]
 cases h2:fN e.nm 0 sh.2 with
 |some y=>
  obtain⟨j,u⟩:=y;obtain⟨hj,hu⟩:=I6 h2;subst hu;rw[h2]at e1;simp only[wJ]at e1;have hj0:¬((j:Int)<0):=by omega
  simp[-aj,-ag,Qn,br,X7,hz,cT,eC,mT,hb,hd,Pt,fR,Ya,e1,hj0,hj,Vd.aF,u6,aD,aC,au,AV.ai]
 |none=>
  rw[h2]at e1;simp only[wJ]at e1;simp[-aj,-ag,Qn,br,X7,hz,cT,eC,mT,hb,hd,Pt,fR,Ya,e1,en,u6,aD,aC,au,AV.ai]
 rw[U (λh=>hd h.2)];simp[-aj,-ag,Qn,br,hz,cT,eC,mT,hb,hd,en,u6,au,AV.ai];rw[U (λh=>hb h.1)];simp[-aj,-ag,Qn,br,hz,cT,eC,mT,hb,en,u6,au,AV.ai]
theorem alp(t u:T3):(t=u)=(t.b=u.b/\t.r=u.r/\t.d=u.d):=by
 obtain⟨a,b,c⟩:=t;obtain⟨d,e,f⟩:=u;simp
theorem dU(t u:T3):(decide (t.b=u.b)&&(decide (t.r=u.r)&&decide (t.d=u.d)))=decide (t=u):=by
 rw[Bool.eq_iff_iff];simp only[aac,aK];exact(iff_of_eq (alp t u)).symm
theorem dI(t:T3):(decide (t.b=1)&&(decide (t.r=0)&&decide (t.d=0)))=decide (t=tI):=dU t tI
theorem dB(t:T3):(decide (t.b=2)&&(decide (t.r=0)&&decide (t.d=0)))=decide (t=tB):=dU t tB
theorem d0(t:T3):(decide (t.b=0)&&(decide (t.r=0)&&decide (t.d=0)))=decide (t=T0):=dU t T0
def Gv(k:Int):T3:=if k=14\/k=15\/k=16\/k=17\/k=18 then tI else tB
variable{b:Bool}{s:List UInt8}{l:List Sg}
theorem Le{t:T3}:(DB b t).isSome=b:=by cases b<;>rfl
theorem I8{t u:T3}{r:Int}(h:DB b t=some (u,r)):t=u/\0=r:=by cases b<;>cases h;exact⟨rfl,rfl⟩
theorem acm{k:Int}{a b u:T3}{r:Int}(h:KU k a b=some (u,r)):Gv k=u/\0=r:=by
 unfold KU at h;unfold Gv;split at h;rename_i c;rw[ah c];exact I8 h;rename_i c;rw[U c];split at h;exact I8 h;split at h<;>exact I8 h
theorem acn(aa:Nat)(c:CK)(e x y:E)(hk:e.aG=[x,y]):(aZ S).call 0 aa 167 [.ptr 0 0 0 0,.agg e.aF] [c.aX] =
  some (.fK [.agg [.int .i64 (Gv e.k).b,.int .i64 (Gv e.k).r,.int .i64 (Gv e.k).d],.int .i64 0,.bool (KU e.k x.ty y.ty).isSome],[c.aX]):=by
 have et:=λwl aa st=>Fp wl aa st;have en:=λwl aa st=>B4 wl aa st;have hz:cJ 11 (aT e.aG)=true:=gn;have mT:bt (aT e.aG)=[x.aF,y.aF]:=by rw[hk];simp[aT,E.rows]
 have cT:aN (aT e.aG)=true:=bz;have eC:(aT e.aG).ai=aT e.aG:=bu;rw[E.aE x,E.aE y]at mT;rw[E.aE e];generalize aT e.aG=kv at *;refine aA (sf:=C3) rfl rfl rfl ?_;unfold KU Gv;generalize e.k=k;have nu:∀(p:Bool) (t:T3),(DB p t).isSome=p:=λp t=>Le;by_cases h1:k=14;subst h1;by_cases q:x.ty=tI<;>simp[-aj,-ag,C3,br,hz,cT,eC,mT,en,dI,q,nu,aD,bg,bO,aC,au,AV.ai];by_cases h2:k=15;subst h2;by_cases q:x.ty=tI<;>simp[-aj,-ag,C3,br,hz,cT,eC,mT,en,dI,q,nu,aD,bg,bO,aC,au,AV.ai];by_cases h3:k=16;subst h3;by_cases q:x.ty=tI<;>simp[-aj,-ag,C3,br,hz,cT,eC,mT,en,dI,q,nu,aD,bg,bO,aC,au,AV.ai];by_cases h4:k=17;subst h4;by_cases q:x.ty=tI<;>simp[-aj,-ag,C3,br,hz,cT,eC,mT,en,dI,q,nu,aD,bg,bO,aC,au,AV.ai];by_cases h5:k=18;subst h5;by_cases q:x.ty=tI<;>simp[-aj,-ag,C3,br,hz,cT,eC,mT,en,dI,q,nu,aD,bg,bO,aC,au,AV.ai];by_cases h6:k=19;subst h6;by_cases q:x.ty=tI<;>simp[-aj,-ag,C3,br,hz,cT,eC,mT,en,et,dI,q,nu,aD,bg,bO,aC,au,AV.ai];by_cases h7:k=20;subst h7;by_cases q:x.ty=tI<;>simp[-aj,-ag,C3,br,hz,cT,eC,mT,en,et,dI,q,nu,aD,bg,bO,aC,au,AV.ai];by_cases h8:k=21;subst h8;simp[-aj,-ag,C3,br,hz,cT,eC,mT,et,dU,nu,aD,bg,bO,aC,au,AV.ai];by_cases h9:k=22;subst h9;simp[-aj,-ag,C3,br,hz,cT,eC,mT,et,dU,nu,aD,bg,bO,aC,au,AV.ai];by_cases q:x.ty=tB<;>simp[-aj,-ag,C3,br,hz,cT,eC,mT,et,dB,q,nu,h1,h2,h3,h4,h5,h6,h7,h8,h9,aD,bg,bO,aC,au,AV.ai]
def US(o:Option (Nat×Sg)):Int:=match o with|some (k,_)=>(k:Int)|none=>-1
theorem Ft{k:Nat}(h:k<l.length):mV s k (l.drop k)=if l[k].nm=s then some (k,l[k]) else mV s (k+1) (l.drop (k+1)):=by
 rw[aaz h];rfl
theorem O0{s:List UInt8}:∀{l:List Sg}{i k:Nat}{t:Sg},mV s i l=some (k,t)->i<=k/\∃h:k-i<l.length,l[k-i]=t
 |[],_,_,_,h=>by cases h|f::l,i,k,t,h=>by
  unfold mV at h;split at h;cases h;exact⟨Nat.le_refl _,by simp,by simp⟩;obtain⟨h1,h2,h3⟩:=O0 h;refine⟨by omega,by simp only[abr];omega,?_⟩;have:k-i=(k-(i+1))+1:=by omega
  simp only[this,agL];exact h3
theorem aco{k:Nat}{t:Sg}(h:mV s 0 l=some (k,t)):∃h:k<l.length,l[k]=t:=by
 obtain⟨_,h1,h2⟩:=O0 h;exact⟨by simpa using h1,by simpa using h2⟩
theorem Yb(aa:Nat)(g:Sg)(e:E)(o:dA):(aZ S).call 0 aa 172 [.agg g.aF,.ptr 1 0 0 0] [o,.rows 0 11 [e.aF]]=some (.bool (decide (g.nm=e.nm)),[o,.rows 0 11 [e.aF]]):=by
 refine aA (sf:=abO) rfl rfl rfl ?_;rw[E.aE];simp[abO,Sg.aF,cut,AV.ai]
theorem QJ(aa:Nat)(l:List Sg)(e:E)(o:dA)(hn:l.length<1000000000):(aZ S).call 0 aa 71 [aJ 6 (l.map Sg.aF),.fn 172 [] [.ptr 1 0 0 0]] [o,.rows 0 11 [e.aF]]=some (.int .i64 (US (mV e.nm 0 l)),[o,.rows 0 11 [e.aF]]):=by
 have el:=λaa f=>Yb aa f e o;simp only[Sg.aF]at el;have hz:cJ 6 (aJ 6 (l.map Sg.aF))=true:=dQ (by simp[cn,Sg.aF]);generalize dA.rows 0 11 [e.aF]=o2 at *;refine aA (sf:=s71) rfl rfl rfl ?_;simp[s71];refine bH MI.eq_1 (λq:Nat×Int=>⟨[(0,.val (aJ 6 (l.map Sg.aF))),(1,.val (.fn 172 [] [.ptr 1 0 0 0])),(7,.val (.int .i64 l.length)),(8,.val (.int .i64 q.1))],[],[o,o2]⟩)
  (λq=>q.1<=l.length/\mV e.nm 0 l=mV e.nm q.1 (l.drop q.1)) (λq=>l.length-q.1) (0,0) (by simp) ⟨by simp,by simp⟩ ?_
 rintro⟨k,bb⟩ ⟨hk,hp⟩ ih;simp only at hk hp ih;by_cases bC:k<l.length;have hw:=wk k (by omega);rw[Ft bC]at hp;have e1:=λaa=>el aa l[k];by_cases h:l[k].nm=e.nm;rw[ah h]at hp;rw[hp];rw[bM h]at e1;simp[bC,hz,e1,Sg.aF,US];rw[U h]at hp;rw[cu h]at e1;simp[bC,hz,e1,Sg.aF,hw];exact ih (k+1,0) ⟨by simp;omega,hp⟩ (by simp;omega);have fR:k=l.length:=by omega
 have:mV e.nm 0 l=none:=by rw[hp,fR,aaC];rfl
 rw[this];simp[bC,US]
theorem HI{l:List Vd}{r:List E}:∀{k:Nat}(h1:k<l.length)(h2:k<r.length),iR (l.drop k) (r.drop k)=(decide (r[k].ty=l[k].ty)&&iR (l.drop (k+1)) (r.drop (k+1))):=by
 intro k h1 h2;rw[aaz h1,aaz h2]
 rfl
theorem A4:∀{l:List Vd}{r:List E},iR l r=true->l.length=r.length
 |[],[],_=>rfl|[],_::_,h=>by cases h|_::_,[],h=>by cases h|_::l,_::r,h=>by
  simp only[iR,aac]at h;simp[A4 h.2]
end K9
namespace K9
open Ax Go bY V7 kN lZ
theorem acp{wl aa:Nat}{o:dA}{e:E}{bx:bG}:bn wl aa (.load false 1 false) [.val (.ptr 1 0 0 5)] [o,.rows 0 11 [e.aF]] bx=some (.val (aT e.aG),[o,.rows 0 11 [e.aF]],bx):=by
 simp[E.aE,cut]
variable{l:List E}
theorem xT{k:Nat}(h:k<l.length):(E.rows l)[k]?=some l[k].aF:=by simp[iC,h]
theorem qM{k:Nat}(h:k<l.length)(h2:k<(E.rows l).length):(E.rows l)[k]=l[k].aF:=by simp[iC]
theorem rf(aa:Nat)(c:CK)(e:E)(hs:qV c)(hn:e.aG.length<1000000000):(aZ S).call 0 aa 166 [.ptr 0 0 0 0,.agg e.aF] [c.aX]=some (u6 (oY c.H e.nm e.aG),[c.aX]):=by
 have en:=λwl aa st=>lS wl aa st;have ei:=λaa=>QJ aa c.H.aY e c.aX hs.S;have UT:cJ 6 (aJ 6 (c.H.aY.map Sg.aF))=true:=dQ (by simp[cn,Sg.aF]);have hzE:cJ 11 (aT e.aG)=true:=gn;have dh:bt (aT e.aG)=E.rows e.aG:=aW;have hS:=hs.S;have ek:=λwl aa bx=>acp (wl:=wl) (aa:=aa) (o:=c.aX) (e:=e) (bx:=bx);have hsi:=λwl aa bx=>UO (wl:=wl) (aa:=aa) (c:=c) (r:=[.rows 0 11 [e.aF]]) (bx:=bx);have wM:∀bx,bn 0 1 (.box 11) [.val (.agg e.aF)] [c.aX] bx=some (.val (.ptr 1 0 0 0),[c.aX,.rows 0 11 [e.aF]],bx):=λbx=>by rw[E.aE];simp
 refine aA (sf:=Ug) rfl rfl rfl ?_;unfold oY;generalize hO:dA.rows 0 11 [e.aF]=o at *;cases h1:mV e.nm 0 c.H.aY with
 |none=>
  rw[h1]at ei;simp only[US]at ei;simp[-aj,-ag,-Oq,Ug,wM,hsi,ei,en,u6,aD,aC,au]
 |some y=>
  obtain⟨i,s⟩:=y;obtain⟨hi,hg⟩:=aco h1;rw[h1]at ei;simp only[US]at ei;have hi0:¬((i:Int)<0):=by omega
  have hP:=hs.P _ (aaq hi);rw[hg]at hP;have gS:(c.H.aY.map Sg.aF)[i]?=some [.str s.nm,bP s.ps,.bool s.cP,.int .i64 s.cH.b,.int .i64 s.cH.r,.int .i64 s.cH.d]:=by simp[hi,hg,Sg.aF]
  have Fu:∀h:i<(c.H.aY.map Sg.aF).length,(c.H.aY.map Sg.aF)[i]=[.str s.nm,bP s.ps,.bool s.cP,.int .i64 s.cH.b,.int .i64 s.cH.r,.int .i64 s.cH.d]:=λh=>by simp[hg,Sg.aF]
  simp only;by_cases hl:s.ps.length=e.aG.length;have qZ:¬((s.ps.length:Int)≠(e.aG.length:Int)):=by omega
  simp[-aj,-ag,-Oq,Ug,wM,hsi,ei,hi0,ek,UT,hi,Fu,br,dh,hl,u6,aD,aC,AV.ai];refine bH OG.eq_1 (λy:Nat×List AV=>⟨[(0,.val (.ptr 0 0 0 0)),(3,.val (.ptr 1 0 0 0)),(4,.fp 0 0),(7,.val (.int .i64 i)),(44,.val (bP s.ps)),(45,.val (.int .i64 e.aG.length)),(46,.val (.int .i64 y.1))],
   [[.int .i64 0,.int .i64 0,.int .i64 0],y.2],[c.aX,o]⟩) (λy=>y.1<=e.aG.length/\iR s.ps e.aG=iR (s.ps.drop y.1) (e.aG.drop y.1)) (λy=>e.aG.length-y.1) (0,[]) rfl ⟨by simp,by simp⟩ ?_
  rintro⟨k,b2⟩ ⟨hk,hp⟩ ih;simp only at hk hp ih;by_cases bC:k<e.aG.length;have uz:k<s.ps.length:=by omega
  have hw:=wk k (by omega);rw[HI uz bC]at hp;have gP:(s.ps.map Vd.aF)[k]?=some [.str s.ps[k].nm,.int .i64 s.ps[k].ty.b,.int .i64 s.ps[k].ty.r,.int .i64 s.ps[k].ty.d]:=by simp[uz,Vd.aF]
  have gP':∀h:k<(s.ps.map Vd.aF).length,(s.ps.map Vd.aF)[k]=[.str s.ps[k].nm,.int .i64 s.ps[k].ty.b,.int .i64 s.ps[k].ty.r,.int .i64 s.ps[k].ty.d]:=λh=>by simp[Vd.aF]
  have gE:=xT bC;have mY:=λh2=>qM bC h2;simp only[E.aE]at gE mY;by_cases q:e.aG[k].ty=s.ps[k].ty;rw[bM q,Bool.true_and]at hp;have fD:=λb=>ih (k+1,b) ⟨by simp only;omega,hp⟩ (by simp only;omega);simp only at fD;rw[q]at gE mY;generalize e.aG[k]=x,s.ps[k]=p at *;simp[-aj,-ag,bC,uz,hw,gP',mY,ek,hzE,dh,br,aD,aC,au,AV.ai];exact fD _;rw[cu q,Bool.false_and]at hp;generalize e.aG[k]=x,s.ps[k]=p at *;simp[-aj,-ag,bC,uz,gP',mY,ek,hzE,dh,br,dU,q,hp,en,aD,aC,au,AV.ai];have fR:k=e.aG.length:=by omega
  have:iR s.ps e.aG=true:=by rw[hp,fR,aaC,<-hl,aaC];rfl
  have alr:=λwl aa bx=>UO (wl:=wl) (aa:=aa) (c:=c) (r:=[o]) (bx:=bx);simp[-aj,-ag,bC,this,alr,UT,hi,Fu,br,au,AV.ai];have fy:iR s.ps e.aG=false:=by
   cases h:iR s.ps e.aG with
   |false=>rfl|true=>exact aU (A4 h) hl
  have qZ:¬((s.ps.length:Int)=(e.aG.length:Int)):=by omega
  rw[fy];simp[-aj,-ag,-Oq,Ug,wM,hsi,ei,hi0,ek,UT,hi,Fu,br,dh,hl,en,u6,aD,aC,au,AV.ai]
end K9
namespace K9
open Ax Go bY V7 kN lZ
def UU(o:Option (T3×Int))(v:AV):Prop:=∃(t:T3)(z:Int),v=.fK [.agg [.int .i64 t.b,.int .i64 t.r,.int .i64 t.d],.int .i64 z,.bool o.isSome]/\∀u r,o=some (u,r)->t=u/\z=r
theorem Nc(o:Option (T3×Int)):UU o (u6 o):=by
 cases o with
 |none=>exact⟨T0,0,rfl,λ_ _ h=>by cases h⟩|some x=>exact⟨x.1,x.2,rfl,λu r h=>by cases h;exact⟨rfl,rfl⟩⟩
theorem ni(b:Bool)(t:T3):UU (DB b t) (.fK [.agg [.int .i64 t.b,.int .i64 t.r,.int .i64 t.d],.int .i64 0,.bool b]):=by
 refine⟨t,0,?_,λu r h=>I8 h⟩;rw[Le]
theorem je{aa f:Nat}{sf:aL}{args:List AV}{st:ay}{o:Option (T3×Int)}(hf:S f=some sf)(ha:tD sf args=false)(hl:args.length=sf.aH)(v:AV)(hv:UU o v)
  (h:W S (sf.mode.wL st.length 0) (sf.mode.oW st.length aa) sf.results (BH sf.results sf.mode st (v,st)) [.code sf.body] .normal (qc sf args st)) :
  ∃v,UU o v/\(aZ S).call 0 aa f args st=some (v,st):=⟨v,hv,aA hf ha hl h⟩
theorem AR(aa:Nat)(c:CK)(e:E)(hs:qV c)(hn:e.aG.length<1000000000)(hk:gK e.k e.n e.aG.length=true)(Yc:c.H.rs.length=c.H.bE.length)(hw:∀x∈e.aG,WT c.H.rs.length x.ty) :
  ∃v,UU (lM c.H c.V e.k e.nm e.on e.od e.aG) v/\(aZ S).call 0 aa 141 [.ptr 0 0 0 0,.agg e.aF] [c.aX]=some (v,[c.aX]):=by
 have eN:=λwl aa st=>B4 wl aa st;have eT:=λwl aa st=>Fp wl aa st;have eV:=λaa=>iF aa c e.nm [] hs;have qv:=λwl aa st=>AQ wl aa c.H.rs e.on e.od st hs.R;have O1:=λwl aa st=>ack wl aa (cB c.H.rs e.on e.od).1 st;have dJ:=E.aE e;have hz:cJ 11 (aT e.aG)=true:=gn;have cT:aN (aT e.aG)=true:=bz;have eC:(aT e.aG).ai=aT e.aG:=bu;have dh:bt (aT e.aG)=E.rows e.aG:=aW;have one:∀j,e.k=j->(j=5\/j=9\/j=10\/j=12\/j=13)->∃x,e.aG=[x]:=λj hj h=>by
  have hlen:e.aG.length=1:=by
   rw[hj]at hk;rcases h with h|h|h|h|h<;>subst h<;>simpa [gK] using hk
  match hh:e.aG,hlen with
  |[x],_=>exact⟨x,rfl⟩
 have two:e.k≠1->e.k≠2->e.k≠3->e.k≠4->e.k≠5->e.k≠7->e.k≠8->e.k≠9->e.k≠10->e.k≠11->e.k≠12->e.k≠13->∃x y,e.aG=[x,y]:=λh1 h2 h3 h4 h5 h7 h8 h9 Bx z7 sX Bs=>by
  have hlen:e.aG.length=2:=by
   simp[gK,h1,h2,h3,h4,h5,h7,h8,h9,Bx,z7,sX,Bs]at hk;exact hk.2
  match hh:e.aG,hlen with
  |[x,y],_=>exact⟨x,y,rfl⟩
 have fld:=λx (h:e.aG=[x]) aa=>UR aa c e x h hs (by
  have:=(hw x (by rw[h];exact acz)).2.2;rw[Yc]at this;exact this)
 have cal:=λaa=>rf aa c e hs hn;have tw:=λx y (h:e.aG=[x,y]) aa=>acn aa c e x y h;rw[dJ]at fld cal tw;rw[dJ];unfold lM;by_cases h1:e.k=1;rw[ah (.inl h1)];rw[h1];refine je (sf:=lK) rfl rfl rfl _ (ni true tI) ?_;simp[-aj,-ag,lK,eN,au,AV.ai];by_cases z7:e.k=11;rw[ah (.inr z7)];rw[z7];refine je (sf:=lK) rfl rfl rfl _ (ni true tI) ?_;simp[-aj,-ag,lK,eN,au,AV.ai];rw[U (λh=>h.elim h1 z7)];by_cases h2:e.k=2;rw[ah h2,h2];refine je (sf:=lK) rfl rfl rfl _ (ni true tB) ?_;simp[-aj,-ag,lK,eT,au,AV.ai];rw[U h2];by_cases h3:e.k=3;rw[ah h3,h3];refine je (sf:=lK) rfl rfl rfl _ (ni _ _) ?_;unfold Nb at qv;generalize cB c.H.rs e.on e.od=tt at *;obtain⟨t,b⟩:=tt;cases b<;>simp[-aj,-ag,lK,wA,qv,O1,aD,bg,bO,aC,au,AV.ai];rw[U h3];by_cases h4:e.k=4;rw[ah h4,h4];refine je (sf:=lK) rfl rfl rfl _ (Nc _) ?_;generalize uw c.H c.V e.nm=o at *;cases o with
 |none=>simp[-aj,-ag,lK,eV,oR,u6,au,AV.ai]|some x=>simp[-aj,-ag,lK,eV,oR,u6,au,AV.ai]
 rw[U h4];by_cases h5:e.k=5;rw[ah h5];obtain⟨x,hx⟩:=one 5 h5 (by simp);have f:=fld x hx;rw[h5]at f ⊢;have:rU e.aG=x.ty:=by rw[hx];rfl
 rw[this];refine je (sf:=lK) rfl rfl rfl _ (Nc _) ?_;generalize xO c.H x.ty e.nm=o,aT e.aG=kv at *;cases o with
 |none=>
  simp only[u6]at f;simp[-aj,-ag,lK,f,cT,eC,u6,au,AV.ai]
 |some x=>
  simp only[u6]at f;simp[-aj,-ag,lK,f,cT,eC,u6,au,AV.ai]
 rw[U h5];by_cases h6:e.k=6;rw[ah h6];obtain⟨x,y,hx⟩:=two h1 h2 h3 h4 h5 (by omega) (by omega) (by omega) (by omega) z7 (by omega) (by omega);have a1:rU e.aG=x.ty:=by rw[hx];rfl
 have a2:CF e.aG=y.ty:=by rw[hx];rfl
 have wx:=hw x (by rw[hx];exact acz);rw[show E.rows e.aG=E.rows [x,y] from by rw[hx]]at dh;rw[a1,a2,h6];simp only[E.rows,E.aE]at dh;generalize aT e.aG=kv at *;have wu:IntKind.i64.wrap (x.ty.d-1)=x.ty.d-1:=by
  have:=wx.1;have:=wx.2.1;rw[eR]<;>omega
 refine je (sf:=lK) rfl rfl rfl _ (ni _ _) ?_;by_cases q:0<x.ty.d;simp[-aj,-ag,lK,br,hz,cT,eC,dh,q,eN,dI,wu,aD,aC,au,AV.ai];simp[-aj,-ag,lK,br,hz,cT,eC,dh,q,wu,aD,aC,au,AV.ai];rw[U h6];by_cases h7:e.k=7;rw[ah h7];rw[h7]at cal ⊢;refine je (sf:=lK) rfl rfl rfl _ (Nc _) ?_;generalize oY c.H e.nm e.aG=o,aT e.aG=kv at *;cases o with
 |none=>
  simp only[u6]at cal;simp[-aj,-ag,lK,cal,cT,eC,u6,au,AV.ai]
 |some x=>
  simp only[u6]at cal;simp[-aj,-ag,lK,cal,cT,eC,u6,au,AV.ai]
 rw[U h7];by_cases h8:e.k=8;rw[ah h8,h8];refine je (sf:=lK) rfl rfl rfl _ (ni _ _) ?_;unfold Nb at qv;generalize cB c.H.rs e.on e.od=tt at *;obtain⟨t,b⟩:=tt;cases b with
 |false=>simp[-aj,-ag,lK,wA,qv,aD,bg,bO,aC,au,AV.ai]|true=>
  by_cases q:t.b=3;simp[-aj,-ag,lK,wA,qv,q,aD,bg,bO,aC,au,AV.ai];simp[-aj,-ag,lK,wA,qv,q,aD,bg,bO,aC,au,AV.ai]
 rw[U h8];by_cases h9:e.k=9;rw[ah h9];obtain⟨x,hx⟩:=one 9 h9 (by simp);have a1:rU e.aG=x.ty:=by rw[hx];rfl
 rw[show E.rows e.aG=E.rows [x] from by rw[hx]]at dh;rw[a1,h9];simp only[E.rows,E.aE]at dh;generalize aT e.aG=kv at *;have wt:=ox c.H.rs e.on e.od;have wu:IntKind.i64.wrap ((cB c.H.rs e.on e.od).1.d+1)=(cB c.H.rs e.on e.od).1.d+1:=by
  have:=wt.1;have:=wt.2.1;rw[eR]<;>omega
 refine je (sf:=lK) rfl rfl rfl _ (ni _ _) ?_;unfold Nb at qv;generalize cB c.H.rs e.on e.od=tt at *;obtain⟨t,b⟩:=tt;cases b with
 |false=>simp[-aj,-ag,lK,wA,qv,cT,wu,aD,bg,bO,aC,au,AV.ai]|true=>
  by_cases q:t.d<3;simp[-aj,-ag,lK,wA,qv,br,hz,cT,eC,dh,q,eN,dI,wu,aD,bg,bO,aC,au,AV.ai];simp[-aj,-ag,lK,wA,qv,cT,q,wu,aD,bg,bO,aC,au,AV.ai]
 rw[U h9];by_cases Bx:e.k=10;rw[ah Bx];obtain⟨x,hx⟩:=one 10 Bx (by simp);have a1:rU e.aG=x.ty:=by rw[hx];rfl
 rw[show E.rows e.aG=E.rows [x] from by rw[hx]]at dh;rw[a1,Bx];simp only[E.rows,E.aE]at dh;generalize aT e.aG=kv at *;refine je (sf:=lK) rfl rfl rfl _ (ni _ _) ?_;simp[-aj,-ag,lK,br,hz,cT,eC,dh,eN,aD,aC,au,AV.ai];rw[U Bx];by_cases sX:e.k=12;rw[ah sX];obtain⟨x,hx⟩:=one 12 sX (by simp);have a1:rU e.aG=x.ty:=by rw[hx];rfl
 rw[show E.rows e.aG=E.rows [x] from by rw[hx]]at dh;rw[a1,sX];simp only[E.rows,E.aE]at dh;generalize aT e.aG=kv at *;refine je (sf:=lK) rfl rfl rfl _ (ni _ _) ?_;simp[-aj,-ag,lK,br,hz,cT,eC,dh,eN,dI,aD,aC,au,AV.ai];rw[U sX];by_cases Bs:e.k=13;rw[ah Bs];obtain⟨x,hx⟩:=one 13 Bs (by simp);have a1:rU e.aG=x.ty:=by rw[hx];rfl
 rw[show E.rows e.aG=E.rows [x] from by rw[hx]]at dh;rw[a1,Bs];simp only[E.rows,E.aE]at dh;generalize aT e.aG=kv at *;refine je (sf:=lK) rfl rfl rfl _ (ni _ _) ?_;simp[-aj,-ag,lK,br,hz,cT,eC,dh,eN,eT,dB,aD,aC,au,AV.ai];rw[U Bs];obtain⟨x,y,hx⟩:=two h1 h2 h3 h4 h5 h7 h8 h9 Bx z7 sX Bs;have a1:rU e.aG=x.ty:=by rw[hx];rfl
 have a2:CF e.aG=y.ty:=by rw[hx];rfl
 rw[a1,a2];have t2:=tw x y hx;generalize aT e.aG=kv at *;refine je (sf:=lK) rfl rfl rfl (.fK [.agg [.int .i64 (Gv e.k).b,.int .i64 (Gv e.k).r,.int .i64 (Gv e.k).d],.int .i64 0,.bool (KU e.k x.ty y.ty).isSome]) ⟨Gv e.k,0,rfl,λu r h=>acm h⟩ ?_;simp[-aj,-ag,lK,h1,h2,h3,h4,h5,h6,h7,h8,h9,Bx,z7,sX,Bs,t2,cT,eC,au,AV.ai]
end K9
namespace K9
open Ax Go bY V7 kN lZ
variable{c:CK}{l:List E}{st:ay}{P:AV->ay->Prop}{rs:List iW}
theorem gH{a:Int}:(c.fail a).fe≠0:=by
 unfold CK.fail;split;show (3:Int)≠0;decide
 assumption
theorem acq{a b:Int}:(c.fail a).fail b=c.fail a:=by
 have h:=gH (c:=c) (a:=a);generalize c.fail a=d at *;unfold CK.fail;rw[U h]
def Lf(c:CK)(e:E):Prop:=match zh c.H c.V e with
 |.ok y=>∀aa,(aZ S).call 0 aa 120 [.ptr 0 0 0 0,.agg e.aF] [c.aX]=some (.agg y.aF,[c.aX])|.error a=>∀aa,∃y:E,(aZ S).call 0 aa 120 [.ptr 0 0 0 0,.agg e.aF] [c.aX]=some (.agg y.aF,[(c.fail a).aX])
def Fv(c:CK)(e:E):Except Int E:=match zh c.H c.V e with
 |.error x=>.error x|.ok y=>if y.ty=T0 then .error y.a else .ok y
def LS(c:CK)(e:E):Prop:=match Fv c e with
 |.ok y=>∀aa,(aZ S).call 0 aa 142 [.ptr 0 0 0 0,.agg e.aF] [c.aX]=some (.agg y.aF,[c.aX])|.error a=>∀aa,∃y:E,(aZ S).call 0 aa 142 [.ptr 0 0 0 0,.agg e.aF] [c.aX]=some (.agg y.aF,[(c.fail a).aX])
theorem xU(c:CK)(e:E)(h:Lf c e):LS c e:=by
 unfold Lf at h;unfold LS Fv;have en:=λwl aa st=>lS wl aa st;cases hc:zh c.H c.V e with
 |error a=>
  rw[hc]at h;simp only at h ⊢;obtain⟨y,e1⟩:=h 1;refine λaa=>⟨y,?_⟩;have ef:=λaa=>fO aa (c.fail a) y.a [];rw[acq]at ef;rw[E.aE e]at e1 ⊢;rw[E.aE y]at e1 ⊢;generalize (c.fail a).aX=o at *;refine aA (sf:=KH) rfl rfl rfl ?_;by_cases q:y.ty=T0;simp[-aj,-ag,KH,e1,en,q,ef,au,AV.ai,aD,aC];simp[-aj,-ag,KH,e1,en,d0,q,au,AV.ai,aD,aC]
 |ok y=>
  rw[hc]at h;simp only at h ⊢;by_cases q:y.ty=T0;rw[ah q];refine λaa=>⟨y,?_⟩;have ef:=λaa=>fO aa c y.a [];rw[E.aE e]at h ⊢;rw[E.aE y]at h ⊢;generalize (c.fail y.a).aX=o at *;refine aA (sf:=KH) rfl rfl rfl ?_;simp[-aj,-ag,KH,h,en,q,ef,au,AV.ai,aD,aC];rw[U q];intro aa;rw[E.aE e]at h ⊢;rw[E.aE y]at h ⊢;refine aA (sf:=KH) rfl rfl rfl ?_;simp[-aj,-ag,KH,h,en,d0,q,au,AV.ai,aD,aC]
theorem Yd{e:E}:lG c.H c.V (e::l)=match Fv c e with
  |.error x=>.error x|.ok y=>match lG c.H c.V l with
   |.error x=>.error x|.ok ys=>.ok (y::ys):=by
 conv=>lhs;unfold lG
 unfold Fv;split;simp_all;rename_i y h;rw[h];simp only;split<;>rfl
def rF(ys:List E)(r:Except Int (List E)):Except Int (List E):=match r with
 |.error x=>.error x|.ok zs=>.ok (ys++zs)
def Ye(rs:List iW)(m:Ax.Mode)(st:ay)(P:AV->ay->Prop)(x:Ex)(s:St):Prop:=∃r,BH rs m st r x s/\P r.1 r.2
theorem fP{S:Nat->Option aL}{wl aa f:Nat}{sf:aL}(hf:S f=some sf){args:List AV}(ha:tD sf args=false)(hl:args.length=sf.aH)
  (h:W S (sf.mode.wL st.length wl) (sf.mode.oW st.length aa) sf.results (Ye sf.results sf.mode st P) [.code sf.body] .normal (qc sf args st)) :
  ∃v st',(aZ S).call wl aa f args st=some (v,st')/\P v st':=by
 obtain⟨x',s',h1,r,h2,h3⟩:=h;exact⟨r.1,r.2,aA hf ha hl ⟨x',s',h1,h2⟩,h3⟩
@[simp]theorem aiV{v:AV}{s:St}:Ye rs Ax.Mode.jY st P (.ret v) s↔v.aB=true/\P v (s.st.take st.length):=by
 simp only[Ye,Ku,Ax.Mode.nu];constructor;rintro⟨r,h1,h2⟩;split at h1;rename_i hp;cases h1;exact⟨hp,h2⟩;cases h1;rintro⟨h1,h2⟩;exact⟨(v,s.st.take st.length),by rw[ah h1],h2⟩
@[simp]theorem aiW{s:St}:Ye rs Ax.Mode.jY st P .normal s↔∃v,yM s rs=some v/\v.aB=true/\P v (s.st.take st.length):=by
 simp only[Ye,Kv,Ax.Mode.nu];constructor;rintro⟨r,⟨v,h0,h1⟩,h2⟩;split at h1;rename_i hp;cases h1;exact⟨v,h0,hp,h2⟩;cases h1;rintro⟨v,h0,h1,h2⟩;exact⟨(v,s.st.take st.length),⟨v,h0,by rw[ah h1]⟩,h2⟩
theorem A5{ys:List E}{k:Nat}(h:k<l.length):rF ys (lG c.H c.V (l.drop k))=match Fv c l[k] with
  |.error x=>.error x|.ok y=>rF (ys++[y]) (lG c.H c.V (l.drop (k+1))):=by
 rw[aaz h,Yd];split
 rfl
 split;rename_i h1;rw[h1];rfl;rename_i h1;rw[h1];simp[rF]
theorem mP(c:CK)(l:List E)(hf:c.fe=0)(hn:l.length<1000000000)(hl:∀e∈l,Lf c e):match lG c.H c.V l with
  |.ok ys=>∀aa,(aZ S).call 0 aa 121 [.ptr 0 0 0 0,aT l] [c.aX]=some (bK 11 (E.rows ys),[c.aX])|.error a=>∀aa,∃v,aN v=true/\(aZ S).call 0 aa 121 [.ptr 0 0 0 0,aT l] [c.aX]=some (v,[(c.fail a).aX]):=by
 have hz:cJ 11 (aT l)=true:=gn;have cT:aN (aT l)=true:=bz;have eC:(aT l).ai=aT l:=bu;have dh:bt (aT l)=E.rows l:=aW;have fU:=λaa=>dF aa c [];rw[bM hf]at fU;have lW:∀(ys:List E) (y:E),ys.length<1000000000->oP 11 120 (bK 11 (E.rows ys)) [y.aF]=some (bK 11 (E.rows (ys++[y]))):=λys y h=>by
  rw[eO (by simp[cn,E.aE]) (by simp[cN];omega)];simp[iC]
 cases hR:lG c.H c.V l with
 |ok zs=>
  intro aa;refine aA (sf:=T6) rfl rfl rfl ?_;generalize aT l=lv at *;simp[-aj,-ag,T6,cT,eC,dh];refine bH II.eq_1 (λx:Nat×List E×List AV=>⟨[(0,.val (.ptr 0 0 0 0)),(5,.val (bK 11 (E.rows x.2.1))),(8,.val lv),(9,.val (.int .i64 l.length)),(10,.val (.int .i64 x.1))],[x.2.2],[c.aX]⟩)
   (λx=>x.1<=l.length/\x.2.1.length=x.1/\rF x.2.1 (lG c.H c.V (l.drop x.1))=.ok zs) (λx=>l.length-x.1) (0,[],[]) rfl ⟨by simp,rfl,by simp[rF,hR]⟩ ?_
  rintro⟨k,ys,b⟩ ⟨hk,hy,hp⟩ ih;simp only at hk hy hp ih;by_cases bC:k<l.length;have hw:=wk k (by omega);have hv:=xU c l[k] (hl _ (aaq bC));unfold LS at hv;rw[A5 bC]at hp;have gE:=xT bC;have mY:=λh2=>qM bC h2;cases hx:Fv c l[k] with
  |error a=>rw[hx]at hp;cases hp|ok y=>
   rw[hx]at hp hv;simp only at hp hv;have ap:=lW ys y (by omega);have fD:=λb=>ih (k+1,ys++[y],b) ⟨by simp only;omega,by simp[hy],hp⟩ (by simp only;omega);simp only at fD;generalize bK 11 (E.rows (ys++[y]))=R at *;rw[E.aE l[k]]at hv gE;simp only[E.aE l[k]]at mY;rw[E.aE y]at hv ap;generalize l[k]=x at *;simp[-aj,-ag,br,bC,hw,hz,dh,mY,fU,hv,ap,au,AV.ai];exact fD _
  have fR:k=l.length:=by omega
  have:ys=zs:=by
   rw[fR,aaC]at hp;simpa [lG,rF] using hp
  subst this;simp[-aj,-ag,bC]
 |error a=>
  intro aa;have yS:=gH (c:=c) (a:=a);have ij:=λaa=>dF aa (c.fail a) [];rw[cu yS]at ij;obtain⟨v,st',h1,h2,h3⟩:∃v st',(aZ S).call 0 aa 121 [.ptr 0 0 0 0,aT l] [c.aX]=some (v,st')/\aN v=true/\st'=[(c.fail a).aX]:=by
   refine fP (sf:=T6) rfl rfl rfl ?_;generalize aT l=lv at *;simp[-aj,-ag,T6,cT,eC,dh];refine bH II.eq_1 (λx:Nat×List E×CK×List AV=>⟨[(0,.val (.ptr 0 0 0 0)),(5,.val (bK 11 (E.rows x.2.1))),(8,.val lv),(9,.val (.int .i64 l.length)),(10,.val (.int .i64 x.1))],[x.2.2.2],[x.2.2.1.aX]⟩)
    (λx=>x.1<=l.length/\x.2.1.length=x.1/\(x.2.2.1=c/\rF x.2.1 (lG c.H c.V (l.drop x.1))=.error a\/x.2.2.1=c.fail a)) (λx=>l.length-x.1) (0,[],c,[]) rfl ⟨by simp,rfl,.inl ⟨rfl,by simp[rF,hR]⟩⟩ ?_
   rintro⟨k,ys,d,b⟩ ⟨hk,hy,hp⟩ ih;simp only at hk hy hp ih;by_cases bC:k<l.length;have hw:=wk k (by omega);have gE:=xT bC;have mY:=λh2=>qM bC h2;rcases hp with⟨hd,hp⟩|hd;subst hd;have hv:=xU d l[k] (hl _ (aaq bC));unfold LS at hv;rw[A5 bC]at hp;cases hx:Fv d l[k] with
   |error a'=>
    rw[hx]at hp hv;simp only at hp hv;cases hp;obtain⟨y,hv⟩:=hv 1;have ap:=lW ys y (by omega);have fD:=λb=>ih (k+1,ys++[y],d.fail a,b) ⟨by simp only;omega,by simp[hy],.inr rfl⟩ (by simp only;omega);simp only at fD;generalize bK 11 (E.rows (ys++[y]))=R at *;rw[E.aE l[k]]at hv gE;simp only[E.aE l[k]]at mY;rw[E.aE y]at hv ap;generalize l[k]=x at *;simp[-aj,-ag,br,bC,hw,hz,dh,mY,fU,hv,ap,au,AV.ai];exact fD _
   |ok y=>
    rw[hx]at hp hv;simp only at hp hv;have ap:=lW ys y (by omega);have fD:=λb=>ih (k+1,ys++[y],d,b) ⟨by simp only;omega,by simp[hy],.inl ⟨rfl,hp⟩⟩ (by simp only;omega);simp only at fD;generalize bK 11 (E.rows (ys++[y]))=R at *;rw[E.aE l[k]]at hv gE;simp only[E.aE l[k]]at mY;rw[E.aE y]at hv ap;generalize l[k]=x at *;simp[-aj,-ag,br,bC,hw,hz,dh,mY,fU,hv,ap,au,AV.ai];exact fD _
   subst hd;simp only[E.aE l[k]]at mY;rw[E.aE l[k]]at gE;generalize l[k]=x at *;simp[-aj,-ag,br,bC,hz,dh,mY,ij,au,AV.ai];have fR:k=l.length:=(by omega);rcases hp with⟨hd,hp⟩|hd;rw[fR,aaC]at hp;simp[lG,rF]at hp;subst hd;simp[-aj,-ag,bC]
  rw[h3]at h1;exact⟨v,h2,h1⟩
end K9
namespace K9
open Ax Go bY V7 kN lZ
structure qw (c:CK):Prop where
 s:qV c
 H:c.H.ok
 V:∀f∈c.V,WT c.H.rs.length f.ty
def E0:E:=.mk 0 0 [] [] 0 [] 0 T0 0
theorem jq(c:CK)(hf:c.fe=0)(hw:qw c)(e:E):E.sz e<1000000000->Lf c e:=by
 induction e using E.Ga with
 |_ e ih=>
  intro dM;have vJ:=E.ry e;have fR:=E.eH e.aG;have dG:=mP c e.aG hf (by omega) λx hx=>ih x hx (by have:=E.fZ hx;omega);have Gw:=λwl aa st=>UQ wl aa e st;have HJ:=λwl aa st=>X9 wl aa e st;have oT:=λaa=>fO aa c e.a [];have fU:=λaa=>dF aa c [];rw[bM hf]at fU;have x7:zh c.H c.V e=if gK e.k e.n e.aG.length then
    match lG c.H c.V e.aG with
    |.error x=>.error x|.ok ks=>match lM c.H c.V e.k e.nm e.on e.od ks with
     |none=>.error e.a|some (t,r)=>.ok (.mk e.k (qt e.k e.n) (kY e.k e.nm) (kZ e.k e.on) (k5 e.k e.od) ks e.a t r)
    else .error e.a:=by
   obtain⟨k,n,nm,on,od,aG,a,ty,ref⟩:=e;conv=>lhs;unfold zh
   rfl
  unfold Lf;rw[x7];have hr0:E0.aF=[.int .i64 0,.int .i64 0,.str [],.str [],.int .i64 0,.af,.int .i64 0,.int .i64 0,.int .i64 0,.int .i64 0,.int .i64 0]:=by simp[E0,E.aF,E.rows]
  have oN:aN (aT e.aG)=true:=bz;cases hk:gK e.k e.n e.aG.length with
  |false=>
   simp only[Bool.false_eq_true,aS];intro aa;refine⟨E0,?_⟩;rw[hk]at Gw;rw[hr0];rw[E.aE e]at Gw ⊢;generalize (c.fail e.a).aX=o at *;refine aA (sf:=IG) rfl rfl rfl ?_;simp[-aj,-ag,IG,Gw,oT,au,AV.ai,AV.aB,AV.ax]
  |true=>
   simp only[aQ];rw[hk]at Gw;cases hv:lG c.H c.V e.aG with
   |error a=>
    rw[hv]at dG;simp only at dG ⊢;intro aa;refine⟨E0,?_⟩;obtain⟨v,cT,ev⟩:=dG 1;have Gj:=cy cT;have C8:=cI cT;have ij:=λaa=>dF aa (c.fail a) [];rw[cu gH]at ij;rw[hr0];rw[E.aE e]at Gw HJ ⊢;generalize (c.fail a).aX=o at *;refine aA (sf:=IG) rfl rfl rfl ?_;simp[-aj,-ag,IG,Gw,HJ,ev,cT,ij,au,AV.ai,AV.aB,AV.ax]
   |ok ks=>
    rw[hv]at dG;simp only at dG ⊢;obtain⟨X,hX⟩:∃X:E,X=.mk e.k (qt e.k e.n) (kY e.k e.nm) (kZ e.k e.on) (k5 e.k e.od) ks e.a T0 0:=⟨_,rfl⟩;have hXr:X.aF=[.int .i64 e.k,.int .i64 (qt e.k e.n),.str (kY e.k e.nm),.str (kZ e.k e.on),.int .i64 (k5 e.k e.od),aT ks,.int .i64 e.a,.int .i64 0,.int .i64 0,.int .i64 0,.int .i64 0]:=(by rw[hX];simp[E.aF,aT]);have hkn:gK X.k X.n X.aG.length=true:=by
     rw[hX];simp only[E.k,E.n,E.aG];rw[pZ hv];exact M0 hk
    have ZW:=tS hv λx _ y hy=>Uy hw.H hw.V x y hy;obtain⟨tv,⟨t,z,rfl,htr⟩,ZX⟩:=AR 1 c X hw.s (by rw[hX];simp only[E.aG];rw[pZ hv];omega) hkn hw.H.rs (by rw[hX];exact ZW);have als:lM c.H c.V X.k X.nm X.on X.od X.aG=lM c.H c.V e.k e.nm e.on e.od ks:=(by rw[hX];exact Uz);rw[als]at htr ZX;rw[hXr]at ZX;have cT:aN (bK 11 (E.rows ks))=true:=ct;have LR:(bK 11 (E.rows ks)).ai=aT ks:=rfl;have hkc:aN (aT ks)=true:=bz;generalize bK 11 (E.rows ks)=mv at *;have Gj:=cy cT;have C8:=cI cT;cases hT:lM c.H c.V e.k e.nm e.on e.od ks with
    |none=>
     simp only;intro aa;refine⟨.mk e.k (qt e.k e.n) (kY e.k e.nm) (kZ e.k e.on) (k5 e.k e.od) ks e.a t z,?_⟩;rw[hT]at ZX;simp only[E.aF,Option.isSome_none]at ZX ⊢;rw[E.aE e]at Gw HJ ⊢;have hq:aJ 11 (E.rows ks)=aT ks:=rfl;rw[hq];generalize aT ks=kv,(c.fail e.a).aX=o at *;refine aA (sf:=IG) rfl rfl rfl ?_;simp[-aj,-ag,IG,Gw,HJ,dG,LR,cT,hkc,fU,ZX,oT,au,AV.ai,AV.aB,AV.ax]
    |some y=>
     obtain⟨u,r⟩:=y;obtain⟨h1,h2⟩:=htr u r hT;subst h1 h2;simp only;intro aa;rw[hT]at ZX;simp only[E.aF,Option.isSome_some]at ZX ⊢;rw[E.aE e]at Gw HJ ⊢;have hq:aJ 11 (E.rows ks)=aT ks:=rfl;rw[hq];generalize aT ks=kv at *;refine aA (sf:=IG) rfl rfl rfl ?_;simp[-aj,-ag,IG,Gw,HJ,dG,LR,cT,hkc,fU,ZX,au,AV.ai,AV.aB,AV.ax]
end K9
