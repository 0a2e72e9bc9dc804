/- Part of a proof. -/
import Derived.Test.YtpnadocbfbbboaaGreatD
import Derived.Test.YtpnadocbfbbboaaGreatO

open List renaming drop_length->aaC,getElem_mem->aaq,getElem?_eq_getElem->aag,length_cons->abr,isEmpty_cons->agN
open Bool renaming false_eq_true->aan
set_option maxRecDepth 100000
set_option maxHeartbeats 8000000
namespace R9
open Ax Go bY V7 kN lZ K9
variable {pre:ay}
variable{α:Type}{wl aa:Nat}{c:CK}{r:ay}{bx:bG}
theorem ame{l:List α}(p:List α)(i:Nat):(p++l)[p.length+i]?=l[i]?:=by
 rw[List.getElem?_append_right (by omega)];simp
theorem ahB{l:List α}(p:List α)(i:Nat):(p++l).take (p.length+i)=p++l.take i:=by
 rw[List.take_append,List.take_of_length_le (by omega),Nat.add_sub_cancel_left]
attribute [simp] ame ahB
theorem ach:bn wl aa (.load false 1 false) [.val (.ptr pre.length 0 0 12)] (pre++c.aX::r) bx=some (.val (.int .i64 c.fe),pre++c.aX::r,bx):=by
 simp[CK.aX,cut,AV.ai]
theorem wA:bn wl aa (.load false 1 false) [.val (.ptr pre.length 0 0 4)] (pre++c.aX::r) bx=some (.val (aJ 1 (gQ c.H.rs)),pre++c.aX::r,bx):=by
 simp[CK.aX,cut,aJ]
theorem X7:bn wl aa (.load false 1 false) [.val (.ptr pre.length 0 0 0)] (pre++c.aX::r) bx=some (.val (aJ 2 (c.H.bE.map dz)),pre++c.aX::r,bx):=by
 simp[CK.aX,cut]
theorem X8:bn wl aa (.load false 1 false) [.val (.ptr pre.length 0 0 1)] (pre++c.aX::r) bx=some (.val (bP c.H.aI),pre++c.aX::r,bx):=by
 simp[CK.aX,cut]
theorem UO:bn wl aa (.load false 1 false) [.val (.ptr pre.length 0 0 2)] (pre++c.aX::r) bx=some (.val (aJ 6 (c.H.aY.map Sg.aF)),pre++c.aX::r,bx):=by
 simp[CK.aX,cut]
theorem xS:bn wl aa (.load false 1 false) [.val (.ptr pre.length 0 0 7)] (pre++c.aX::r) bx=some (.val (.bool c.sg.cP),pre++c.aX::r,bx):=by
 simp[CK.aX,cut,AV.ai]
theorem zi:bn wl aa (.load true 3 false) [.val (.ptr pre.length 0 0 8)] (pre++c.aX::r) bx=some (.val (.agg [.int .i64 c.sg.cH.b,.int .i64 c.sg.cH.r,.int .i64 c.sg.cH.d]),pre++c.aX::r,bx):=by
 simp[CK.aX,cut,AV.ai]
theorem AY:bn wl aa (.load false 1 false) [.val (.ptr pre.length 0 0 11)] (pre++c.aX::r) bx=some (.val (bP c.V),pre++c.aX::r,bx):=by
 simp[CK.aX,cut,bP,aJ]
theorem UP{a:Int}:bn 0 aa (.store 2) [.val (.ptr pre.length 0 0 12),.val (.agg [.int .i64 3,.int .i64 a])] (pre++c.aX::r) bx=some (.none,pre++({ c with fe:=3,fa:=a }:CK).aX::r,bx):=by
 simp[CK.aX,aV,AV.ax,AV.aB,au]
theorem iB(aa:Nat)(c:CK)(r:ay):(aZ S).call 0 aa 53 [.ptr pre.length 0 0 0] (pre++c.aX::r)=some (.bool (decide (c.fe=0)),pre++c.aX::r):=by
 refine aA (sf:=s53) rfl rfl rfl ?_;simp[-aj,-ag,s53,ach]
theorem jK(aa:Nat)(c:CK)(a:Int)(r:ay):(aZ S).call 0 aa 103 [.ptr pre.length 0 0 0,.int .i64 a] (pre++c.aX::r)=some (.fK [],pre++(c.fail a).aX::r):=by
 have e:=λaa=>iB (pre:=pre) aa c r;have ew:=λwl aa st=>U7.Bi wl aa a st;refine aA (sf:=Xt) rfl rfl rfl ?_;unfold CK.fail;by_cases h:c.fe=0;rw[ah h];simp[-aj,-ag,Xt,e,ew,h,UP];rw[U h];simp[-aj,-ag,Xt,e,h]
theorem mD(wl aa:Nat)(st:ay):(aZ S).call wl aa 107 [] st=some (.agg [.int .i64 2,.int .i64 0,.int .i64 0],st):=by
 refine bT (sf:=abz) rfl rfl (by simp) rfl (by simp[AV.aB,AV.ax]) ?_;simp[abz,au]
theorem oI(wl aa:Nat)(st:ay):(aZ S).call wl aa 108 [] st=some (.agg [.int .i64 1,.int .i64 0,.int .i64 0],st):=by
 refine bT (sf:=abA) rfl rfl (by simp) rfl (by simp[AV.aB,AV.ax]) ?_;simp[abA,au]
def CN(k:Int):Int:=
 if k=1\/k=2\/k=3\/k=4\/k=8\/k=11 then 0
 else if k=5\/k=9\/k=10\/k=12\/k=13 then 1
 else if k=7 then -1
 else if k=6\/k=14\/k=15\/k=16\/k=17\/k=18\/k=19\/k=20\/k=21\/k=22\/k=23\/k=24 then 2
 else -2
theorem Bj(wl aa:Nat)(k:Int)(st:ay):(aZ S).call wl aa 126 [.int .i64 k] st=some (.int .i64 (CN k),st):=by
 refine bT (sf:=pD) rfl rfl (by simp) rfl (by simp) ?_;unfold CN;by_cases h1:k=1;subst h1;simp[pD];by_cases h2:k=2;subst h2;simp[pD];by_cases h3:k=3;subst h3;simp[pD];by_cases h4:k=4;subst h4;simp[pD];by_cases h8:k=8;subst h8;simp[pD];by_cases z7:k=11;subst z7;simp[pD];by_cases h5:k=5;subst h5;simp[pD];by_cases h9:k=9;subst h9;simp[pD];by_cases Bx:k=10;subst Bx;simp[pD];by_cases sX:k=12;subst sX;simp[pD];by_cases Bs:k=13;subst Bs;simp[pD];by_cases h7:k=7;subst h7;simp[pD];by_cases h6:k=6;subst h6;simp[pD];by_cases Pb:k=14;subst Pb;simp[pD];by_cases Rj:k=15;subst Rj;simp[pD];by_cases Rk:k=16;subst Rk;simp[pD];by_cases Rl:k=17;subst Rl;simp[pD];by_cases Rm:k=18;subst Rm;simp[pD];by_cases Rn:k=19;subst Rn;simp[pD];by_cases Ro:k=20;subst Ro;simp[pD];by_cases Rq:k=21;subst Rq;simp[pD];by_cases Rr:k=22;subst Rr;simp[pD];by_cases DF:k=23;subst DF;simp[pD];by_cases Z2:k=24;subst Z2;simp[pD];simp[pD,h1,h2,h3,h4,h5,h6,h7,h8,h9,Bx,z7,sX,Bs,Pb,Rj,Rk,Rl,Rm,Rn,Ro,Rq,Rr,DF,Z2]
theorem ND(k n:Int)(m:Nat):gK k n m = !(decide (CN k = -2)||(decide (0<=CN k) && !decide ((m:Int)=CN k))||(decide (k=2)&&(!decide (n=0) && !decide (n=1)))):=by
 have m0:((m:Int)=0)=(m=0):=by simp
 have m1:((m:Int)=1)=(m=1):=by apply propext;omega
 have m2:((m:Int)=2)=(m=2):=by apply propext;omega
 unfold gK CN;by_cases h:k=1\/k=3\/k=4\/k=8\/k=11;rcases h with h|h|h|h|h<;>subst h<;>simp;by_cases h2:k=2;subst h2;by_cases q:n=0<;>by_cases p:n=1<;>simp[p,q];by_cases h7:k=7;subst h7;simp;by_cases h5:k=5\/k=9\/k=10\/k=12\/k=13;rcases h5 with h|h|h|h|h<;>subst h<;>simp[m1];rw[U h,U h2,U h7,U h5,U (by omega),U h5,U h7];by_cases g:k=6\/14<=k/\k<=24;have e:(decide (k=6)||decide (14<=k)&&decide (k<=24))=true:=by simpa using g
 rw[ah (by omega),e];simp[m2,h2];have e:(decide (k=6)||decide (14<=k)&&decide (k<=24))=false:=by simp only[Bool.or_eq_false_iff,Bool.and_eq_false_iff,decide_eq_false_iff_not];omega
 rw[U (by omega),e];simp
end R9
namespace R9
open Ax Go bY V7 kN lZ K9
variable {pre:ay}
theorem iF(aa:Nat)(c:CK)(s:List UInt8)(r:ay)(hs:qV c):(aZ S).call 0 aa 106 [.ptr pre.length 0 0 0,.str s] (pre++c.aX::r)=some (oR (uw c.H c.V s),pre++c.aX::r):=by
 have hV:=hs.V;have hG:=hs.G;have hzV:cJ 4 (bP c.V)=true:=rW;have hzG:cJ 4 (bP c.H.aI)=true:=rW;have NF:aN (bP c.V)=true:=dn;have hsG:aN (bP c.H.aI)=true:=dn;have Rt:bt (bP c.V)=c.V.map Vd.aF:=pL;have hrG:bt (bP c.H.aI)=c.H.aI.map Vd.aF:=pL;have JE:=λwl aa bx=>AY (pre:=pre) (wl:=wl) (aa:=aa) (c:=c) (r:=r) (bx:=bx);have egl:=λwl aa bx=>X8 (pre:=pre) (wl:=wl) (aa:=aa) (c:=c) (r:=r) (bx:=bx);generalize bP c.V=VV,bP c.H.aI=GV at *;refine aA (sf:=aby) rfl rfl rfl ?_;generalize c.aX=o at *;simp[-aj,-ag,aby];refine bH Oy.eq_1 (λq:Nat×Int=>⟨[(0,.val (.ptr pre.length 0 0 0)),(1,.val (.str s)),(5,.fp 0 0),(7,.val (.int .i64 q.1))],[[.int .i64 0,.int .i64 0,.int .i64 0]],pre++o::r⟩)
  (λq=>q.1<=c.V.length/\fN s 0 c.V=fN s q.1 (c.V.drop q.1)) (λq=>c.V.length-q.1) (0,0) (by simp) ⟨by simp,by simp⟩ ?_
 rintro⟨k,bb⟩ ⟨hk,hp⟩ ih;simp only at hk hp ih;by_cases bC:k<c.V.length;have hw:=wk k (by omega);rw[u5 bC]at hp;by_cases e:c.V[k].nm=s;rw[ah e]at hp;unfold uw;rw[hp];simp[-aj,-ag,br,JE,NF,hzV,Rt,bC,e,Vd.aF,oR,aD,aC,au];rw[U e]at hp;simp[-aj,-ag,br,JE,NF,hzV,Rt,bC,e,Vd.aF,hw];exact ih (k+1,0) ⟨by simp;omega,hp⟩ (by simp;omega);have fR:k=c.V.length:=by omega
 have iI:fN s 0 c.V=none:=by rw[hp,fR,aaC];rfl
 simp[-aj,-ag,JE,NF,Rt,bC];clear ih;refine bH Oz.eq_1 (λq:Nat×Int=>⟨[(0,.val (.ptr pre.length 0 0 0)),(1,.val (.str s)),(5,.fp 0 0),(8,.val (.int .i64 q.1))],[[.int .i64 0,.int .i64 0,.int .i64 0]],pre++o::r⟩)
  (λq=>q.1<=c.H.aI.length/\fN s 0 c.H.aI=fN s q.1 (c.H.aI.drop q.1)) (λq=>c.H.aI.length-q.1) (0,0) (by simp) ⟨by simp,by simp⟩ ?_
 rintro⟨k,bb⟩ ⟨hk,hp⟩ ih;simp only at hk hp ih;by_cases bC:k<c.H.aI.length;have hw:=wk k (by omega);have C4:IntKind.i64.wrap (-1-(k:Int)) = -1-(k:Int):=by rw[eR]<;>omega
 rw[u5 bC]at hp;by_cases e:c.H.aI[k].nm=s;rw[ah e]at hp;unfold uw;rw[iI,hp];simp[-aj,-ag,br,egl,hsG,hzG,hrG,bC,e,C4,Vd.aF,oR,aD,aC,au];rw[U e]at hp;simp[-aj,-ag,br,egl,hsG,hzG,hrG,bC,e,Vd.aF,hw];exact ih (k+1,0) ⟨by simp;omega,hp⟩ (by simp;omega);have fR:k=c.H.aI.length:=by omega
 have ami:fN s 0 c.H.aI=none:=by rw[hp,fR,aaC];rfl
 unfold uw;rw[iI,ami];simp[-aj,-ag,egl,hsG,hrG,bC,oR,au]
theorem yI(aa:Nat)(c:CK)(s:Sm)(r:ay)(_hn:s.es.length<1000000000):(aZ S).call 0 aa 102 [.ptr pre.length 0 0 0,.agg s.aF] (pre++c.aX::r)=some (.bool (de c.sg.cP s.k s.es),pre++c.aX::r):=by
 have dJ:=Sm.aE s;have hz:cJ 11 (aT s.es)=true:=gn;have cT:aN (aT s.es)=true:=bz;have eC:(aT s.es).ai=aT s.es:=bu;have dh:bt (aT s.es)=E.rows s.es:=aW;have m0:((s.es.length:Int)=0)=(s.es.length=0):=by simp
 have m1:((s.es.length:Int)=1)=(s.es.length=1):=by apply propext;omega
 have m2:((s.es.length:Int)=2)=(s.es.length=2):=by apply propext;omega
 rw[dJ];generalize s.k=k at *;unfold de;have b1:aN (bp s.bd)=true:=bL;have b2:(bp s.bd).ai=bp s.bd:=bq;have l1:aN (bp s.el)=true:=bL;have l2:(bp s.el).ai=bp s.el:=bq;generalize bp s.bd=bv,bp s.el=lv at *;have hc:=λwl aa bx=>xS (pre:=pre) (wl:=wl) (aa:=aa) (c:=c) (r:=r) (bx:=bx);generalize c.aX=o at *;refine aA (sf:=pA) rfl rfl rfl ?_;by_cases h1:k=1;subst h1;generalize aT s.es=kv at *;by_cases q0:s.es.length=0;simp[-aj,-ag,pA,cT,eC,dh,q0,b1,l1,AV.ai];simp[-aj,-ag,pA,cT,eC,dh,q0,b1,l1,AV.ai];by_cases h4:k=4;subst h4;simp only[U h1,aQ];match jj:s.es,dh,m2 with
 |[e,e2],dh,m2=>
  rw[jj]at hz cT eC;simp only[E.rows]at dh;rw[E.aE e,E.aE e2]at dh;generalize aT [e,e2]=kv at *;by_cases q:e.k=5;simp[-aj,-ag,pA,br,hz,cT,eC,dh,q,b1,l1,AV.ai];simp[-aj,-ag,pA,br,hz,cT,eC,dh,q,b1,l1,AV.ai]
 |[],dh,m2=>
  rw[jj]at hz cT eC;generalize aT []=kv at *;simp[-aj,-ag,pA,cT,eC,dh,b1,l1,E.rows,AV.ai]
 |[e],dh,m2=>
  rw[jj]at hz cT eC;simp only[E.rows]at dh;generalize aT [e]=kv at *;simp[-aj,-ag,pA,cT,eC,dh,b1,l1,AV.ai]
 |e::e2::e3::l,dh,m2=>
  rw[jj]at hz cT eC;have UW:¬((E.rows (e::e2::e3::l)).length:Int)=2:=by simp;omega
  generalize aT (e::e2::e3::l)=kv,E.rows (e::e2::e3::l)=rws at *;simp[-aj,-ag,pA,cT,eC,dh,UW,b1,l1,AV.ai]
 by_cases h7:k=7;subst h7;simp only[U h1,U h4,aQ];generalize aT s.es=kv at *;cases hh:c.sg.cP with
 |false=>
  rw[hh]at hc;by_cases q0:s.es.length=0;simp[-aj,-ag,pA,cT,eC,dh,q0,b1,l1,hc,AV.ai];simp[-aj,-ag,pA,cT,eC,dh,q0,b1,l1,hc,AV.ai]
 |true=>
  rw[hh]at hc;by_cases q1:s.es.length=1;simp[-aj,-ag,pA,cT,eC,dh,q1,b1,l1,hc,AV.ai];simp[-aj,-ag,pA,cT,eC,dh,m1,q1,b1,l1,hc,AV.ai]
 by_cases h9:k=9;subst h9;simp only[U h1,U h4,U h7,aQ];match jj:s.es,dh,m2 with
 |[e],dh,m2=>
  rw[jj]at hz cT eC;simp only[E.rows]at dh;rw[E.aE e]at dh;generalize aT [e]=kv at *;simp[-aj,-ag,pA,br,hz,cT,eC,dh,b1,l1,AV.ai]
 |[],dh,m2=>
  rw[jj]at hz cT eC;generalize aT []=kv at *;simp[-aj,-ag,pA,cT,eC,dh,b1,l1,E.rows,AV.ai]
 |e::e2::l,dh,m2=>
  rw[jj]at hz cT eC;have UW:¬((E.rows (e::e2::l)).length:Int)=1:=by simp;omega
  generalize aT (e::e2::l)=kv,E.rows (e::e2::l)=rws at *;simp[-aj,-ag,pA,cT,eC,dh,UW,b1,l1,AV.ai]
 simp only[U h1,U h4,U h7,U h9];generalize aT s.es=kv at *;by_cases h2:k=2;subst h2;by_cases q1:s.es.length=1;simp[-aj,-ag,pA,cT,eC,dh,q1,b1,l1,AV.ai];simp[-aj,-ag,pA,cT,eC,dh,m1,q1,b1,l1,AV.ai];by_cases h3:k=3;subst h3;by_cases q1:s.es.length=1;simp[-aj,-ag,pA,cT,eC,dh,q1,b1,l1,AV.ai];simp[-aj,-ag,pA,cT,eC,dh,m1,q1,b1,l1,AV.ai];by_cases h5:k=5;subst h5;by_cases q1:s.es.length=1;simp[-aj,-ag,pA,cT,eC,dh,q1,b1,l1,AV.ai];simp[-aj,-ag,pA,cT,eC,dh,m1,q1,b1,l1,AV.ai];by_cases h6:k=6;subst h6;by_cases q1:s.es.length=1;simp[-aj,-ag,pA,cT,eC,dh,q1,b1,l1,AV.ai];simp[-aj,-ag,pA,cT,eC,dh,m1,q1,b1,l1,AV.ai];by_cases h8:k=8;subst h8;by_cases q1:s.es.length=1;simp[-aj,-ag,pA,cT,eC,dh,q1,b1,l1,AV.ai];simp[-aj,-ag,pA,cT,eC,dh,m1,q1,b1,l1,AV.ai];simp[-aj,-ag,pA,cT,b1,l1,h1,h2,h3,h4,h5,h6,h7,h8,h9,AV.ai]
end R9
namespace R9
open Ax Go bY V7 kN lZ K9
variable {pre:ay}
abbrev lF(k n:Int)(nm on:List UInt8)(od:Int)(kv:AV)(a:Int)(t:T3)(z:Int):List AV:=[.int .i64 k,.int .i64 n,.str nm,.str on,.int .i64 od,kv,.int .i64 a,.int .i64 t.b,.int .i64 t.r,.int .i64 t.d,.int .i64 z]
variable{agg:Bool}{o:dA}{cs:List AV}{bx:bG}
theorem eL{wl aa n k:Nat}{r0 K:ay}:bn wl aa (.load agg n false) [.val (.ptr (pre.length+(r0.length+1)) 0 0 k)] (pre++o::(r0++.rows 0 11 [cs]::K)) bx =
  ri (pre++o::(r0++.rows 0 11 [cs]::K)) bx ((cut cs k n).bind λcs=>cm agg (AV.cW cs)):=by
 rw[aj];simp[iT]
theorem cA{aa n k:Nat}{r0 K:ay}{v:AV}(h1:v.cells.length=n)(h2:AV.bw v.cells=true)(h3:k+v.cells.length<=cs.length)(h4:AV.ax v.cells=true) :
  bn 0 aa (.store n) [.val (.ptr (pre.length+(r0.length+1)) 0 0 k),.val v] (pre++o::(r0++.rows 0 11 [cs]::K)) bx=some (.none,pre++o::(r0++.rows 0 11 [au cs k v.cells]::K),bx):=by
 rw[ag,ah ⟨h1,h2⟩];simp[fo,aV,h3,h4]
theorem gO{wl aa n j k v:Nat}{X:dA}{r0 K:ay}{rows:List (List AV)}:bn wl aa (.load agg n false) [.val (.ptr (pre.length+(r0.length+1+1)) v j k)] (pre++o::(r0++X::.rows v 11 rows::K)) bx =
  ri (pre++o::(r0++X::.rows v 11 rows::K)) bx ((match rows[j]? with|some cs=>cut cs k n|none=>none).bind λcs=>cm agg (AV.cW cs)):=by
 rw[aj];cases h:rows[j]?<;>simp[iT,h]
def sgR(k:Int):T3:=if k=12\/k=14\/k=15\/k=16\/k=17\/k=18 then tI else tB
def sgB(k:Int)(a b:T3):Bool:=if k=12\/k=14\/k=15\/k=16\/k=17\/k=18\/k=19\/k=20 then decide (a=tI)&&decide (b=tI) else if k=21\/k=22 then decide (a=b) else decide (a=tB)&&decide (b=tB)
theorem QU(aa:Nat)(o:dA)(r0:ay)(k n:Int)(nm on:List UInt8)(od a z:Int)(t:T3)(y:E)(hk:k=12\/k=13) :
  (aZ S).call 0 aa 127 [.ptr pre.length 0 0 0,.ptr (pre.length+(r0.length+1)) 0 0 0] (pre++o::(r0++[.rows 0 11 [lF k n nm on od (.mu (pre.length+(r0.length+1+1)) 0) a t z],.rows 0 11 [y.aF]])) =
  some (.bool (sgB k y.ty y.ty),pre++o::(r0++[.rows 0 11 [lF k n nm on od (.mu (pre.length+(r0.length+1+1)) 0) a (sgR k) z],.rows 0 11 [y.aF]])):=by
 have eI:=λwl aa st=>oI wl aa st;have eT:=λwl aa st=>mD wl aa st;rw[E.aE];refine aA (sf:=qI) rfl rfl rfl ?_;unfold sgB sgR;rcases hk with h|h<;>subst h;by_cases q:y.ty=tI;simp[-aj,-ag,qI,eL,cA,gO,eI,q,aD,aC,au,AV.ai];simp[-aj,-ag,qI,eL,cA,gO,eI,K9.dI,q,aD,aC,au,AV.ai];by_cases q:y.ty=tB;simp[-aj,-ag,qI,eL,cA,gO,eT,q,aD,aC,au,AV.ai];simp[-aj,-ag,qI,eL,cA,gO,eT,dB,q,aD,aC,au,AV.ai]
theorem QV(aa:Nat)(o:dA)(r0:ay)(k n:Int)(nm on:List UInt8)(od a z:Int)(t:T3)(x y:E)(hk:14<=k) :
  (aZ S).call 0 aa 127 [.ptr pre.length 0 0 0,.ptr (pre.length+(r0.length+1)) 0 0 0] (pre++o::(r0++[.rows 0 11 [lF k n nm on od (.mu (pre.length+(r0.length+1+1)) 1) a t z],.rows 1 11 [x.aF,y.aF]])) =
  some (.bool (sgB k x.ty y.ty),pre++o::(r0++[.rows 0 11 [lF k n nm on od (.mu (pre.length+(r0.length+1+1)) 1) a (sgR k) z],.rows 1 11 [x.aF,y.aF]])):=by
 have eI:=λwl aa st=>oI wl aa st;have eT:=λwl aa st=>mD wl aa st;have sX:k≠12:=by omega
 rw[E.aE x,E.aE y];refine aA (sf:=qI) rfl rfl rfl ?_;unfold sgB sgR;by_cases Pb:k=14;subst Pb;by_cases q:x.ty=tI;simp[-aj,-ag,qI,eL,cA,gO,eI,K9.dI,q,aD,aC,au,AV.ai];simp[-aj,-ag,qI,eL,cA,gO,eI,K9.dI,q,aD,aC,au,AV.ai];by_cases Rj:k=15;subst Rj;by_cases q:x.ty=tI;simp[-aj,-ag,qI,eL,cA,gO,eI,K9.dI,q,aD,aC,au,AV.ai];simp[-aj,-ag,qI,eL,cA,gO,eI,K9.dI,q,aD,aC,au,AV.ai];by_cases Rk:k=16;subst Rk;by_cases q:x.ty=tI;simp[-aj,-ag,qI,eL,cA,gO,eI,K9.dI,q,aD,aC,au,AV.ai];simp[-aj,-ag,qI,eL,cA,gO,eI,K9.dI,q,aD,aC,au,AV.ai];by_cases Rl:k=17;subst Rl;by_cases q:x.ty=tI;simp[-aj,-ag,qI,eL,cA,gO,eI,K9.dI,q,aD,aC,au,AV.ai];simp[-aj,-ag,qI,eL,cA,gO,eI,K9.dI,q,aD,aC,au,AV.ai];by_cases Rm:k=18;subst Rm;by_cases q:x.ty=tI;simp[-aj,-ag,qI,eL,cA,gO,eI,K9.dI,q,aD,aC,au,AV.ai];simp[-aj,-ag,qI,eL,cA,gO,eI,K9.dI,q,aD,aC,au,AV.ai];by_cases Rn:k=19;subst Rn;by_cases q:x.ty=tI;simp[-aj,-ag,qI,eL,cA,gO,eI,eT,K9.dI,q,aD,aC,au,AV.ai];simp[-aj,-ag,qI,eL,cA,gO,eI,eT,K9.dI,q,aD,aC,au,AV.ai];by_cases Ro:k=20;subst Ro;by_cases q:x.ty=tI;simp[-aj,-ag,qI,eL,cA,gO,eI,eT,K9.dI,q,aD,aC,au,AV.ai];simp[-aj,-ag,qI,eL,cA,gO,eI,eT,K9.dI,q,aD,aC,au,AV.ai];by_cases Rq:k=21;subst Rq;simp[-aj,-ag,qI,eL,cA,gO,eT,dU,au,AV.ai];by_cases Rr:k=22;subst Rr;simp[-aj,-ag,qI,eL,cA,gO,eT,dU,au,AV.ai];by_cases q:x.ty=tB;simp[-aj,-ag,qI,eL,cA,gO,eT,sX,Pb,Rj,Rk,Rl,Rm,Rn,Ro,Rq,Rr,dB,q,aD,aC,au,AV.ai];simp[-aj,-ag,qI,eL,cA,gO,eT,sX,Pb,Rj,Rk,Rl,Rm,Rn,Ro,Rq,Rr,dB,q,aD,aC,au,AV.ai]
theorem QW{H:Hd}{V:List Vd}{k:Int}{nm on:List UInt8}{od:Int}{ks:List E}(hk:12<=k):lM H V k nm on od ks=DB (sgB k (rU ks) (if k=12\/k=13 then rU ks else CF ks)) (sgR k):=by
 unfold lM sgB sgR;rw[U (by omega),U (by omega),U (by omega),U (by omega),U (by omega),U (by omega),U (by omega),U (by omega),U (by omega),U (by omega)];by_cases sX:k=12;subst sX;simp;by_cases Bs:k=13;subst Bs;simp;unfold KU;rw[U sX,U Bs];have g:(if k=12\/k=13 then rU ks else CF ks)=CF ks:=U (by omega);rw[g];by_cases c1:k=14\/k=15\/k=16\/k=17\/k=18;rcases c1 with h|h|h|h|h<;>subst h<;>simp;rw[U c1];by_cases c2:k=19\/k=20;rcases c2 with h|h<;>subst h<;>simp;rw[U c2,U (show ¬(k=12\/k=14\/k=15\/k=16\/k=17\/k=18\/k=19\/k=20) by omega),U (show ¬(k=12\/k=14\/k=15\/k=16\/k=17\/k=18) by omega)];split<;>rfl
end R9
namespace R9
open Ax Go bY V7 kN lZ K9
variable {pre:ay}
def Jn(pre:ay)(o:dA)(r0 K:ay)(q:Option (T3×Int))(aF:T3->Int->List AV)(v:AV)(st:ay):Prop:=∃b Y,v=.bool b/\st=pre++o::(r0++Y::K)/\match q with
 |none=>b=false|some (u,z)=>b=true/\Y=.rows 0 11 [aF u z]
variable{o:dA}{aF:T3->Int->List AV}
theorem jr{r0 K:ay}{Y:dA}:Jn pre o r0 K none aF (.bool false) (pre++o::(r0++Y::K)):=⟨false,Y,rfl,rfl,rfl⟩
theorem nk{r0 K:ay}{u:T3}{z:Int}:Jn pre o r0 K (some (u,z)) aF (.bool true) (pre++o::(r0++.rows 0 11 [aF u z]::K)):=⟨true,_,rfl,rfl,rfl,rfl⟩
theorem Bk{r0 K:ay}{u:T3}{b:Bool}:Jn pre o r0 K (DB b u) aF (.bool b) (pre++o::(r0++.rows 0 11 [aF u 0]::K)):=by
 cases b;exact jr;exact nk
theorem Vl(aa:Nat)(c:CK)(r0:ay)(e:E)(k n:Int)(nm on:List UInt8)(od a z:Int)(t:T3)(v:Nat)(ys:List E)(hs:qV c)(hn:ys.length<1000000000) :
  ∃v' st',(aZ S).call 0 aa 158 [.ptr pre.length 0 0 0,.agg e.aF,.ptr (pre.length+(r0.length+1)) 0 0 0] (pre++c.aX::(r0++[.rows 0 11 [lF k n nm on od (.mu (pre.length+(r0.length+1+1)) v) a t z],.rows v 11 (E.rows ys)]))=some (v',st')/\
   Jn pre c.aX r0 [.rows v 11 (E.rows ys)] (oY c.H e.nm ys) (lF k n e.nm on od (.mu (pre.length+(r0.length+1+1)) v) a) v' st':=by
 have hS:=hs.S;have UT:cJ 6 (aJ 6 (c.H.aY.map Sg.aF))=true:=dQ (by simp[cn,Sg.aF]);have YT:aN (aJ 6 (c.H.aY.map Sg.aF))=true:=bI;have QM:bt (aJ 6 (c.H.aY.map Sg.aF))=c.H.aY.map Sg.aF:=aW;have YU:=λwl aa r bx=>UO (pre:=pre) (wl:=wl) (aa:=aa) (c:=c) (r:=r) (bx:=bx);have oN:aN (aT e.aG)=true:=bz;have LW:(aT e.aG).ai=aT e.aG:=bu;rw[E.aE e];generalize aT e.aG=kv,aJ 6 (c.H.aY.map Sg.aF)=SV,c.aX=o at *;refine fP (sf:=Uf) rfl rfl rfl ?_;simp[-aj,-ag,Uf,cA,oN,au];refine bH IK.eq_1 (λq:Nat×List AV=>⟨[(0,.val (.ptr pre.length 0 0 0)),(2,.val (.ptr (pre.length+(r0.length+1)) 0 0 0)),(4,.fp 0 0),(7,.val (.int .i64 q.1))],[[.int .i64 e.k,.int .i64 e.n,.str e.nm,.str e.on,.int .i64 e.od,kv,.int .i64 e.a,.int .i64 e.ty.b,.int .i64 e.ty.r,.int .i64 e.ty.d,.int .i64 e.ref],q.2],
   pre++o::(r0++[.rows 0 11 [lF k n e.nm on od (.mu (pre.length+(r0.length+1+1)) v) a t z],.rows v 11 (E.rows ys)])⟩)
  (λq=>q.1<=c.H.aY.length/\mV e.nm 0 c.H.aY=mV e.nm q.1 (c.H.aY.drop q.1)) (λq=>c.H.aY.length-q.1) (0,[]) (by simp) ⟨by simp,by simp⟩ ?_
 rintro⟨i,b1⟩ ⟨hi,hp⟩ ih;simp only at hi hp ih;by_cases bC:i<c.H.aY.length;have hw:=wk i (by omega);rw[Ft bC]at hp;have gS:∀h:i<(c.H.aY.map Sg.aF).length,(c.H.aY.map Sg.aF)[i]=[.str c.H.aY[i].nm,bP c.H.aY[i].ps,.bool c.H.aY[i].cP,.int .i64 c.H.aY[i].cH.b,.int .i64 c.H.aY[i].cH.r,.int .i64 c.H.aY[i].cH.d]:=λh=>by simp[Sg.aF]
 have kG:i<(c.H.aY.map Sg.aF).length:=by simpa using bC
 have Fu:=gS kG;clear gS;have hnp:=hs.P _ (aaq bC);have hzp:cJ 4 (bP c.H.aY[i].ps)=true:=rW;have lI:aN (bP c.H.aY[i].ps)=true:=dn;have Vm:bt (bP c.H.aY[i].ps)=c.H.aY[i].ps.map Vd.aF:=pL;have C8:(bP c.H.aY[i].ps).ai=bP c.H.aY[i].ps:=eA;have fD:=λb1=>ih (i+1,b1);simp only at fD;generalize Yc:c.H.aY.map Sg.aF=RS at *;have hgg:c.H.aY[i]?=some c.H.aY[i]:=aag bC;generalize c.H.aY[i]=g at *;by_cases h:g.nm=e.nm;rw[ah h]at hp;have o6:oY c.H e.nm ys=if iR g.ps ys then some (g.cH,(i:Int)) else none:=by unfold oY;rw[hp]
 rw[o6];by_cases hl:g.ps.length=ys.length;generalize bP g.ps=PV at *;simp[-aj,-ag,eL,br,YU,YT,UT,QM,kG,Fu,lI,Vm,C8,h,hl,bg,bO,au];clear ih fD;refine bH IJ.eq_1 (λj:Nat=>⟨[(2,.val (.ptr (pre.length+(r0.length+1)) 0 0 0)),(7,.val (.int .i64 i)),(8,.fp 1 0),(9,.val (.int .i64 j))],[[.int .i64 e.k,.int .i64 e.n,.str e.nm,.str e.on,.int .i64 e.od,kv,.int .i64 e.a,.int .i64 e.ty.b,.int .i64 e.ty.r,.int .i64 e.ty.d,.int .i64 e.ref],
   [.str e.nm,PV,.bool g.cP,.int .i64 g.cH.b,.int .i64 g.cH.r,.int .i64 g.cH.d]],
   pre++o::(r0++[.rows 0 11 [lF k n e.nm on od (.mu (pre.length+(r0.length+1+1)) v) a t z],.rows v 11 (E.rows ys)])⟩)
  (λj=>j<=ys.length/\iR g.ps ys=iR (g.ps.drop j) (ys.drop j)) (λj=>ys.length-j) 0 (by simp) ⟨by simp,by simp⟩ ?_
 rintro j ⟨hj,hq⟩ ih;by_cases z6:j<ys.length;have hwj:=wk j (by omega);have hjp:j<g.ps.length:=by omega
 rw[HI hjp z6]at hq;have gE:=xT z6;have gV:∀h:j<(g.ps.map Vd.aF).length,(g.ps.map Vd.aF)[j]=[.str g.ps[j].nm,.int .i64 g.ps[j].ty.b,.int .i64 g.ps[j].ty.r,.int .i64 g.ps[j].ty.d]:=λh=>by simp[Vd.aF]
 have ZN:j<(g.ps.map Vd.aF).length:=by simpa using hjp
 have gV':=gV ZN;clear gV;have gV2:(g.ps.map Vd.aF)[j]?=some [.str g.ps[j].nm,.int .i64 g.ps[j].ty.b,.int .i64 g.ps[j].ty.r,.int .i64 g.ps[j].ty.d]:=by simp[hjp,Vd.aF]
 rw[E.aE]at gE;have Zk:j<(E.rows ys).length:=by simpa using z6
 have mY:=qM z6 Zk;rw[E.aE]at mY;generalize hRY:E.rows ys=RY at *;generalize hRP:g.ps.map Vd.aF=RP at *;by_cases qq:ys[j].ty=g.ps[j].ty;have dq:(decide (ys[j].ty.b=g.ps[j].ty.b)&&(decide (ys[j].ty.r=g.ps[j].ty.r)&&decide (ys[j].ty.d=g.ps[j].ty.d)))=true:=by rw[dU];exact bM qq
 rw[bM qq,Bool.true_and]at hq;generalize ys[j]=y,g.ps[j]=f at *;simp[-aj,-ag,eL,gO,br,Zk,mY,gV',hzp,Vm,ZN,qq,hwj,bg,bO];exact ih (j+1) ⟨by omega,hq⟩ (by omega);rw[cu qq,Bool.false_and]at hq;rw[hq];generalize ys[j]=y,g.ps[j]=f at *;simp[-aj,-ag,eL,gO,br,Zk,mY,gV',hzp,Vm,ZN,dU,qq,bg,bO];exact jr;have fR:j=ys.length:=by omega
 have:iR g.ps ys=true:=by rw[hq,fR,aaC,<-hl,aaC];rfl
 rw[this];simp[-aj,-ag,eL,cA,fR,au];exact nk;have iI:iR g.ps ys=false:=by
  cases hq:iR g.ps ys with
  |false=>rfl|true=>exact aU (A4 hq) hl
 rw[iI];generalize bP g.ps=PV at *;simp[-aj,-ag,eL,br,YU,YT,UT,QM,kG,Fu,lI,Vm,C8,h,hl,bg,bO,au];exact jr;rw[U h]at hp;generalize bP g.ps=PV at *;simp[-aj,-ag,br,YU,YT,UT,QM,kG,Fu,lI,C8,h,hw,au];exact fD _ ⟨by omega,hp⟩ (by omega);have fR:i=c.H.aY.length:=by omega
 have iI:mV e.nm 0 c.H.aY=none:=by rw[hp,fR,aaC];rfl
 have o6:oY c.H e.nm ys=none:=by unfold oY;rw[iI]
 rw[o6];simp[-aj,-ag,YU,YT,QM,bC];exact jr
end R9
namespace R9
open Ax Go bY V7 kN lZ K9
variable {pre:ay}
theorem As(aa:Nat)(c:CK)(r0:ay)(e:E)(k n:Int)(nm on:List UInt8)(od a z:Int)(t:T3)(hs:qV c) :
  ∃v' st',(aZ S).call 0 aa 158 [.ptr pre.length 0 0 0,.agg e.aF,.ptr (pre.length+(r0.length+1)) 0 0 0] (pre++c.aX::(r0++[.rows 0 11 [lF k n nm on od .af a t z]]))=some (v',st')/\
   Jn pre c.aX r0 [] (oY c.H e.nm []) (lF k n e.nm on od .af a) v' st':=by
 have hS:=hs.S;have UT:cJ 6 (aJ 6 (c.H.aY.map Sg.aF))=true:=dQ (by simp[cn,Sg.aF]);have YT:aN (aJ 6 (c.H.aY.map Sg.aF))=true:=bI;have QM:bt (aJ 6 (c.H.aY.map Sg.aF))=c.H.aY.map Sg.aF:=aW;have YU:=λwl aa r bx=>UO (pre:=pre) (wl:=wl) (aa:=aa) (c:=c) (r:=r) (bx:=bx);have oN:aN (aT e.aG)=true:=bz;have LW:(aT e.aG).ai=aT e.aG:=bu;rw[E.aE e];generalize aT e.aG=kv,aJ 6 (c.H.aY.map Sg.aF)=SV,c.aX=o at *;refine fP (sf:=Uf) rfl rfl rfl ?_;simp[-aj,-ag,Uf,cA,oN,au];refine bH IK.eq_1 (λq:Nat×List AV=>⟨[(0,.val (.ptr pre.length 0 0 0)),(2,.val (.ptr (pre.length+(r0.length+1)) 0 0 0)),(4,.fp 0 0),(7,.val (.int .i64 q.1))],[[.int .i64 e.k,.int .i64 e.n,.str e.nm,.str e.on,.int .i64 e.od,kv,.int .i64 e.a,.int .i64 e.ty.b,.int .i64 e.ty.r,.int .i64 e.ty.d,.int .i64 e.ref],q.2],
   pre++o::(r0++[.rows 0 11 [lF k n e.nm on od .af a t z]])⟩)
  (λq=>q.1<=c.H.aY.length/\mV e.nm 0 c.H.aY=mV e.nm q.1 (c.H.aY.drop q.1)) (λq=>c.H.aY.length-q.1) (0,[]) (by simp) ⟨by simp,by simp⟩ ?_
 rintro⟨i,b1⟩ ⟨hi,hp⟩ ih;simp only at hi hp ih;by_cases bC:i<c.H.aY.length;have hw:=wk i (by omega);rw[Ft bC]at hp;have gS:∀h:i<(c.H.aY.map Sg.aF).length,(c.H.aY.map Sg.aF)[i]=[.str c.H.aY[i].nm,bP c.H.aY[i].ps,.bool c.H.aY[i].cP,.int .i64 c.H.aY[i].cH.b,.int .i64 c.H.aY[i].cH.r,.int .i64 c.H.aY[i].cH.d]:=λh=>by simp[Sg.aF]
 have kG:i<(c.H.aY.map Sg.aF).length:=by simpa using bC
 have Fu:=gS kG;clear gS;have hnp:=hs.P _ (aaq bC);have hzp:cJ 4 (bP c.H.aY[i].ps)=true:=rW;have lI:aN (bP c.H.aY[i].ps)=true:=dn;have Vm:bt (bP c.H.aY[i].ps)=c.H.aY[i].ps.map Vd.aF:=pL;have C8:(bP c.H.aY[i].ps).ai=bP c.H.aY[i].ps:=eA;have fD:=λb1=>ih (i+1,b1);simp only at fD;generalize Yc:c.H.aY.map Sg.aF=RS at *;have hgg:c.H.aY[i]?=some c.H.aY[i]:=aag bC;generalize c.H.aY[i]=g at *;by_cases h:g.nm=e.nm;rw[ah h]at hp;have o6:oY c.H e.nm []=if iR g.ps [] then some (g.cH,(i:Int)) else none:=by unfold oY;rw[hp]
 rw[o6];by_cases hl:g.ps.length=0;generalize bP g.ps=PV at *;simp[-aj,-ag,eL,br,YU,YT,UT,QM,kG,Fu,lI,Vm,C8,h,hl,bg,bO,au];clear ih fD;refine bH IJ.eq_1 (λj:Nat=>⟨[(2,.val (.ptr (pre.length+(r0.length+1)) 0 0 0)),(7,.val (.int .i64 i)),(8,.fp 1 0),(9,.val (.int .i64 j))],[[.int .i64 e.k,.int .i64 e.n,.str e.nm,.str e.on,.int .i64 e.od,kv,.int .i64 e.a,.int .i64 e.ty.b,.int .i64 e.ty.r,.int .i64 e.ty.d,.int .i64 e.ref],
   [.str e.nm,PV,.bool g.cP,.int .i64 g.cH.b,.int .i64 g.cH.r,.int .i64 g.cH.d]],
   pre++o::(r0++[.rows 0 11 [lF k n e.nm on od .af a t z]])⟩)
  (λj=>j<=0/\iR g.ps []=iR (g.ps.drop j) []) (λj=>0-j) 0 (by simp) ⟨by simp,by simp⟩ ?_
 rintro j ⟨hj,hq⟩ ih;have fR:j=0:=by omega
 have:iR g.ps []=true:=by rw[List.length_eq_zero_iff.1 hl];rfl
 rw[this];simp[-aj,-ag,eL,cA,fR,au];exact nk;have iI:iR g.ps []=false:=by
  cases hq:iR g.ps [] with
  |false=>rfl|true=>exact aU (A4 hq) hl
 rw[iI];generalize bP g.ps=PV at *;simp[-aj,-ag,eL,br,YU,YT,UT,QM,kG,Fu,lI,Vm,C8,h,hl,bg,bO,au];exact jr;rw[U h]at hp;generalize bP g.ps=PV at *;simp[-aj,-ag,br,YU,YT,UT,QM,kG,Fu,lI,C8,h,hw,au];exact fD _ ⟨by omega,hp⟩ (by omega);have fR:i=c.H.aY.length:=by omega
 have iI:mV e.nm 0 c.H.aY=none:=by rw[hp,fR,aaC];rfl
 have o6:oY c.H e.nm []=none:=by unfold oY;rw[iI]
 rw[o6];simp[-aj,-ag,YU,YT,QM,bC];exact jr
variable{l:List (List UInt8)}
theorem QX:qT (aJ 1 (gQ l))=true:=by
 unfold qT mq;rw[N7.AX,N7.yE (by simp[cn,gQ]),aW];simp[gQ,ON]
theorem Lz:eU (aJ 1 (gQ l))=l:=by
 simp only[eU,aW,gQ,List.map_map];conv=>rhs;rw[<-List.map_id l]
 exact List.map_congr_left λ_ _=>rfl
theorem Jo(wl aa:Nat)(l:List (List UInt8))(s:List UInt8)(d:Int)(st:ay)(hn:l.length<1000000000) :
  (aZ S).call wl aa 81 [aJ 1 (gQ l),.agg [.str s,.int .i64 d]] st=some (Nb (cB l s d),st):=by
 rw[U7.FL wl aa (aJ 1 (gQ l)) s d st QX (by rw[Lz];exact hn),Lz]
 rfl
theorem Jm(wl aa:Nat)(t:T3)(st:ay):(aZ S).call wl aa 157 [.agg [.int .i64 t.b,.int .i64 t.r,.int .i64 t.d]] st=some (.bool (BQ t),st):=U7.Jm wl aa t st
def rK(i:Nat)(ys:List E):AV:=if ys.isEmpty then .af else .mu i (ys.length-1)
def kK(ys:List E):ay:=if ys.isEmpty then [] else [.rows (ys.length-1) 11 (E.rows ys)]
theorem Vn(aa:Nat)(c:CK)(r0:ay)(e:E)(k n:Int)(nm on:List UInt8)(od a z:Int)(t:T3)(ys:List E)(hs:qV c)(hn:ys.length<1000000000) :
  ∃v' st',(aZ S).call 0 aa 158 [.ptr pre.length 0 0 0,.agg e.aF,.ptr (pre.length+(r0.length+1)) 0 0 0] (pre++c.aX::(r0++.rows 0 11 [lF k n nm on od (rK (pre.length+(r0.length+1+1)) ys) a t z]::kK ys))=some (v',st')/\
   Jn pre c.aX r0 (kK ys) (oY c.H e.nm ys) (lF k n e.nm on od (rK (pre.length+(r0.length+1+1)) ys) a) v' st':=by
 cases ys with
 |nil=>exact As (pre:=pre) aa c r0 e k n nm on od a z t hs|cons y l=>exact Vl (pre:=pre) aa c r0 e k n nm on od a z t ((y::l).length-1) (y::l) hs hn
end R9
namespace R9
open Ax Go bY V7 kN lZ K9
variable {pre:ay}
theorem Fl(aa:Nat)(c:CK)(r0:ay)(e:E)(ys:List E)(hs:qV c)(hn:ys.length<1000000000)(hk:gK e.k e.n ys.length=true)(sX:e.k<12)(Yc:c.H.rs.length=c.H.bE.length)(hw:∀x∈ys,WT c.H.rs.length x.ty) :
  ∃v' st',(aZ S).call 0 aa 128 [.ptr pre.length 0 0 0,.agg e.aF,.ptr (pre.length+(r0.length+1)) 0 0 0] (pre++c.aX::(r0++.rows 0 11 [lF e.k 0 [] [] 0 (rK (pre.length+(r0.length+1+1)) ys) e.a T0 0]::kK ys))=some (v',st')/\
   Jn pre c.aX r0 (kK ys) (lM c.H c.V e.k e.nm e.on e.od ys) (lF e.k (qt e.k e.n) (kY e.k e.nm) (kZ e.k e.on) (k5 e.k e.od) (rK (pre.length+(r0.length+1+1)) ys) e.a) v' st':=by
 have eI:=λwl aa st=>oI wl aa st;have eT:=λwl aa st=>mD wl aa st;have eV:=λaa r=>iF (pre:=pre) aa c e.nm r hs;have qv:=λwl aa st=>Jo wl aa c.H.rs e.on e.od st hs.R;have O1:=λwl aa st=>Jm wl aa (cB c.H.rs e.on e.od).1 st;have ecl:=λaa k n nm on od a z t=>Vn (pre:=pre) aa c r0 e k n nm on od a z t ys hs hn;have LA:=λwl aa r bx=>wA (pre:=pre) (wl:=wl) (aa:=aa) (c:=c) (r:=r) (bx:=bx);have esh:=λwl aa r bx=>X7 (pre:=pre) (wl:=wl) (aa:=aa) (c:=c) (r:=r) (bx:=bx);have oN:aN (aT e.aG)=true:=bz;have LW:(aT e.aG).ai=aT e.aG:=bu;have ZW:=ox c.H.rs e.on e.od;rw[E.aE e]at *;generalize aT e.aG=kv at *;have nil:∀j,e.k=j->(j=1\/j=2\/j=3\/j=4\/j=8\/j=11)->ys=[]:=λj hj h=>by
  rw[hj]at hk;rcases h with h|h|h|h|h|h<;>subst h<;>simp[gK]at hk<;>first|exact hk|exact hk.1
 have one:∀j,e.k=j->(j=5\/j=9\/j=10)->∃x,ys=[x]:=λj hj h=>by
  have hlen:ys.length=1:=by
   rw[hj]at hk;rcases h with h|h|h<;>subst h<;>simpa [gK] using hk
  match ys,hlen with
  |[x],_=>exact⟨x,rfl⟩
 by_cases h1:e.k=1;have hy:=nil 1 h1 (by simp);subst hy;rw[h1];refine fP (sf:=mo) rfl rfl rfl ?_;simp[-aj,-ag,mo,cA,rK,kK,eI,oN,au,AV.ai];exact nk;by_cases h2:e.k=2;have hy:=nil 2 h2 (by simp);subst hy;rw[h2];refine fP (sf:=mo) rfl rfl rfl ?_;simp[-aj,-ag,mo,cA,rK,kK,eT,oN,au,AV.ai];exact nk;by_cases z7:e.k=11;have hy:=nil 11 z7 (by simp);subst hy;rw[z7];refine fP (sf:=mo) rfl rfl rfl ?_;simp[-aj,-ag,mo,cA,rK,kK,eI,oN,au,AV.ai];exact nk;by_cases h3:e.k=3;have hy:=nil 3 h3 (by simp);subst hy;rw[h3];have JB:lM c.H c.V 3 e.nm e.on e.od []=DB ((cB c.H.rs e.on e.od).2&&BQ (cB c.H.rs e.on e.od).1) (cB c.H.rs e.on e.od).1:=rfl;rw[JB];refine fP (sf:=mo) rfl rfl rfl ?_;unfold Nb at qv;generalize cB c.H.rs e.on e.od=tt at *;obtain⟨t,b⟩:=tt;generalize c.aX=o at *;cases b;simp[-aj,-ag,mo,cA,rK,kK,LA,qv,oN,au,AV.ai,bg,bO];exact jr;cases hr:BQ t with
 |false=>
  rw[hr]at O1;simp[-aj,-ag,mo,cA,rK,kK,LA,qv,O1,oN,au,AV.ai,bg,bO];exact jr
 |true=>
  rw[hr]at O1;simp[-aj,-ag,mo,cA,rK,kK,LA,qv,O1,oN,au,AV.ai,bg,bO];exact nk
 by_cases h8:e.k=8;have hy:=nil 8 h8 (by simp);subst hy;rw[h8];have JB:lM c.H c.V 8 e.nm e.on e.od []=DB ((cB c.H.rs e.on e.od).2&&decide ((cB c.H.rs e.on e.od).1.b=3)&&decide ((cB c.H.rs e.on e.od).1.d=0)) (cB c.H.rs e.on e.od).1:=rfl;rw[JB];refine fP (sf:=mo) rfl rfl rfl ?_;unfold Nb at qv;generalize cB c.H.rs e.on e.od=tt at *;obtain⟨t,b⟩:=tt;generalize c.aX=o at *;cases b;simp[-aj,-ag,mo,cA,rK,kK,LA,qv,oN,au,AV.ai,bg,bO];exact jr;by_cases hd:t.d=0;have Ew:(t.d=0)=True:=eq_true hd;by_cases hb:t.b=3;have hr:BQ t=true:=by unfold BQ;simp[hb]
 rw[hr]at O1;rw[bM hb,bM hd];simp[-aj,-ag,mo,cA,rK,kK,LA,qv,O1,Ew,oN,au,AV.ai,bg,bO];exact nk;have hr:BQ t=false:=by unfold BQ;simp[hb,hd]
 rw[hr]at O1;rw[cu hb];simp[-aj,-ag,mo,cA,rK,kK,LA,qv,O1,oN,au,AV.ai,bg,bO];exact jr;cases hr:BQ t with
 |false=>
  rw[hr]at O1;simp[-aj,-ag,mo,cA,rK,kK,LA,qv,O1,hd,oN,au,AV.ai,bg,bO];exact jr
 |true=>
  rw[hr]at O1;simp[-aj,-ag,mo,cA,rK,kK,LA,qv,O1,hd,oN,au,AV.ai,bg,bO];exact jr
 by_cases h4:e.k=4;have hy:=nil 4 h4 (by simp);subst hy;rw[h4];have JB:lM c.H c.V 4 e.nm e.on e.od []=uw c.H c.V e.nm:=rfl;rw[JB];refine fP (sf:=mo) rfl rfl rfl ?_;generalize uw c.H c.V e.nm=vt,c.aX=o at *;cases vt with
 |none=>
  simp[-aj,-ag,mo,cA,rK,kK,eV,oR,oN,au,AV.ai];exact jr
 |some x=>
  simp[-aj,-ag,mo,cA,rK,kK,eV,oR,oN,au,AV.ai];exact nk
 by_cases h9:e.k=9;obtain⟨y,rfl⟩:=one 9 h9 (by simp);rw[h9];have JB:lM c.H c.V 9 e.nm e.on e.od [y]=DB ((cB c.H.rs e.on e.od).2&&decide ((cB c.H.rs e.on e.od).1.d<3)&&decide (y.ty=tI)) ⟨(cB c.H.rs e.on e.od).1.b,(cB c.H.rs e.on e.od).1.r,(cB c.H.rs e.on e.od).1.d+1⟩:=rfl;rw[JB];refine fP (sf:=mo) rfl rfl rfl ?_;have wu:IntKind.i64.wrap ((cB c.H.rs e.on e.od).1.d+1)=(cB c.H.rs e.on e.od).1.d+1:=by
  have:=ZW.1;have:=ZW.2.1;rw[eR]<;>omega
 unfold Nb at qv;generalize cB c.H.rs e.on e.od=tt at *;obtain⟨t,b⟩:=tt;generalize c.aX=o at *;dsimp only;cases b;simp[-aj,-ag,mo,cA,rK,kK,E.rows,E.aE,LA,qv,wu,oN,au,AV.ai,aD,bg,bO,aC];exact jr;by_cases q:t.d<3;simp[-aj,-ag,mo,eL,cA,gO,rK,kK,E.rows,E.aE,LA,qv,eI,K9.dI,q,wu,oN,au,AV.ai,aD,bg,bO,aC];exact Bk;simp[-aj,-ag,mo,cA,rK,kK,E.rows,E.aE,LA,qv,q,wu,oN,au,AV.ai,aD,bg,bO,aC];exact jr;by_cases Bx:e.k=10;obtain⟨y,rfl⟩:=one 10 Bx (by simp);rw[Bx];have JB:lM c.H c.V 10 e.nm e.on e.od [y]=DB (decide (0<y.ty.d)) tI:=rfl;rw[JB];refine fP (sf:=mo) rfl rfl rfl ?_;generalize c.aX=o at *;simp[-aj,-ag,mo,eL,cA,gO,rK,kK,E.rows,E.aE,eI,oN,au,AV.ai];exact Bk;by_cases h6:e.k=6;obtain⟨x,y,rfl⟩:∃x y,ys=[x,y]:=by
  have hlen:ys.length=2:=by rw[h6]at hk;simpa [gK] using hk
  match ys,hlen with
  |[x,y],_=>exact⟨x,y,rfl⟩
 rw[h6];have JB:lM c.H c.V 6 e.nm e.on e.od [x,y]=DB (decide (0<x.ty.d)&&decide (y.ty=tI)) ⟨x.ty.b,x.ty.r,x.ty.d-1⟩:=rfl;rw[JB];have wu:IntKind.i64.wrap (x.ty.d-1)=x.ty.d-1:=by
  have wx:=hw x (by simp);have:=wx.1;have:=wx.2.1;rw[eR]<;>omega
 refine fP (sf:=mo) rfl rfl rfl ?_;generalize c.aX=o at *;by_cases q:0<x.ty.d;simp[-aj,-ag,mo,eL,cA,gO,rK,kK,E.rows,E.aE,eI,K9.dI,q,wu,oN,au,AV.ai,aD,aC];exact Bk;simp[-aj,-ag,mo,eL,cA,gO,rK,kK,E.rows,E.aE,q,wu,oN,au,AV.ai,aD,aC];exact jr;by_cases h5:e.k=5;obtain⟨y,rfl⟩:=one 5 h5 (by simp);rw[h5];have JB:lM c.H c.V 5 e.nm e.on e.od [y]=xO c.H y.ty e.nm:=rfl;rw[JB];refine fP (sf:=mo) rfl rfl rfl ?_;have Pt:cJ 2 (aJ 2 (c.H.bE.map dz))=true:=dQ (by simp[cn,dz]);have oF:aN (aJ 2 (c.H.bE.map dz))=true:=bI;have DD:bt (aJ 2 (c.H.bE.map dz))=c.H.bE.map dz:=aW;generalize aJ 2 (c.H.bE.map dz)=SV,c.aX=o at *;unfold xO;by_cases hb:y.ty.b=3;by_cases hd:y.ty.d=0;rw[ah ⟨hb,hd⟩];have wy:=(hw y (by simp)).2.2 hb;rw[Yc]at wy;obtain⟨j,hj⟩:∃j:Nat,y.ty.r=j:=⟨y.ty.r.toNat,by omega⟩;have z6:j<c.H.bE.length:=by omega
 have hg:c.H.bE[j]?=some c.H.bE[j]:=aag z6;have hF:=hs.F _ (aaq z6);have Ya:∀h:j<(c.H.bE.map dz).length,(c.H.bE.map dz)[j]=[.str c.H.bE[j].1,bP c.H.bE[j].2]:=λh=>by simp[dz]
 have ahD:j<(c.H.bE.map dz).length:=by simpa using z6
 have amj:=Ya ahD;clear Ya;generalize c.H.bE[j]=sh,c.H.bE.map dz=RS at *;rw[hj,Int.toNat_natCast,hg];simp only;have hzp:cJ 4 (bP sh.2)=true:=rW;have lI:aN (bP sh.2)=true:=dn;have Vm:bt (bP sh.2)=sh.2.map Vd.aF:=pL;have C8:(bP sh.2).ai=bP sh.2:=eA;generalize bP sh.2=PV at *;simp[-aj,-ag,mo,eL,cA,gO,br,esh,Pt,DD,ahD,amj,C8,rK,kK,E.rows,E.aE,hb,hd,hj,oN,au,AV.ai,aD,aC];refine bH OD.eq_1 (λi:Nat=>⟨[(2,.val (.ptr (pre.length+(r0.length+1)) 0 0 0)),(4,.fp 0 0),(16,.val PV),(17,.val (.int .i64 i))],[[.int .i64 5,.int .i64 e.n,.str e.nm,.str e.on,.int .i64 e.od,kv,.int .i64 e.a,.int .i64 e.ty.b,.int .i64 e.ty.r,.int .i64 e.ty.d,.int .i64 e.ref],[],[],[],[],[.int .i64 3,.int .i64 j,.int .i64 0]],
   pre++o::(r0++[.rows 0 11 [lF 5 0 e.nm [] 0 (.mu (pre.length+(r0.length+1+1)) 0) e.a T0 0],.rows 0 11 [[.int .i64 y.k,.int .i64 y.n,.str y.nm,.str y.on,.int .i64 y.od,aT y.aG,.int .i64 y.a,.int .i64 3,.int .i64 j,.int .i64 0,.int .i64 y.ref]]])⟩)
  (λi=>i<=sh.2.length/\fN e.nm 0 sh.2=fN e.nm i (sh.2.drop i)) (λi=>sh.2.length-i) 0 (by simp) ⟨by simp,by simp⟩ ?_
 rintro i ⟨hi,hp⟩ ih;by_cases F9:i<sh.2.length;have hwi:=wk i (by omega);rw[u5 F9]at hp;by_cases q:sh.2[i].nm=e.nm;rw[ah q]at hp;rw[hp];simp[-aj,-ag,cA,br,hzp,lI,Vm,C8,F9,q,Vd.aF,au,AV.ai,aD,aC];exact nk;rw[U q]at hp;simp[-aj,-ag,br,hzp,lI,Vm,C8,F9,q,hwi,Vd.aF,AV.ai,aD,aC];exact ih (i+1) ⟨by omega,hp⟩ (by omega);have fR:i=sh.2.length:=by omega
 have iI:fN e.nm 0 sh.2=none:=by rw[hp,fR,aaC];rfl
 rw[iI];simp[-aj,-ag,lI,Vm,F9];exact jr;rw[U (λh=>hd h.2)];simp[-aj,-ag,mo,eL,cA,gO,rK,kK,E.rows,E.aE,hb,hd,oN,au,AV.ai];exact jr;rw[U (λh=>hb h.1)];simp[-aj,-ag,mo,eL,cA,gO,rK,kK,E.rows,E.aE,hb,oN,au,AV.ai];exact jr;have h7:e.k=7:=by
  have:(0:Int)<e.k:=by
   apply Classical.byContradiction;intro hc;unfold gK at hk;rw[U (by omega),U h2,U (by omega),U (by omega)]at hk;simp[h6]at hk;omega
  omega
 rw[h7];have JB:lM c.H c.V 7 e.nm e.on e.od ys=oY c.H e.nm ys:=rfl;rw[JB];obtain⟨v',st',e1,e2⟩:=ecl ((pre++c.aX::(r0++.rows 0 11 [lF 7 0 [] [] 0 (rK (pre.length+(r0.length+1+1)) ys) e.a T0 0]::kK ys)).length) 7 0 [] [] 0 e.a 0 T0;refine⟨v',st',?_,e2⟩;obtain⟨b,Y,rfl,rfl,_⟩:=e2;simp only[abr,List.length_append,h7]at e1;have hkc:(rK (pre.length+(r0.length+1+1)) ys).dj=true:=by unfold rK;split<;>rfl
 generalize c.aX=o,rK (pre.length+(r0.length+1+1)) ys=kw,kK ys=K at *;refine aA (sf:=mo) rfl rfl rfl ?_;simp[-aj,-ag,mo,e1,oN,LW,AV.ai]
end R9
namespace R9
open Ax Go bY V7 kN lZ K9
variable {pre:ay}
def Lf(pre:ay)(c:CK)(e:E):Prop:=match zh c.H c.V e with
 |.ok y=>∀aa r,(aZ S).call 0 aa 104 [.ptr pre.length 0 0 0,.agg e.aF] (pre++c.aX::r)=some (.agg y.aF,pre++c.aX::r)|.error a=>∀aa r,(aZ S).call 0 aa 104 [.ptr pre.length 0 0 0,.agg e.aF] (pre++c.aX::r)=some (.agg E0.aF,pre++(c.fail a).aX::r)
def LS(pre:ay)(c:CK)(e:E):Prop:=match Fv c e with
 |.ok y=>∀aa r,(aZ S).call 0 aa 105 [.ptr pre.length 0 0 0,.agg e.aF] (pre++c.aX::r)=some (.agg y.aF,pre++c.aX::r)|.error a=>∃y:E,∀aa r,(aZ S).call 0 aa 105 [.ptr pre.length 0 0 0,.agg e.aF] (pre++c.aX::r)=some (.agg y.aF,pre++(c.fail a).aX::r)
theorem Jp:E0.aF=[.int .i64 0,.int .i64 0,.str [],.str [],.int .i64 0,.af,.int .i64 0,.int .i64 0,.int .i64 0,.int .i64 0,.int .i64 0]:=by simp[E0,E.aF,E.rows]
theorem ahE{H:Hd}{V:List Vd}{e y:E}(h:zh H V e=.ok y):y.a=e.a:=by
 obtain⟨ks,t,r,_,_,_,rfl⟩:=BW h
 rfl
theorem xU(c:CK)(e:E)(hf:c.fe=0)(h:Lf pre c e):LS pre c e:=by
 unfold Lf at h;unfold LS Fv;have fU:=λaa r=>iB (pre:=pre) aa c r;rw[bM hf]at fU;have oN:aN (aT e.aG)=true:=bz;have LW:(aT e.aG).ai=aT e.aG:=bu;cases hc:zh c.H c.V e with
 |error a=>
  rw[hc]at h;simp only at h ⊢;refine⟨E0,λaa r=>?_⟩;have yS:=gH (c:=c) (a:=a);have ij:=λaa r=>iB (pre:=pre) aa (c.fail a) r;rw[cu yS]at ij;rw[Jp]at h ⊢;rw[E.aE e]at h ⊢;generalize (c.fail a).aX=o2,c.aX=o,aT e.aG=kv at *;refine aA (sf:=MM) rfl rfl rfl ?_;simp[-aj,-ag,MM,h,ij,oN,LW,au,AV.ai]
 |ok y=>
  rw[hc]at h;simp only at h ⊢;have ha:=ahE hc;have CG:aN (aT y.aG)=true:=bz;have hyw:(aT y.aG).ai=aT y.aG:=bu;by_cases q:y.ty=T0;rw[ah q];refine⟨y,λaa r=>?_⟩;have ef:=λaa r=>jK (pre:=pre) aa c e.a r;rw[show c.fail y.a=c.fail e.a by rw[ha]];rw[E.aE e]at h ⊢;rw[E.aE y]at h ⊢;generalize (c.fail e.a).aX=o2,c.aX=o,aT e.aG=kv,aT y.aG=yv at *;refine aA (sf:=MM) rfl rfl rfl ?_;simp[-aj,-ag,MM,h,fU,q,ef,oN,LW,CG,hyw,au,AV.ai];rw[U q];intro aa r;rw[E.aE e]at h ⊢;rw[E.aE y]at h ⊢;generalize c.aX=o,aT e.aG=kv,aT y.aG=yv at *;refine aA (sf:=MM) rfl rfl rfl ?_;simp[-aj,-ag,MM,h,fU,d0,q,oN,LW,CG,hyw,au,AV.ai]
theorem Bl{n k:Nat}{o:dA}{r0 K:ay}{cs:List AV}{v:AV}{bx:bG}(h1:v.cells.length=n)(h2:AV.bw v.cells=true)(h3:k+v.cells.length<=cs.length) :
  bn 0 (pre.length+(r0.length+1)) (.store n) [.val (.ptr (pre.length+(r0.length+1)) 0 0 k),.val v] (pre++o::(r0++.rows 0 11 [cs]::K)) bx=some (.none,pre++o::(r0++.rows 0 11 [au cs k v.cells]::K),bx):=by
 rw[ag,ah ⟨h1,h2⟩];simp[fo,aV,h3]
theorem Ph{aa n j k w:Nat}{o X:dA}{r0 K:ay}{rows:List (List AV)}{aF:List AV}{v:AV}{bx:bG}(hr:rows[j]?=some aF)(h1:v.cells.length=n)(h2:AV.bw v.cells=true)(h3:k+v.cells.length<=aF.length)(h4:AV.ax v.cells=true) :
  bn 0 aa (.store n) [.val (.ptr (pre.length+(r0.length+1+1)) w j k),.val v] (pre++o::(r0++X::.rows w 11 rows::K)) bx=some (.none,pre++o::(r0++X::.rows w 11 (rows.set j (au aF k v.cells))::K),bx):=by
 rw[ag,ah ⟨h1,h2⟩];simp[fo,aV,h3,h4,hr]
def x5:List AV:=[.int .i64 0,.int .i64 0,.str [],.str [],.int .i64 0,.af,.int .i64 0,.int .i64 0,.int .i64 0,.int .i64 0,.int .i64 0]
theorem QY(c:CK)(e:E)(hf:c.fe=0)(hn:e.aG.length<1000000000)(hl:∀x∈e.aG,Lf pre c x)(_lim:Nat)(r0:ay){rs:List iW}{Q:Ex->St->Prop}{kk:List th}(b1:List AV)(kv:AV)(oN:kv=aT e.aG)(aF:List AV)(dJ:aF=[.int .i64 e.k,.int .i64 e.n,.str e.nm,.str e.on,.int .i64 e.od,kv,.int .i64 e.a,.int .i64 e.ty.b,.int .i64 e.ty.r,.int .i64 e.ty.d,.int .i64 e.ref])
  (F7:∀ys,lG c.H c.V e.aG=.ok ys->W S 0 (pre.length+(r0.length+1)) rs Q kk .normal ⟨[(0,.val (.ptr pre.length 0 0 0)),(3,.fp 0 0),(4,.fp 1 0),(6,.val (.ptr (pre.length+(r0.length+1)) 0 0 0))],[aF,b1],pre++c.aX::(r0++.rows 0 11 [lF e.k 0 [] [] 0 (rK (pre.length+(r0.length+1+1)) ys) e.a T0 0]::kK ys)⟩)
  (iI:∀a X K,lG c.H c.V e.aG=.error a->W S 0 (pre.length+(r0.length+1)) rs Q kk .normal ⟨[(0,.val (.ptr pre.length 0 0 0)),(3,.fp 0 0),(4,.fp 1 0),(6,.val (.ptr (pre.length+(r0.length+1)) 0 0 0))],[aF,b1],pre++(c.fail a).aX::(r0++X::K)⟩) :
  W S 0 (pre.length+(r0.length+1)) rs Q (.code (.loop rm)::.jB 0::kk) .normal ⟨[(0,.val (.ptr pre.length 0 0 0)),(3,.fp 0 0),(4,.fp 1 0),(6,.val (.ptr (pre.length+(r0.length+1)) 0 0 0)),(7,.val (.int .i64 0))],[aF,b1],pre++c.aX::(r0++[.rows 0 11 [lF e.k 0 [] [] 0 .af e.a T0 0]])⟩:=by
 subst dJ;have hz:cJ 11 kv=true:=by rw[oN];exact gn
 have cT:aN kv=true:=by rw[oN];exact bz
 have eC:kv.ai=kv:=by rw[oN];exact bu
 have dh:bt kv=E.rows e.aG:=by rw[oN];exact aW
 have fU:=λaa r=>iB (pre:=pre) aa c r;rw[bM hf]at fU;refine bH rm.eq_1 (λx:Nat×List E×Option (Int×dA×ay)=>⟨[(0,.val (.ptr pre.length 0 0 0)),(3,.fp 0 0),(4,.fp 1 0),(6,.val (.ptr (pre.length+(r0.length+1)) 0 0 0)),(7,.val (.int .i64 x.1))],[[.int .i64 e.k,.int .i64 e.n,.str e.nm,.str e.on,.int .i64 e.od,kv,.int .i64 e.a,.int .i64 e.ty.b,.int .i64 e.ty.r,.int .i64 e.ty.d,.int .i64 e.ref],b1],
   match x.2.2 with
   |none=>pre++c.aX::(r0++.rows 0 11 [lF e.k 0 [] [] 0 (rK (pre.length+(r0.length+1+1)) x.2.1) e.a T0 0]::kK x.2.1)|some (a,X,K)=>pre++(c.fail a).aX::(r0++X::K)⟩)
  (λx=>x.1<=e.aG.length/\match x.2.2 with
   |none=>x.2.1.length=x.1/\rF x.2.1 (lG c.H c.V (e.aG.drop x.1))=lG c.H c.V e.aG|some (a,_,_)=>lG c.H c.V e.aG=.error a) (λx=>e.aG.length-x.1) (0,[],none) rfl ⟨by simp,rfl,by simp[rF];split<;>rename_i h<;>exact h.symm⟩ ?_
 rintro⟨j,ys,q⟩ ⟨hj,hq⟩ ih;simp only at hj hq ih;cases q with
 |some q=>
  obtain⟨a,X,K⟩:=q;simp only at hq ⊢;have yS:=gH (c:=c) (a:=a);have ij:=λaa r=>iB (pre:=pre) aa (c.fail a) r;rw[cu yS]at ij;have NG:=iI a X K hq;generalize (c.fail a).aX=o2 at *;by_cases bC:j<e.aG.length;simp[-aj,-ag,cT,eC,dh,bC,ij];exact NG;simp[-aj,-ag,cT,eC,dh,bC];exact NG
 |none=>
  simp only at hq ⊢;obtain⟨hy,hp⟩:=hq;by_cases bC:j<e.aG.length;have hw:=wk j (by omega);have hv:=xU (pre:=pre) c e.aG[j] hf (hl _ (aaq bC));unfold LS at hv;rw[A5 bC]at hp;have gE:=xT bC;have mY:=λh2=>qM bC h2;have kG:j<(E.rows e.aG).length:=by simpa using bC
  have u7:=mY kG;clear mY;have region:∀(b:bN) (hb:b=rm) (d:dA) (y:E),(∀aa r,(aZ S).call 0 aa 105 [.ptr pre.length 0 0 0,.agg e.aG[j].aF] (pre++c.aX::r)=some (.agg y.aF,pre++d::r))->
    W S 0 (pre.length+(r0.length+1)) rs Q (.code (.loop rm)::.jB 0::kk) .normal ⟨[(0,.val (.ptr pre.length 0 0 0)),(3,.fp 0 0),(4,.fp 1 0),(6,.val (.ptr (pre.length+(r0.length+1)) 0 0 0)),(7,.val (.int .i64 ((j+1:Nat):Int)))],[[.int .i64 e.k,.int .i64 e.n,.str e.nm,.str e.on,.int .i64 e.od,kv,.int .i64 e.a,.int .i64 e.ty.b,.int .i64 e.ty.r,.int .i64 e.ty.d,.int .i64 e.ref],b1],
     pre++d::(r0++.rows 0 11 [lF e.k 0 [] [] 0 (rK (pre.length+(r0.length+1+1)) (ys++[y])) e.a T0 0]::kK (ys++[y]))⟩->
    W S 0 (pre.length+(r0.length+1)) rs Q (.code b::.uU rm::.jB 0::kk) .normal ⟨[(0,.val (.ptr pre.length 0 0 0)),(3,.fp 0 0),(4,.fp 1 0),(6,.val (.ptr (pre.length+(r0.length+1)) 0 0 0)),(7,.val (.int .i64 j))],[[.int .i64 e.k,.int .i64 e.n,.str e.nm,.str e.on,.int .i64 e.od,kv,.int .i64 e.a,.int .i64 e.ty.b,.int .i64 e.ty.r,.int .i64 e.ty.d,.int .i64 e.ref],b1],
     pre++c.aX::(r0++.rows 0 11 [lF e.k 0 [] [] 0 (rK (pre.length+(r0.length+1+1)) ys) e.a T0 0]::kK ys)⟩:=by
   intro b hb d y cK E2;rw[rm.eq_1]at hb;subst hb;rw[E.aE e.aG[j]]at cK gE u7;have CG:aN (aT y.aG)=true:=bz;have hyw:(aT y.aG).ai=aT y.aG:=bu;rw[E.aE y]at cK;generalize e.aG[j]=x,c.aX=o at *;clear ih iI F7 hl hv;cases ys with
   |nil=>
    simp only[rK,kK,List.isEmpty_nil,aQ];simp[-aj,-ag,cT,eC,dh,bC,fU];rw[ny];have hwl:IntKind.i64.wrap (0:Int)=0:=(by decide);simp[-aj,-ag,eG,eL,Bl,Ph,CG,cn,cN,eC,dh,hz,bC,u7,br,cK,au,AV.ai];refine⟨_,_,⟨rfl,rfl⟩,?_⟩;simp[-aj,-ag,iG,dH,xSt,eL,Bl,bO,hw,au,AV.ai,fL.gi,AV.gi];simp only[List.nil_append,rK,kK,E.rows,E.aE y,agN,aan,aS]at E2;exact E2
   |cons y0 l=>
    have hnx:W S 0 (pre.length+(r0.length+1)) rs Q (.code (.loop rm)::.jB 0::kk) .normal ⟨[(0,.val (.ptr pre.length 0 0 0)),(3,.fp 0 0),(4,.fp 1 0),(6,.val (.ptr (pre.length+(r0.length+1)) 0 0 0)),(7,.val (.int .i64 ((j+1:Nat):Int)))],[[.int .i64 e.k,.int .i64 e.n,.str e.nm,.str e.on,.int .i64 e.od,kv,.int .i64 e.a,.int .i64 e.ty.b,.int .i64 e.ty.r,.int .i64 e.ty.d,.int .i64 e.ref],b1],
     pre++d::(r0++.rows 0 11 [lF e.k 0 [] [] 0 (.mu (pre.length+(r0.length+1+1)) (l.length+1)) e.a T0 0]::[.rows (l.length+1) 11 (E.rows (y0::l)++[y.aF])])⟩:=by
     have h1:rK (pre.length+(r0.length+1+1)) (y0::l++[y])=.mu (pre.length+(r0.length+1+1)) (l.length+1):=(by simp[rK]);have h2:kK (y0::l++[y])=[.rows (l.length+1) 11 (E.rows (y0::l)++[y.aF])]:=(by simp[kK,iC]);rw[h1,h2]at E2;exact E2
    clear E2;have Wu:(E.rows (y0::l)).length=l.length+1:=(by simp);simp only[rK,kK,agN,aan,aS,abr,Nat.add_sub_cancel];rw[E.aE y]at hnx;simp only[abr]at hy;generalize E.rows (y0::l)=R at *;have lW:∀(aa:Nat) (o X:dA) (new:List AV) (bx:bG),new.length=11->AV.ax new=true->bn 0 aa (.gu 11 120) [.val (.mu (pre.length+(r0.length+1+1)) l.length),.val (.eE 11 [new])] (pre++o::(r0++[X,.rows l.length 11 R])) bx=some (.val (.mu (pre.length+(r0.length+1+1)) (l.length+1)),pre++o::(r0++[X,.rows (l.length+1) 11 (R++[new])]),bx):=λaa o X new bx h1 h2=>by
     simp[bn,r9,dx,ff,cn,h1,h2,Wu,cN];omega
    have i1:(0:Int)<=(l.length:Int)+1:=(by omega);have i2:(l.length:Int)<(l.length:Int)+1:=(by omega);have g1:∀z:List AV,(R++[z])[l.length+1]?=some z:=λz=>by rw[<-Wu];simp
    have g2:∀z w:List AV,(R++[z]).set (l.length+1) w=R++[w]:=λz w=>by rw[<-Wu];simp
    simp[-aj,-ag,cT,eC,dh,bC,fU];rw[ny];simp[-aj,-ag,eG,eL,Bl,Ph,i1,i2,g2,CG,lW,Wu,eC,dh,hz,bC,u7,br,cK,au,AV.ai];refine⟨_,_,⟨rfl,rfl⟩,?_⟩;simp[-aj,-ag,iG,dH,xSt,eL,Bl,i1,i2,Wu,bO,hw,au,AV.ai,fL.gi,AV.gi];exact hnx
  cases hx:Fv c e.aG[j] with
  |error a=>
   rw[hx]at hp hv;simp only at hp hv;obtain⟨y,hv⟩:=hv;exact region _ rfl _ y hv (ih (j+1,ys++[y],some (a,_,_)) ⟨by simp only;omega,hp.symm⟩ (by simp only;omega))
  |ok y=>
   rw[hx]at hp hv;simp only at hp hv;exact region _ rfl _ y hv (ih (j+1,ys++[y],none) ⟨by simp only;omega,by simp[hy],hp⟩ (by simp only;omega))
  have fR:j=e.aG.length:=by omega
  have hR:lG c.H c.V e.aG=.ok ys:=by
   rw[<-hp,fR,aaC];simp[lG,rF]
  have Vo:=F7 ys hR;generalize c.aX=o at *;simp[-aj,-ag,cT,eC,dh,bC];exact Vo
end R9
namespace R9
open Ax Go bY V7 kN lZ K9
variable {pre:ay}
theorem adj(H:Hd)(V:List Vd)(e:E):zh H V e=if gK e.k e.n e.aG.length then
  match lG H V e.aG with
  |.error x=>.error x|.ok ks=>match lM H V e.k e.nm e.on e.od ks with
   |none=>.error e.a|some (t,r)=>.ok (.mk e.k (qt e.k e.n) (kY e.k e.nm) (kZ e.k e.on) (k5 e.k e.od) ks e.a t r)
  else .error e.a:=by
 obtain⟨k,n,nm,on,od,aG,a,ty,ref⟩:=e
 (conv=>lhs;unfold zh)<;>rfl
def g9:bN->bN
 |.seq _ b=>b|x=>x
def wD:bN:=g9 (g9 (g9 (g9 (g9 pB.body))))
theorem YV(_e:E)(a:Int)(c:CK)(r:ay)(o X:dA)(K:ay)(aF:List AV) :
  W S 0 (pre.length+(r.length+1)) pB.results (BH pB.results .jY (pre++o::r) (.agg E0.aF,pre++(c.fail a).aX::r)) [.code wD] .normal ⟨[(0,.val (.ptr pre.length 0 0 0)),(3,.fp 0 0),(4,.fp 1 0),(6,.val (.ptr (pre.length+(r.length+1)) 0 0 0))],[aF,x5],pre++(c.fail a).aX::(r++X::K)⟩:=by
 have yS:=gH (c:=c) (a:=a);have ij:=λaa r=>iB (pre:=pre) aa (c.fail a) r;rw[cu yS]at ij;rw[Jp];generalize (c.fail a).aX=o2 at *;simp[-aj,-ag,wD,g9,pB,ij,x5,au,AV.ai]
variable{wl:Nat}
theorem NH{v:AV}{st:ay}(h:aN v=true):kS wl v st=some (v.ai,st):=by
 cases v<;>simp_all [aN,kS,AV.aB,AV.dj]
theorem QZ{y:E}{st:ay}:jL wl y.aF st=some (y.aF,st):=by
 have h1:aN (aT y.aG)=true:=bz;have h2:(aT y.aG).ai=aT y.aG:=bu;have h3:kS wl (aT y.aG) st=some (aT y.aG,st):=by rw[NH h1,h2]
 have fI:∀n,kS wl (.int .i64 n) st=some (.int .i64 n,st):=λn=>rfl;have fS:∀n,kS wl (.str n) st=some (.str n,st):=λn=>rfl;rw[E.aE];simp only[jL,h3,fI,fS]
theorem s8{wl:Nat}{st:ay}:∀ys:List E,jk wl (E.rows ys) st=some (E.rows ys,st)
 |[]=>rfl|y::ys=>by simp only[E.rows,jk,QZ,s8 ys]
theorem Vp{v:Nat}{o X:dA}{r:ay}{ys:List E}(hw:wl=0)(h:ys≠[]):iy wl (.mu (pre.length+(r.length+1+1)) v) (pre++o::(r++[X,.rows v 11 (E.rows ys)]))=some (.eE 11 (E.rows ys),pre++o::(r++[X,.rows (v+1) 11 []])):=by
 subst hw;have h2:(E.rows ys).isEmpty=false:=by cases ys with
  |nil=>exact aU rfl h|cons y l=>rfl
 simp[iy,s8];cases ys with
 |nil=>exact aU rfl h|cons y l=>simp[E.rows]
theorem Q0(aa:Nat)(c:CK)(r0:ay)(e:E)(ys:List E)(hk:gK e.k e.n ys.length=true)(sX:12<=e.k) :
  ∃v' st',(aZ S).call 0 aa 127 [.ptr pre.length 0 0 0,.ptr (pre.length+(r0.length+1)) 0 0 0] (pre++c.aX::(r0++.rows 0 11 [lF e.k 0 [] [] 0 (rK (pre.length+(r0.length+1+1)) ys) e.a T0 0]::kK ys))=some (v',st')/\
   Jn pre c.aX r0 (kK ys) (lM c.H c.V e.k e.nm e.on e.od ys) (lF e.k (qt e.k e.n) (kY e.k e.nm) (kZ e.k e.on) (k5 e.k e.od) (rK (pre.length+(r0.length+1+1)) ys) e.a) v' st':=by
 rw[QW sX];have k1:qt e.k e.n=0:=U (by omega);have k2:kY e.k e.nm=[]:=U (by omega);have k3:kZ e.k e.on=[]:=U (by omega);have k4:k5 e.k e.od=0:=U (by omega);rw[k1,k2,k3,k4];by_cases h:e.k=12\/e.k=13;obtain⟨y,rfl⟩:∃y,ys=[y]:=by
  have hlen:ys.length=1:=by rcases h with h|h<;>rw[h]at hk<;>simpa [gK] using hk
  match ys,hlen with
  |[y],_=>exact⟨y,rfl⟩
 rw[ah h];exact⟨_,_,QU (pre:=pre) aa c.aX r0 e.k 0 [] [] 0 e.a 0 T0 y h,Bk⟩;have Pb:14<=e.k:=by omega
 obtain⟨x,y,rfl⟩:∃x y,ys=[x,y]:=by
  have hlen:ys.length=2:=by
   unfold gK at hk;rw[U (by omega),U (by omega),U (by omega),U (by omega)]at hk;simp only[Bool.and_eq_true,aK]at hk;exact hk.2
  match ys,hlen with
  |[x,y],_=>exact⟨x,y,rfl⟩
 rw[U h];exact⟨_,_,QV (pre:=pre) aa c.aX r0 e.k 0 [] [] 0 e.a 0 T0 x y Pb,Bk⟩
theorem Ir(o o0:dA)(r:ay)(ys:List E)(kk n:Int)(nm on:List UInt8)(od a z:Int)(t:T3)(aF:List AV)(_hrow:aF.length=11) :
  W S 0 (pre.length+(r.length+1)) [iW.box 4 1 11 true] (BH [iW.box 4 1 11 true] .jY (pre++o0::r) (.agg (lF kk n nm on od (aT ys) a t z),pre++o::r))
  [.code (.uE 6 5),.code (.region [{ dst:=some 94,op:=.load true 11 false,args:=[.tmp 6 true],guard:=none },{ dst:=none,op:=.j9 1 11,args:=[.tmp 4 false,.tmp 94 true],guard:=none }] none []),.code .ret] .normal
  ⟨[(4,.fp 1 0),(6,.val (.ptr (pre.length+(r.length+1)) 0 0 0))],[aF,x5],pre++o::(r++.rows 0 11 [lF kk n nm on od (rK (pre.length+(r.length+1+1)) ys) a t z]::kK ys)⟩:=by
 have CG:aN (aT ys)=true:=bz;have hyw:(aT ys).ai=aT ys:=bu;rw[zB];cases ys with
 |nil=>
  refine⟨pre.length+(r.length+1),0,0,0,.af,.af,pre++o::(r++[.rows 0 11 [lF kk n nm on od .af a t z]]),pre++o::(r++[.rows 0 11 [lF kk n nm on od .af a t z]]),rfl,?_,rfl,?_,?_⟩;simp[iT,rK,kK,cut];simp[fo,aV,au];have he:aT []=.af:=rfl;rw[he];simp[-aj,-ag,eL,x5,au,AV.ai]
 |cons y l=>
  have he:aT (y::l)=.eE 11 (E.rows (y::l)):=rfl;have hfz:=Vp (pre:=pre) (wl:=0) (v:=(y::l).length-1) (o:=o) (X:=.rows 0 11 [lF kk n nm on od (.mu (pre.length+(r.length+1+1)) ((y::l).length-1)) a t z]) (r:=r) (ys:=y::l) rfl (by simp);refine⟨pre.length+(r.length+1),0,0,0,.mu (pre.length+(r.length+1+1)) ((y::l).length-1),.eE 11 (E.rows (y::l)),_,pre++o::(r++[.rows 0 11 [lF kk n nm on od (.eE 11 (E.rows (y::l))) a t z],.rows ((y::l).length-1+1) 11 []]),rfl,?_,hfz,?_,?_⟩;simp[iT,rK,kK,cut];simp[fo,aV,au];rw[he];generalize E.rows (y::l)=R at *;simp[-aj,-ag,eL,x5,au,AV.ai]
theorem YW(c:CK)(e:E)(r:ay)(o0:dA)(ys:List E)(hf:c.fe=0)(hs:qV c)(hn:ys.length<1000000000)(hk:gK e.k e.n ys.length=true)(Yc:c.H.rs.length=c.H.bE.length)(hw:∀x∈ys,WT c.H.rs.length x.ty) :
  W S 0 (pre.length+(r.length+1)) pB.results (BH pB.results .jY (pre++o0::r) (match lM c.H c.V e.k e.nm e.on e.od ys with
   |none=>(.agg E0.aF,pre++(c.fail e.a).aX::r)
   |some (t,z)=>(.agg (E.mk e.k (qt e.k e.n) (kY e.k e.nm) (kZ e.k e.on) (k5 e.k e.od) ys e.a t z).aF,pre++c.aX::r))) [.code wD] .normal
   ⟨[(0,.val (.ptr pre.length 0 0 0)),(3,.fp 0 0),(4,.fp 1 0),(6,.val (.ptr (pre.length+(r.length+1)) 0 0 0))],[[.int .i64 e.k,.int .i64 e.n,.str e.nm,.str e.on,.int .i64 e.od,aT e.aG,.int .i64 e.a,.int .i64 e.ty.b,.int .i64 e.ty.r,.int .i64 e.ty.d,.int .i64 e.ref],x5],
    pre++c.aX::(r++.rows 0 11 [lF e.k 0 [] [] 0 (rK (pre.length+(r.length+1+1)) ys) e.a T0 0]::kK ys)⟩:=by
 have fU:=λaa r=>iB (pre:=pre) aa c r;rw[bM hf]at fU;have oT:=λaa r=>jK (pre:=pre) aa c e.a r;have oN:aN (aT e.aG)=true:=bz;have LW:(aT e.aG).ai=aT e.aG:=bu;have done:∀v' st',Jn pre c.aX r (kK ys) (lM c.H c.V e.k e.nm e.on e.od ys) (lF e.k (qt e.k e.n) (kY e.k e.nm) (kZ e.k e.on) (k5 e.k e.od) (rK (pre.length+(r.length+1+1)) ys) e.a) v' st'->
   (12<=e.k->(aZ S).call 0 (pre.length+(r.length+1)) 127 [.ptr pre.length 0 0 0,.ptr (pre.length+(r.length+1)) 0 0 0] (pre++c.aX::(r++.rows 0 11 [lF e.k 0 [] [] 0 (rK (pre.length+(r.length+1+1)) ys) e.a T0 0]::kK ys))=some (v',st'))->
   (¬12<=e.k->(aZ S).call 0 (pre.length+(r.length+1)) 128 [.ptr pre.length 0 0 0,.agg e.aF,.ptr (pre.length+(r.length+1)) 0 0 0] (pre++c.aX::(r++.rows 0 11 [lF e.k 0 [] [] 0 (rK (pre.length+(r.length+1+1)) ys) e.a T0 0]::kK ys))=some (v',st'))->
   W S 0 (pre.length+(r.length+1)) pB.results (BH pB.results .jY (pre++o0::r) (match lM c.H c.V e.k e.nm e.on e.od ys with
    |none=>(.agg E0.aF,pre++(c.fail e.a).aX::r)
    |some (t,z)=>(.agg (E.mk e.k (qt e.k e.n) (kY e.k e.nm) (kZ e.k e.on) (k5 e.k e.od) ys e.a t z).aF,pre++c.aX::r))) [.code wD] .normal
    ⟨[(0,.val (.ptr pre.length 0 0 0)),(3,.fp 0 0),(4,.fp 1 0),(6,.val (.ptr (pre.length+(r.length+1)) 0 0 0))],[[.int .i64 e.k,.int .i64 e.n,.str e.nm,.str e.on,.int .i64 e.od,aT e.aG,.int .i64 e.a,.int .i64 e.ty.b,.int .i64 e.ty.r,.int .i64 e.ty.d,.int .i64 e.ref],x5],
     pre++c.aX::(r++.rows 0 11 [lF e.k 0 [] [] 0 (rK (pre.length+(r.length+1+1)) ys) e.a T0 0]::kK ys)⟩:=by
  rintro v' st' ⟨b,Y,rfl,rfl,hT⟩ c1 c2;rw[E.aE e]at c2;generalize aT e.aG=kv at *;cases ht:lM c.H c.V e.k e.nm e.on e.od ys with
  |none=>
   rw[ht]at hT;simp only at hT ⊢;subst hT;rw[Jp];generalize (c.fail e.a).aX=o2,c.aX=o at *;by_cases sX:12<=e.k;have c1:=c1 sX;simp[-aj,-ag,wD,g9,pB,fU,c1,sX,oT,x5,au,AV.ai];have c2:=c2 sX;simp[-aj,-ag,wD,g9,pB,fU,c2,sX,oT,x5,LW,au,AV.ai]
  |some x=>
   obtain⟨t,z⟩:=x;rw[ht]at hT;obtain⟨rfl,rfl⟩:=hT;simp only;have hr:∀k n nm on od ks a (t:T3) z,(E.mk k n nm on od ks a t z).aF=[.int .i64 k,.int .i64 n,.str nm,.str on,.int .i64 od,aT ks,.int .i64 a,.int .i64 t.b,.int .i64 t.r,.int .i64 t.d,.int .i64 z]:=λk n nm on od ks a t z=>E.aE _;rw[hr];generalize c.aX=o at *;by_cases sX:12<=e.k;have c1:=c1 sX;simp[-aj,-ag,wD,g9,pB,fU,c1,sX,AV.ai];exact Ir (pre:=pre) _ _ _ _ _ _ _ _ _ _ _ _ _ rfl;have c2:=c2 sX;simp[-aj,-ag,wD,g9,pB,fU,c2,sX,LW,AV.ai];exact Ir (pre:=pre) _ _ _ _ _ _ _ _ _ _ _ _ _ rfl
 by_cases sX:12<=e.k;obtain⟨v',st',h1,h2⟩:=Q0 (pre:=pre) (pre.length+(r.length+1)) c r e ys hk sX;exact done v' st' h2 (λ_=>h1) (λh=>aU sX h);obtain⟨v',st',h1,h2⟩:=Fl (pre:=pre) (pre.length+(r.length+1)) c r e ys hs hn hk (by omega) Yc hw;exact done v' st' h2 (λh=>aU h sX) (λ_=>h1)
theorem jq(c:CK)(hf:c.fe=0)(hw:qw c)(e:E):E.sz e<1000000000->Lf pre c e:=by
 induction e using E.Ga with
 |_ e ih=>
  intro dM;have vJ:=E.ry e;have fR:=E.eH e.aG;have hl:∀x∈e.aG,Lf pre c x:=λx hx=>ih x hx (by have:=E.fZ hx;omega);have Gx:=λwl aa st=>Bj wl aa e.k st;have JD:=ND e.k e.n e.aG.length;have oT:=λaa r=>jK (pre:=pre) aa c e.a r;have fU:=λaa r=>iB (pre:=pre) aa c r;rw[bM hf]at fU;unfold Lf;rw[adj];have oN:aN (aT e.aG)=true:=bz;have LW:(aT e.aG).ai=aT e.aG:=bu;have dh:bt (aT e.aG)=E.rows e.aG:=aW;have qi:(E.rows e.aG).length=e.aG.length:=by simp
  cases hk:gK e.k e.n e.aG.length with
  |false=>
   rw[hk]at JD;simp only[aan,aS];intro aa r;rw[Jp,E.aE e];generalize CN e.k=kt,(c.fail e.a).aX=o2,c.aX=o,aT e.aG=kv,E.rows e.aG=RE at *;refine aA (sf:=pB) rfl rfl rfl ?_;by_cases a1:kt = -2;simp[-aj,-ag,pB,Gx,a1,oT,oN,au,AV.ai];by_cases a2:0<=kt;by_cases a3:(e.aG.length:Int)=kt;have a4:e.k=2/\e.n≠0/\e.n≠1:=(by simpa [a1,a2,a3] using JD);have a5:(e.k=2)=True:=eq_true a4.1;have a6:(e.n=0)=False:=eq_false a4.2.1;have a7:(e.n=1)=False:=eq_false a4.2.2;simp[-aj,-ag,pB,Gx,a1,a2,a3,a5,a6,a7,oT,oN,LW,dh,qi,au,AV.ai];simp[-aj,-ag,pB,Gx,a1,a2,a3,oT,oN,LW,dh,qi,au,AV.ai];have a4:e.k=2/\e.n≠0/\e.n≠1:=(by simpa [a1,a2] using JD);have a5:(e.k=2)=True:=eq_true a4.1;have a6:(e.n=0)=False:=eq_false a4.2.1;have a7:(e.n=1)=False:=eq_false a4.2.2;simp[-aj,-ag,pB,Gx,a1,a2,a5,a6,a7,oT,oN,au,AV.ai]
  |true=>
   rw[hk]at JD;simp only[aQ];have Yc:=hw.H.rs;have walk:∀(aa:Nat) (r:ay) (v:AV) (st:ay),W S 0 (pre.length+(r.length+1)) pB.results (BH pB.results .jY (pre++c.aX::r) (v,st)) [.code (.loop rm),.jB 0,.code wD] .normal
     ⟨[(0,.val (.ptr pre.length 0 0 0)),(3,.fp 0 0),(4,.fp 1 0),(6,.val (.ptr (pre.length+(r.length+1)) 0 0 0)),(7,.val (.int .i64 0))],[[.int .i64 e.k,.int .i64 e.n,.str e.nm,.str e.on,.int .i64 e.od,aT e.aG,.int .i64 e.a,.int .i64 e.ty.b,.int .i64 e.ty.r,.int .i64 e.ty.d,.int .i64 e.ref],x5],
      pre++c.aX::(r++[.rows 0 11 [lF e.k 0 [] [] 0 .af e.a T0 0]])⟩->(aZ S).call 0 aa 104 [.ptr pre.length 0 0 0,.agg e.aF] (pre++c.aX::r)=some (v,st):=by
    intro aa r v st go;rw[E.aE e];generalize CN e.k=kt,c.aX=o,aT e.aG=kv,E.rows e.aG=RE at *;refine aA (sf:=pB) rfl rfl rfl ?_;have fork:(e.k≠2)\/(e.k=2/\e.n=0)\/(e.k=2/\e.n≠0/\e.n=1):=by
     by_cases h2:e.k=2;by_cases h3:e.n=0;exact .inr (.inl ⟨h2,h3⟩);by_cases h4:e.n=1;exact .inr (.inr ⟨h2,h3,h4⟩);simp[h2,h3,h4]at JD;exact .inl h2
    have a1:kt≠-2:=λh=>by simp[h]at JD
    by_cases a2:0<=kt;have a3:(e.aG.length:Int)=kt:=by
     apply Classical.byContradiction;intro h;simp[a2,h]at JD
    rcases fork with a4|⟨a4,a5⟩|⟨a4,a5,a6⟩;simp[-aj,-ag,pB,Gx,a1,a2,a3,a4,oN,LW,dh,qi,cA,au,AV.ai];exact go;have a4:(e.k=2)=True:=eq_true a4;have a5:(e.n=0)=True:=eq_true a5;simp[-aj,-ag,pB,Gx,a1,a2,a3,a4,a5,oN,LW,dh,qi,cA,au,AV.ai];exact go;have a4:(e.k=2)=True:=eq_true a4;have a6:(e.n=1)=True:=eq_true a6;simp[-aj,-ag,pB,Gx,a1,a2,a3,a4,a5,a6,oN,LW,dh,qi,cA,au,AV.ai];exact go;rcases fork with a4|⟨a4,a5⟩|⟨a4,a5,a6⟩;simp[-aj,-ag,pB,Gx,a1,a2,a4,oN,cA,au,AV.ai];exact go;have a4:(e.k=2)=True:=eq_true a4;have a5:(e.n=0)=True:=eq_true a5;simp[-aj,-ag,pB,Gx,a1,a2,a4,a5,oN,cA,au,AV.ai];exact go;have a4:(e.k=2)=True:=eq_true a4;have a6:(e.n=1)=True:=eq_true a6;simp[-aj,-ag,pB,Gx,a1,a2,a4,a5,a6,oN,cA,au,AV.ai];exact go
   have loop:=λr {rs:List iW} {Q:Ex->St->Prop} {kk:List th}=>QY (pre:=pre) c e hf (by omega) hl 0 r (rs:=rs) (Q:=Q) (kk:=kk) x5 (aT e.aG) rfl _ rfl;cases hv:lG c.H c.V e.aG with
   |error a=>
    simp only;intro aa r;refine walk aa r _ _ (loop r (λys h=>by rw[hv]at h;cases h) λa' X K h=>?_);rw[hv]at h;cases h;exact YV (pre:=pre) e a c r c.aX X K _
   |ok ks=>
    simp only;have hlen:=pZ hv;have ZW:∀x∈ks,WT c.H.rs.length x.ty:=tS hv λx hx y hy=>Uy hw.H hw.V x y hy;have ht:=λr=>YW (pre:=pre) c e r c.aX ks hf hw.s (by omega) (by rw[hlen];exact hk) Yc ZW;cases hT:lM c.H c.V e.k e.nm e.on e.od ks with
    |none=>
     simp only;intro aa r;refine walk aa r _ _ (loop r (λys h=>?_) λa' X K h=>by rw[hv]at h;cases h);rw[hv]at h;cases h;have ht:=ht r;rw[hT]at ht;exact ht
    |some x=>
     obtain⟨t,z⟩:=x;simp only;intro aa r;refine walk aa r _ _ (loop r (λys h=>?_) λa' X K h=>by rw[hv]at h;cases h);rw[hv]at h;cases h;have ht:=ht r;rw[hT]at ht;exact ht
end R9
namespace R9
open Ax Go bY V7 kN lZ K9
variable {pre:ay}
variable{aa:Nat}{rs:List iW}{Q:Ex->St->Prop}{kk:List th}
theorem I7{c:CK}{bx:bG}:bn 0 aa (.load false 1 true) [.val (.ptr pre.length 0 0 11)] (pre++[c.aX]) bx=some (.val (bK 4 (c.V.map Vd.aF)),pre++[c.Fs (bK 4 (c.V.map Vd.aF)).jX],bx):=by
 simp only[CK.aX,CK.Fs];generalize c.V.map Vd.aF=rows;cases rows with
 |nil=>simp[bn,bK,cut,iT,fo,aV,AV.jX,AV.aB,AV.ax,au,cm]|cons a l=>simp[bn,bK,cut,iT,fo,aV,AV.jX,AV.aB,AV.ax,au,cm]
theorem OZ{c:CK}{w:AV}{W:List Vd}{bx:bG}:bn 0 aa (.store 1) [.val (.ptr pre.length 0 0 11),.val (bK 4 (W.map Vd.aF))] (pre++[c.Fs w]) bx=some (.none,pre++[({ c with V:=W }:CK).aX],bx):=by
 simp[CK.aX,CK.Fs,aV,AV.ax,au]
def rD(pre:ay)(c:CK)(s:Sm):Prop:=match zH c.H c.sg.cP c.sg.cH c.V s with
 |.ok (y,W)=>∀aa,(aZ S).call 0 aa 82 [.ptr pre.length 0 0 0,.agg s.aF] (pre++[c.aX])=some (.agg y.aF,pre++[(c.bf W).aX])|.error a=>∀aa,∃W aF,Fw aF/\(aZ S).call 0 aa 82 [.ptr pre.length 0 0 0,.agg s.aF] (pre++[c.aX])=some (.agg aF,pre++[((c.bf W).fail a).aX])
def Br(pre:ay)(c:CK)(l:List Sm):Prop:=match lB c.H c.sg.cP c.sg.cH c.V l with
 |.ok (ys,W)=>∀aa,(aZ S).call 0 aa 52 [.ptr pre.length 0 0 0,bp l] (pre++[c.aX])=some (bK 9 (Sm.rows ys),pre++[(c.bf W).aX])|.error a=>∀aa,∃W v,aN v=true/\(aZ S).call 0 aa 52 [.ptr pre.length 0 0 0,bp l] (pre++[c.aX])=some (v,pre++[((c.bf W).fail a).aX])
theorem Pj(c:CK)(s:Sm)(hf:c.fe=0)(hn:s.es.length<1000000000)(h9:s.k≠9)(hl:∀x∈s.es,Lf pre c x)(aa:Nat)(b1 b3 b4 b5:List AV)(dc:Bool)(xk NI xa xr:Int)(xnm NJ:List UInt8)
  (aF:List AV)(dJ:aF=s.aF)
  (F7:∀ys,lG c.H c.V s.es=.ok ys->W S 0 aa rs Q kk .normal ⟨[(0,.val (.ptr pre.length 0 0 0)),(3,.fp 0 0),(4,.fp 1 0),(5,.fp 2 0),(6,.fp 3 0),(7,.val (.bool dc))],[aF,b1,[.int .i64 xk,.str xnm,.str NJ,.int .i64 NI,bK 11 (E.rows ys),.af,.af,.int .i64 xa,.int .i64 xr],b3,b4,b5],pre++[c.aX]⟩)
  (iI:∀a v,aN v=true->lG c.H c.V s.es=.error a->W S 0 aa rs Q kk .normal ⟨[(0,.val (.ptr pre.length 0 0 0)),(3,.fp 0 0),(4,.fp 1 0),(5,.fp 2 0),(6,.fp 3 0),(7,.val (.bool dc))],[aF,b1,[.int .i64 xk,.str xnm,.str NJ,.int .i64 NI,v,.af,.af,.int .i64 xa,.int .i64 xr],b3,b4,b5],pre++[(c.fail a).aX]⟩) :
  W S 0 aa rs Q (.code (.loop sI)::.jB 0::kk) .normal ⟨[(0,.val (.ptr pre.length 0 0 0)),(3,.fp 0 0),(4,.fp 1 0),(5,.fp 2 0),(6,.fp 3 0),(7,.val (.bool dc)),(10,.val (.int .i64 0))],[aF,b1,[.int .i64 xk,.str xnm,.str NJ,.int .i64 NI,.af,.af,.af,.int .i64 xa,.int .i64 xr],b3,b4,b5],pre++[c.aX]⟩:=by
 subst dJ;rw[Sm.aE]at *;have hz:cJ 11 (aT s.es)=true:=gn;have cT:aN (aT s.es)=true:=bz;have eC:(aT s.es).ai=aT s.es:=bu;have dh:bt (aT s.es)=E.rows s.es:=aW;have b1':aN (bp s.bd)=true:=bL;have fU:=λaa r=>iB (pre:=pre) aa c r;rw[bM hf]at fU;have lW:∀(ys:List E) (y:E),ys.length<1000000000->oP 11 120 (bK 11 (E.rows ys)) [y.aF]=some (bK 11 (E.rows (ys++[y]))):=λys y h=>by
  rw[eO (by simp[cn,E.aE]) (by simp[cN];omega)];simp[iC]
 generalize aT s.es=kv,bp s.bd=bv,bp s.el=lv at *;refine bH sI.eq_1 (λx:Nat×List E×Option Int=>⟨[(0,.val (.ptr pre.length 0 0 0)),(3,.fp 0 0),(4,.fp 1 0),(5,.fp 2 0),(6,.fp 3 0),(7,.val (.bool dc)),(10,.val (.int .i64 x.1))],
   [[.int .i64 s.k,.str s.nm,.str s.on,.int .i64 s.od,kv,bv,lv,.int .i64 s.a,.int .i64 s.ref],b1,[.int .i64 xk,.str xnm,.str NJ,.int .i64 NI,bK 11 (E.rows x.2.1),.af,.af,.int .i64 xa,.int .i64 xr],b3,b4,b5],
   match x.2.2 with
   |none=>pre++[c.aX]|some a=>pre++[(c.fail a).aX]⟩)
  (λx=>x.1<=s.es.length/\x.2.1.length=x.1/\match x.2.2 with
   |none=>rF x.2.1 (lG c.H c.V (s.es.drop x.1))=lG c.H c.V s.es|some a=>lG c.H c.V s.es=.error a) (λx=>s.es.length-x.1) (0,[],none) rfl ⟨by simp,rfl,by simp[rF];split<;>rename_i h<;>exact h.symm⟩ ?_
 rintro⟨j,ys,q⟩ ⟨hj,hy,hq⟩ ih;simp only at hj hq ih hy;cases q with
 |some a=>
  simp only at hq ⊢;have yS:=gH (c:=c) (a:=a);have ij:=λaa r=>iB (pre:=pre) aa (c.fail a) r;rw[cu yS]at ij;have NG:=iI a (bK 11 (E.rows ys)) ct hq;generalize (c.fail a).aX=o2 at *;by_cases bC:j<s.es.length;simp[-aj,-ag,cT,eC,dh,bC,ij];exact NG;simp[-aj,-ag,cT,eC,dh,bC];exact NG
 |none=>
  simp only at hq ⊢;by_cases bC:j<s.es.length;have hw:=wk j (by omega);have hv:=xU (pre:=pre) c s.es[j] hf (hl _ (aaq bC));unfold LS at hv;rw[A5 bC]at hq;have gE:=xT bC;have mY:=λh2=>qM bC h2;have kG:j<(E.rows s.es).length:=by simpa using bC
  have u7:=mY kG;clear mY;cases hx:Fv c s.es[j] with
  |error a=>
   rw[hx]at hq hv;simp only at hq hv;obtain⟨y,hv⟩:=hv;have ap:=lW ys y (by omega);have fD:=ih (j+1,ys++[y],some a) ⟨by simp only;omega,by simp[hy],hq.symm⟩ (by simp only;omega);simp only at fD;have m1:aN (bK 11 (E.rows (ys++[y])))=true:=ct;generalize bK 11 (E.rows (ys++[y]))=R,(c.fail a).aX=o2,c.aX=o at *;rw[E.aE s.es[j]]at hv gE u7;rw[E.aE y]at hv ap;generalize s.es[j]=x at *;simp[-aj,-ag,br,cT,eC,dh,hz,bC,h9,hw,u7,fU,hv,ap,m1,aD,aC,au,AV.ai];exact fD
  |ok y=>
   rw[hx]at hq hv;simp only at hq hv;have ap:=lW ys y (by omega);have fD:=ih (j+1,ys++[y],none) ⟨by simp only;omega,by simp[hy],hq⟩ (by simp only;omega);simp only at fD;have m1:aN (bK 11 (E.rows (ys++[y])))=true:=ct;generalize bK 11 (E.rows (ys++[y]))=R,c.aX=o at *;rw[E.aE s.es[j]]at hv gE u7;rw[E.aE y]at hv ap;generalize s.es[j]=x at *;simp[-aj,-ag,br,cT,eC,dh,hz,bC,h9,hw,u7,fU,hv,ap,m1,aD,aC,au,AV.ai];exact fD
  have fR:j=s.es.length:=by omega
  have hR:lG c.H c.V s.es=.ok ys:=by
   rw[<-hq,fR,aaC];simp[lG,rF]
  have Vo:=F7 ys hR;generalize c.aX=o at *;simp[-aj,-ag,cT,eC,dh,bC];exact Vo
theorem YX(c:CK)(s:Sm)(e:E)(hf:c.fe=0)(h9:s.k=9)(jj:s.es=[e])(hl:Lf pre c e)(aa:Nat)(b1 b3 b4 b5:List AV)(dc:Bool)(xk NI xa xr:Int)(xnm NJ:List UInt8)
  (aF:List AV)(dJ:aF=s.aF)
  (F7:∀y,zh c.H c.V e=.ok y->W S 0 aa rs Q kk .normal ⟨[(0,.val (.ptr pre.length 0 0 0)),(3,.fp 0 0),(4,.fp 1 0),(5,.fp 2 0),(6,.fp 3 0),(7,.val (.bool dc))],[aF,b1,[.int .i64 xk,.str xnm,.str NJ,.int .i64 NI,bK 11 (E.rows [y]),.af,.af,.int .i64 xa,.int .i64 xr],b3,b4,b5],pre++[c.aX]⟩)
  (iI:∀a v,aN v=true->zh c.H c.V e=.error a->W S 0 aa rs Q kk .normal ⟨[(0,.val (.ptr pre.length 0 0 0)),(3,.fp 0 0),(4,.fp 1 0),(5,.fp 2 0),(6,.fp 3 0),(7,.val (.bool dc))],[aF,b1,[.int .i64 xk,.str xnm,.str NJ,.int .i64 NI,v,.af,.af,.int .i64 xa,.int .i64 xr],b3,b4,b5],pre++[(c.fail a).aX]⟩) :
  W S 0 aa rs Q (.code (.loop sI)::.jB 0::kk) .normal ⟨[(0,.val (.ptr pre.length 0 0 0)),(3,.fp 0 0),(4,.fp 1 0),(5,.fp 2 0),(6,.fp 3 0),(7,.val (.bool dc)),(10,.val (.int .i64 0))],[aF,b1,[.int .i64 xk,.str xnm,.str NJ,.int .i64 NI,.af,.af,.af,.int .i64 xa,.int .i64 xr],b3,b4,b5],pre++[c.aX]⟩:=by
 subst dJ;rw[Sm.aE]at *;rw[jj]at *;have hz:cJ 11 (aT [e])=true:=gn;have cT:aN (aT [e])=true:=bz;have eC:(aT [e]).ai=aT [e]:=bu;have dh:bt (aT [e])=[e.aF]:=aW;have fU:=λaa r=>iB (pre:=pre) aa c r;rw[bM hf]at fU;have lW:∀y:E,oP 11 120 .af [y.aF]=some (bK 11 (E.rows [y])):=λy=>by
  have:=eO (sz:=11) (bytes:=120) (r:=[]) (new:=[y.aF]) (by simp[cn,E.aE]) (by simp[cN]);exact this
 have hw:IntKind.i64.wrap (0+1:Int)=1:=by decide
 rw[h9]at *;generalize aT [e]=kv,bp s.bd=bv,bp s.el=lv at *;unfold Lf at hl;rw[rj sI.eq_1];cases hx:zh c.H c.V e with
 |error a=>
  rw[hx]at hl;simp only at hl;have NG:=λv h=>iI a v h hx;have yS:=gH (c:=c) (a:=a);have ij:=λaa r=>iB (pre:=pre) aa (c.fail a) r;rw[cu yS]at ij;have ap:=lW E0;have m1:aN (bK 11 (E.rows [E0]))=true:=ct;generalize bK 11 (E.rows [E0])=R,(c.fail a).aX=o2,c.aX=o at *;rw[E.aE e]at hl dh;rw[E.aE E0]at hl ap;simp[-aj,-ag,br,cT,eC,dh,hz,fU,hl,ap,m1,aD,aC,au,AV.ai];show W S 0 aa rs Q (.code (.loop sI)::.jB 0::kk) .normal _;rw[rj sI.eq_1];simp[-aj,-ag,cT,eC,dh];exact NG _ m1
 |ok y=>
  rw[hx]at hl;simp only at hl;have Vo:=F7 y hx;have ap:=lW y;have m1:aN (bK 11 (E.rows [y]))=true:=ct;generalize bK 11 (E.rows [y])=R,c.aX=o at *;rw[E.aE e]at hl dh;rw[E.aE y]at hl ap;simp[-aj,-ag,br,cT,eC,dh,hz,fU,hl,ap,m1,aD,aC,au,AV.ai];show W S 0 aa rs Q (.code (.loop sI)::.jB 0::kk) .normal _;rw[rj sI.eq_1];simp[-aj,-ag,cT,eC,dh];exact Vo
end R9
