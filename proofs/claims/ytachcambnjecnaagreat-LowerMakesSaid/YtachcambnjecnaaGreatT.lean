/- Part of a proof. -/
import Derived.Test.YtachcambnjecnaaGreatD
import Derived.Test.YtachcambnjecnaaGreatO

set_option maxRecDepth 100000
set_option maxHeartbeats 8000000
namespace R9
open Ax Go bu V7 jG ke K9
variable {pre:aj}
theorem ajR{α:Type}{l:List α}(p:List α)(i:Nat):(p++l)[p.length+i]?=l[i]?:=by
 rw[List.getElem?_append_right (by omega)];simp
theorem afi{α:Type}{l:List α}(p:List α)(i:Nat):(p++l).take (p.length+i)=p++l.take i:=by
 rw[List.take_append,List.take_of_length_le (by omega),Nat.add_sub_cancel_left]
attribute [simp] ajR afi
theorem aai{wl af:Nat}{c:CK}{r:aj}{bx:bF}:aW wl af (.load false 1 false) [.val (.ptr pre.length 0 0 12)] (pre++c.aU::r) bx=some (.val (.int .i64 c.fe),pre++c.aU::r,bx):=by
 simp[CK.aU,cut,AV.view]
theorem uN{wl af:Nat}{c:CK}{r:aj}{bx:bF}:aW wl af (.load false 1 false) [.val (.ptr pre.length 0 0 4)] (pre++c.aU::r) bx=some (.val (aA 1 (ga c.H.rs)),pre++c.aU::r,bx):=by
 simp[CK.aU,cut,aA]
theorem V5{wl af:Nat}{c:CK}{r:aj}{bx:bF}:aW wl af (.load false 1 false) [.val (.ptr pre.length 0 0 0)] (pre++c.aU::r) bx=some (.val (aA 2 (c.H.bK.map dx)),pre++c.aU::r,bx):=by
 simp[CK.aU,cut]
theorem V6{wl af:Nat}{c:CK}{r:aj}{bx:bF}:aW wl af (.load false 1 false) [.val (.ptr pre.length 0 0 1)] (pre++c.aU::r) bx=some (.val (br c.H.globals),pre++c.aU::r,bx):=by
 simp[CK.aU,cut]
theorem S1{wl af:Nat}{c:CK}{r:aj}{bx:bF}:aW wl af (.load false 1 false) [.val (.ptr pre.length 0 0 2)] (pre++c.aU::r) bx=some (.val (aA 6 (c.H.sigs.map Sg.row)),pre++c.aU::r,bx):=by
 simp[CK.aU,cut]
theorem wJ{wl af:Nat}{c:CK}{r:aj}{bx:bF}:aW wl af (.load false 1 false) [.val (.ptr pre.length 0 0 7)] (pre++c.aU::r) bx=some (.val (.bool c.sg.bP),pre++c.aU::r,bx):=by
 simp[CK.aU,cut,AV.view]
theorem yy{wl af:Nat}{c:CK}{r:aj}{bx:bF}:aW wl af (.load true 3 false) [.val (.ptr pre.length 0 0 8)] (pre++c.aU::r) bx=some (.val (.agg [.int .i64 c.sg.bz.b,.int .i64 c.sg.bz.r,.int .i64 c.sg.bz.d]),pre++c.aU::r,bx):=by
 simp[CK.aU,cut,AV.view]
theorem Am{wl af:Nat}{c:CK}{r:aj}{bx:bF}:aW wl af (.load false 1 false) [.val (.ptr pre.length 0 0 11)] (pre++c.aU::r) bx=some (.val (br c.V),pre++c.aU::r,bx):=by
 simp[CK.aU,cut,br,aA]
theorem S2{af:Nat}{c:CK}{a:Int}{r:aj}{bx:bF}:aW 0 af (.store 2) [.val (.ptr pre.length 0 0 12),.val (.agg [.int .i64 3,.int .i64 a])] (pre++c.aU::r) bx=some (.none,pre++({ c with fe:=3,fa:=a }:CK).aU::r,bx):=by
 simp[CK.aU,aQ,AV.ai,AV.ax,ag]
theorem gC(af:Nat)(c:CK)(r:aj):(bh S).call 0 af 52 [.ptr pre.length 0 0 0] (pre++c.aU::r)=some (.bool (decide (c.fe=0)),pre++c.aU::r):=by
 refine ay (sf:=s52) rfl rfl rfl ?_;simp[-ah,-aa,s52,aai]
theorem jl(af:Nat)(c:CK)(a:Int)(r:aj):(bh S).call 0 af 108 [.ptr pre.length 0 0 0,.int .i64 a] (pre++c.aU::r)=some (.fm [],pre++(c.fail a).aU::r):=by
 have e:=λaf=>gC (pre:=pre) af c r;have ew:=λwl af st=>U7.AE wl af a st;refine ay (sf:=Vv) rfl rfl rfl ?_;unfold CK.fail;by_cases h:c.fe=0;rw[if_pos h];simp[-ah,-aa,Vv,e,ew,h,S2];rw[if_neg h];simp[-ah,-aa,Vv,e,h]
theorem l8(wl af:Nat)(st:aj):(bh S).call wl af 112 [] st=some (.agg [.int .i64 2,.int .i64 0,.int .i64 0],st):=by
 refine bN (sf:=ZB) rfl rfl (by simp) rfl (by simp[AV.ax,AV.ai]) ?_;simp[ZB,ag]
theorem ot(wl af:Nat)(st:aj):(bh S).call wl af 113 [] st=some (.agg [.int .i64 1,.int .i64 0,.int .i64 0],st):=by
 refine bN (sf:=ZC) rfl rfl (by simp) rfl (by simp[AV.ax,AV.ai]) ?_;simp[ZC,ag]
def B8(k:Int):Int:=
 if k=1\/k=2\/k=3\/k=4\/k=8\/k=11 then 0
 else if k=5\/k=9\/k=10\/k=12\/k=13 then 1
 else if k=7 then -1
 else if k=6\/k=14\/k=15\/k=16\/k=17\/k=18\/k=19\/k=20\/k=21\/k=22\/k=23\/k=24 then 2
 else -2
theorem CW(wl af:Nat)(k:Int)(st:aj):(bh S).call wl af 130 [.int .i64 k] st=some (.int .i64 (B8 k),st):=by
 refine bN (sf:=oQ) rfl rfl (by simp) rfl (by simp) ?_;unfold B8;by_cases h1:k=1;subst h1;simp[oQ];by_cases h2:k=2;subst h2;simp[oQ];by_cases h3:k=3;subst h3;simp[oQ];by_cases h4:k=4;subst h4;simp[oQ];by_cases h8:k=8;subst h8;simp[oQ];by_cases zg:k=11;subst zg;simp[oQ];by_cases h5:k=5;subst h5;simp[oQ];by_cases h9:k=9;subst h9;simp[oQ];by_cases AP:k=10;subst AP;simp[oQ];by_cases tN:k=12;subst tN;simp[oQ];by_cases Fe:k=13;subst Fe;simp[oQ];by_cases h7:k=7;subst h7;simp[oQ];by_cases h6:k=6;subst h6;simp[oQ];by_cases X6:k=14;subst X6;simp[oQ];by_cases h15:k=15;subst h15;simp[oQ];by_cases h16:k=16;subst h16;simp[oQ];by_cases h17:k=17;subst h17;simp[oQ];by_cases h18:k=18;subst h18;simp[oQ];by_cases h19:k=19;subst h19;simp[oQ];by_cases h20:k=20;subst h20;simp[oQ];by_cases h21:k=21;subst h21;simp[oQ];by_cases h22:k=22;subst h22;simp[oQ];by_cases Ix:k=23;subst Ix;simp[oQ];by_cases h24:k=24;subst h24;simp[oQ];simp[oQ,h1,h2,h3,h4,h5,h6,h7,h8,h9,AP,zg,tN,Fe,X6,h15,h16,h17,h18,h19,h20,h21,h22,Ix,h24]
theorem Mc(k n:Int)(m:Nat):gq k n m = !(decide (B8 k = -2)||(decide (0<=B8 k) && !decide ((m:Int)=B8 k))||(decide (k=2)&&(!decide (n=0) && !decide (n=1)))):=by
 have m0:((m:Int)=0)=(m=0):=by simp
 have m1:((m:Int)=1)=(m=1):=by apply propext;omega
 have m2:((m:Int)=2)=(m=2):=by apply propext;omega
 unfold gq B8;by_cases h:k=1\/k=3\/k=4\/k=8\/k=11;rcases h with h|h|h|h|h<;>subst h<;>simp;by_cases h2:k=2;subst h2;by_cases q:n=0<;>by_cases p:n=1<;>simp[p,q];by_cases h7:k=7;subst h7;simp;by_cases h5:k=5\/k=9\/k=10\/k=12\/k=13;rcases h5 with h|h|h|h|h<;>subst h<;>simp[m1];rw[if_neg h,if_neg h2,if_neg h7,if_neg h5,if_neg (by omega),if_neg h5,if_neg h7];by_cases g:k=6\/14<=k/\k<=24;have e:(decide (k=6)||decide (14<=k)&&decide (k<=24))=true:=by simpa using g
 rw[if_pos (by omega),e];simp[m2,h2];have e:(decide (k=6)||decide (14<=k)&&decide (k<=24))=false:=by simp only[Bool.or_eq_false_iff,Bool.and_eq_false_iff,decide_eq_false_iff_not];omega
 rw[if_neg (by omega),e];simp
end R9
namespace R9
open Ax Go bu V7 jG ke K9
variable {pre:aj}
theorem gO(af:Nat)(c:CK)(s:List UInt8)(r:aj)(hs:oh c):(bh S).call 0 af 111 [.ptr pre.length 0 0 0,.str s] (pre++c.aU::r)=some (wK (rZ c.H c.V s),pre++c.aU::r):=by
 have hV:=hs.V;have hG:=hs.G;have hzV:bX 4 (br c.V)=true:=qU;have hzG:bX 4 (br c.H.globals)=true:=qU;have Md:aD (br c.V)=true:=dL;have hsG:aD (br c.H.globals)=true:=dL;have PO:aM (br c.V)=c.V.map Vd.row:=oX;have hrG:aM (br c.H.globals)=c.H.globals.map Vd.row:=oX;have IB:=λwl af bx=>Am (pre:=pre) (wl:=wl) (af:=af) (c:=c) (r:=r) (bx:=bx);have egl:=λwl af bx=>V6 (pre:=pre) (wl:=wl) (af:=af) (c:=c) (r:=r) (bx:=bx);generalize br c.V=VV at *;generalize br c.H.globals=GV at *;refine ay (sf:=ZA) rfl rfl rfl ?_;generalize c.aU=o at *;simp[-ah,-aa,ZA];refine bf MZ.eq_1 (λq:Nat×Int=>⟨[(0,.val (.ptr pre.length 0 0 0)),(1,.val (.str s)),(5,.fp 0 0),(7,.val (.int .i64 q.1))],[[.int .i64 0,.int .i64 0,.int .i64 0]],pre++o::r⟩)
  (λq=>q.1<=c.V.length/\eJ s 0 c.V=eJ s q.1 (c.V.drop q.1)) (λq=>c.V.length-q.1) (0,0) (by simp) ⟨by simp,by simp⟩ ?_
 rintro⟨k,bb⟩ ⟨hk,hp⟩ ih;simp only at hk hp ih;by_cases aX:k<c.V.length;have hw:=wk k (by omega);rw[tO aX]at hp;by_cases e:c.V[k].nm=s;rw[if_pos e]at hp;unfold rZ;rw[hp];simp[-ah,-aa,aY,IB,Md,hzV,PO,aX,e,Vd.row,wK,au,an,ag];rw[if_neg e]at hp;simp[-ah,-aa,aY,IB,Md,hzV,PO,aX,e,Vd.row,hw];exact ih (k+1,0) ⟨by simp;omega,hp⟩ (by simp;omega);have eL:k=c.V.length:=by omega
 have jy:eJ s 0 c.V=none:=by rw[hp,eL,List.drop_length];rfl
 simp[-ah,-aa,IB,Md,PO,aX];clear ih;refine bf M0.eq_1 (λq:Nat×Int=>⟨[(0,.val (.ptr pre.length 0 0 0)),(1,.val (.str s)),(5,.fp 0 0),(8,.val (.int .i64 q.1))],[[.int .i64 0,.int .i64 0,.int .i64 0]],pre++o::r⟩)
  (λq=>q.1<=c.H.globals.length/\eJ s 0 c.H.globals=eJ s q.1 (c.H.globals.drop q.1)) (λq=>c.H.globals.length-q.1) (0,0) (by simp) ⟨by simp,by simp⟩ ?_
 rintro⟨k,bb⟩ ⟨hk,hp⟩ ih;simp only at hk hp ih;by_cases aX:k<c.H.globals.length;have hw:=wk k (by omega);have BO:IntKind.i64.wrap (-1-(k:Int)) = -1-(k:Int):=by rw[ee]<;>omega
 rw[tO aX]at hp;by_cases e:c.H.globals[k].nm=s;rw[if_pos e]at hp;unfold rZ;rw[jy,hp];simp[-ah,-aa,aY,egl,hsG,hzG,hrG,aX,e,BO,Vd.row,wK,au,an,ag];rw[if_neg e]at hp;simp[-ah,-aa,aY,egl,hsG,hzG,hrG,aX,e,Vd.row,hw];exact ih (k+1,0) ⟨by simp;omega,hp⟩ (by simp;omega);have eL:k=c.H.globals.length:=by omega
 have ajV:eJ s 0 c.H.globals=none:=by rw[hp,eL,List.drop_length];rfl
 unfold rZ;rw[jy,ajV];simp[-ah,-aa,egl,hsG,hrG,aX,wK,ag]
theorem xQ(af:Nat)(c:CK)(s:Sm)(r:aj)(_hn:s.es.length<1000000000):(bh S).call 0 af 107 [.ptr pre.length 0 0 0,.agg s.row] (pre++c.aU::r)=some (.bool (cJ c.sg.bP s.k s.es),pre++c.aU::r):=by
 have cZ:=Sm.az s;have hz:bX 11 (aI s.es)=true:=iM;have cC:aD (aI s.es)=true:=aR;have dW:(aI s.es).view=aI s.es:=aN;have cP:aM (aI s.es)=E.rows s.es:=aE;have m0:((s.es.length:Int)=0)=(s.es.length=0):=by simp
 have m1:((s.es.length:Int)=1)=(s.es.length=1):=by apply propext;omega
 have m2:((s.es.length:Int)=2)=(s.es.length=2):=by apply propext;omega
 rw[cZ];generalize s.k=k at *;unfold cJ;have b1:aD (aT s.bd)=true:=bn;have b2:(aT s.bd).view=aT s.bd:=aO;have l1:aD (aT s.el)=true:=bn;have l2:(aT s.el).view=aT s.el:=aO;generalize aT s.bd=bv at *;generalize aT s.el=lv at *;have hc:=λwl af bx=>wJ (pre:=pre) (wl:=wl) (af:=af) (c:=c) (r:=r) (bx:=bx);generalize c.aU=o at *;refine ay (sf:=oN) rfl rfl rfl ?_;by_cases h1:k=1;subst h1;generalize aI s.es=kv at *;by_cases q0:s.es.length=0;simp[-ah,-aa,oN,cC,dW,cP,q0,b1,l1,AV.view];simp[-ah,-aa,oN,cC,dW,cP,q0,b1,l1,AV.view];by_cases h4:k=4;subst h4;simp only[if_neg h1,if_true];match jR:s.es,cP,m2 with
 |[e,e2],cP,m2=>
  rw[jR]at hz cC dW;simp only[E.rows]at cP;rw[E.az e,E.az e2]at cP;generalize aI [e,e2]=kv at *;by_cases q:e.k=5;simp[-ah,-aa,oN,aY,hz,cC,dW,cP,q,b1,l1,AV.view];simp[-ah,-aa,oN,aY,hz,cC,dW,cP,q,b1,l1,AV.view]
 |[],cP,m2=>
  rw[jR]at hz cC dW;generalize aI []=kv at *;simp[-ah,-aa,oN,cC,dW,cP,b1,l1,E.rows,AV.view]
 |[e],cP,m2=>
  rw[jR]at hz cC dW;simp only[E.rows]at cP;generalize aI [e]=kv at *;simp[-ah,-aa,oN,cC,dW,cP,b1,l1,AV.view]
 |e::e2::e3::l,cP,m2=>
  rw[jR]at hz cC dW;have O2:¬((E.rows (e::e2::e3::l)).length:Int)=2:=by simp;omega
  generalize aI (e::e2::e3::l)=kv at *;generalize E.rows (e::e2::e3::l)=rws at *;simp[-ah,-aa,oN,cC,dW,cP,O2,b1,l1,AV.view]
 by_cases h7:k=7;subst h7;simp only[if_neg h1,if_neg h4,if_true];generalize aI s.es=kv at *;cases hh:c.sg.bP with
 |false=>
  rw[hh]at hc;by_cases q0:s.es.length=0;simp[-ah,-aa,oN,cC,dW,cP,q0,b1,l1,hc,AV.view];simp[-ah,-aa,oN,cC,dW,cP,q0,b1,l1,hc,AV.view]
 |true=>
  rw[hh]at hc;by_cases q1:s.es.length=1;simp[-ah,-aa,oN,cC,dW,cP,q1,b1,l1,hc,AV.view];simp[-ah,-aa,oN,cC,dW,cP,m1,q1,b1,l1,hc,AV.view]
 by_cases h9:k=9;subst h9;simp only[if_neg h1,if_neg h4,if_neg h7,if_true];match jR:s.es,cP,m2 with
 |[e],cP,m2=>
  rw[jR]at hz cC dW;simp only[E.rows]at cP;rw[E.az e]at cP;generalize aI [e]=kv at *;simp[-ah,-aa,oN,aY,hz,cC,dW,cP,b1,l1,AV.view]
 |[],cP,m2=>
  rw[jR]at hz cC dW;generalize aI []=kv at *;simp[-ah,-aa,oN,cC,dW,cP,b1,l1,E.rows,AV.view]
 |e::e2::l,cP,m2=>
  rw[jR]at hz cC dW;have O2:¬((E.rows (e::e2::l)).length:Int)=1:=by simp;omega
  generalize aI (e::e2::l)=kv at *;generalize E.rows (e::e2::l)=rws at *;simp[-ah,-aa,oN,cC,dW,cP,O2,b1,l1,AV.view]
 simp only[if_neg h1,if_neg h4,if_neg h7,if_neg h9];generalize aI s.es=kv at *;by_cases h2:k=2;subst h2;by_cases q1:s.es.length=1;simp[-ah,-aa,oN,cC,dW,cP,q1,b1,l1,AV.view];simp[-ah,-aa,oN,cC,dW,cP,m1,q1,b1,l1,AV.view];by_cases h3:k=3;subst h3;by_cases q1:s.es.length=1;simp[-ah,-aa,oN,cC,dW,cP,q1,b1,l1,AV.view];simp[-ah,-aa,oN,cC,dW,cP,m1,q1,b1,l1,AV.view];by_cases h5:k=5;subst h5;by_cases q1:s.es.length=1;simp[-ah,-aa,oN,cC,dW,cP,q1,b1,l1,AV.view];simp[-ah,-aa,oN,cC,dW,cP,m1,q1,b1,l1,AV.view];by_cases h6:k=6;subst h6;by_cases q1:s.es.length=1;simp[-ah,-aa,oN,cC,dW,cP,q1,b1,l1,AV.view];simp[-ah,-aa,oN,cC,dW,cP,m1,q1,b1,l1,AV.view];by_cases h8:k=8;subst h8;by_cases q1:s.es.length=1;simp[-ah,-aa,oN,cC,dW,cP,q1,b1,l1,AV.view];simp[-ah,-aa,oN,cC,dW,cP,m1,q1,b1,l1,AV.view];simp[-ah,-aa,oN,cC,b1,l1,h1,h2,h3,h4,h5,h6,h7,h8,h9,AV.view]
end R9
namespace R9
open Ax Go bu V7 jG ke K9
variable {pre:aj}
abbrev kY(k n:Int)(nm on:List UInt8)(od:Int)(kv:AV)(a:Int)(t:T3)(z:Int):List AV:=[.int .i64 k,.int .i64 n,.str nm,.str on,.int .i64 od,kv,.int .i64 a,.int .i64 t.b,.int .i64 t.r,.int .i64 t.d,.int .i64 z]
theorem dR{wl af n k:Nat}{agg:Bool}{o:dz}{r0 K:aj}{cs:List AV}{bx:bF}:aW wl af (.load agg n false) [.val (.ptr (pre.length+(r0.length+1)) 0 0 k)] (pre++o::(r0++.rows 0 11 [cs]::K)) bx =
  qz (pre++o::(r0++.rows 0 11 [cs]::K)) bx ((cut cs k n).bind λcs=>bM agg (AV.cq cs)):=by
 rw[ah];simp[dA]
theorem cm{af n k:Nat}{o:dz}{r0 K:aj}{cs:List AV}{v:AV}{bx:bF}(h1:v.cells.length=n)(h2:AV.bq v.cells=true)(h3:k+v.cells.length<=cs.length)(h4:AV.ai v.cells=true) :
  aW 0 af (.store n) [.val (.ptr (pre.length+(r0.length+1)) 0 0 k),.val v] (pre++o::(r0++.rows 0 11 [cs]::K)) bx=some (.none,pre++o::(r0++.rows 0 11 [ag cs k v.cells]::K),bx):=by
 rw[aa,if_pos ⟨h1,h2⟩];simp[cu,aQ,h3,h4]
theorem fZ{wl af n j k v:Nat}{agg:Bool}{o X:dz}{r0 K:aj}{rows:List (List AV)}{bx:bF}:aW wl af (.load agg n false) [.val (.ptr (pre.length+(r0.length+1+1)) v j k)] (pre++o::(r0++X::.rows v 11 rows::K)) bx =
  qz (pre++o::(r0++X::.rows v 11 rows::K)) bx ((match rows[j]? with|some cs=>cut cs k n|none=>none).bind λcs=>bM agg (AV.cq cs)):=by
 rw[ah];cases h:rows[j]?<;>simp[dA,h]
def sgR(k:Int):T3:=if k=12\/k=14\/k=15\/k=16\/k=17\/k=18 then tI else tB
def sgB(k:Int)(a b:T3):Bool:=if k=12\/k=14\/k=15\/k=16\/k=17\/k=18\/k=19\/k=20 then decide (a=tI)&&decide (b=tI) else if k=21\/k=22 then decide (a=b) else decide (a=tB)&&decide (b=tB)
theorem Pd(af:Nat)(o:dz)(r0:aj)(k n:Int)(nm on:List UInt8)(od a z:Int)(t:T3)(y:E)(hk:k=12\/k=13) :
  (bh S).call 0 af 131 [.ptr pre.length 0 0 0,.ptr (pre.length+(r0.length+1)) 0 0 0] (pre++o::(r0++[.rows 0 11 [kY k n nm on od (.mu (pre.length+(r0.length+1+1)) 0) a t z],.rows 0 11 [y.row]])) =
  some (.bool (sgB k y.ty y.ty),pre++o::(r0++[.rows 0 11 [kY k n nm on od (.mu (pre.length+(r0.length+1+1)) 0) a (sgR k) z],.rows 0 11 [y.row]])):=by
 have eI:=λwl af st=>ot wl af st;have eT:=λwl af st=>l8 wl af st;rw[E.az];refine ay (sf:=p9) rfl rfl rfl ?_;unfold sgB sgR;rcases hk with h|h<;>subst h;by_cases q:y.ty=tI;simp[-ah,-aa,p9,dR,cm,fZ,eI,q,au,an,ag,AV.view];simp[-ah,-aa,p9,dR,cm,fZ,eI,K9.dI,q,au,an,ag,AV.view];by_cases q:y.ty=tB;simp[-ah,-aa,p9,dR,cm,fZ,eT,q,au,an,ag,AV.view];simp[-ah,-aa,p9,dR,cm,fZ,eT,dB,q,au,an,ag,AV.view]
theorem Pe(af:Nat)(o:dz)(r0:aj)(k n:Int)(nm on:List UInt8)(od a z:Int)(t:T3)(x y:E)(hk:14<=k) :
  (bh S).call 0 af 131 [.ptr pre.length 0 0 0,.ptr (pre.length+(r0.length+1)) 0 0 0] (pre++o::(r0++[.rows 0 11 [kY k n nm on od (.mu (pre.length+(r0.length+1+1)) 1) a t z],.rows 1 11 [x.row,y.row]])) =
  some (.bool (sgB k x.ty y.ty),pre++o::(r0++[.rows 0 11 [kY k n nm on od (.mu (pre.length+(r0.length+1+1)) 1) a (sgR k) z],.rows 1 11 [x.row,y.row]])):=by
 have eI:=λwl af st=>ot wl af st;have eT:=λwl af st=>l8 wl af st;have tN:k≠12:=by omega
 rw[E.az x,E.az y];refine ay (sf:=p9) rfl rfl rfl ?_;unfold sgB sgR;by_cases X6:k=14;subst X6;by_cases q:x.ty=tI;simp[-ah,-aa,p9,dR,cm,fZ,eI,K9.dI,q,au,an,ag,AV.view];simp[-ah,-aa,p9,dR,cm,fZ,eI,K9.dI,q,au,an,ag,AV.view];by_cases h15:k=15;subst h15;by_cases q:x.ty=tI;simp[-ah,-aa,p9,dR,cm,fZ,eI,K9.dI,q,au,an,ag,AV.view];simp[-ah,-aa,p9,dR,cm,fZ,eI,K9.dI,q,au,an,ag,AV.view];by_cases h16:k=16;subst h16;by_cases q:x.ty=tI;simp[-ah,-aa,p9,dR,cm,fZ,eI,K9.dI,q,au,an,ag,AV.view];simp[-ah,-aa,p9,dR,cm,fZ,eI,K9.dI,q,au,an,ag,AV.view];by_cases h17:k=17;subst h17;by_cases q:x.ty=tI;simp[-ah,-aa,p9,dR,cm,fZ,eI,K9.dI,q,au,an,ag,AV.view];simp[-ah,-aa,p9,dR,cm,fZ,eI,K9.dI,q,au,an,ag,AV.view];by_cases h18:k=18;subst h18;by_cases q:x.ty=tI;simp[-ah,-aa,p9,dR,cm,fZ,eI,K9.dI,q,au,an,ag,AV.view];simp[-ah,-aa,p9,dR,cm,fZ,eI,K9.dI,q,au,an,ag,AV.view];by_cases h19:k=19;subst h19;by_cases q:x.ty=tI;simp[-ah,-aa,p9,dR,cm,fZ,eI,eT,K9.dI,q,au,an,ag,AV.view];simp[-ah,-aa,p9,dR,cm,fZ,eI,eT,K9.dI,q,au,an,ag,AV.view];by_cases h20:k=20;subst h20;by_cases q:x.ty=tI;simp[-ah,-aa,p9,dR,cm,fZ,eI,eT,K9.dI,q,au,an,ag,AV.view];simp[-ah,-aa,p9,dR,cm,fZ,eI,eT,K9.dI,q,au,an,ag,AV.view];by_cases h21:k=21;subst h21;simp[-ah,-aa,p9,dR,cm,fZ,eT,dU,ag,AV.view];by_cases h22:k=22;subst h22;simp[-ah,-aa,p9,dR,cm,fZ,eT,dU,ag,AV.view];by_cases q:x.ty=tB;simp[-ah,-aa,p9,dR,cm,fZ,eT,tN,X6,h15,h16,h17,h18,h19,h20,h21,h22,dB,q,au,an,ag,AV.view];simp[-ah,-aa,p9,dR,cm,fZ,eT,tN,X6,h15,h16,h17,h18,h19,h20,h21,h22,dB,q,au,an,ag,AV.view]
theorem Pf{H:Hd}{V:List Vd}{k:Int}{nm on:List UInt8}{od:Int}{ks:List E}(hk:12<=k):lV H V k nm on od ks=Cp (sgB k (qS ks) (if k=12\/k=13 then qS ks else B0 ks)) (sgR k):=by
 unfold lV sgB sgR;rw[if_neg (by omega),if_neg (by omega),if_neg (by omega),if_neg (by omega),if_neg (by omega),if_neg (by omega),if_neg (by omega),if_neg (by omega),if_neg (by omega),if_neg (by omega)];by_cases tN:k=12;subst tN;simp;by_cases Fe:k=13;subst Fe;simp;unfold Fv;rw[if_neg tN,if_neg Fe];have g:(if k=12\/k=13 then qS ks else B0 ks)=B0 ks:=if_neg (by omega);rw[g];by_cases c1:k=14\/k=15\/k=16\/k=17\/k=18;rcases c1 with h|h|h|h|h<;>subst h<;>simp;rw[if_neg c1];by_cases c2:k=19\/k=20;rcases c2 with h|h<;>subst h<;>simp;rw[if_neg c2,if_neg (show ¬(k=12\/k=14\/k=15\/k=16\/k=17\/k=18\/k=19\/k=20) by omega),if_neg (show ¬(k=12\/k=14\/k=15\/k=16\/k=17\/k=18) by omega)];split<;>rfl
end R9
namespace R9
open Ax Go bu V7 jG ke K9
variable {pre:aj}
def Ii(pre:aj)(o:dz)(r0 K:aj)(q:Option (T3×Int))(row:T3->Int->List AV)(v:AV)(st:aj):Prop:=∃b Y,v=.bool b/\st=pre++o::(r0++Y::K)/\match q with
 |none=>b=false|some (u,z)=>b=true/\Y=.rows 0 11 [row u z]
theorem iU{o:dz}{r0 K:aj}{row:T3->Int->List AV}{Y:dz}:Ii pre o r0 K none row (.bool false) (pre++o::(r0++Y::K)):=⟨false,Y,rfl,rfl,rfl⟩
theorem mS{o:dz}{r0 K:aj}{row:T3->Int->List AV}{u:T3}{z:Int}:Ii pre o r0 K (some (u,z)) row (.bool true) (pre++o::(r0++.rows 0 11 [row u z]::K)):=⟨true,_,rfl,rfl,rfl,rfl⟩
theorem AF{o:dz}{r0 K:aj}{row:T3->Int->List AV}{u:T3}{b:Bool}:Ii pre o r0 K (Cp b u) row (.bool b) (pre++o::(r0++.rows 0 11 [row u 0]::K)):=by
 cases b;exact iU;exact mS
theorem TA(af:Nat)(c:CK)(r0:aj)(e:E)(k n:Int)(nm on:List UInt8)(od a z:Int)(t:T3)(v:Nat)(ys:List E)(hs:oh c)(hn:ys.length<1000000000) :
  ∃v' bV,(bh S).call 0 af 144 [.ptr pre.length 0 0 0,.agg e.row,.ptr (pre.length+(r0.length+1)) 0 0 0] (pre++c.aU::(r0++[.rows 0 11 [kY k n nm on od (.mu (pre.length+(r0.length+1+1)) v) a t z],.rows v 11 (E.rows ys)]))=some (v',bV)/\
   Ii pre c.aU r0 [.rows v 11 (E.rows ys)] (oD c.H e.nm ys) (kY k n e.nm on od (.mu (pre.length+(r0.length+1+1)) v) a) v' bV:=by
 have hS:=hs.S;have S6:bX 6 (aA 6 (c.H.sigs.map Sg.row))=true:=gf (by simp[bL,Sg.row]);have WA:aD (aA 6 (c.H.sigs.map Sg.row))=true:=aL;have O4:aM (aA 6 (c.H.sigs.map Sg.row))=c.H.sigs.map Sg.row:=aE;have WB:=λwl af r bx=>S1 (pre:=pre) (wl:=wl) (af:=af) (c:=c) (r:=r) (bx:=bx);have ow:aD (aI e.aC)=true:=aR;have Ky:(aI e.aC).view=aI e.aC:=aN;rw[E.az e];generalize aI e.aC=kv at *;generalize aA 6 (c.H.sigs.map Sg.row)=SV at *;generalize c.aU=o at *;refine iT (sf:=Si) rfl rfl rfl ?_;simp[-ah,-aa,Si,cm,ow,ag];refine bf HK.eq_1 (λq:Nat×List AV=>⟨[(0,.val (.ptr pre.length 0 0 0)),(2,.val (.ptr (pre.length+(r0.length+1)) 0 0 0)),(4,.fp 0 0),(7,.val (.int .i64 q.1))],[[.int .i64 e.k,.int .i64 e.n,.str e.nm,.str e.on,.int .i64 e.od,kv,.int .i64 e.a,.int .i64 e.ty.b,.int .i64 e.ty.r,.int .i64 e.ty.d,.int .i64 e.cH],q.2],
   pre++o::(r0++[.rows 0 11 [kY k n e.nm on od (.mu (pre.length+(r0.length+1+1)) v) a t z],.rows v 11 (E.rows ys)])⟩)
  (λq=>q.1<=c.H.sigs.length/\mH e.nm 0 c.H.sigs=mH e.nm q.1 (c.H.sigs.drop q.1)) (λq=>c.H.sigs.length-q.1) (0,[]) (by simp) ⟨by simp,by simp⟩ ?_
 rintro⟨i,b1⟩ ⟨hi,hp⟩ ih;simp only at hi hp ih;by_cases aX:i<c.H.sigs.length;have hw:=wk i (by omega);rw[EA aX]at hp;have gS:∀h:i<(c.H.sigs.map Sg.row).length,(c.H.sigs.map Sg.row)[i]=[.str c.H.sigs[i].nm,br c.H.sigs[i].ps,.bool c.H.sigs[i].bP,.int .i64 c.H.sigs[i].bz.b,.int .i64 c.H.sigs[i].bz.r,.int .i64 c.H.sigs[i].bz.d]:=λh=>by simp[Sg.row]
 have gy:i<(c.H.sigs.map Sg.row).length:=by simpa using aX
 have yz:=gS gy;clear gS;have hnp:=hs.P _ (List.getElem_mem aX);have hzp:bX 4 (br c.H.sigs[i].ps)=true:=qU;have nF:aD (br c.H.sigs[i].ps)=true:=dL;have TB:aM (br c.H.sigs[i].ps)=c.H.sigs[i].ps.map Vd.row:=oX;have Cr:(br c.H.sigs[i].ps).view=br c.H.sigs[i].ps:=fC;have dy:=λb1=>ih (i+1,b1);simp only at dy;generalize Wa:c.H.sigs.map Sg.row=RS at *;have hgg:c.H.sigs[i]?=some c.H.sigs[i]:=List.getElem?_eq_getElem aX;generalize c.H.sigs[i]=g at *;by_cases h:g.nm=e.nm;rw[if_pos h]at hp;have vW:oD c.H e.nm ys=if ji g.ps ys then some (g.bz,(i:Int)) else none:=by unfold oD;rw[hp]
 rw[vW];by_cases hl:g.ps.length=ys.length;generalize br g.ps=PV at *;simp[-ah,-aa,dR,aY,WB,WA,S6,O4,gy,yz,nF,TB,Cr,h,hl,aV,bG,ag];clear ih dy;refine bf HJ.eq_1 (λj:Nat=>⟨[(2,.val (.ptr (pre.length+(r0.length+1)) 0 0 0)),(7,.val (.int .i64 i)),(8,.fp 1 0),(9,.val (.int .i64 j))],[[.int .i64 e.k,.int .i64 e.n,.str e.nm,.str e.on,.int .i64 e.od,kv,.int .i64 e.a,.int .i64 e.ty.b,.int .i64 e.ty.r,.int .i64 e.ty.d,.int .i64 e.cH],
   [.str e.nm,PV,.bool g.bP,.int .i64 g.bz.b,.int .i64 g.bz.r,.int .i64 g.bz.d]],
   pre++o::(r0++[.rows 0 11 [kY k n e.nm on od (.mu (pre.length+(r0.length+1+1)) v) a t z],.rows v 11 (E.rows ys)])⟩)
  (λj=>j<=ys.length/\ji g.ps ys=ji (g.ps.drop j) (ys.drop j)) (λj=>ys.length-j) 0 (by simp) ⟨by simp,by simp⟩ ?_
 rintro j ⟨hj,hq⟩ ih;by_cases xm:j<ys.length;have hwj:=wk j (by omega);have hjp:j<g.ps.length:=by omega
 rw[Gz hjp xm]at hq;have gE:=u5 xm;have gV:∀h:j<(g.ps.map Vd.row).length,(g.ps.map Vd.row)[j]=[.str g.ps[j].nm,.int .i64 g.ps[j].ty.b,.int .i64 g.ps[j].ty.r,.int .i64 g.ps[j].ty.d]:=λh=>by simp[Vd.row]
 have XM:j<(g.ps.map Vd.row).length:=by simpa using hjp
 have gV':=gV XM;clear gV;have gV2:(g.ps.map Vd.row)[j]?=some [.str g.ps[j].nm,.int .i64 g.ps[j].ty.b,.int .i64 g.ps[j].ty.r,.int .i64 g.ps[j].ty.d]:=by simp[hjp,Vd.row]
 rw[E.az]at gE;have FX:j<(E.rows ys).length:=by simpa using xm
 have m9:=oY xm FX;rw[E.az]at m9;generalize hRY:E.rows ys=RY at *;generalize hRP:g.ps.map Vd.row=RP at *;by_cases qq:ys[j].ty=g.ps[j].ty;have dq:(decide (ys[j].ty.b=g.ps[j].ty.b)&&(decide (ys[j].ty.r=g.ps[j].ty.r)&&decide (ys[j].ty.d=g.ps[j].ty.d)))=true:=by rw[dU];exact decide_eq_true qq
 rw[decide_eq_true qq,Bool.true_and]at hq;generalize ys[j]=y at *;generalize g.ps[j]=f at *;simp[-ah,-aa,dR,fZ,aY,FX,m9,gV',hzp,TB,XM,qq,hwj,aV,bG];exact ih (j+1) ⟨by omega,hq⟩ (by omega);rw[decide_eq_false qq,Bool.false_and]at hq;rw[hq];generalize ys[j]=y at *;generalize g.ps[j]=f at *;simp[-ah,-aa,dR,fZ,aY,FX,m9,gV',hzp,TB,XM,dU,qq,aV,bG];exact iU;have eL:j=ys.length:=by omega
 have:ji g.ps ys=true:=by rw[hq,eL,List.drop_length,<-hl,List.drop_length];rfl
 rw[this];simp[-ah,-aa,dR,cm,eL,ag];exact mS;have jy:ji g.ps ys=false:=by
  cases hq:ji g.ps ys with
  |false=>rfl|true=>exact absurd (Ao hq) hl
 rw[jy];generalize br g.ps=PV at *;simp[-ah,-aa,dR,aY,WB,WA,S6,O4,gy,yz,nF,TB,Cr,h,hl,aV,bG,ag];exact iU;rw[if_neg h]at hp;generalize br g.ps=PV at *;simp[-ah,-aa,aY,WB,WA,S6,O4,gy,yz,nF,Cr,h,hw,ag];exact dy _ ⟨by omega,hp⟩ (by omega);have eL:i=c.H.sigs.length:=by omega
 have jy:mH e.nm 0 c.H.sigs=none:=by rw[hp,eL,List.drop_length];rfl
 have vW:oD c.H e.nm ys=none:=by unfold oD;rw[jy]
 rw[vW];simp[-ah,-aa,WB,WA,O4,aX];exact iU
end R9
namespace R9
open Ax Go bu V7 jG ke K9
variable {pre:aj}
theorem zK(af:Nat)(c:CK)(r0:aj)(e:E)(k n:Int)(nm on:List UInt8)(od a z:Int)(t:T3)(hs:oh c) :
  ∃v' bV,(bh S).call 0 af 144 [.ptr pre.length 0 0 0,.agg e.row,.ptr (pre.length+(r0.length+1)) 0 0 0] (pre++c.aU::(r0++[.rows 0 11 [kY k n nm on od .U a t z]]))=some (v',bV)/\
   Ii pre c.aU r0 [] (oD c.H e.nm []) (kY k n e.nm on od .U a) v' bV:=by
 have hS:=hs.S;have S6:bX 6 (aA 6 (c.H.sigs.map Sg.row))=true:=gf (by simp[bL,Sg.row]);have WA:aD (aA 6 (c.H.sigs.map Sg.row))=true:=aL;have O4:aM (aA 6 (c.H.sigs.map Sg.row))=c.H.sigs.map Sg.row:=aE;have WB:=λwl af r bx=>S1 (pre:=pre) (wl:=wl) (af:=af) (c:=c) (r:=r) (bx:=bx);have ow:aD (aI e.aC)=true:=aR;have Ky:(aI e.aC).view=aI e.aC:=aN;rw[E.az e];generalize aI e.aC=kv at *;generalize aA 6 (c.H.sigs.map Sg.row)=SV at *;generalize c.aU=o at *;refine iT (sf:=Si) rfl rfl rfl ?_;simp[-ah,-aa,Si,cm,ow,ag];refine bf HK.eq_1 (λq:Nat×List AV=>⟨[(0,.val (.ptr pre.length 0 0 0)),(2,.val (.ptr (pre.length+(r0.length+1)) 0 0 0)),(4,.fp 0 0),(7,.val (.int .i64 q.1))],[[.int .i64 e.k,.int .i64 e.n,.str e.nm,.str e.on,.int .i64 e.od,kv,.int .i64 e.a,.int .i64 e.ty.b,.int .i64 e.ty.r,.int .i64 e.ty.d,.int .i64 e.cH],q.2],
   pre++o::(r0++[.rows 0 11 [kY k n e.nm on od .U a t z]])⟩)
  (λq=>q.1<=c.H.sigs.length/\mH e.nm 0 c.H.sigs=mH e.nm q.1 (c.H.sigs.drop q.1)) (λq=>c.H.sigs.length-q.1) (0,[]) (by simp) ⟨by simp,by simp⟩ ?_
 rintro⟨i,b1⟩ ⟨hi,hp⟩ ih;simp only at hi hp ih;by_cases aX:i<c.H.sigs.length;have hw:=wk i (by omega);rw[EA aX]at hp;have gS:∀h:i<(c.H.sigs.map Sg.row).length,(c.H.sigs.map Sg.row)[i]=[.str c.H.sigs[i].nm,br c.H.sigs[i].ps,.bool c.H.sigs[i].bP,.int .i64 c.H.sigs[i].bz.b,.int .i64 c.H.sigs[i].bz.r,.int .i64 c.H.sigs[i].bz.d]:=λh=>by simp[Sg.row]
 have gy:i<(c.H.sigs.map Sg.row).length:=by simpa using aX
 have yz:=gS gy;clear gS;have hnp:=hs.P _ (List.getElem_mem aX);have hzp:bX 4 (br c.H.sigs[i].ps)=true:=qU;have nF:aD (br c.H.sigs[i].ps)=true:=dL;have TB:aM (br c.H.sigs[i].ps)=c.H.sigs[i].ps.map Vd.row:=oX;have Cr:(br c.H.sigs[i].ps).view=br c.H.sigs[i].ps:=fC;have dy:=λb1=>ih (i+1,b1);simp only at dy;generalize Wa:c.H.sigs.map Sg.row=RS at *;have hgg:c.H.sigs[i]?=some c.H.sigs[i]:=List.getElem?_eq_getElem aX;generalize c.H.sigs[i]=g at *;by_cases h:g.nm=e.nm;rw[if_pos h]at hp;have vW:oD c.H e.nm []=if ji g.ps [] then some (g.bz,(i:Int)) else none:=by unfold oD;rw[hp]
 rw[vW];by_cases hl:g.ps.length=0;generalize br g.ps=PV at *;simp[-ah,-aa,dR,aY,WB,WA,S6,O4,gy,yz,nF,TB,Cr,h,hl,aV,bG,ag];clear ih dy;refine bf HJ.eq_1 (λj:Nat=>⟨[(2,.val (.ptr (pre.length+(r0.length+1)) 0 0 0)),(7,.val (.int .i64 i)),(8,.fp 1 0),(9,.val (.int .i64 j))],[[.int .i64 e.k,.int .i64 e.n,.str e.nm,.str e.on,.int .i64 e.od,kv,.int .i64 e.a,.int .i64 e.ty.b,.int .i64 e.ty.r,.int .i64 e.ty.d,.int .i64 e.cH],
   [.str e.nm,PV,.bool g.bP,.int .i64 g.bz.b,.int .i64 g.bz.r,.int .i64 g.bz.d]],
   pre++o::(r0++[.rows 0 11 [kY k n e.nm on od .U a t z]])⟩)
  (λj=>j<=0/\ji g.ps []=ji (g.ps.drop j) []) (λj=>0-j) 0 (by simp) ⟨by simp,by simp⟩ ?_
 rintro j ⟨hj,hq⟩ ih;have eL:j=0:=by omega
 have:ji g.ps []=true:=by rw[List.length_eq_zero_iff.1 hl];rfl
 rw[this];simp[-ah,-aa,dR,cm,eL,ag];exact mS;have jy:ji g.ps []=false:=by
  cases hq:ji g.ps [] with
  |false=>rfl|true=>exact absurd (Ao hq) hl
 rw[jy];generalize br g.ps=PV at *;simp[-ah,-aa,dR,aY,WB,WA,S6,O4,gy,yz,nF,TB,Cr,h,hl,aV,bG,ag];exact iU;rw[if_neg h]at hp;generalize br g.ps=PV at *;simp[-ah,-aa,aY,WB,WA,S6,O4,gy,yz,nF,Cr,h,hw,ag];exact dy _ ⟨by omega,hp⟩ (by omega);have eL:i=c.H.sigs.length:=by omega
 have jy:mH e.nm 0 c.H.sigs=none:=by rw[hp,eL,List.drop_length];rfl
 have vW:oD c.H e.nm []=none:=by unfold oD;rw[jy]
 rw[vW];simp[-ah,-aa,WB,WA,O4,aX];exact iU
theorem Ph{l:List (List UInt8)}:qj (aA 1 (ga l))=true:=by
 unfold qj lT;rw[N7.Ak,N7.xJ (by simp[bL,ga]),aE];simp[ga,Ng]
theorem Ki{l:List (List UInt8)}:eu (aA 1 (ga l))=l:=by
 simp only[eu,aE,ga,List.map_map];conv=>rhs;rw[<-List.map_id l]
 exact List.map_congr_left λ_ _=>rfl
theorem Ij(wl af:Nat)(l:List (List UInt8))(s:List UInt8)(d:Int)(st:aj)(hn:l.length<1000000000) :
  (bh S).call wl af 89 [aA 1 (ga l),.agg [.str s,.int .i64 d]] st=some (LJ (bZ l s d),st):=by
 rw[U7.EW wl af (aA 1 (ga l)) s d st Ph (by rw[Ki];exact hn),Ki]
 rfl
theorem CV(wl af:Nat)(t:T3)(st:aj):(bh S).call wl af 34 [.agg [.int .i64 t.b,.int .i64 t.r,.int .i64 t.d]] st=some (.bool (nK t),st):=U7.CV wl af t st
def qK(i:Nat)(ys:List E):AV:=if ys.isEmpty then .U else .mu i (ys.length-1)
def kK(ys:List E):aj:=if ys.isEmpty then [] else [.rows (ys.length-1) 11 (E.rows ys)]
theorem TC(af:Nat)(c:CK)(r0:aj)(e:E)(k n:Int)(nm on:List UInt8)(od a z:Int)(t:T3)(ys:List E)(hs:oh c)(hn:ys.length<1000000000) :
  ∃v' bV,(bh S).call 0 af 144 [.ptr pre.length 0 0 0,.agg e.row,.ptr (pre.length+(r0.length+1)) 0 0 0] (pre++c.aU::(r0++.rows 0 11 [kY k n nm on od (qK (pre.length+(r0.length+1+1)) ys) a t z]::kK ys))=some (v',bV)/\
   Ii pre c.aU r0 (kK ys) (oD c.H e.nm ys) (kY k n e.nm on od (qK (pre.length+(r0.length+1+1)) ys) a) v' bV:=by
 cases ys with
 |nil=>exact zK (pre:=pre) af c r0 e k n nm on od a z t hs|cons y l=>exact TA (pre:=pre) af c r0 e k n nm on od a z t ((y::l).length-1) (y::l) hs hn
end R9
namespace R9
open Ax Go bu V7 jG ke K9
variable {pre:aj}
theorem Er(af:Nat)(c:CK)(r0:aj)(e:E)(ys:List E)(hs:oh c)(hn:ys.length<1000000000)(hk:gq e.k e.n ys.length=true)(tN:e.k<12)(Wa:c.H.rs.length=c.H.bK.length)(hw:∀x∈ys,WT c.H.rs.length x.ty) :
  ∃v' bV,(bh S).call 0 af 132 [.ptr pre.length 0 0 0,.agg e.row,.ptr (pre.length+(r0.length+1)) 0 0 0] (pre++c.aU::(r0++.rows 0 11 [kY e.k 0 [] [] 0 (qK (pre.length+(r0.length+1+1)) ys) e.a T0 0]::kK ys))=some (v',bV)/\
   Ii pre c.aU r0 (kK ys) (lV c.H c.V e.k e.nm e.on e.od ys) (kY e.k (pT e.k e.n) (kG e.k e.nm) (kH e.k e.on) (kI e.k e.od) (qK (pre.length+(r0.length+1+1)) ys) e.a) v' bV:=by
 have eI:=λwl af st=>ot wl af st;have eT:=λwl af st=>l8 wl af st;have eV:=λaf r=>gO (pre:=pre) af c e.nm r hs;have pU:=λwl af st=>Ij wl af c.H.rs e.on e.od st hs.R;have Nu:=λwl af st=>CV wl af (bZ c.H.rs e.on e.od).1 st;have ecl:=λaf k n nm on od a z t=>TC (pre:=pre) af c r0 e k n nm on od a z t ys hs hn;have Kj:=λwl af r bx=>uN (pre:=pre) (wl:=wl) (af:=af) (c:=c) (r:=r) (bx:=bx);have esh:=λwl af r bx=>V5 (pre:=pre) (wl:=wl) (af:=af) (c:=c) (r:=r) (bx:=bx);have ow:aD (aI e.aC)=true:=aR;have Ky:(aI e.aC).view=aI e.aC:=aN;have XU:=mY c.H.rs e.on e.od;rw[E.az e]at *;generalize aI e.aC=kv at *;have nil:∀j,e.k=j->(j=1\/j=2\/j=3\/j=4\/j=8\/j=11)->ys=[]:=λj hj h=>by
  rw[hj]at hk;rcases h with h|h|h|h|h|h<;>subst h<;>simp[gq]at hk<;>first|exact hk|exact hk.1
 have one:∀j,e.k=j->(j=5\/j=9\/j=10)->∃x,ys=[x]:=λj hj h=>by
  have hlen:ys.length=1:=by
   rw[hj]at hk;rcases h with h|h|h<;>subst h<;>simpa [gq] using hk
  match ys,hlen with
  |[x],_=>exact⟨x,rfl⟩
 by_cases h1:e.k=1;have hy:=nil 1 h1 (by simp);subst hy;rw[h1];refine iT (sf:=lS) rfl rfl rfl ?_;simp[-ah,-aa,lS,cm,qK,kK,eI,ow,ag,AV.view];exact mS;by_cases h2:e.k=2;have hy:=nil 2 h2 (by simp);subst hy;rw[h2];refine iT (sf:=lS) rfl rfl rfl ?_;simp[-ah,-aa,lS,cm,qK,kK,eT,ow,ag,AV.view];exact mS;by_cases zg:e.k=11;have hy:=nil 11 zg (by simp);subst hy;rw[zg];refine iT (sf:=lS) rfl rfl rfl ?_;simp[-ah,-aa,lS,cm,qK,kK,eI,ow,ag,AV.view];exact mS;by_cases h3:e.k=3;have hy:=nil 3 h3 (by simp);subst hy;rw[h3];have Iv:lV c.H c.V 3 e.nm e.on e.od []=Cp ((bZ c.H.rs e.on e.od).2&&nK (bZ c.H.rs e.on e.od).1) (bZ c.H.rs e.on e.od).1:=rfl;rw[Iv];refine iT (sf:=lS) rfl rfl rfl ?_;unfold LJ at pU;generalize bZ c.H.rs e.on e.od=tt at *;obtain⟨t,b⟩:=tt;generalize c.aU=o at *;cases b;simp[-ah,-aa,lS,cm,qK,kK,Kj,pU,ow,ag,AV.view,aV,bG];exact iU;cases hr:nK t with
 |false=>
  rw[hr]at Nu;simp[-ah,-aa,lS,cm,qK,kK,Kj,pU,Nu,ow,ag,AV.view,aV,bG];exact iU
 |true=>
  rw[hr]at Nu;simp[-ah,-aa,lS,cm,qK,kK,Kj,pU,Nu,ow,ag,AV.view,aV,bG];exact mS
 by_cases h8:e.k=8;have hy:=nil 8 h8 (by simp);subst hy;rw[h8];have Iv:lV c.H c.V 8 e.nm e.on e.od []=Cp ((bZ c.H.rs e.on e.od).2&&decide ((bZ c.H.rs e.on e.od).1.b=3)&&decide ((bZ c.H.rs e.on e.od).1.d=0)) (bZ c.H.rs e.on e.od).1:=rfl;rw[Iv];refine iT (sf:=lS) rfl rfl rfl ?_;unfold LJ at pU;generalize bZ c.H.rs e.on e.od=tt at *;obtain⟨t,b⟩:=tt;generalize c.aU=o at *;cases b;simp[-ah,-aa,lS,cm,qK,kK,Kj,pU,ow,ag,AV.view,aV,bG];exact iU;by_cases hd:t.d=0;have DJ:(t.d=0)=True:=eq_true hd;by_cases hb:t.b=3;have hr:nK t=true:=by unfold nK;simp[hb]
 rw[hr]at Nu;rw[decide_eq_true hb,decide_eq_true hd];simp[-ah,-aa,lS,cm,qK,kK,Kj,pU,Nu,DJ,ow,ag,AV.view,aV,bG];exact mS;have hr:nK t=false:=by unfold nK;simp[hb,hd]
 rw[hr]at Nu;rw[decide_eq_false hb];simp[-ah,-aa,lS,cm,qK,kK,Kj,pU,Nu,ow,ag,AV.view,aV,bG];exact iU;cases hr:nK t with
 |false=>
  rw[hr]at Nu;simp[-ah,-aa,lS,cm,qK,kK,Kj,pU,Nu,hd,ow,ag,AV.view,aV,bG];exact iU
 |true=>
  rw[hr]at Nu;simp[-ah,-aa,lS,cm,qK,kK,Kj,pU,Nu,hd,ow,ag,AV.view,aV,bG];exact iU
 by_cases h4:e.k=4;have hy:=nil 4 h4 (by simp);subst hy;rw[h4];have Iv:lV c.H c.V 4 e.nm e.on e.od []=rZ c.H c.V e.nm:=rfl;rw[Iv];refine iT (sf:=lS) rfl rfl rfl ?_;generalize rZ c.H c.V e.nm=vt at *;generalize c.aU=o at *;cases vt with
 |none=>
  simp[-ah,-aa,lS,cm,qK,kK,eV,wK,ow,ag,AV.view];exact iU
 |some x=>
  simp[-ah,-aa,lS,cm,qK,kK,eV,wK,ow,ag,AV.view];exact mS
 by_cases h9:e.k=9;obtain⟨y,rfl⟩:=one 9 h9 (by simp);rw[h9];have Iv:lV c.H c.V 9 e.nm e.on e.od [y]=Cp ((bZ c.H.rs e.on e.od).2&&decide ((bZ c.H.rs e.on e.od).1.d<3)&&decide (y.ty=tI)) ⟨(bZ c.H.rs e.on e.od).1.b,(bZ c.H.rs e.on e.od).1.r,(bZ c.H.rs e.on e.od).1.d+1⟩:=rfl;rw[Iv];refine iT (sf:=lS) rfl rfl rfl ?_;have mI:IntKind.i64.wrap ((bZ c.H.rs e.on e.od).1.d+1)=(bZ c.H.rs e.on e.od).1.d+1:=by
  have:=XU.1;have:=XU.2.1;rw[ee]<;>omega
 unfold LJ at pU;generalize bZ c.H.rs e.on e.od=tt at *;obtain⟨t,b⟩:=tt;generalize c.aU=o at *;dsimp only;cases b;simp[-ah,-aa,lS,cm,qK,kK,E.rows,E.az,Kj,pU,mI,ow,ag,AV.view,au,aV,bG,an];exact iU;by_cases q:t.d<3;simp[-ah,-aa,lS,dR,cm,fZ,qK,kK,E.rows,E.az,Kj,pU,eI,K9.dI,q,mI,ow,ag,AV.view,au,aV,bG,an];exact AF;simp[-ah,-aa,lS,cm,qK,kK,E.rows,E.az,Kj,pU,q,mI,ow,ag,AV.view,au,aV,bG,an];exact iU;by_cases AP:e.k=10;obtain⟨y,rfl⟩:=one 10 AP (by simp);rw[AP];have Iv:lV c.H c.V 10 e.nm e.on e.od [y]=Cp (decide (0<y.ty.d)) tI:=rfl;rw[Iv];refine iT (sf:=lS) rfl rfl rfl ?_;generalize c.aU=o at *;simp[-ah,-aa,lS,dR,cm,fZ,qK,kK,E.rows,E.az,eI,ow,ag,AV.view];exact AF;by_cases h6:e.k=6;obtain⟨x,y,rfl⟩:∃x y,ys=[x,y]:=by
  have hlen:ys.length=2:=by rw[h6]at hk;simpa [gq] using hk
  match ys,hlen with
  |[x,y],_=>exact⟨x,y,rfl⟩
 rw[h6];have Iv:lV c.H c.V 6 e.nm e.on e.od [x,y]=Cp (decide (0<x.ty.d)&&decide (y.ty=tI)) ⟨x.ty.b,x.ty.r,x.ty.d-1⟩:=rfl;rw[Iv];have mI:IntKind.i64.wrap (x.ty.d-1)=x.ty.d-1:=by
  have wx:=hw x (by simp);have:=wx.1;have:=wx.2.1;rw[ee]<;>omega
 refine iT (sf:=lS) rfl rfl rfl ?_;generalize c.aU=o at *;by_cases q:0<x.ty.d;simp[-ah,-aa,lS,dR,cm,fZ,qK,kK,E.rows,E.az,eI,K9.dI,q,mI,ow,ag,AV.view,au,an];exact AF;simp[-ah,-aa,lS,dR,cm,fZ,qK,kK,E.rows,E.az,q,mI,ow,ag,AV.view,au,an];exact iU;by_cases h5:e.k=5;obtain⟨y,rfl⟩:=one 5 h5 (by simp);rw[h5];have Iv:lV c.H c.V 5 e.nm e.on e.od [y]=wE c.H y.ty e.nm:=rfl;rw[Iv];refine iT (sf:=lS) rfl rfl rfl ?_;have Ym:bX 2 (aA 2 (c.H.bK.map dx))=true:=gf (by simp[bL,dx]);have oz:aD (aA 2 (c.H.bK.map dx))=true:=aL;have CQ:aM (aA 2 (c.H.bK.map dx))=c.H.bK.map dx:=aE;generalize aA 2 (c.H.bK.map dx)=SV at *;generalize c.aU=o at *;unfold wE;by_cases hb:y.ty.b=3;by_cases hd:y.ty.d=0;rw[if_pos ⟨hb,hd⟩];have wy:=(hw y (by simp)).2.2 hb;rw[Wa]at wy;obtain⟨j,hj⟩:∃j:Nat,y.ty.r=j:=⟨y.ty.r.toNat,by omega⟩;have xm:j<c.H.bK.length:=by omega
 have hg:c.H.bK[j]?=some c.H.bK[j]:=List.getElem?_eq_getElem xm;have hF:=hs.F _ (List.getElem_mem xm);have XT:∀h:j<(c.H.bK.map dx).length,(c.H.bK.map dx)[j]=[.str c.H.bK[j].1,br c.H.bK[j].2]:=λh=>by simp[dx]
 have afl:j<(c.H.bK.map dx).length:=by simpa using xm
 have ajW:=XT afl;clear XT;generalize c.H.bK[j]=sh at *;generalize c.H.bK.map dx=RS at *;rw[hj,Int.toNat_natCast,hg];simp only;have hzp:bX 4 (br sh.2)=true:=qU;have nF:aD (br sh.2)=true:=dL;have TB:aM (br sh.2)=sh.2.map Vd.row:=oX;have Cr:(br sh.2).view=br sh.2:=fC;generalize br sh.2=PV at *;simp[-ah,-aa,lS,dR,cm,fZ,aY,esh,Ym,CQ,afl,ajW,Cr,qK,kK,E.rows,E.az,hb,hd,hj,ow,ag,AV.view,au,an];refine bf M5.eq_1 (λi:Nat=>⟨[(2,.val (.ptr (pre.length+(r0.length+1)) 0 0 0)),(4,.fp 0 0),(16,.val PV),(17,.val (.int .i64 i))],[[.int .i64 5,.int .i64 e.n,.str e.nm,.str e.on,.int .i64 e.od,kv,.int .i64 e.a,.int .i64 e.ty.b,.int .i64 e.ty.r,.int .i64 e.ty.d,.int .i64 e.cH],[],[],[],[],[.int .i64 3,.int .i64 j,.int .i64 0]],
   pre++o::(r0++[.rows 0 11 [kY 5 0 e.nm [] 0 (.mu (pre.length+(r0.length+1+1)) 0) e.a T0 0],.rows 0 11 [[.int .i64 y.k,.int .i64 y.n,.str y.nm,.str y.on,.int .i64 y.od,aI y.aC,.int .i64 y.a,.int .i64 3,.int .i64 j,.int .i64 0,.int .i64 y.cH]]])⟩)
  (λi=>i<=sh.2.length/\eJ e.nm 0 sh.2=eJ e.nm i (sh.2.drop i)) (λi=>sh.2.length-i) 0 (by simp) ⟨by simp,by simp⟩ ?_
 rintro i ⟨hi,hp⟩ ih;by_cases E9:i<sh.2.length;have hwi:=wk i (by omega);rw[tO E9]at hp;by_cases q:sh.2[i].nm=e.nm;rw[if_pos q]at hp;rw[hp];simp[-ah,-aa,cm,aY,hzp,nF,TB,Cr,E9,q,Vd.row,ag,AV.view,au,an];exact mS;rw[if_neg q]at hp;simp[-ah,-aa,aY,hzp,nF,TB,Cr,E9,q,hwi,Vd.row,AV.view,au,an];exact ih (i+1) ⟨by omega,hp⟩ (by omega);have eL:i=sh.2.length:=by omega
 have jy:eJ e.nm 0 sh.2=none:=by rw[hp,eL,List.drop_length];rfl
 rw[jy];simp[-ah,-aa,nF,TB,E9];exact iU;rw[if_neg (λh=>hd h.2)];simp[-ah,-aa,lS,dR,cm,fZ,qK,kK,E.rows,E.az,hb,hd,ow,ag,AV.view];exact iU;rw[if_neg (λh=>hb h.1)];simp[-ah,-aa,lS,dR,cm,fZ,qK,kK,E.rows,E.az,hb,ow,ag,AV.view];exact iU;have h7:e.k=7:=by
  have:(0:Int)<e.k:=by
   apply Classical.byContradiction;intro hc;unfold gq at hk;rw[if_neg (by omega),if_neg h2,if_neg (by omega),if_neg (by omega)]at hk;simp[h6]at hk;omega
  omega
 rw[h7];have Iv:lV c.H c.V 7 e.nm e.on e.od ys=oD c.H e.nm ys:=rfl;rw[Iv];obtain⟨v',bV,e1,e2⟩:=ecl ((pre++c.aU::(r0++.rows 0 11 [kY 7 0 [] [] 0 (qK (pre.length+(r0.length+1+1)) ys) e.a T0 0]::kK ys)).length) 7 0 [] [] 0 e.a 0 T0;refine⟨v',bV,?_,e2⟩;obtain⟨b,Y,rfl,rfl,_⟩:=e2;simp only[List.length_cons,List.length_append,h7]at e1;have hkc:(qK (pre.length+(r0.length+1+1)) ys).cy=true:=by unfold qK;split<;>rfl
 generalize c.aU=o at *;generalize qK (pre.length+(r0.length+1+1)) ys=kw at *;generalize kK ys=K at *;refine ay (sf:=lS) rfl rfl rfl ?_;simp[-ah,-aa,lS,e1,ow,Ky,AV.view]
 done
end R9
namespace R9
open Ax Go bu V7 jG ke K9
variable {pre:aj}
def J0(pre:aj)(c:CK)(e:E):Prop:=match xE c.H c.V e with
 |.ok y=>∀af r,(bh S).call 0 af 109 [.ptr pre.length 0 0 0,.agg e.row] (pre++c.aU::r)=some (.agg y.row,pre++c.aU::r)|.error a=>∀af r,(bh S).call 0 af 109 [.ptr pre.length 0 0 0,.agg e.row] (pre++c.aU::r)=some (.agg E0.row,pre++(c.fail a).aU::r)
def Kx(pre:aj)(c:CK)(e:E):Prop:=match EB c e with
 |.ok y=>∀af r,(bh S).call 0 af 110 [.ptr pre.length 0 0 0,.agg e.row] (pre++c.aU::r)=some (.agg y.row,pre++c.aU::r)|.error a=>∃y:E,∀af r,(bh S).call 0 af 110 [.ptr pre.length 0 0 0,.agg e.row] (pre++c.aU::r)=some (.agg y.row,pre++(c.fail a).aU::r)
theorem Ik:E0.row=[.int .i64 0,.int .i64 0,.str [],.str [],.int .i64 0,.U,.int .i64 0,.int .i64 0,.int .i64 0,.int .i64 0,.int .i64 0]:=by simp[E0,E.row,E.rows]
theorem afm{H:Hd}{V:List Vd}{e y:E}(h:xE H V e=.ok y):y.a=e.a:=by
 obtain⟨ks,t,r,_,_,_,rfl⟩:=yU h
 rfl
theorem wL(c:CK)(e:E)(hf:c.fe=0)(h:J0 pre c e):Kx pre c e:=by
 unfold J0 at h;unfold Kx EB;have fy:=λaf r=>gC (pre:=pre) af c r;rw[decide_eq_true hf]at fy;have ow:aD (aI e.aC)=true:=aR;have Ky:(aI e.aC).view=aI e.aC:=aN;cases hc:xE c.H c.V e with
 |error a=>
  rw[hc]at h;simp only at h ⊢;refine⟨E0,λaf r=>?_⟩;have xZ:=fV (c:=c) (a:=a);have gr:=λaf r=>gC (pre:=pre) af (c.fail a) r;rw[decide_eq_false xZ]at gr;rw[Ik]at h ⊢;rw[E.az e]at h ⊢;generalize (c.fail a).aU=o2 at *;generalize c.aU=o at *;generalize aI e.aC=kv at *;refine ay (sf:=Ln) rfl rfl rfl ?_;simp[-ah,-aa,Ln,h,gr,ow,Ky,ag,AV.view]
 |ok y=>
  rw[hc]at h;simp only at h ⊢;have ha:=afm hc;have B2:aD (aI y.aC)=true:=aR;have hyw:(aI y.aC).view=aI y.aC:=aN;by_cases q:y.ty=T0;rw[if_pos q];refine⟨y,λaf r=>?_⟩;have ef:=λaf r=>jl (pre:=pre) af c e.a r;rw[show c.fail y.a=c.fail e.a by rw[ha]];rw[E.az e]at h ⊢;rw[E.az y]at h ⊢;generalize (c.fail e.a).aU=o2 at *;generalize c.aU=o at *;generalize aI e.aC=kv at *;generalize aI y.aC=yv at *;refine ay (sf:=Ln) rfl rfl rfl ?_;simp[-ah,-aa,Ln,h,fy,q,ef,ow,Ky,B2,hyw,ag,AV.view];rw[if_neg q];intro af r;rw[E.az e]at h ⊢;rw[E.az y]at h ⊢;generalize c.aU=o at *;generalize aI e.aC=kv at *;generalize aI y.aC=yv at *;refine ay (sf:=Ln) rfl rfl rfl ?_;simp[-ah,-aa,Ln,h,fy,d0,q,ow,Ky,B2,hyw,ag,AV.view]
theorem AG{n k:Nat}{o:dz}{r0 K:aj}{cs:List AV}{v:AV}{bx:bF}(h1:v.cells.length=n)(h2:AV.bq v.cells=true)(h3:k+v.cells.length<=cs.length) :
  aW 0 (pre.length+(r0.length+1)) (.store n) [.val (.ptr (pre.length+(r0.length+1)) 0 0 k),.val v] (pre++o::(r0++.rows 0 11 [cs]::K)) bx=some (.none,pre++o::(r0++.rows 0 11 [ag cs k v.cells]::K),bx):=by
 rw[aa,if_pos ⟨h1,h2⟩];simp[cu,aQ,h3]
theorem NI{af n j k w:Nat}{o X:dz}{r0 K:aj}{rows:List (List AV)}{row:List AV}{v:AV}{bx:bF}(hr:rows[j]?=some row)(h1:v.cells.length=n)(h2:AV.bq v.cells=true)(h3:k+v.cells.length<=row.length)(h4:AV.ai v.cells=true) :
  aW 0 af (.store n) [.val (.ptr (pre.length+(r0.length+1+1)) w j k),.val v] (pre++o::(r0++X::.rows w 11 rows::K)) bx=some (.none,pre++o::(r0++X::.rows w 11 (rows.set j (ag row k v.cells))::K),bx):=by
 rw[aa,if_pos ⟨h1,h2⟩];simp[cu,aQ,h3,h4,hr]
def wU:List AV:=[.int .i64 0,.int .i64 0,.str [],.str [],.int .i64 0,.U,.int .i64 0,.int .i64 0,.int .i64 0,.int .i64 0,.int .i64 0]
theorem Pj(c:CK)(e:E)(hf:c.fe=0)(hn:e.aC.length<1000000000)(hl:∀x∈e.aC,J0 pre c x)(_lim:Nat)(r0:aj){rs:List iE}{Q:Ex->St->Prop}{kk:List qy}(b1:List AV)(kv:AV)(ow:kv=aI e.aC)(row:List AV)(cZ:row=[.int .i64 e.k,.int .i64 e.n,.str e.nm,.str e.on,.int .i64 e.od,kv,.int .i64 e.a,.int .i64 e.ty.b,.int .i64 e.ty.r,.int .i64 e.ty.d,.int .i64 e.cH])
  (Gc:∀ys,kN c.H c.V e.aC=.ok ys->W S 0 (pre.length+(r0.length+1)) rs Q kk .normal ⟨[(0,.val (.ptr pre.length 0 0 0)),(3,.fp 0 0),(4,.fp 1 0),(6,.val (.ptr (pre.length+(r0.length+1)) 0 0 0))],[row,b1],pre++c.aU::(r0++.rows 0 11 [kY e.k 0 [] [] 0 (qK (pre.length+(r0.length+1+1)) ys) e.a T0 0]::kK ys)⟩)
  (jy:∀a X K,kN c.H c.V e.aC=.error a->W S 0 (pre.length+(r0.length+1)) rs Q kk .normal ⟨[(0,.val (.ptr pre.length 0 0 0)),(3,.fp 0 0),(4,.fp 1 0),(6,.val (.ptr (pre.length+(r0.length+1)) 0 0 0))],[row,b1],pre++(c.fail a).aU::(r0++X::K)⟩) :
  W S 0 (pre.length+(r0.length+1)) rs Q (.code (.loop qB)::.jF 0::kk) .normal ⟨[(0,.val (.ptr pre.length 0 0 0)),(3,.fp 0 0),(4,.fp 1 0),(6,.val (.ptr (pre.length+(r0.length+1)) 0 0 0)),(7,.val (.int .i64 0))],[row,b1],pre++c.aU::(r0++[.rows 0 11 [kY e.k 0 [] [] 0 .U e.a T0 0]])⟩:=by
 subst cZ;have hz:bX 11 kv=true:=by rw[ow];exact iM
 have cC:aD kv=true:=by rw[ow];exact aR
 have dW:kv.view=kv:=by rw[ow];exact aN
 have cP:aM kv=E.rows e.aC:=by rw[ow];exact aE
 have fy:=λaf r=>gC (pre:=pre) af c r;rw[decide_eq_true hf]at fy;refine bf qB.eq_1 (λx:Nat×List E×Option (Int×dz×aj)=>⟨[(0,.val (.ptr pre.length 0 0 0)),(3,.fp 0 0),(4,.fp 1 0),(6,.val (.ptr (pre.length+(r0.length+1)) 0 0 0)),(7,.val (.int .i64 x.1))],[[.int .i64 e.k,.int .i64 e.n,.str e.nm,.str e.on,.int .i64 e.od,kv,.int .i64 e.a,.int .i64 e.ty.b,.int .i64 e.ty.r,.int .i64 e.ty.d,.int .i64 e.cH],b1],
   match x.2.2 with
   |none=>pre++c.aU::(r0++.rows 0 11 [kY e.k 0 [] [] 0 (qK (pre.length+(r0.length+1+1)) x.2.1) e.a T0 0]::kK x.2.1)|some (a,X,K)=>pre++(c.fail a).aU::(r0++X::K)⟩)
  (λx=>x.1<=e.aC.length/\match x.2.2 with
   |none=>x.2.1.length=x.1/\y8 x.2.1 (kN c.H c.V (e.aC.drop x.1))=kN c.H c.V e.aC|some (a,_,_)=>kN c.H c.V e.aC=.error a) (λx=>e.aC.length-x.1) (0,[],none) rfl ⟨by simp,rfl,by simp[y8];split<;>rename_i h<;>exact h.symm⟩ ?_
 rintro⟨j,ys,q⟩ ⟨hj,hq⟩ ih;simp only at hj hq ih;cases q with
 |some q=>
  obtain⟨a,X,K⟩:=q;simp only at hq ⊢;have xZ:=fV (c:=c) (a:=a);have gr:=λaf r=>gC (pre:=pre) af (c.fail a) r;rw[decide_eq_false xZ]at gr;have Me:=jy a X K hq;generalize (c.fail a).aU=o2 at *;by_cases aX:j<e.aC.length;simp[-ah,-aa,cC,dW,cP,aX,gr];exact Me;simp[-ah,-aa,cC,dW,cP,aX];exact Me
 |none=>
  simp only at hq ⊢;obtain⟨hy,hp⟩:=hq;by_cases aX:j<e.aC.length;have hw:=wk j (by omega);have hv:=wL (pre:=pre) c e.aC[j] hf (hl _ (List.getElem_mem aX));unfold Kx at hv;rw[Ap aX]at hp;have gE:=u5 aX;have m9:=λh2=>oY aX h2;have gy:j<(E.rows e.aC).length:=by simpa using aX
  have tQ:=m9 gy;clear m9;have region:∀(b:bw) (hb:b=qB) (d:dz) (y:E),(∀af r,(bh S).call 0 af 110 [.ptr pre.length 0 0 0,.agg e.aC[j].row] (pre++c.aU::r)=some (.agg y.row,pre++d::r))->
    W S 0 (pre.length+(r0.length+1)) rs Q (.code (.loop qB)::.jF 0::kk) .normal ⟨[(0,.val (.ptr pre.length 0 0 0)),(3,.fp 0 0),(4,.fp 1 0),(6,.val (.ptr (pre.length+(r0.length+1)) 0 0 0)),(7,.val (.int .i64 ((j+1:Nat):Int)))],[[.int .i64 e.k,.int .i64 e.n,.str e.nm,.str e.on,.int .i64 e.od,kv,.int .i64 e.a,.int .i64 e.ty.b,.int .i64 e.ty.r,.int .i64 e.ty.d,.int .i64 e.cH],b1],
     pre++d::(r0++.rows 0 11 [kY e.k 0 [] [] 0 (qK (pre.length+(r0.length+1+1)) (ys++[y])) e.a T0 0]::kK (ys++[y]))⟩->
    W S 0 (pre.length+(r0.length+1)) rs Q (.code b::.uW qB::.jF 0::kk) .normal ⟨[(0,.val (.ptr pre.length 0 0 0)),(3,.fp 0 0),(4,.fp 1 0),(6,.val (.ptr (pre.length+(r0.length+1)) 0 0 0)),(7,.val (.int .i64 j))],[[.int .i64 e.k,.int .i64 e.n,.str e.nm,.str e.on,.int .i64 e.od,kv,.int .i64 e.a,.int .i64 e.ty.b,.int .i64 e.ty.r,.int .i64 e.ty.d,.int .i64 e.cH],b1],
     pre++c.aU::(r0++.rows 0 11 [kY e.k 0 [] [] 0 (qK (pre.length+(r0.length+1+1)) ys) e.a T0 0]::kK ys)⟩:=by
   intro b hb d y ct D5;rw[qB.eq_1]at hb;subst hb;rw[E.az e.aC[j]]at ct gE tQ;have B2:aD (aI y.aC)=true:=aR;have hyw:(aI y.aC).view=aI y.aC:=aN;rw[E.az y]at ct;generalize e.aC[j]=x at *;generalize c.aU=o at *;clear ih jy Gc hl hv;cases ys with
   |nil=>
    simp only[qK,kK,List.isEmpty_nil,if_true];simp[-ah,-aa,cC,dW,cP,aX,fy];rw[mW];have hwl:IntKind.i64.wrap (0:Int)=0:=(by decide);simp[-ah,-aa,dS,dR,AG,NI,B2,bL,cT,dW,cP,hz,aX,tQ,aY,ct,ag,AV.view];refine⟨_,_,⟨rfl,rfl⟩,?_⟩;simp[-ah,-aa,gQ,cW,Yi,dR,AG,bG,hw,ag,AV.view,fq.fG,AV.fG];simp only[List.nil_append,qK,kK,E.rows,E.az y,List.isEmpty_cons,Bool.false_eq_true,if_false]at D5;exact D5
   |cons y0 l=>
    have VG:W S 0 (pre.length+(r0.length+1)) rs Q (.code (.loop qB)::.jF 0::kk) .normal ⟨[(0,.val (.ptr pre.length 0 0 0)),(3,.fp 0 0),(4,.fp 1 0),(6,.val (.ptr (pre.length+(r0.length+1)) 0 0 0)),(7,.val (.int .i64 ((j+1:Nat):Int)))],[[.int .i64 e.k,.int .i64 e.n,.str e.nm,.str e.on,.int .i64 e.od,kv,.int .i64 e.a,.int .i64 e.ty.b,.int .i64 e.ty.r,.int .i64 e.ty.d,.int .i64 e.cH],b1],
     pre++d::(r0++.rows 0 11 [kY e.k 0 [] [] 0 (.mu (pre.length+(r0.length+1+1)) (l.length+1)) e.a T0 0]::[.rows (l.length+1) 11 (E.rows (y0::l)++[y.row])])⟩:=by
     have h1:qK (pre.length+(r0.length+1+1)) (y0::l++[y])=.mu (pre.length+(r0.length+1+1)) (l.length+1):=(by simp[qK]);have h2:kK (y0::l++[y])=[.rows (l.length+1) 11 (E.rows (y0::l)++[y.row])]:=(by simp[kK,gh]);rw[h1,h2]at D5;exact D5
    clear D5;have Ux:(E.rows (y0::l)).length=l.length+1:=(by simp);simp only[qK,kK,List.isEmpty_cons,Bool.false_eq_true,if_false,List.length_cons,Nat.add_sub_cancel];rw[E.az y]at VG;simp only[List.length_cons]at hy;generalize E.rows (y0::l)=R at *;have lJ:∀(af:Nat) (o X:dz) (new:List AV) (bx:bF),new.length=11->AV.ai new=true->aW 0 af (.jx 11 120) [.val (.mu (pre.length+(r0.length+1+1)) l.length),.val (.dM 11 [new])] (pre++o::(r0++[X,.rows l.length 11 R])) bx=some (.val (.mu (pre.length+(r0.length+1+1)) (l.length+1)),pre++o::(r0++[X,.rows (l.length+1) 11 (R++[new])]),bx):=λaf o X new bx h1 h2=>by
     simp[aW,vD,dZ,fJ,bL,h1,h2,Ux,cT];omega
    have i1:(0:Int)<=(l.length:Int)+1:=(by omega);have i2:(l.length:Int)<(l.length:Int)+1:=(by omega);have g1:∀z:List AV,(R++[z])[l.length+1]?=some z:=λz=>by rw[<-Ux];simp
    have g2:∀z w:List AV,(R++[z]).set (l.length+1) w=R++[w]:=λz w=>by rw[<-Ux];simp
    simp[-ah,-aa,cC,dW,cP,aX,fy];rw[mW];simp[-ah,-aa,dS,dR,AG,NI,i1,i2,g2,B2,lJ,Ux,dW,cP,hz,aX,tQ,aY,ct,ag,AV.view];refine⟨_,_,⟨rfl,rfl⟩,?_⟩;simp[-ah,-aa,gQ,cW,Yi,dR,AG,i1,i2,Ux,bG,hw,ag,AV.view,fq.fG,AV.fG];exact VG
  cases hx:EB c e.aC[j] with
  |error a=>
   rw[hx]at hp hv;simp only at hp hv;obtain⟨y,hv⟩:=hv;exact region _ rfl _ y hv (ih (j+1,ys++[y],some (a,_,_)) ⟨by simp only;omega,hp.symm⟩ (by simp only;omega))
  |ok y=>
   rw[hx]at hp hv;simp only at hp hv;exact region _ rfl _ y hv (ih (j+1,ys++[y],none) ⟨by simp only;omega,by simp[hy],hp⟩ (by simp only;omega))
  have eL:j=e.aC.length:=by omega
  have hR:kN c.H c.V e.aC=.ok ys:=by
   rw[<-hp,eL,List.drop_length];simp[kN,y8]
  have TD:=Gc ys hR;generalize c.aU=o at *;simp[-ah,-aa,cC,dW,cP,aX];exact TD
end R9
namespace R9
open Ax Go bu V7 jG ke K9
variable {pre:aj}
theorem aaX(H:Hd)(V:List Vd)(e:E):xE H V e=if gq e.k e.n e.aC.length then
  match kN H V e.aC with
  |.error x=>.error x|.ok ks=>match lV H V e.k e.nm e.on e.od ks with
   |none=>.error e.a|some (t,r)=>.ok (.mk e.k (pT e.k e.n) (kG e.k e.nm) (kH e.k e.on) (kI e.k e.od) ks e.a t r)
  else .error e.a:=by
 obtain⟨k,n,nm,on,od,aC,a,ty,cH⟩:=e
 (conv=>lhs;unfold xE)<;>rfl
def gi:bw->bw
 |.seq _ b=>b|x=>x
def uU:bw:=gi (gi (gi (gi (gi oO.body))))
theorem WD(_e:E)(a:Int)(c:CK)(r:aj)(o X:dz)(K:aj)(row:List AV) :
  W S 0 (pre.length+(r.length+1)) oO.results (zO oO.results .kh (pre++o::r) (.agg E0.row,pre++(c.fail a).aU::r)) [.code uU] .normal ⟨[(0,.val (.ptr pre.length 0 0 0)),(3,.fp 0 0),(4,.fp 1 0),(6,.val (.ptr (pre.length+(r.length+1)) 0 0 0))],[row,wU],pre++(c.fail a).aU::(r++X::K)⟩:=by
 have xZ:=fV (c:=c) (a:=a);have gr:=λaf r=>gC (pre:=pre) af (c.fail a) r;rw[decide_eq_false xZ]at gr;rw[Ik];generalize (c.fail a).aU=o2 at *;simp[-ah,-aa,uU,gi,oO,gr,wU,ag,AV.view]
theorem Mf{wl:Nat}{v:AV}{st:aj}(h:aD v=true):me wl v st=some (v.view,st):=by
 cases v<;>simp_all [aD,me,AV.ax,AV.cy]
theorem Pk{wl:Nat}{y:E}{st:aj}:ku wl y.row st=some (y.row,st):=by
 have h1:aD (aI y.aC)=true:=aR;have h2:(aI y.aC).view=aI y.aC:=aN;have h3:me wl (aI y.aC) st=some (aI y.aC,st):=by rw[Mf h1,h2]
 have fI:∀n,me wl (.int .i64 n) st=some (.int .i64 n,st):=λn=>rfl;have fS:∀n,me wl (.str n) st=some (.str n,st):=λn=>rfl;rw[E.az];simp only[ku,h3,fI,fS]
theorem E1{wl:Nat}{st:aj}:∀ys:List E,kO wl (E.rows ys) st=some (E.rows ys,st)
 |[]=>rfl|y::ys=>by simp only[E.rows,kO,Pk,E1 ys]
theorem TE{wl v:Nat}{o X:dz}{r:aj}{ys:List E}(hw:wl=0)(h:ys≠[]):jm wl (.mu (pre.length+(r.length+1+1)) v) (pre++o::(r++[X,.rows v 11 (E.rows ys)]))=some (.dM 11 (E.rows ys),pre++o::(r++[X,.rows (v+1) 11 []])):=by
 subst hw;have h2:(E.rows ys).isEmpty=false:=by cases ys with
  |nil=>exact absurd rfl h|cons y l=>rfl
 simp[jm,E1];cases ys with
 |nil=>exact absurd rfl h|cons y l=>simp[E.rows]
theorem Pm(af:Nat)(c:CK)(r0:aj)(e:E)(ys:List E)(hk:gq e.k e.n ys.length=true)(tN:12<=e.k) :
  ∃v' bV,(bh S).call 0 af 131 [.ptr pre.length 0 0 0,.ptr (pre.length+(r0.length+1)) 0 0 0] (pre++c.aU::(r0++.rows 0 11 [kY e.k 0 [] [] 0 (qK (pre.length+(r0.length+1+1)) ys) e.a T0 0]::kK ys))=some (v',bV)/\
   Ii pre c.aU r0 (kK ys) (lV c.H c.V e.k e.nm e.on e.od ys) (kY e.k (pT e.k e.n) (kG e.k e.nm) (kH e.k e.on) (kI e.k e.od) (qK (pre.length+(r0.length+1+1)) ys) e.a) v' bV:=by
 rw[Pf tN];have k1:pT e.k e.n=0:=if_neg (by omega);have k2:kG e.k e.nm=[]:=if_neg (by omega);have k3:kH e.k e.on=[]:=if_neg (by omega);have k4:kI e.k e.od=0:=if_neg (by omega);rw[k1,k2,k3,k4];by_cases h:e.k=12\/e.k=13;obtain⟨y,rfl⟩:∃y,ys=[y]:=by
  have hlen:ys.length=1:=by rcases h with h|h<;>rw[h]at hk<;>simpa [gq] using hk
  match ys,hlen with
  |[y],_=>exact⟨y,rfl⟩
 rw[if_pos h];exact⟨_,_,Pd (pre:=pre) af c.aU r0 e.k 0 [] [] 0 e.a 0 T0 y h,AF⟩;have X6:14<=e.k:=by omega
 obtain⟨x,y,rfl⟩:∃x y,ys=[x,y]:=by
  have hlen:ys.length=2:=by
   unfold gq at hk;rw[if_neg (by omega),if_neg (by omega),if_neg (by omega),if_neg (by omega)]at hk;simp only[Bool.and_eq_true,decide_eq_true_eq]at hk;exact hk.2
  match ys,hlen with
  |[x,y],_=>exact⟨x,y,rfl⟩
 rw[if_neg h];exact⟨_,_,Pe (pre:=pre) af c.aU r0 e.k 0 [] [] 0 e.a 0 T0 x y X6,AF⟩
theorem Hv(o o0:dz)(r:aj)(ys:List E)(kk n:Int)(nm on:List UInt8)(od a z:Int)(t:T3)(row:List AV)(_hrow:row.length=11) :
  W S 0 (pre.length+(r.length+1)) [iE.box 4 1 11 true] (zO [iE.box 4 1 11 true] .kh (pre++o0::r) (.agg (kY kk n nm on od (aI ys) a t z),pre++o::r))
  [.code (.vg 6 5),.code (.region [{ dst:=some 94,op:=.load true 11 false,args:=[.tmp 6 true],guard:=none },{ dst:=none,op:=.jH 1 11,args:=[.tmp 4 false,.tmp 94 true],guard:=none }] none []),.code .ret] .normal
  ⟨[(4,.fp 1 0),(6,.val (.ptr (pre.length+(r.length+1)) 0 0 0))],[row,wU],pre++o::(r++.rows 0 11 [kY kk n nm on od (qK (pre.length+(r.length+1+1)) ys) a t z]::kK ys)⟩:=by
 have B2:aD (aI ys)=true:=aR;have hyw:(aI ys).view=aI ys:=aN;rw[La];cases ys with
 |nil=>
  refine⟨pre.length+(r.length+1),0,0,0,.U,.U,pre++o::(r++[.rows 0 11 [kY kk n nm on od .U a t z]]),pre++o::(r++[.rows 0 11 [kY kk n nm on od .U a t z]]),rfl,?_,rfl,?_,?_⟩;simp[dA,qK,kK,cut];simp[cu,aQ,ag];have he:aI []=.U:=rfl;rw[he];simp[-ah,-aa,dR,wU,ag,AV.view]
 |cons y l=>
  have he:aI (y::l)=.dM 11 (E.rows (y::l)):=rfl;have hfz:=TE (pre:=pre) (wl:=0) (v:=(y::l).length-1) (o:=o) (X:=.rows 0 11 [kY kk n nm on od (.mu (pre.length+(r.length+1+1)) ((y::l).length-1)) a t z]) (r:=r) (ys:=y::l) rfl (by simp);refine⟨pre.length+(r.length+1),0,0,0,.mu (pre.length+(r.length+1+1)) ((y::l).length-1),.dM 11 (E.rows (y::l)),_,pre++o::(r++[.rows 0 11 [kY kk n nm on od (.dM 11 (E.rows (y::l))) a t z],.rows ((y::l).length-1+1) 11 []]),rfl,?_,hfz,?_,?_⟩;simp[dA,qK,kK,cut];simp[cu,aQ,ag];rw[he];generalize E.rows (y::l)=R at *;simp[-ah,-aa,dR,wU,ag,AV.view]
theorem WE(c:CK)(e:E)(r:aj)(o0:dz)(ys:List E)(hf:c.fe=0)(hs:oh c)(hn:ys.length<1000000000)(hk:gq e.k e.n ys.length=true)(Wa:c.H.rs.length=c.H.bK.length)(hw:∀x∈ys,WT c.H.rs.length x.ty) :
  W S 0 (pre.length+(r.length+1)) oO.results (zO oO.results .kh (pre++o0::r) (match lV c.H c.V e.k e.nm e.on e.od ys with
   |none=>(.agg E0.row,pre++(c.fail e.a).aU::r)
   |some (t,z)=>(.agg (E.mk e.k (pT e.k e.n) (kG e.k e.nm) (kH e.k e.on) (kI e.k e.od) ys e.a t z).row,pre++c.aU::r))) [.code uU] .normal
   ⟨[(0,.val (.ptr pre.length 0 0 0)),(3,.fp 0 0),(4,.fp 1 0),(6,.val (.ptr (pre.length+(r.length+1)) 0 0 0))],[[.int .i64 e.k,.int .i64 e.n,.str e.nm,.str e.on,.int .i64 e.od,aI e.aC,.int .i64 e.a,.int .i64 e.ty.b,.int .i64 e.ty.r,.int .i64 e.ty.d,.int .i64 e.cH],wU],
    pre++c.aU::(r++.rows 0 11 [kY e.k 0 [] [] 0 (qK (pre.length+(r.length+1+1)) ys) e.a T0 0]::kK ys)⟩:=by
 have fy:=λaf r=>gC (pre:=pre) af c r;rw[decide_eq_true hf]at fy;have oy:=λaf r=>jl (pre:=pre) af c e.a r;have ow:aD (aI e.aC)=true:=aR;have Ky:(aI e.aC).view=aI e.aC:=aN;have done:∀v' bV,Ii pre c.aU r (kK ys) (lV c.H c.V e.k e.nm e.on e.od ys) (kY e.k (pT e.k e.n) (kG e.k e.nm) (kH e.k e.on) (kI e.k e.od) (qK (pre.length+(r.length+1+1)) ys) e.a) v' bV->
   (12<=e.k->(bh S).call 0 (pre.length+(r.length+1)) 131 [.ptr pre.length 0 0 0,.ptr (pre.length+(r.length+1)) 0 0 0] (pre++c.aU::(r++.rows 0 11 [kY e.k 0 [] [] 0 (qK (pre.length+(r.length+1+1)) ys) e.a T0 0]::kK ys))=some (v',bV))->
   (¬12<=e.k->(bh S).call 0 (pre.length+(r.length+1)) 132 [.ptr pre.length 0 0 0,.agg e.row,.ptr (pre.length+(r.length+1)) 0 0 0] (pre++c.aU::(r++.rows 0 11 [kY e.k 0 [] [] 0 (qK (pre.length+(r.length+1+1)) ys) e.a T0 0]::kK ys))=some (v',bV))->
   W S 0 (pre.length+(r.length+1)) oO.results (zO oO.results .kh (pre++o0::r) (match lV c.H c.V e.k e.nm e.on e.od ys with
    |none=>(.agg E0.row,pre++(c.fail e.a).aU::r)
    |some (t,z)=>(.agg (E.mk e.k (pT e.k e.n) (kG e.k e.nm) (kH e.k e.on) (kI e.k e.od) ys e.a t z).row,pre++c.aU::r))) [.code uU] .normal
    ⟨[(0,.val (.ptr pre.length 0 0 0)),(3,.fp 0 0),(4,.fp 1 0),(6,.val (.ptr (pre.length+(r.length+1)) 0 0 0))],[[.int .i64 e.k,.int .i64 e.n,.str e.nm,.str e.on,.int .i64 e.od,aI e.aC,.int .i64 e.a,.int .i64 e.ty.b,.int .i64 e.ty.r,.int .i64 e.ty.d,.int .i64 e.cH],wU],
     pre++c.aU::(r++.rows 0 11 [kY e.k 0 [] [] 0 (qK (pre.length+(r.length+1+1)) ys) e.a T0 0]::kK ys)⟩:=by
  rintro v' bV ⟨b,Y,rfl,rfl,hT⟩ c1 c2;rw[E.az e]at c2;generalize aI e.aC=kv at *;cases ht:lV c.H c.V e.k e.nm e.on e.od ys with
  |none=>
   rw[ht]at hT;simp only at hT ⊢;subst hT;rw[Ik];generalize (c.fail e.a).aU=o2 at *;generalize c.aU=o at *;by_cases tN:12<=e.k;have c1:=c1 tN;simp[-ah,-aa,uU,gi,oO,fy,c1,tN,oy,wU,ag,AV.view];have c2:=c2 tN;simp[-ah,-aa,uU,gi,oO,fy,c2,tN,oy,wU,Ky,ag,AV.view]
  |some x=>
   obtain⟨t,z⟩:=x;rw[ht]at hT;obtain⟨rfl,rfl⟩:=hT;simp only;have hr:∀k n nm on od ks a (t:T3) z,(E.mk k n nm on od ks a t z).row=[.int .i64 k,.int .i64 n,.str nm,.str on,.int .i64 od,aI ks,.int .i64 a,.int .i64 t.b,.int .i64 t.r,.int .i64 t.d,.int .i64 z]:=λk n nm on od ks a t z=>E.az _;rw[hr];generalize c.aU=o at *;by_cases tN:12<=e.k;have c1:=c1 tN;simp[-ah,-aa,uU,gi,oO,fy,c1,tN,AV.view];exact Hv (pre:=pre) _ _ _ _ _ _ _ _ _ _ _ _ _ rfl;have c2:=c2 tN;simp[-ah,-aa,uU,gi,oO,fy,c2,tN,Ky,AV.view];exact Hv (pre:=pre) _ _ _ _ _ _ _ _ _ _ _ _ _ rfl
 by_cases tN:12<=e.k;obtain⟨v',bV,h1,h2⟩:=Pm (pre:=pre) (pre.length+(r.length+1)) c r e ys hk tN;exact done v' bV h2 (λ_=>h1) (λh=>absurd tN h);obtain⟨v',bV,h1,h2⟩:=Er (pre:=pre) (pre.length+(r.length+1)) c r e ys hs hn hk (by omega) Wa hw;exact done v' bV h2 (λh=>absurd h tN) (λ_=>h1)
theorem eR(c:CK)(hf:c.fe=0)(hw:pV c)(e:E):E.sz e<1000000000->J0 pre c e:=by
 induction e using E.yx with
 |_ e ih=>
  intro dH;have nk:=E.mz e;have eL:=E.dG e.aC;have hl:∀x∈e.aC,J0 pre c x:=λx hx=>ih x hx (by have:=E.iA hx;omega);have FC:=λwl af st=>CW wl af e.k st;have Kw:=Mc e.k e.n e.aC.length;have oy:=λaf r=>jl (pre:=pre) af c e.a r;have fy:=λaf r=>gC (pre:=pre) af c r;rw[decide_eq_true hf]at fy;unfold J0;rw[aaX];have ow:aD (aI e.aC)=true:=aR;have Ky:(aI e.aC).view=aI e.aC:=aN;have cP:aM (aI e.aC)=E.rows e.aC:=aE;have nj:(E.rows e.aC).length=e.aC.length:=by simp
  cases hk:gq e.k e.n e.aC.length with
  |false=>
   rw[hk]at Kw;simp only[Bool.false_eq_true,if_false];intro af r;rw[Ik,E.az e];generalize B8 e.k=kt at *;generalize (c.fail e.a).aU=o2 at *;generalize c.aU=o at *;generalize aI e.aC=kv at *;generalize E.rows e.aC=RE at *;refine ay (sf:=oO) rfl rfl rfl ?_;by_cases a1:kt = -2;simp[-ah,-aa,oO,FC,a1,oy,ow,ag,AV.view];by_cases a2:0<=kt;by_cases a3:(e.aC.length:Int)=kt;have a4:e.k=2/\e.n≠0/\e.n≠1:=(by simpa [a1,a2,a3] using Kw);have a5:(e.k=2)=True:=eq_true a4.1;have a6:(e.n=0)=False:=eq_false a4.2.1;have a7:(e.n=1)=False:=eq_false a4.2.2;simp[-ah,-aa,oO,FC,a1,a2,a3,a5,a6,a7,oy,ow,Ky,cP,nj,ag,AV.view];simp[-ah,-aa,oO,FC,a1,a2,a3,oy,ow,Ky,cP,nj,ag,AV.view];have a4:e.k=2/\e.n≠0/\e.n≠1:=(by simpa [a1,a2] using Kw);have a5:(e.k=2)=True:=eq_true a4.1;have a6:(e.n=0)=False:=eq_false a4.2.1;have a7:(e.n=1)=False:=eq_false a4.2.2;simp[-ah,-aa,oO,FC,a1,a2,a5,a6,a7,oy,ow,ag,AV.view]
  |true=>
   rw[hk]at Kw;simp only[if_true];have Wa:=hw.H.rs;have walk:∀(af:Nat) (r:aj) (v:AV) (st:aj),W S 0 (pre.length+(r.length+1)) oO.results (zO oO.results .kh (pre++c.aU::r) (v,st)) [.code (.loop qB),.jF 0,.code uU] .normal
     ⟨[(0,.val (.ptr pre.length 0 0 0)),(3,.fp 0 0),(4,.fp 1 0),(6,.val (.ptr (pre.length+(r.length+1)) 0 0 0)),(7,.val (.int .i64 0))],[[.int .i64 e.k,.int .i64 e.n,.str e.nm,.str e.on,.int .i64 e.od,aI e.aC,.int .i64 e.a,.int .i64 e.ty.b,.int .i64 e.ty.r,.int .i64 e.ty.d,.int .i64 e.cH],wU],
      pre++c.aU::(r++[.rows 0 11 [kY e.k 0 [] [] 0 .U e.a T0 0]])⟩->(bh S).call 0 af 109 [.ptr pre.length 0 0 0,.agg e.row] (pre++c.aU::r)=some (v,st):=by
    intro af r v st go;rw[E.az e];generalize B8 e.k=kt at *;generalize c.aU=o at *;generalize aI e.aC=kv at *;generalize E.rows e.aC=RE at *;refine ay (sf:=oO) rfl rfl rfl ?_;have fork:(e.k≠2)\/(e.k=2/\e.n=0)\/(e.k=2/\e.n≠0/\e.n=1):=by
     by_cases h2:e.k=2;by_cases h3:e.n=0;exact .inr (.inl ⟨h2,h3⟩);by_cases h4:e.n=1;exact .inr (.inr ⟨h2,h3,h4⟩);simp[h2,h3,h4]at Kw;exact .inl h2
    have a1:kt≠-2:=λh=>by simp[h]at Kw
    by_cases a2:0<=kt;have a3:(e.aC.length:Int)=kt:=by
     apply Classical.byContradiction;intro h;simp[a2,h]at Kw
    rcases fork with a4|⟨a4,a5⟩|⟨a4,a5,a6⟩;simp[-ah,-aa,oO,FC,a1,a2,a3,a4,ow,Ky,cP,nj,cm,ag,AV.view];exact go;have a4:(e.k=2)=True:=eq_true a4;have a5:(e.n=0)=True:=eq_true a5;simp[-ah,-aa,oO,FC,a1,a2,a3,a4,a5,ow,Ky,cP,nj,cm,ag,AV.view];exact go;have a4:(e.k=2)=True:=eq_true a4;have a6:(e.n=1)=True:=eq_true a6;simp[-ah,-aa,oO,FC,a1,a2,a3,a4,a5,a6,ow,Ky,cP,nj,cm,ag,AV.view];exact go;rcases fork with a4|⟨a4,a5⟩|⟨a4,a5,a6⟩;simp[-ah,-aa,oO,FC,a1,a2,a4,ow,cm,ag,AV.view];exact go;have a4:(e.k=2)=True:=eq_true a4;have a5:(e.n=0)=True:=eq_true a5;simp[-ah,-aa,oO,FC,a1,a2,a4,a5,ow,cm,ag,AV.view];exact go;have a4:(e.k=2)=True:=eq_true a4;have a6:(e.n=1)=True:=eq_true a6;simp[-ah,-aa,oO,FC,a1,a2,a4,a5,a6,ow,cm,ag,AV.view];exact go
   have loop:=λr {rs:List iE} {Q:Ex->St->Prop} {kk:List qy}=>Pj (pre:=pre) c e hf (by omega) hl 0 r (rs:=rs) (Q:=Q) (kk:=kk) wU (aI e.aC) rfl _ rfl;cases hv:kN c.H c.V e.aC with
   |error a=>
    simp only;intro af r;refine walk af r _ _ (loop r (λys h=>by rw[hv]at h;cases h) λa' X K h=>?_);rw[hv]at h;cases h;exact WD (pre:=pre) e a c r c.aU X K _
   |ok ks=>
    simp only;have hlen:=nY hv;have XU:∀x∈ks,WT c.H.rs.length x.ty:=qE hv λx hx y hy=>SD hw.H hw.V x y hy;have ht:=λr=>WE (pre:=pre) c e r c.aU ks hf hw.s (by omega) (by rw[hlen];exact hk) Wa XU;cases hT:lV c.H c.V e.k e.nm e.on e.od ks with
    |none=>
     simp only;intro af r;refine walk af r _ _ (loop r (λys h=>?_) λa' X K h=>by rw[hv]at h;cases h);rw[hv]at h;cases h;have ht:=ht r;rw[hT]at ht;exact ht
    |some x=>
     obtain⟨t,z⟩:=x;simp only;intro af r;refine walk af r _ _ (loop r (λys h=>?_) λa' X K h=>by rw[hv]at h;cases h);rw[hv]at h;cases h;have ht:=ht r;rw[hT]at ht;exact ht
end R9
namespace R9
open Ax Go bu V7 jG ke K9
variable {pre:aj}
theorem H8{af:Nat}{c:CK}{bx:bF}:aW 0 af (.load false 1 true) [.val (.ptr pre.length 0 0 11)] (pre++[c.aU]) bx=some (.val (bD 4 (c.V.map Vd.row)),pre++[c.Ew (bD 4 (c.V.map Vd.row)).di],bx):=by
 simp only[CK.aU,CK.Ew];generalize c.V.map Vd.row=rows;cases rows with
 |nil=>simp[aW,bD,cut,dA,cu,aQ,AV.di,AV.ax,AV.ai,ag,bM]|cons a l=>simp[aW,bD,cut,dA,cu,aQ,AV.di,AV.ax,AV.ai,ag,bM]
theorem Ns{af:Nat}{c:CK}{w:AV}{W:List Vd}{bx:bF}:aW 0 af (.store 1) [.val (.ptr pre.length 0 0 11),.val (bD 4 (W.map Vd.row))] (pre++[c.Ew w]) bx=some (.none,pre++[({ c with V:=W }:CK).aU],bx):=by
 simp[CK.aU,CK.Ew,aQ,AV.ai,ag]
def qH(pre:aj)(c:CK)(s:Sm):Prop:=match xW c.H c.sg.bP c.sg.bz c.V s with
 |.ok (y,W)=>∀af,(bh S).call 0 af 90 [.ptr pre.length 0 0 0,.agg s.row] (pre++[c.aU])=some (.agg y.row,pre++[(c.aZ W).aU])|.error a=>∀af,∃W row,EC row/\(bh S).call 0 af 90 [.ptr pre.length 0 0 0,.agg s.row] (pre++[c.aU])=some (.agg row,pre++[((c.aZ W).fail a).aU])
def AL(pre:aj)(c:CK)(l:List Sm):Prop:=match kj c.H c.sg.bP c.sg.bz c.V l with
 |.ok (ys,W)=>∀af,(bh S).call 0 af 51 [.ptr pre.length 0 0 0,aT l] (pre++[c.aU])=some (bD 9 (Sm.rows ys),pre++[(c.aZ W).aU])|.error a=>∀af,∃W v,aD v=true/\(bh S).call 0 af 51 [.ptr pre.length 0 0 0,aT l] (pre++[c.aU])=some (v,pre++[((c.aZ W).fail a).aU])
theorem NJ(c:CK)(s:Sm)(hf:c.fe=0)(hn:s.es.length<1000000000)(h9:s.k≠9)(hl:∀x∈s.es,J0 pre c x)(af:Nat){rs:List iE}{Q:Ex->St->Prop}{kk:List qy}(b1 b3 b4 b5:List AV)(dc:Bool)(xk Mg xa xr:Int)(X7 Mh:List UInt8)
  (row:List AV)(cZ:row=s.row)
  (Gc:∀ys,kN c.H c.V s.es=.ok ys->W S 0 af rs Q kk .normal ⟨[(0,.val (.ptr pre.length 0 0 0)),(3,.fp 0 0),(4,.fp 1 0),(5,.fp 2 0),(6,.fp 3 0),(7,.val (.bool dc))],[row,b1,[.int .i64 xk,.str X7,.str Mh,.int .i64 Mg,bD 11 (E.rows ys),.U,.U,.int .i64 xa,.int .i64 xr],b3,b4,b5],pre++[c.aU]⟩)
  (jy:∀a v,aD v=true->kN c.H c.V s.es=.error a->W S 0 af rs Q kk .normal ⟨[(0,.val (.ptr pre.length 0 0 0)),(3,.fp 0 0),(4,.fp 1 0),(5,.fp 2 0),(6,.fp 3 0),(7,.val (.bool dc))],[row,b1,[.int .i64 xk,.str X7,.str Mh,.int .i64 Mg,v,.U,.U,.int .i64 xa,.int .i64 xr],b3,b4,b5],pre++[(c.fail a).aU]⟩) :
  W S 0 af rs Q (.code (.loop rD)::.jF 0::kk) .normal ⟨[(0,.val (.ptr pre.length 0 0 0)),(3,.fp 0 0),(4,.fp 1 0),(5,.fp 2 0),(6,.fp 3 0),(7,.val (.bool dc)),(10,.val (.int .i64 0))],[row,b1,[.int .i64 xk,.str X7,.str Mh,.int .i64 Mg,.U,.U,.U,.int .i64 xa,.int .i64 xr],b3,b4,b5],pre++[c.aU]⟩:=by
 subst cZ;rw[Sm.az]at *;have hz:bX 11 (aI s.es)=true:=iM;have cC:aD (aI s.es)=true:=aR;have dW:(aI s.es).view=aI s.es:=aN;have cP:aM (aI s.es)=E.rows s.es:=aE;have b1':aD (aT s.bd)=true:=bn;have fy:=λaf r=>gC (pre:=pre) af c r;rw[decide_eq_true hf]at fy;have lJ:∀(ys:List E) (y:E),ys.length<1000000000->nI 11 120 (bD 11 (E.rows ys)) [y.row]=some (bD 11 (E.rows (ys++[y]))):=λys y h=>by
  rw[dV (by simp[bL,E.az]) (by simp[cT];omega)];simp[gh]
 generalize aI s.es=kv at *;generalize aT s.bd=bv at *;generalize aT s.el=lv at *;refine bf rD.eq_1 (λx:Nat×List E×Option Int=>⟨[(0,.val (.ptr pre.length 0 0 0)),(3,.fp 0 0),(4,.fp 1 0),(5,.fp 2 0),(6,.fp 3 0),(7,.val (.bool dc)),(10,.val (.int .i64 x.1))],
   [[.int .i64 s.k,.str s.nm,.str s.on,.int .i64 s.od,kv,bv,lv,.int .i64 s.a,.int .i64 s.cH],b1,[.int .i64 xk,.str X7,.str Mh,.int .i64 Mg,bD 11 (E.rows x.2.1),.U,.U,.int .i64 xa,.int .i64 xr],b3,b4,b5],
   match x.2.2 with
   |none=>pre++[c.aU]|some a=>pre++[(c.fail a).aU]⟩)
  (λx=>x.1<=s.es.length/\x.2.1.length=x.1/\match x.2.2 with
   |none=>y8 x.2.1 (kN c.H c.V (s.es.drop x.1))=kN c.H c.V s.es|some a=>kN c.H c.V s.es=.error a) (λx=>s.es.length-x.1) (0,[],none) rfl ⟨by simp,rfl,by simp[y8];split<;>rename_i h<;>exact h.symm⟩ ?_
 rintro⟨j,ys,q⟩ ⟨hj,hy,hq⟩ ih;simp only at hj hq ih hy;cases q with
 |some a=>
  simp only at hq ⊢;have xZ:=fV (c:=c) (a:=a);have gr:=λaf r=>gC (pre:=pre) af (c.fail a) r;rw[decide_eq_false xZ]at gr;have Me:=jy a (bD 11 (E.rows ys)) bY hq;generalize (c.fail a).aU=o2 at *;by_cases aX:j<s.es.length;simp[-ah,-aa,cC,dW,cP,aX,gr];exact Me;simp[-ah,-aa,cC,dW,cP,aX];exact Me
 |none=>
  simp only at hq ⊢;by_cases aX:j<s.es.length;have hw:=wk j (by omega);have hv:=wL (pre:=pre) c s.es[j] hf (hl _ (List.getElem_mem aX));unfold Kx at hv;rw[Ap aX]at hq;have gE:=u5 aX;have m9:=λh2=>oY aX h2;have gy:j<(E.rows s.es).length:=by simpa using aX
  have tQ:=m9 gy;clear m9;cases hx:EB c s.es[j] with
  |error a=>
   rw[hx]at hq hv;simp only at hq hv;obtain⟨y,hv⟩:=hv;have ap:=lJ ys y (by omega);have dy:=ih (j+1,ys++[y],some a) ⟨by simp only;omega,by simp[hy],hq.symm⟩ (by simp only;omega);simp only at dy;have m1:aD (bD 11 (E.rows (ys++[y])))=true:=bY;generalize bD 11 (E.rows (ys++[y]))=R at *;generalize (c.fail a).aU=o2 at *;generalize c.aU=o at *;rw[E.az s.es[j]]at hv gE tQ;rw[E.az y]at hv ap;generalize s.es[j]=x at *;simp[-ah,-aa,aY,cC,dW,cP,hz,aX,h9,hw,tQ,fy,hv,ap,m1,au,an,ag,AV.view];exact dy
  |ok y=>
   rw[hx]at hq hv;simp only at hq hv;have ap:=lJ ys y (by omega);have dy:=ih (j+1,ys++[y],none) ⟨by simp only;omega,by simp[hy],hq⟩ (by simp only;omega);simp only at dy;have m1:aD (bD 11 (E.rows (ys++[y])))=true:=bY;generalize bD 11 (E.rows (ys++[y]))=R at *;generalize c.aU=o at *;rw[E.az s.es[j]]at hv gE tQ;rw[E.az y]at hv ap;generalize s.es[j]=x at *;simp[-ah,-aa,aY,cC,dW,cP,hz,aX,h9,hw,tQ,fy,hv,ap,m1,au,an,ag,AV.view];exact dy
  have eL:j=s.es.length:=by omega
  have hR:kN c.H c.V s.es=.ok ys:=by
   rw[<-hq,eL,List.drop_length];simp[kN,y8]
  have TD:=Gc ys hR;generalize c.aU=o at *;simp[-ah,-aa,cC,dW,cP,aX];exact TD
theorem WG(c:CK)(s:Sm)(e:E)(hf:c.fe=0)(h9:s.k=9)(jR:s.es=[e])(hl:J0 pre c e)(af:Nat){rs:List iE}{Q:Ex->St->Prop}{kk:List qy}(b1 b3 b4 b5:List AV)(dc:Bool)(xk Mg xa xr:Int)(X7 Mh:List UInt8)
  (row:List AV)(cZ:row=s.row)
  (Gc:∀y,xE c.H c.V e=.ok y->W S 0 af rs Q kk .normal ⟨[(0,.val (.ptr pre.length 0 0 0)),(3,.fp 0 0),(4,.fp 1 0),(5,.fp 2 0),(6,.fp 3 0),(7,.val (.bool dc))],[row,b1,[.int .i64 xk,.str X7,.str Mh,.int .i64 Mg,bD 11 (E.rows [y]),.U,.U,.int .i64 xa,.int .i64 xr],b3,b4,b5],pre++[c.aU]⟩)
  (jy:∀a v,aD v=true->xE c.H c.V e=.error a->W S 0 af rs Q kk .normal ⟨[(0,.val (.ptr pre.length 0 0 0)),(3,.fp 0 0),(4,.fp 1 0),(5,.fp 2 0),(6,.fp 3 0),(7,.val (.bool dc))],[row,b1,[.int .i64 xk,.str X7,.str Mh,.int .i64 Mg,v,.U,.U,.int .i64 xa,.int .i64 xr],b3,b4,b5],pre++[(c.fail a).aU]⟩) :
  W S 0 af rs Q (.code (.loop rD)::.jF 0::kk) .normal ⟨[(0,.val (.ptr pre.length 0 0 0)),(3,.fp 0 0),(4,.fp 1 0),(5,.fp 2 0),(6,.fp 3 0),(7,.val (.bool dc)),(10,.val (.int .i64 0))],[row,b1,[.int .i64 xk,.str X7,.str Mh,.int .i64 Mg,.U,.U,.U,.int .i64 xa,.int .i64 xr],b3,b4,b5],pre++[c.aU]⟩:=by
 subst cZ;rw[Sm.az]at *;rw[jR]at *;have hz:bX 11 (aI [e])=true:=iM;have cC:aD (aI [e])=true:=aR;have dW:(aI [e]).view=aI [e]:=aN;have cP:aM (aI [e])=[e.row]:=aE;have fy:=λaf r=>gC (pre:=pre) af c r;rw[decide_eq_true hf]at fy;have lJ:∀y:E,nI 11 120 .U [y.row]=some (bD 11 (E.rows [y])):=λy=>by
  have:=dV (sz:=11) (bytes:=120) (r:=[]) (new:=[y.row]) (by simp[bL,E.az]) (by simp[cT]);exact this
 have hw:IntKind.i64.wrap (0+1:Int)=1:=by decide
 rw[h9]at *;generalize aI [e]=kv at *;generalize aT s.bd=bv at *;generalize aT s.el=lv at *;unfold J0 at hl;rw[qA rD.eq_1];cases hx:xE c.H c.V e with
 |error a=>
  rw[hx]at hl;simp only at hl;have Me:=λv h=>jy a v h hx;have xZ:=fV (c:=c) (a:=a);have gr:=λaf r=>gC (pre:=pre) af (c.fail a) r;rw[decide_eq_false xZ]at gr;have ap:=lJ E0;have m1:aD (bD 11 (E.rows [E0]))=true:=bY;generalize bD 11 (E.rows [E0])=R at *;generalize (c.fail a).aU=o2 at *;generalize c.aU=o at *;rw[E.az e]at hl cP;rw[E.az E0]at hl ap;simp[-ah,-aa,aY,cC,dW,cP,hz,fy,hl,ap,m1,au,an,ag,AV.view];show W S 0 af rs Q (.code (.loop rD)::.jF 0::kk) .normal _;rw[qA rD.eq_1];simp[-ah,-aa,cC,dW,cP];exact Me _ m1
 |ok y=>
  rw[hx]at hl;simp only at hl;have TD:=Gc y hx;have ap:=lJ y;have m1:aD (bD 11 (E.rows [y]))=true:=bY;generalize bD 11 (E.rows [y])=R at *;generalize c.aU=o at *;rw[E.az e]at hl cP;rw[E.az y]at hl ap;simp[-ah,-aa,aY,cC,dW,cP,hz,fy,hl,ap,m1,au,an,ag,AV.view];show W S 0 af rs Q (.code (.loop rD)::.jF 0::kk) .normal _;rw[qA rD.eq_1];simp[-ah,-aa,cC,dW,cP];exact TD
end R9
