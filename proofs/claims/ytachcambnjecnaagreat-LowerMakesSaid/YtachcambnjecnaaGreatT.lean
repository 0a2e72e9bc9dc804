/- Part of a proof. -/
import Derived.Test.YtachcambnjecnaaGreatD
import Derived.Test.YtachcambnjecnaaGreatO

set_option maxRecDepth 100000
set_option maxHeartbeats 8000000
namespace R9
open Ax Go bu V7 jG j9 K9
variable {pre:aj}
theorem ajO{α:Type}{l:List α}(p:List α)(i:Nat):(p++l)[p.length+i]?=l[i]?:=by
 rw[List.getElem?_append_right (by omega)];simp
theorem afc{α:Type}{l:List α}(p:List α)(i:Nat):(p++l).take (p.length+i)=p++l.take i:=by
 rw[List.take_append,List.take_of_length_le (by omega),Nat.add_sub_cancel_left]
attribute [simp] ajO afc
theorem aac{wl af:Nat}{c:CK}{r:aj}{bx:bF}:aV wl af (.load false 1 false) [.val (.ptr pre.length 0 0 12)] (pre++c.aT::r) bx=some (.val (.int .i64 c.fe),pre++c.aT::r,bx):=by
 simp[CK.aT,cut,AV.view]
theorem uL{wl af:Nat}{c:CK}{r:aj}{bx:bF}:aV wl af (.load false 1 false) [.val (.ptr pre.length 0 0 4)] (pre++c.aT::r) bx=some (.val (aA 1 (ga c.H.rs)),pre++c.aT::r,bx):=by
 simp[CK.aT,cut,aA]
theorem V1{wl af:Nat}{c:CK}{r:aj}{bx:bF}:aV wl af (.load false 1 false) [.val (.ptr pre.length 0 0 0)] (pre++c.aT::r) bx=some (.val (aA 2 (c.H.bK.map dw)),pre++c.aT::r,bx):=by
 simp[CK.aT,cut]
theorem V2{wl af:Nat}{c:CK}{r:aj}{bx:bF}:aV wl af (.load false 1 false) [.val (.ptr pre.length 0 0 1)] (pre++c.aT::r) bx=some (.val (br c.H.globals),pre++c.aT::r,bx):=by
 simp[CK.aT,cut]
theorem SW{wl af:Nat}{c:CK}{r:aj}{bx:bF}:aV wl af (.load false 1 false) [.val (.ptr pre.length 0 0 2)] (pre++c.aT::r) bx=some (.val (aA 6 (c.H.sigs.map Sg.row)),pre++c.aT::r,bx):=by
 simp[CK.aT,cut]
theorem wH{wl af:Nat}{c:CK}{r:aj}{bx:bF}:aV wl af (.load false 1 false) [.val (.ptr pre.length 0 0 7)] (pre++c.aT::r) bx=some (.val (.bool c.sg.bO),pre++c.aT::r,bx):=by
 simp[CK.aT,cut,AV.view]
theorem yw{wl af:Nat}{c:CK}{r:aj}{bx:bF}:aV wl af (.load true 3 false) [.val (.ptr pre.length 0 0 8)] (pre++c.aT::r) bx=some (.val (.agg [.int .i64 c.sg.bz.b,.int .i64 c.sg.bz.r,.int .i64 c.sg.bz.d]),pre++c.aT::r,bx):=by
 simp[CK.aT,cut,AV.view]
theorem Ak{wl af:Nat}{c:CK}{r:aj}{bx:bF}:aV wl af (.load false 1 false) [.val (.ptr pre.length 0 0 11)] (pre++c.aT::r) bx=some (.val (br c.V),pre++c.aT::r,bx):=by
 simp[CK.aT,cut,br,aA]
theorem SX{af:Nat}{c:CK}{a:Int}{r:aj}{bx:bF}:aV 0 af (.store 2) [.val (.ptr pre.length 0 0 12),.val (.agg [.int .i64 3,.int .i64 a])] (pre++c.aT::r) bx=some (.none,pre++({ c with fe:=3,fa:=a }:CK).aT::r,bx):=by
 simp[CK.aT,aY,AV.ai,AV.ax,ag]
theorem gz(af:Nat)(c:CK)(r:aj):(bh S).call 0 af 52 [.ptr pre.length 0 0 0] (pre++c.aT::r)=some (.bool (decide (c.fe=0)),pre++c.aT::r):=by
 refine ay (sf:=s52) rfl rfl rfl ?_;simp[-ah,-aa,s52,aac]
theorem jl(af:Nat)(c:CK)(a:Int)(r:aj):(bh S).call 0 af 108 [.ptr pre.length 0 0 0,.int .i64 a] (pre++c.aT::r)=some (.fm [],pre++(c.fail a).aT::r):=by
 have e:=λaf=>gz (pre:=pre) af c r;have ew:=λwl af st=>U7.AB wl af a st;refine ay (sf:=Vr) rfl rfl rfl ?_;unfold CK.fail;by_cases h:c.fe=0;rw[if_pos h];simp[-ah,-aa,Vr,e,ew,h,SX];rw[if_neg h];simp[-ah,-aa,Vr,e,h]
theorem l8(wl af:Nat)(st:aj):(bh S).call wl af 112 [] st=some (.agg [.int .i64 2,.int .i64 0,.int .i64 0],st):=by
 refine bL (sf:=Zu) rfl rfl (by simp) rfl (by simp[AV.ax,AV.ai]) ?_;simp[Zu,ag]
theorem ot(wl af:Nat)(st:aj):(bh S).call wl af 113 [] st=some (.agg [.int .i64 1,.int .i64 0,.int .i64 0],st):=by
 refine bL (sf:=Zv) rfl rfl (by simp) rfl (by simp[AV.ax,AV.ai]) ?_;simp[Zv,ag]
def B6(k:Int):Int:=
 if k=1\/k=2\/k=3\/k=4\/k=8\/k=11 then 0
 else if k=5\/k=9\/k=10\/k=12\/k=13 then 1
 else if k=7 then -1
 else if k=6\/k=14\/k=15\/k=16\/k=17\/k=18\/k=19\/k=20\/k=21\/k=22\/k=23\/k=24 then 2
 else -2
theorem CT(wl af:Nat)(k:Int)(st:aj):(bh S).call wl af 130 [.int .i64 k] st=some (.int .i64 (B6 k),st):=by
 refine bL (sf:=oO) rfl rfl (by simp) rfl (by simp) ?_;unfold B6;by_cases h1:k=1;subst h1;simp[oO];by_cases h2:k=2;subst h2;simp[oO];by_cases h3:k=3;subst h3;simp[oO];by_cases h4:k=4;subst h4;simp[oO];by_cases h8:k=8;subst h8;simp[oO];by_cases ze:k=11;subst ze;simp[oO];by_cases h5:k=5;subst h5;simp[oO];by_cases h9:k=9;subst h9;simp[oO];by_cases AN:k=10;subst AN;simp[oO];by_cases tL:k=12;subst tL;simp[oO];by_cases E7:k=13;subst E7;simp[oO];by_cases h7:k=7;subst h7;simp[oO];by_cases h6:k=6;subst h6;simp[oO];by_cases X2:k=14;subst X2;simp[oO];by_cases h15:k=15;subst h15;simp[oO];by_cases h16:k=16;subst h16;simp[oO];by_cases h17:k=17;subst h17;simp[oO];by_cases h18:k=18;subst h18;simp[oO];by_cases h19:k=19;subst h19;simp[oO];by_cases h20:k=20;subst h20;simp[oO];by_cases h21:k=21;subst h21;simp[oO];by_cases h22:k=22;subst h22;simp[oO];by_cases It:k=23;subst It;simp[oO];by_cases h24:k=24;subst h24;simp[oO];simp[oO,h1,h2,h3,h4,h5,h6,h7,h8,h9,AN,ze,tL,E7,X2,h15,h16,h17,h18,h19,h20,h21,h22,It,h24]
theorem L6(k n:Int)(m:Nat):gq k n m = !(decide (B6 k = -2)||(decide (0<=B6 k) && !decide ((m:Int)=B6 k))||(decide (k=2)&&(!decide (n=0) && !decide (n=1)))):=by
 have m0:((m:Int)=0)=(m=0):=by simp
 have m1:((m:Int)=1)=(m=1):=by apply propext;omega
 have m2:((m:Int)=2)=(m=2):=by apply propext;omega
 unfold gq B6;by_cases h:k=1\/k=3\/k=4\/k=8\/k=11;rcases h with h|h|h|h|h<;>subst h<;>simp;by_cases h2:k=2;subst h2;by_cases q:n=0<;>by_cases p:n=1<;>simp[p,q];by_cases h7:k=7;subst h7;simp;by_cases h5:k=5\/k=9\/k=10\/k=12\/k=13;rcases h5 with h|h|h|h|h<;>subst h<;>simp[m1];rw[if_neg h,if_neg h2,if_neg h7,if_neg h5,if_neg (by omega),if_neg h5,if_neg h7];by_cases g:k=6\/14<=k/\k<=24;have e:(decide (k=6)||decide (14<=k)&&decide (k<=24))=true:=by simpa using g
 rw[if_pos (by omega),e];simp[m2,h2];have e:(decide (k=6)||decide (14<=k)&&decide (k<=24))=false:=by simp only[Bool.or_eq_false_iff,Bool.and_eq_false_iff,decide_eq_false_iff_not];omega
 rw[if_neg (by omega),e];simp
end R9
namespace R9
open Ax Go bu V7 jG j9 K9
variable {pre:aj}
theorem gK(af:Nat)(c:CK)(s:List UInt8)(r:aj)(hs:oh c):(bh S).call 0 af 111 [.ptr pre.length 0 0 0,.str s] (pre++c.aT::r)=some (wI (rX c.H c.V s),pre++c.aT::r):=by
 have hV:=hs.V;have hG:=hs.G;have hzV:bX 4 (br c.V)=true:=qR;have hzG:bX 4 (br c.H.globals)=true:=qR;have L7:aD (br c.V)=true:=dK;have hsG:aD (br c.H.globals)=true:=dK;have PJ:aM (br c.V)=c.V.map Vd.row:=oV;have hrG:aM (br c.H.globals)=c.H.globals.map Vd.row:=oV;have Iu:=λwl af bx=>Ak (pre:=pre) (wl:=wl) (af:=af) (c:=c) (r:=r) (bx:=bx);have egl:=λwl af bx=>V2 (pre:=pre) (wl:=wl) (af:=af) (c:=c) (r:=r) (bx:=bx);generalize br c.V=VV at *;generalize br c.H.globals=GV at *;refine ay (sf:=Zt) rfl rfl rfl ?_;generalize c.aT=o at *;simp[-ah,-aa,Zt];refine bf MQ.eq_1 (λq:Nat×Int=>⟨[(0,.val (.ptr pre.length 0 0 0)),(1,.val (.str s)),(5,.fp 0 0),(7,.val (.int .i64 q.1))],[[.int .i64 0,.int .i64 0,.int .i64 0]],pre++o::r⟩)
  (λq=>q.1<=c.V.length/\eH s 0 c.V=eH s q.1 (c.V.drop q.1)) (λq=>c.V.length-q.1) (0,0) (by simp) ⟨by simp,by simp⟩ ?_
 rintro⟨k,bb⟩ ⟨hk,hp⟩ ih;simp only at hk hp ih;by_cases aW:k<c.V.length;have hw:=wk k (by omega);rw[tM aW]at hp;by_cases e:c.V[k].nm=s;rw[if_pos e]at hp;unfold rX;rw[hp];simp[-ah,-aa,aX,Iu,L7,hzV,PJ,aW,e,Vd.row,wI,au,an,ag];rw[if_neg e]at hp;simp[-ah,-aa,aX,Iu,L7,hzV,PJ,aW,e,Vd.row,hw];exact ih (k+1,0) ⟨by simp;omega,hp⟩ (by simp;omega);have eK:k=c.V.length:=by omega
 have jy:eH s 0 c.V=none:=by rw[hp,eK,List.drop_length];rfl
 simp[-ah,-aa,Iu,L7,PJ,aW];clear ih;refine bf MS.eq_1 (λq:Nat×Int=>⟨[(0,.val (.ptr pre.length 0 0 0)),(1,.val (.str s)),(5,.fp 0 0),(8,.val (.int .i64 q.1))],[[.int .i64 0,.int .i64 0,.int .i64 0]],pre++o::r⟩)
  (λq=>q.1<=c.H.globals.length/\eH s 0 c.H.globals=eH s q.1 (c.H.globals.drop q.1)) (λq=>c.H.globals.length-q.1) (0,0) (by simp) ⟨by simp,by simp⟩ ?_
 rintro⟨k,bb⟩ ⟨hk,hp⟩ ih;simp only at hk hp ih;by_cases aW:k<c.H.globals.length;have hw:=wk k (by omega);have BJ:IntKind.i64.wrap (-1-(k:Int)) = -1-(k:Int):=by rw[dZ]<;>omega
 rw[tM aW]at hp;by_cases e:c.H.globals[k].nm=s;rw[if_pos e]at hp;unfold rX;rw[jy,hp];simp[-ah,-aa,aX,egl,hsG,hzG,hrG,aW,e,BJ,Vd.row,wI,au,an,ag];rw[if_neg e]at hp;simp[-ah,-aa,aX,egl,hsG,hzG,hrG,aW,e,Vd.row,hw];exact ih (k+1,0) ⟨by simp;omega,hp⟩ (by simp;omega);have eK:k=c.H.globals.length:=by omega
 have ajS:eH s 0 c.H.globals=none:=by rw[hp,eK,List.drop_length];rfl
 unfold rX;rw[jy,ajS];simp[-ah,-aa,egl,hsG,hrG,aW,wI,ag]
theorem xO(af:Nat)(c:CK)(s:Sm)(r:aj)(_hn:s.es.length<1000000000):(bh S).call 0 af 107 [.ptr pre.length 0 0 0,.agg s.row] (pre++c.aT::r)=some (.bool (cI c.sg.bO s.k s.es),pre++c.aT::r):=by
 have cZ:=Sm.az s;have hz:bX 11 (aI s.es)=true:=iM;have cA:aD (aI s.es)=true:=aQ;have dW:(aI s.es).view=aI s.es:=aN;have cN:aM (aI s.es)=E.rows s.es:=aE;have m0:((s.es.length:Int)=0)=(s.es.length=0):=by simp
 have m1:((s.es.length:Int)=1)=(s.es.length=1):=by apply propext;omega
 have m2:((s.es.length:Int)=2)=(s.es.length=2):=by apply propext;omega
 rw[cZ];generalize s.k=k at *;unfold cI;have b1:aD (aS s.bd)=true:=bn;have b2:(aS s.bd).view=aS s.bd:=aO;have l1:aD (aS s.el)=true:=bn;have l2:(aS s.el).view=aS s.el:=aO;generalize aS s.bd=bv at *;generalize aS s.el=lv at *;have hc:=λwl af bx=>wH (pre:=pre) (wl:=wl) (af:=af) (c:=c) (r:=r) (bx:=bx);generalize c.aT=o at *;refine ay (sf:=oL) rfl rfl rfl ?_;by_cases h1:k=1;subst h1;generalize aI s.es=kv at *;by_cases q0:s.es.length=0;simp[-ah,-aa,oL,cA,dW,cN,q0,b1,l1,AV.view];simp[-ah,-aa,oL,cA,dW,cN,q0,b1,l1,AV.view];by_cases h4:k=4;subst h4;simp only[if_neg h1,if_true];match jR:s.es,cN,m2 with
 |[e,e2],cN,m2=>
  rw[jR]at hz cA dW;simp only[E.rows]at cN;rw[E.az e,E.az e2]at cN;generalize aI [e,e2]=kv at *;by_cases q:e.k=5;simp[-ah,-aa,oL,aX,hz,cA,dW,cN,q,b1,l1,AV.view];simp[-ah,-aa,oL,aX,hz,cA,dW,cN,q,b1,l1,AV.view]
 |[],cN,m2=>
  rw[jR]at hz cA dW;generalize aI []=kv at *;simp[-ah,-aa,oL,cA,dW,cN,b1,l1,E.rows,AV.view]
 |[e],cN,m2=>
  rw[jR]at hz cA dW;simp only[E.rows]at cN;generalize aI [e]=kv at *;simp[-ah,-aa,oL,cA,dW,cN,b1,l1,AV.view]
 |e::e2::e3::l,cN,m2=>
  rw[jR]at hz cA dW;have OW:¬((E.rows (e::e2::e3::l)).length:Int)=2:=by simp;omega
  generalize aI (e::e2::e3::l)=kv at *;generalize E.rows (e::e2::e3::l)=rws at *;simp[-ah,-aa,oL,cA,dW,cN,OW,b1,l1,AV.view]
 by_cases h7:k=7;subst h7;simp only[if_neg h1,if_neg h4,if_true];generalize aI s.es=kv at *;cases hh:c.sg.bO with
 |false=>
  rw[hh]at hc;by_cases q0:s.es.length=0;simp[-ah,-aa,oL,cA,dW,cN,q0,b1,l1,hc,AV.view];simp[-ah,-aa,oL,cA,dW,cN,q0,b1,l1,hc,AV.view]
 |true=>
  rw[hh]at hc;by_cases q1:s.es.length=1;simp[-ah,-aa,oL,cA,dW,cN,q1,b1,l1,hc,AV.view];simp[-ah,-aa,oL,cA,dW,cN,m1,q1,b1,l1,hc,AV.view]
 by_cases h9:k=9;subst h9;simp only[if_neg h1,if_neg h4,if_neg h7,if_true];match jR:s.es,cN,m2 with
 |[e],cN,m2=>
  rw[jR]at hz cA dW;simp only[E.rows]at cN;rw[E.az e]at cN;generalize aI [e]=kv at *;simp[-ah,-aa,oL,aX,hz,cA,dW,cN,b1,l1,AV.view]
 |[],cN,m2=>
  rw[jR]at hz cA dW;generalize aI []=kv at *;simp[-ah,-aa,oL,cA,dW,cN,b1,l1,E.rows,AV.view]
 |e::e2::l,cN,m2=>
  rw[jR]at hz cA dW;have OW:¬((E.rows (e::e2::l)).length:Int)=1:=by simp;omega
  generalize aI (e::e2::l)=kv at *;generalize E.rows (e::e2::l)=rws at *;simp[-ah,-aa,oL,cA,dW,cN,OW,b1,l1,AV.view]
 simp only[if_neg h1,if_neg h4,if_neg h7,if_neg h9];generalize aI s.es=kv at *;by_cases h2:k=2;subst h2;by_cases q1:s.es.length=1;simp[-ah,-aa,oL,cA,dW,cN,q1,b1,l1,AV.view];simp[-ah,-aa,oL,cA,dW,cN,m1,q1,b1,l1,AV.view];by_cases h3:k=3;subst h3;by_cases q1:s.es.length=1;simp[-ah,-aa,oL,cA,dW,cN,q1,b1,l1,AV.view];simp[-ah,-aa,oL,cA,dW,cN,m1,q1,b1,l1,AV.view];by_cases h5:k=5;subst h5;by_cases q1:s.es.length=1;simp[-ah,-aa,oL,cA,dW,cN,q1,b1,l1,AV.view];simp[-ah,-aa,oL,cA,dW,cN,m1,q1,b1,l1,AV.view];by_cases h6:k=6;subst h6;by_cases q1:s.es.length=1;simp[-ah,-aa,oL,cA,dW,cN,q1,b1,l1,AV.view];simp[-ah,-aa,oL,cA,dW,cN,m1,q1,b1,l1,AV.view];by_cases h8:k=8;subst h8;by_cases q1:s.es.length=1;simp[-ah,-aa,oL,cA,dW,cN,q1,b1,l1,AV.view];simp[-ah,-aa,oL,cA,dW,cN,m1,q1,b1,l1,AV.view];simp[-ah,-aa,oL,cA,b1,l1,h1,h2,h3,h4,h5,h6,h7,h8,h9,AV.view]
end R9
namespace R9
open Ax Go bu V7 jG j9 K9
variable {pre:aj}
abbrev kX(k n:Int)(nm on:List UInt8)(od:Int)(kv:AV)(a:Int)(t:T3)(z:Int):List AV:=[.int .i64 k,.int .i64 n,.str nm,.str on,.int .i64 od,kv,.int .i64 a,.int .i64 t.b,.int .i64 t.r,.int .i64 t.d,.int .i64 z]
theorem dR{wl af n k:Nat}{agg:Bool}{o:dy}{r0 K:aj}{cs:List AV}{bx:bF}:aV wl af (.load agg n false) [.val (.ptr (pre.length+(r0.length+1)) 0 0 k)] (pre++o::(r0++.rows 0 11 [cs]::K)) bx =
  qw (pre++o::(r0++.rows 0 11 [cs]::K)) bx ((cut cs k n).bind λcs=>bP agg (AV.cq cs)):=by
 rw[ah];simp[dM]
theorem cm{af n k:Nat}{o:dy}{r0 K:aj}{cs:List AV}{v:AV}{bx:bF}(h1:v.cells.length=n)(h2:AV.bq v.cells=true)(h3:k+v.cells.length<=cs.length)(h4:AV.ai v.cells=true) :
  aV 0 af (.store n) [.val (.ptr (pre.length+(r0.length+1)) 0 0 k),.val v] (pre++o::(r0++.rows 0 11 [cs]::K)) bx=some (.none,pre++o::(r0++.rows 0 11 [ag cs k v.cells]::K),bx):=by
 rw[aa,if_pos ⟨h1,h2⟩];simp[cV,aY,h3,h4]
theorem fZ{wl af n j k v:Nat}{agg:Bool}{o X:dy}{r0 K:aj}{rows:List (List AV)}{bx:bF}:aV wl af (.load agg n false) [.val (.ptr (pre.length+(r0.length+1+1)) v j k)] (pre++o::(r0++X::.rows v 11 rows::K)) bx =
  qw (pre++o::(r0++X::.rows v 11 rows::K)) bx ((match rows[j]? with|some cs=>cut cs k n|none=>none).bind λcs=>bP agg (AV.cq cs)):=by
 rw[ah];cases h:rows[j]?<;>simp[dM,h]
def sgR(k:Int):T3:=if k=12\/k=14\/k=15\/k=16\/k=17\/k=18 then tI else tB
def sgB(k:Int)(a b:T3):Bool:=if k=12\/k=14\/k=15\/k=16\/k=17\/k=18\/k=19\/k=20 then decide (a=tI)&&decide (b=tI) else if k=21\/k=22 then decide (a=b) else decide (a=tB)&&decide (b=tB)
theorem O8(af:Nat)(o:dy)(r0:aj)(k n:Int)(nm on:List UInt8)(od a z:Int)(t:T3)(y:E)(hk:k=12\/k=13) :
  (bh S).call 0 af 131 [.ptr pre.length 0 0 0,.ptr (pre.length+(r0.length+1)) 0 0 0] (pre++o::(r0++[.rows 0 11 [kX k n nm on od (.mu (pre.length+(r0.length+1+1)) 0) a t z],.rows 0 11 [y.row]])) =
  some (.bool (sgB k y.ty y.ty),pre++o::(r0++[.rows 0 11 [kX k n nm on od (.mu (pre.length+(r0.length+1+1)) 0) a (sgR k) z],.rows 0 11 [y.row]])):=by
 have eI:=λwl af st=>ot wl af st;have eT:=λwl af st=>l8 wl af st;rw[E.az];refine ay (sf:=p0) rfl rfl rfl ?_;unfold sgB sgR;rcases hk with h|h<;>subst h;by_cases q:y.ty=tI;simp[-ah,-aa,p0,dR,cm,fZ,eI,q,au,an,ag,AV.view];simp[-ah,-aa,p0,dR,cm,fZ,eI,K9.dI,q,au,an,ag,AV.view];by_cases q:y.ty=tB;simp[-ah,-aa,p0,dR,cm,fZ,eT,q,au,an,ag,AV.view];simp[-ah,-aa,p0,dR,cm,fZ,eT,dB,q,au,an,ag,AV.view]
theorem O9(af:Nat)(o:dy)(r0:aj)(k n:Int)(nm on:List UInt8)(od a z:Int)(t:T3)(x y:E)(hk:14<=k) :
  (bh S).call 0 af 131 [.ptr pre.length 0 0 0,.ptr (pre.length+(r0.length+1)) 0 0 0] (pre++o::(r0++[.rows 0 11 [kX k n nm on od (.mu (pre.length+(r0.length+1+1)) 1) a t z],.rows 1 11 [x.row,y.row]])) =
  some (.bool (sgB k x.ty y.ty),pre++o::(r0++[.rows 0 11 [kX k n nm on od (.mu (pre.length+(r0.length+1+1)) 1) a (sgR k) z],.rows 1 11 [x.row,y.row]])):=by
 have eI:=λwl af st=>ot wl af st;have eT:=λwl af st=>l8 wl af st;have tL:k≠12:=by omega
 rw[E.az x,E.az y];refine ay (sf:=p0) rfl rfl rfl ?_;unfold sgB sgR;by_cases X2:k=14;subst X2;by_cases q:x.ty=tI;simp[-ah,-aa,p0,dR,cm,fZ,eI,K9.dI,q,au,an,ag,AV.view];simp[-ah,-aa,p0,dR,cm,fZ,eI,K9.dI,q,au,an,ag,AV.view];by_cases h15:k=15;subst h15;by_cases q:x.ty=tI;simp[-ah,-aa,p0,dR,cm,fZ,eI,K9.dI,q,au,an,ag,AV.view];simp[-ah,-aa,p0,dR,cm,fZ,eI,K9.dI,q,au,an,ag,AV.view];by_cases h16:k=16;subst h16;by_cases q:x.ty=tI;simp[-ah,-aa,p0,dR,cm,fZ,eI,K9.dI,q,au,an,ag,AV.view];simp[-ah,-aa,p0,dR,cm,fZ,eI,K9.dI,q,au,an,ag,AV.view];by_cases h17:k=17;subst h17;by_cases q:x.ty=tI;simp[-ah,-aa,p0,dR,cm,fZ,eI,K9.dI,q,au,an,ag,AV.view];simp[-ah,-aa,p0,dR,cm,fZ,eI,K9.dI,q,au,an,ag,AV.view];by_cases h18:k=18;subst h18;by_cases q:x.ty=tI;simp[-ah,-aa,p0,dR,cm,fZ,eI,K9.dI,q,au,an,ag,AV.view];simp[-ah,-aa,p0,dR,cm,fZ,eI,K9.dI,q,au,an,ag,AV.view];by_cases h19:k=19;subst h19;by_cases q:x.ty=tI;simp[-ah,-aa,p0,dR,cm,fZ,eI,eT,K9.dI,q,au,an,ag,AV.view];simp[-ah,-aa,p0,dR,cm,fZ,eI,eT,K9.dI,q,au,an,ag,AV.view];by_cases h20:k=20;subst h20;by_cases q:x.ty=tI;simp[-ah,-aa,p0,dR,cm,fZ,eI,eT,K9.dI,q,au,an,ag,AV.view];simp[-ah,-aa,p0,dR,cm,fZ,eI,eT,K9.dI,q,au,an,ag,AV.view];by_cases h21:k=21;subst h21;simp[-ah,-aa,p0,dR,cm,fZ,eT,dU,ag,AV.view];by_cases h22:k=22;subst h22;simp[-ah,-aa,p0,dR,cm,fZ,eT,dU,ag,AV.view];by_cases q:x.ty=tB;simp[-ah,-aa,p0,dR,cm,fZ,eT,tL,X2,h15,h16,h17,h18,h19,h20,h21,h22,dB,q,au,an,ag,AV.view];simp[-ah,-aa,p0,dR,cm,fZ,eT,tL,X2,h15,h16,h17,h18,h19,h20,h21,h22,dB,q,au,an,ag,AV.view]
theorem Pa{H:Hd}{V:List Vd}{k:Int}{nm on:List UInt8}{od:Int}{ks:List E}(hk:12<=k):lV H V k nm on od ks=Cm (sgB k (qP ks) (if k=12\/k=13 then qP ks else BY ks)) (sgR k):=by
 unfold lV sgB sgR;rw[if_neg (by omega),if_neg (by omega),if_neg (by omega),if_neg (by omega),if_neg (by omega),if_neg (by omega),if_neg (by omega),if_neg (by omega),if_neg (by omega),if_neg (by omega)];by_cases tL:k=12;subst tL;simp;by_cases E7:k=13;subst E7;simp;unfold Fp;rw[if_neg tL,if_neg E7];have g:(if k=12\/k=13 then qP ks else BY ks)=BY ks:=if_neg (by omega);rw[g];by_cases c1:k=14\/k=15\/k=16\/k=17\/k=18;rcases c1 with h|h|h|h|h<;>subst h<;>simp;rw[if_neg c1];by_cases c2:k=19\/k=20;rcases c2 with h|h<;>subst h<;>simp;rw[if_neg c2,if_neg (show ¬(k=12\/k=14\/k=15\/k=16\/k=17\/k=18\/k=19\/k=20) by omega),if_neg (show ¬(k=12\/k=14\/k=15\/k=16\/k=17\/k=18) by omega)];split<;>rfl
end R9
namespace R9
open Ax Go bu V7 jG j9 K9
variable {pre:aj}
def Ic(pre:aj)(o:dy)(r0 K:aj)(q:Option (T3×Int))(row:T3->Int->List AV)(v:AV)(st:aj):Prop:=∃b Y,v=.bool b/\st=pre++o::(r0++Y::K)/\match q with
 |none=>b=false|some (u,z)=>b=true/\Y=.rows 0 11 [row u z]
theorem iU{o:dy}{r0 K:aj}{row:T3->Int->List AV}{Y:dy}:Ic pre o r0 K none row (.bool false) (pre++o::(r0++Y::K)):=⟨false,Y,rfl,rfl,rfl⟩
theorem mR{o:dy}{r0 K:aj}{row:T3->Int->List AV}{u:T3}{z:Int}:Ic pre o r0 K (some (u,z)) row (.bool true) (pre++o::(r0++.rows 0 11 [row u z]::K)):=⟨true,_,rfl,rfl,rfl,rfl⟩
theorem AD{o:dy}{r0 K:aj}{row:T3->Int->List AV}{u:T3}{b:Bool}:Ic pre o r0 K (Cm b u) row (.bool b) (pre++o::(r0++.rows 0 11 [row u 0]::K)):=by
 cases b;exact iU;exact mR
theorem Tv(af:Nat)(c:CK)(r0:aj)(e:E)(k n:Int)(nm on:List UInt8)(od a z:Int)(t:T3)(v:Nat)(ys:List E)(hs:oh c)(hn:ys.length<1000000000) :
  ∃v' bV,(bh S).call 0 af 144 [.ptr pre.length 0 0 0,.agg e.row,.ptr (pre.length+(r0.length+1)) 0 0 0] (pre++c.aT::(r0++[.rows 0 11 [kX k n nm on od (.mu (pre.length+(r0.length+1+1)) v) a t z],.rows v 11 (E.rows ys)]))=some (v',bV)/\
   Ic pre c.aT r0 [.rows v 11 (E.rows ys)] (oC c.H e.nm ys) (kX k n e.nm on od (.mu (pre.length+(r0.length+1+1)) v) a) v' bV:=by
 have hS:=hs.S;have S1:bX 6 (aA 6 (c.H.sigs.map Sg.row))=true:=gf (by simp[bN,Sg.row]);have Ww:aD (aA 6 (c.H.sigs.map Sg.row))=true:=aL;have OY:aM (aA 6 (c.H.sigs.map Sg.row))=c.H.sigs.map Sg.row:=aE;have Wx:=λwl af r bx=>SW (pre:=pre) (wl:=wl) (af:=af) (c:=c) (r:=r) (bx:=bx);have ow:aD (aI e.aC)=true:=aQ;have Ku:(aI e.aC).view=aI e.aC:=aN;rw[E.az e];generalize aI e.aC=kv at *;generalize aA 6 (c.H.sigs.map Sg.row)=SV at *;generalize c.aT=o at *;refine iT (sf:=Sb) rfl rfl rfl ?_;simp[-ah,-aa,Sb,cm,ow,ag];refine bf HF.eq_1 (λq:Nat×List AV=>⟨[(0,.val (.ptr pre.length 0 0 0)),(2,.val (.ptr (pre.length+(r0.length+1)) 0 0 0)),(4,.fp 0 0),(7,.val (.int .i64 q.1))],[[.int .i64 e.k,.int .i64 e.n,.str e.nm,.str e.on,.int .i64 e.od,kv,.int .i64 e.a,.int .i64 e.ty.b,.int .i64 e.ty.r,.int .i64 e.ty.d,.int .i64 e.cG],q.2],
   pre++o::(r0++[.rows 0 11 [kX k n e.nm on od (.mu (pre.length+(r0.length+1+1)) v) a t z],.rows v 11 (E.rows ys)])⟩)
  (λq=>q.1<=c.H.sigs.length/\mH e.nm 0 c.H.sigs=mH e.nm q.1 (c.H.sigs.drop q.1)) (λq=>c.H.sigs.length-q.1) (0,[]) (by simp) ⟨by simp,by simp⟩ ?_
 rintro⟨i,b1⟩ ⟨hi,hp⟩ ih;simp only at hi hp ih;by_cases aW:i<c.H.sigs.length;have hw:=wk i (by omega);rw[Et aW]at hp;have gS:∀h:i<(c.H.sigs.map Sg.row).length,(c.H.sigs.map Sg.row)[i]=[.str c.H.sigs[i].nm,br c.H.sigs[i].ps,.bool c.H.sigs[i].bO,.int .i64 c.H.sigs[i].bz.b,.int .i64 c.H.sigs[i].bz.r,.int .i64 c.H.sigs[i].bz.d]:=λh=>by simp[Sg.row]
 have gY:i<(c.H.sigs.map Sg.row).length:=by simpa using aW
 have yx:=gS gY;clear gS;have hnp:=hs.P _ (List.getElem_mem aW);have hzp:bX 4 (br c.H.sigs[i].ps)=true:=qR;have nE:aD (br c.H.sigs[i].ps)=true:=dK;have Tw:aM (br c.H.sigs[i].ps)=c.H.sigs[i].ps.map Vd.row:=oV;have Co:(br c.H.sigs[i].ps).view=br c.H.sigs[i].ps:=fC;have dx:=λb1=>ih (i+1,b1);simp only at dx;generalize V5:c.H.sigs.map Sg.row=RS at *;have hgg:c.H.sigs[i]?=some c.H.sigs[i]:=List.getElem?_eq_getElem aW;generalize c.H.sigs[i]=g at *;by_cases h:g.nm=e.nm;rw[if_pos h]at hp;have vU:oC c.H e.nm ys=if ji g.ps ys then some (g.bz,(i:Int)) else none:=by unfold oC;rw[hp]
 rw[vU];by_cases hl:g.ps.length=ys.length;generalize br g.ps=PV at *;simp[-ah,-aa,dR,aX,Wx,Ww,S1,OY,gY,yx,nE,Tw,Co,h,hl,aU,bG,ag];clear ih dx;refine bf HE.eq_1 (λj:Nat=>⟨[(2,.val (.ptr (pre.length+(r0.length+1)) 0 0 0)),(7,.val (.int .i64 i)),(8,.fp 1 0),(9,.val (.int .i64 j))],[[.int .i64 e.k,.int .i64 e.n,.str e.nm,.str e.on,.int .i64 e.od,kv,.int .i64 e.a,.int .i64 e.ty.b,.int .i64 e.ty.r,.int .i64 e.ty.d,.int .i64 e.cG],
   [.str e.nm,PV,.bool g.bO,.int .i64 g.bz.b,.int .i64 g.bz.r,.int .i64 g.bz.d]],
   pre++o::(r0++[.rows 0 11 [kX k n e.nm on od (.mu (pre.length+(r0.length+1+1)) v) a t z],.rows v 11 (E.rows ys)])⟩)
  (λj=>j<=ys.length/\ji g.ps ys=ji (g.ps.drop j) (ys.drop j)) (λj=>ys.length-j) 0 (by simp) ⟨by simp,by simp⟩ ?_
 rintro j ⟨hj,hq⟩ ih;by_cases xg:j<ys.length;have hwj:=wk j (by omega);have hjp:j<g.ps.length:=by omega
 rw[Gt hjp xg]at hq;have gE:=uZ xg;have gV:∀h:j<(g.ps.map Vd.row).length,(g.ps.map Vd.row)[j]=[.str g.ps[j].nm,.int .i64 g.ps[j].ty.b,.int .i64 g.ps[j].ty.r,.int .i64 g.ps[j].ty.d]:=λh=>by simp[Vd.row]
 have XI:j<(g.ps.map Vd.row).length:=by simpa using hjp
 have gV':=gV XI;clear gV;have gV2:(g.ps.map Vd.row)[j]?=some [.str g.ps[j].nm,.int .i64 g.ps[j].ty.b,.int .i64 g.ps[j].ty.r,.int .i64 g.ps[j].ty.d]:=by simp[hjp,Vd.row]
 rw[E.az]at gE;have FM:j<(E.rows ys).length:=by simpa using xg
 have mZ:=oW xg FM;rw[E.az]at mZ;generalize hRY:E.rows ys=RY at *;generalize hRP:g.ps.map Vd.row=RP at *;by_cases qq:ys[j].ty=g.ps[j].ty;have dq:(decide (ys[j].ty.b=g.ps[j].ty.b)&&(decide (ys[j].ty.r=g.ps[j].ty.r)&&decide (ys[j].ty.d=g.ps[j].ty.d)))=true:=by rw[dU];exact decide_eq_true qq
 rw[decide_eq_true qq,Bool.true_and]at hq;generalize ys[j]=y at *;generalize g.ps[j]=f at *;simp[-ah,-aa,dR,fZ,aX,FM,mZ,gV',hzp,Tw,XI,qq,hwj,aU,bG];exact ih (j+1) ⟨by omega,hq⟩ (by omega);rw[decide_eq_false qq,Bool.false_and]at hq;rw[hq];generalize ys[j]=y at *;generalize g.ps[j]=f at *;simp[-ah,-aa,dR,fZ,aX,FM,mZ,gV',hzp,Tw,XI,dU,qq,aU,bG];exact iU;have eK:j=ys.length:=by omega
 have:ji g.ps ys=true:=by rw[hq,eK,List.drop_length,<-hl,List.drop_length];rfl
 rw[this];simp[-ah,-aa,dR,cm,eK,ag];exact mR;have jy:ji g.ps ys=false:=by
  cases hq:ji g.ps ys with
  |false=>rfl|true=>exact absurd (Am hq) hl
 rw[jy];generalize br g.ps=PV at *;simp[-ah,-aa,dR,aX,Wx,Ww,S1,OY,gY,yx,nE,Tw,Co,h,hl,aU,bG,ag];exact iU;rw[if_neg h]at hp;generalize br g.ps=PV at *;simp[-ah,-aa,aX,Wx,Ww,S1,OY,gY,yx,nE,Co,h,hw,ag];exact dx _ ⟨by omega,hp⟩ (by omega);have eK:i=c.H.sigs.length:=by omega
 have jy:mH e.nm 0 c.H.sigs=none:=by rw[hp,eK,List.drop_length];rfl
 have vU:oC c.H e.nm ys=none:=by unfold oC;rw[jy]
 rw[vU];simp[-ah,-aa,Wx,Ww,OY,aW];exact iU
end R9
namespace R9
open Ax Go bu V7 jG j9 K9
variable {pre:aj}
theorem zH(af:Nat)(c:CK)(r0:aj)(e:E)(k n:Int)(nm on:List UInt8)(od a z:Int)(t:T3)(hs:oh c) :
  ∃v' bV,(bh S).call 0 af 144 [.ptr pre.length 0 0 0,.agg e.row,.ptr (pre.length+(r0.length+1)) 0 0 0] (pre++c.aT::(r0++[.rows 0 11 [kX k n nm on od .U a t z]]))=some (v',bV)/\
   Ic pre c.aT r0 [] (oC c.H e.nm []) (kX k n e.nm on od .U a) v' bV:=by
 have hS:=hs.S;have S1:bX 6 (aA 6 (c.H.sigs.map Sg.row))=true:=gf (by simp[bN,Sg.row]);have Ww:aD (aA 6 (c.H.sigs.map Sg.row))=true:=aL;have OY:aM (aA 6 (c.H.sigs.map Sg.row))=c.H.sigs.map Sg.row:=aE;have Wx:=λwl af r bx=>SW (pre:=pre) (wl:=wl) (af:=af) (c:=c) (r:=r) (bx:=bx);have ow:aD (aI e.aC)=true:=aQ;have Ku:(aI e.aC).view=aI e.aC:=aN;rw[E.az e];generalize aI e.aC=kv at *;generalize aA 6 (c.H.sigs.map Sg.row)=SV at *;generalize c.aT=o at *;refine iT (sf:=Sb) rfl rfl rfl ?_;simp[-ah,-aa,Sb,cm,ow,ag];refine bf HF.eq_1 (λq:Nat×List AV=>⟨[(0,.val (.ptr pre.length 0 0 0)),(2,.val (.ptr (pre.length+(r0.length+1)) 0 0 0)),(4,.fp 0 0),(7,.val (.int .i64 q.1))],[[.int .i64 e.k,.int .i64 e.n,.str e.nm,.str e.on,.int .i64 e.od,kv,.int .i64 e.a,.int .i64 e.ty.b,.int .i64 e.ty.r,.int .i64 e.ty.d,.int .i64 e.cG],q.2],
   pre++o::(r0++[.rows 0 11 [kX k n e.nm on od .U a t z]])⟩)
  (λq=>q.1<=c.H.sigs.length/\mH e.nm 0 c.H.sigs=mH e.nm q.1 (c.H.sigs.drop q.1)) (λq=>c.H.sigs.length-q.1) (0,[]) (by simp) ⟨by simp,by simp⟩ ?_
 rintro⟨i,b1⟩ ⟨hi,hp⟩ ih;simp only at hi hp ih;by_cases aW:i<c.H.sigs.length;have hw:=wk i (by omega);rw[Et aW]at hp;have gS:∀h:i<(c.H.sigs.map Sg.row).length,(c.H.sigs.map Sg.row)[i]=[.str c.H.sigs[i].nm,br c.H.sigs[i].ps,.bool c.H.sigs[i].bO,.int .i64 c.H.sigs[i].bz.b,.int .i64 c.H.sigs[i].bz.r,.int .i64 c.H.sigs[i].bz.d]:=λh=>by simp[Sg.row]
 have gY:i<(c.H.sigs.map Sg.row).length:=by simpa using aW
 have yx:=gS gY;clear gS;have hnp:=hs.P _ (List.getElem_mem aW);have hzp:bX 4 (br c.H.sigs[i].ps)=true:=qR;have nE:aD (br c.H.sigs[i].ps)=true:=dK;have Tw:aM (br c.H.sigs[i].ps)=c.H.sigs[i].ps.map Vd.row:=oV;have Co:(br c.H.sigs[i].ps).view=br c.H.sigs[i].ps:=fC;have dx:=λb1=>ih (i+1,b1);simp only at dx;generalize V5:c.H.sigs.map Sg.row=RS at *;have hgg:c.H.sigs[i]?=some c.H.sigs[i]:=List.getElem?_eq_getElem aW;generalize c.H.sigs[i]=g at *;by_cases h:g.nm=e.nm;rw[if_pos h]at hp;have vU:oC c.H e.nm []=if ji g.ps [] then some (g.bz,(i:Int)) else none:=by unfold oC;rw[hp]
 rw[vU];by_cases hl:g.ps.length=0;generalize br g.ps=PV at *;simp[-ah,-aa,dR,aX,Wx,Ww,S1,OY,gY,yx,nE,Tw,Co,h,hl,aU,bG,ag];clear ih dx;refine bf HE.eq_1 (λj:Nat=>⟨[(2,.val (.ptr (pre.length+(r0.length+1)) 0 0 0)),(7,.val (.int .i64 i)),(8,.fp 1 0),(9,.val (.int .i64 j))],[[.int .i64 e.k,.int .i64 e.n,.str e.nm,.str e.on,.int .i64 e.od,kv,.int .i64 e.a,.int .i64 e.ty.b,.int .i64 e.ty.r,.int .i64 e.ty.d,.int .i64 e.cG],
   [.str e.nm,PV,.bool g.bO,.int .i64 g.bz.b,.int .i64 g.bz.r,.int .i64 g.bz.d]],
   pre++o::(r0++[.rows 0 11 [kX k n e.nm on od .U a t z]])⟩)
  (λj=>j<=0/\ji g.ps []=ji (g.ps.drop j) []) (λj=>0-j) 0 (by simp) ⟨by simp,by simp⟩ ?_
 rintro j ⟨hj,hq⟩ ih;have eK:j=0:=by omega
 have:ji g.ps []=true:=by rw[List.length_eq_zero_iff.1 hl];rfl
 rw[this];simp[-ah,-aa,dR,cm,eK,ag];exact mR;have jy:ji g.ps []=false:=by
  cases hq:ji g.ps [] with
  |false=>rfl|true=>exact absurd (Am hq) hl
 rw[jy];generalize br g.ps=PV at *;simp[-ah,-aa,dR,aX,Wx,Ww,S1,OY,gY,yx,nE,Tw,Co,h,hl,aU,bG,ag];exact iU;rw[if_neg h]at hp;generalize br g.ps=PV at *;simp[-ah,-aa,aX,Wx,Ww,S1,OY,gY,yx,nE,Co,h,hw,ag];exact dx _ ⟨by omega,hp⟩ (by omega);have eK:i=c.H.sigs.length:=by omega
 have jy:mH e.nm 0 c.H.sigs=none:=by rw[hp,eK,List.drop_length];rfl
 have vU:oC c.H e.nm []=none:=by unfold oC;rw[jy]
 rw[vU];simp[-ah,-aa,Wx,Ww,OY,aW];exact iU
theorem Pb{l:List (List UInt8)}:qg (aA 1 (ga l))=true:=by
 unfold qg lT;rw[N7.Ai,N7.xH (by simp[bN,ga]),aE];simp[ga,M9]
theorem Ke{l:List (List UInt8)}:ee (aA 1 (ga l))=l:=by
 simp only[ee,aE,ga,List.map_map];conv=>rhs;rw[<-List.map_id l]
 exact List.map_congr_left λ_ _=>rfl
theorem Ie(wl af:Nat)(l:List (List UInt8))(s:List UInt8)(d:Int)(st:aj)(hn:l.length<1000000000) :
  (bh S).call wl af 89 [aA 1 (ga l),.agg [.str s,.int .i64 d]] st=some (LA (bZ l s d),st):=by
 rw[U7.ER wl af (aA 1 (ga l)) s d st Pb (by rw[Ke];exact hn),Ke]
 rfl
theorem CS(wl af:Nat)(t:T3)(st:aj):(bh S).call wl af 34 [.agg [.int .i64 t.b,.int .i64 t.r,.int .i64 t.d]] st=some (.bool (nJ t),st):=U7.CS wl af t st
def qH(i:Nat)(ys:List E):AV:=if ys.isEmpty then .U else .mu i (ys.length-1)
def kK(ys:List E):aj:=if ys.isEmpty then [] else [.rows (ys.length-1) 11 (E.rows ys)]
theorem Tx(af:Nat)(c:CK)(r0:aj)(e:E)(k n:Int)(nm on:List UInt8)(od a z:Int)(t:T3)(ys:List E)(hs:oh c)(hn:ys.length<1000000000) :
  ∃v' bV,(bh S).call 0 af 144 [.ptr pre.length 0 0 0,.agg e.row,.ptr (pre.length+(r0.length+1)) 0 0 0] (pre++c.aT::(r0++.rows 0 11 [kX k n nm on od (qH (pre.length+(r0.length+1+1)) ys) a t z]::kK ys))=some (v',bV)/\
   Ic pre c.aT r0 (kK ys) (oC c.H e.nm ys) (kX k n e.nm on od (qH (pre.length+(r0.length+1+1)) ys) a) v' bV:=by
 cases ys with
 |nil=>exact zH (pre:=pre) af c r0 e k n nm on od a z t hs|cons y l=>exact Tv (pre:=pre) af c r0 e k n nm on od a z t ((y::l).length-1) (y::l) hs hn
end R9
namespace R9
open Ax Go bu V7 jG j9 K9
variable {pre:aj}
theorem El(af:Nat)(c:CK)(r0:aj)(e:E)(ys:List E)(hs:oh c)(hn:ys.length<1000000000)(hk:gq e.k e.n ys.length=true)(tL:e.k<12)(V5:c.H.rs.length=c.H.bK.length)(hw:∀x∈ys,WT c.H.rs.length x.ty) :
  ∃v' bV,(bh S).call 0 af 132 [.ptr pre.length 0 0 0,.agg e.row,.ptr (pre.length+(r0.length+1)) 0 0 0] (pre++c.aT::(r0++.rows 0 11 [kX e.k 0 [] [] 0 (qH (pre.length+(r0.length+1+1)) ys) e.a T0 0]::kK ys))=some (v',bV)/\
   Ic pre c.aT r0 (kK ys) (lV c.H c.V e.k e.nm e.on e.od ys) (kX e.k (pP e.k e.n) (kF e.k e.nm) (kG e.k e.on) (kH e.k e.od) (qH (pre.length+(r0.length+1+1)) ys) e.a) v' bV:=by
 have eI:=λwl af st=>ot wl af st;have eT:=λwl af st=>l8 wl af st;have eV:=λaf r=>gK (pre:=pre) af c e.nm r hs;have pQ:=λwl af st=>Ie wl af c.H.rs e.on e.od st hs.R;have No:=λwl af st=>CS wl af (bZ c.H.rs e.on e.od).1 st;have ecl:=λaf k n nm on od a z t=>Tx (pre:=pre) af c r0 e k n nm on od a z t ys hs hn;have Kf:=λwl af r bx=>uL (pre:=pre) (wl:=wl) (af:=af) (c:=c) (r:=r) (bx:=bx);have esh:=λwl af r bx=>V1 (pre:=pre) (wl:=wl) (af:=af) (c:=c) (r:=r) (bx:=bx);have ow:aD (aI e.aC)=true:=aQ;have Ku:(aI e.aC).view=aI e.aC:=aN;have XQ:=mX c.H.rs e.on e.od;rw[E.az e]at *;generalize aI e.aC=kv at *;have nil:∀j,e.k=j->(j=1\/j=2\/j=3\/j=4\/j=8\/j=11)->ys=[]:=λj hj h=>by
  rw[hj]at hk;rcases h with h|h|h|h|h|h<;>subst h<;>simp[gq]at hk<;>first|exact hk|exact hk.1
 have one:∀j,e.k=j->(j=5\/j=9\/j=10)->∃x,ys=[x]:=λj hj h=>by
  have hlen:ys.length=1:=by
   rw[hj]at hk;rcases h with h|h|h<;>subst h<;>simpa [gq] using hk
  match ys,hlen with
  |[x],_=>exact⟨x,rfl⟩
 by_cases h1:e.k=1;have hy:=nil 1 h1 (by simp);subst hy;rw[h1];refine iT (sf:=lS) rfl rfl rfl ?_;simp[-ah,-aa,lS,cm,qH,kK,eI,ow,ag,AV.view];exact mR;by_cases h2:e.k=2;have hy:=nil 2 h2 (by simp);subst hy;rw[h2];refine iT (sf:=lS) rfl rfl rfl ?_;simp[-ah,-aa,lS,cm,qH,kK,eT,ow,ag,AV.view];exact mR;by_cases ze:e.k=11;have hy:=nil 11 ze (by simp);subst hy;rw[ze];refine iT (sf:=lS) rfl rfl rfl ?_;simp[-ah,-aa,lS,cm,qH,kK,eI,ow,ag,AV.view];exact mR;by_cases h3:e.k=3;have hy:=nil 3 h3 (by simp);subst hy;rw[h3];have Ir:lV c.H c.V 3 e.nm e.on e.od []=Cm ((bZ c.H.rs e.on e.od).2&&nJ (bZ c.H.rs e.on e.od).1) (bZ c.H.rs e.on e.od).1:=rfl;rw[Ir];refine iT (sf:=lS) rfl rfl rfl ?_;unfold LA at pQ;generalize bZ c.H.rs e.on e.od=tt at *;obtain⟨t,b⟩:=tt;generalize c.aT=o at *;cases b;simp[-ah,-aa,lS,cm,qH,kK,Kf,pQ,ow,ag,AV.view,aU,bG];exact iU;cases hr:nJ t with
 |false=>
  rw[hr]at No;simp[-ah,-aa,lS,cm,qH,kK,Kf,pQ,No,ow,ag,AV.view,aU,bG];exact iU
 |true=>
  rw[hr]at No;simp[-ah,-aa,lS,cm,qH,kK,Kf,pQ,No,ow,ag,AV.view,aU,bG];exact mR
 by_cases h8:e.k=8;have hy:=nil 8 h8 (by simp);subst hy;rw[h8];have Ir:lV c.H c.V 8 e.nm e.on e.od []=Cm ((bZ c.H.rs e.on e.od).2&&decide ((bZ c.H.rs e.on e.od).1.b=3)&&decide ((bZ c.H.rs e.on e.od).1.d=0)) (bZ c.H.rs e.on e.od).1:=rfl;rw[Ir];refine iT (sf:=lS) rfl rfl rfl ?_;unfold LA at pQ;generalize bZ c.H.rs e.on e.od=tt at *;obtain⟨t,b⟩:=tt;generalize c.aT=o at *;cases b;simp[-ah,-aa,lS,cm,qH,kK,Kf,pQ,ow,ag,AV.view,aU,bG];exact iU;by_cases hd:t.d=0;have DF:(t.d=0)=True:=eq_true hd;by_cases hb:t.b=3;have hr:nJ t=true:=by unfold nJ;simp[hb]
 rw[hr]at No;rw[decide_eq_true hb,decide_eq_true hd];simp[-ah,-aa,lS,cm,qH,kK,Kf,pQ,No,DF,ow,ag,AV.view,aU,bG];exact mR;have hr:nJ t=false:=by unfold nJ;simp[hb,hd]
 rw[hr]at No;rw[decide_eq_false hb];simp[-ah,-aa,lS,cm,qH,kK,Kf,pQ,No,ow,ag,AV.view,aU,bG];exact iU;cases hr:nJ t with
 |false=>
  rw[hr]at No;simp[-ah,-aa,lS,cm,qH,kK,Kf,pQ,No,hd,ow,ag,AV.view,aU,bG];exact iU
 |true=>
  rw[hr]at No;simp[-ah,-aa,lS,cm,qH,kK,Kf,pQ,No,hd,ow,ag,AV.view,aU,bG];exact iU
 by_cases h4:e.k=4;have hy:=nil 4 h4 (by simp);subst hy;rw[h4];have Ir:lV c.H c.V 4 e.nm e.on e.od []=rX c.H c.V e.nm:=rfl;rw[Ir];refine iT (sf:=lS) rfl rfl rfl ?_;generalize rX c.H c.V e.nm=vt at *;generalize c.aT=o at *;cases vt with
 |none=>
  simp[-ah,-aa,lS,cm,qH,kK,eV,wI,ow,ag,AV.view];exact iU
 |some x=>
  simp[-ah,-aa,lS,cm,qH,kK,eV,wI,ow,ag,AV.view];exact mR
 by_cases h9:e.k=9;obtain⟨y,rfl⟩:=one 9 h9 (by simp);rw[h9];have Ir:lV c.H c.V 9 e.nm e.on e.od [y]=Cm ((bZ c.H.rs e.on e.od).2&&decide ((bZ c.H.rs e.on e.od).1.d<3)&&decide (y.ty=tI)) ⟨(bZ c.H.rs e.on e.od).1.b,(bZ c.H.rs e.on e.od).1.r,(bZ c.H.rs e.on e.od).1.d+1⟩:=rfl;rw[Ir];refine iT (sf:=lS) rfl rfl rfl ?_;have nK:IntKind.i64.wrap ((bZ c.H.rs e.on e.od).1.d+1)=(bZ c.H.rs e.on e.od).1.d+1:=by
  have:=XQ.1;have:=XQ.2.1;rw[dZ]<;>omega
 unfold LA at pQ;generalize bZ c.H.rs e.on e.od=tt at *;obtain⟨t,b⟩:=tt;generalize c.aT=o at *;dsimp only;cases b;simp[-ah,-aa,lS,cm,qH,kK,E.rows,E.az,Kf,pQ,nK,ow,ag,AV.view,au,aU,bG,an];exact iU;by_cases q:t.d<3;simp[-ah,-aa,lS,dR,cm,fZ,qH,kK,E.rows,E.az,Kf,pQ,eI,K9.dI,q,nK,ow,ag,AV.view,au,aU,bG,an];exact AD;simp[-ah,-aa,lS,cm,qH,kK,E.rows,E.az,Kf,pQ,q,nK,ow,ag,AV.view,au,aU,bG,an];exact iU;by_cases AN:e.k=10;obtain⟨y,rfl⟩:=one 10 AN (by simp);rw[AN];have Ir:lV c.H c.V 10 e.nm e.on e.od [y]=Cm (decide (0<y.ty.d)) tI:=rfl;rw[Ir];refine iT (sf:=lS) rfl rfl rfl ?_;generalize c.aT=o at *;simp[-ah,-aa,lS,dR,cm,fZ,qH,kK,E.rows,E.az,eI,ow,ag,AV.view];exact AD;by_cases h6:e.k=6;obtain⟨x,y,rfl⟩:∃x y,ys=[x,y]:=by
  have hlen:ys.length=2:=by rw[h6]at hk;simpa [gq] using hk
  match ys,hlen with
  |[x,y],_=>exact⟨x,y,rfl⟩
 rw[h6];have Ir:lV c.H c.V 6 e.nm e.on e.od [x,y]=Cm (decide (0<x.ty.d)&&decide (y.ty=tI)) ⟨x.ty.b,x.ty.r,x.ty.d-1⟩:=rfl;rw[Ir];have nK:IntKind.i64.wrap (x.ty.d-1)=x.ty.d-1:=by
  have wx:=hw x (by simp);have:=wx.1;have:=wx.2.1;rw[dZ]<;>omega
 refine iT (sf:=lS) rfl rfl rfl ?_;generalize c.aT=o at *;by_cases q:0<x.ty.d;simp[-ah,-aa,lS,dR,cm,fZ,qH,kK,E.rows,E.az,eI,K9.dI,q,nK,ow,ag,AV.view,au,an];exact AD;simp[-ah,-aa,lS,dR,cm,fZ,qH,kK,E.rows,E.az,q,nK,ow,ag,AV.view,au,an];exact iU;by_cases h5:e.k=5;obtain⟨y,rfl⟩:=one 5 h5 (by simp);rw[h5];have Ir:lV c.H c.V 5 e.nm e.on e.od [y]=wC c.H y.ty e.nm:=rfl;rw[Ir];refine iT (sf:=lS) rfl rfl rfl ?_;have Yg:bX 2 (aA 2 (c.H.bK.map dw))=true:=gf (by simp[bN,dw]);have oz:aD (aA 2 (c.H.bK.map dw))=true:=aL;have CN:aM (aA 2 (c.H.bK.map dw))=c.H.bK.map dw:=aE;generalize aA 2 (c.H.bK.map dw)=SV at *;generalize c.aT=o at *;unfold wC;by_cases hb:y.ty.b=3;by_cases hd:y.ty.d=0;rw[if_pos ⟨hb,hd⟩];have wy:=(hw y (by simp)).2.2 hb;rw[V5]at wy;obtain⟨j,hj⟩:∃j:Nat,y.ty.r=j:=⟨y.ty.r.toNat,by omega⟩;have xg:j<c.H.bK.length:=by omega
 have hg:c.H.bK[j]?=some c.H.bK[j]:=List.getElem?_eq_getElem xg;have hF:=hs.F _ (List.getElem_mem xg);have XP:∀h:j<(c.H.bK.map dw).length,(c.H.bK.map dw)[j]=[.str c.H.bK[j].1,br c.H.bK[j].2]:=λh=>by simp[dw]
 have aff:j<(c.H.bK.map dw).length:=by simpa using xg
 have ajT:=XP aff;clear XP;generalize c.H.bK[j]=sh at *;generalize c.H.bK.map dw=RS at *;rw[hj,Int.toNat_natCast,hg];simp only;have hzp:bX 4 (br sh.2)=true:=qR;have nE:aD (br sh.2)=true:=dK;have Tw:aM (br sh.2)=sh.2.map Vd.row:=oV;have Co:(br sh.2).view=br sh.2:=fC;generalize br sh.2=PV at *;simp[-ah,-aa,lS,dR,cm,fZ,aX,esh,Yg,CN,aff,ajT,Co,qH,kK,E.rows,E.az,hb,hd,hj,ow,ag,AV.view,au,an];refine bf MW.eq_1 (λi:Nat=>⟨[(2,.val (.ptr (pre.length+(r0.length+1)) 0 0 0)),(4,.fp 0 0),(16,.val PV),(17,.val (.int .i64 i))],[[.int .i64 5,.int .i64 e.n,.str e.nm,.str e.on,.int .i64 e.od,kv,.int .i64 e.a,.int .i64 e.ty.b,.int .i64 e.ty.r,.int .i64 e.ty.d,.int .i64 e.cG],[],[],[],[],[.int .i64 3,.int .i64 j,.int .i64 0]],
   pre++o::(r0++[.rows 0 11 [kX 5 0 e.nm [] 0 (.mu (pre.length+(r0.length+1+1)) 0) e.a T0 0],.rows 0 11 [[.int .i64 y.k,.int .i64 y.n,.str y.nm,.str y.on,.int .i64 y.od,aI y.aC,.int .i64 y.a,.int .i64 3,.int .i64 j,.int .i64 0,.int .i64 y.cG]]])⟩)
  (λi=>i<=sh.2.length/\eH e.nm 0 sh.2=eH e.nm i (sh.2.drop i)) (λi=>sh.2.length-i) 0 (by simp) ⟨by simp,by simp⟩ ?_
 rintro i ⟨hi,hp⟩ ih;by_cases E5:i<sh.2.length;have hwi:=wk i (by omega);rw[tM E5]at hp;by_cases q:sh.2[i].nm=e.nm;rw[if_pos q]at hp;rw[hp];simp[-ah,-aa,cm,aX,hzp,nE,Tw,Co,E5,q,Vd.row,ag,AV.view,au,an];exact mR;rw[if_neg q]at hp;simp[-ah,-aa,aX,hzp,nE,Tw,Co,E5,q,hwi,Vd.row,AV.view,au,an];exact ih (i+1) ⟨by omega,hp⟩ (by omega);have eK:i=sh.2.length:=by omega
 have jy:eH e.nm 0 sh.2=none:=by rw[hp,eK,List.drop_length];rfl
 rw[jy];simp[-ah,-aa,nE,Tw,E5];exact iU;rw[if_neg (λh=>hd h.2)];simp[-ah,-aa,lS,dR,cm,fZ,qH,kK,E.rows,E.az,hb,hd,ow,ag,AV.view];exact iU;rw[if_neg (λh=>hb h.1)];simp[-ah,-aa,lS,dR,cm,fZ,qH,kK,E.rows,E.az,hb,ow,ag,AV.view];exact iU;have h7:e.k=7:=by
  have:(0:Int)<e.k:=by
   apply Classical.byContradiction;intro hc;unfold gq at hk;rw[if_neg (by omega),if_neg h2,if_neg (by omega),if_neg (by omega)]at hk;simp[h6]at hk;omega
  omega
 rw[h7];have Ir:lV c.H c.V 7 e.nm e.on e.od ys=oC c.H e.nm ys:=rfl;rw[Ir];obtain⟨v',bV,e1,e2⟩:=ecl ((pre++c.aT::(r0++.rows 0 11 [kX 7 0 [] [] 0 (qH (pre.length+(r0.length+1+1)) ys) e.a T0 0]::kK ys)).length) 7 0 [] [] 0 e.a 0 T0;refine⟨v',bV,?_,e2⟩;obtain⟨b,Y,rfl,rfl,_⟩:=e2;simp only[List.length_cons,List.length_append,h7]at e1;have hkc:(qH (pre.length+(r0.length+1+1)) ys).cx=true:=by unfold qH;split<;>rfl
 generalize c.aT=o at *;generalize qH (pre.length+(r0.length+1+1)) ys=kw at *;generalize kK ys=K at *;refine ay (sf:=lS) rfl rfl rfl ?_;simp[-ah,-aa,lS,e1,ow,Ku,AV.view]
 done
end R9
namespace R9
open Ax Go bu V7 jG j9 K9
variable {pre:aj}
def JW(pre:aj)(c:CK)(e:E):Prop:=match xC c.H c.V e with
 |.ok y=>∀af r,(bh S).call 0 af 109 [.ptr pre.length 0 0 0,.agg e.row] (pre++c.aT::r)=some (.agg y.row,pre++c.aT::r)|.error a=>∀af r,(bh S).call 0 af 109 [.ptr pre.length 0 0 0,.agg e.row] (pre++c.aT::r)=some (.agg E0.row,pre++(c.fail a).aT::r)
def Kt(pre:aj)(c:CK)(e:E):Prop:=match Eu c e with
 |.ok y=>∀af r,(bh S).call 0 af 110 [.ptr pre.length 0 0 0,.agg e.row] (pre++c.aT::r)=some (.agg y.row,pre++c.aT::r)|.error a=>∃y:E,∀af r,(bh S).call 0 af 110 [.ptr pre.length 0 0 0,.agg e.row] (pre++c.aT::r)=some (.agg y.row,pre++(c.fail a).aT::r)
theorem Ig:E0.row=[.int .i64 0,.int .i64 0,.str [],.str [],.int .i64 0,.U,.int .i64 0,.int .i64 0,.int .i64 0,.int .i64 0,.int .i64 0]:=by simp[E0,E.row,E.rows]
theorem afg{H:Hd}{V:List Vd}{e y:E}(h:xC H V e=.ok y):y.a=e.a:=by
 obtain⟨ks,t,r,_,_,_,rfl⟩:=yS h
 rfl
theorem wJ(c:CK)(e:E)(hf:c.fe=0)(h:JW pre c e):Kt pre c e:=by
 unfold JW at h;unfold Kt Eu;have fy:=λaf r=>gz (pre:=pre) af c r;rw[decide_eq_true hf]at fy;have ow:aD (aI e.aC)=true:=aQ;have Ku:(aI e.aC).view=aI e.aC:=aN;cases hc:xC c.H c.V e with
 |error a=>
  rw[hc]at h;simp only at h ⊢;refine⟨E0,λaf r=>?_⟩;have xX:=fV (c:=c) (a:=a);have gr:=λaf r=>gz (pre:=pre) af (c.fail a) r;rw[decide_eq_false xX]at gr;rw[Ig]at h ⊢;rw[E.az e]at h ⊢;generalize (c.fail a).aT=o2 at *;generalize c.aT=o at *;generalize aI e.aC=kv at *;refine ay (sf:=Lh) rfl rfl rfl ?_;simp[-ah,-aa,Lh,h,gr,ow,Ku,ag,AV.view]
 |ok y=>
  rw[hc]at h;simp only at h ⊢;have ha:=afg hc;have B0:aD (aI y.aC)=true:=aQ;have hyw:(aI y.aC).view=aI y.aC:=aN;by_cases q:y.ty=T0;rw[if_pos q];refine⟨y,λaf r=>?_⟩;have ef:=λaf r=>jl (pre:=pre) af c e.a r;rw[show c.fail y.a=c.fail e.a by rw[ha]];rw[E.az e]at h ⊢;rw[E.az y]at h ⊢;generalize (c.fail e.a).aT=o2 at *;generalize c.aT=o at *;generalize aI e.aC=kv at *;generalize aI y.aC=yv at *;refine ay (sf:=Lh) rfl rfl rfl ?_;simp[-ah,-aa,Lh,h,fy,q,ef,ow,Ku,B0,hyw,ag,AV.view];rw[if_neg q];intro af r;rw[E.az e]at h ⊢;rw[E.az y]at h ⊢;generalize c.aT=o at *;generalize aI e.aC=kv at *;generalize aI y.aC=yv at *;refine ay (sf:=Lh) rfl rfl rfl ?_;simp[-ah,-aa,Lh,h,fy,d0,q,ow,Ku,B0,hyw,ag,AV.view]
theorem AE{n k:Nat}{o:dy}{r0 K:aj}{cs:List AV}{v:AV}{bx:bF}(h1:v.cells.length=n)(h2:AV.bq v.cells=true)(h3:k+v.cells.length<=cs.length) :
  aV 0 (pre.length+(r0.length+1)) (.store n) [.val (.ptr (pre.length+(r0.length+1)) 0 0 k),.val v] (pre++o::(r0++.rows 0 11 [cs]::K)) bx=some (.none,pre++o::(r0++.rows 0 11 [ag cs k v.cells]::K),bx):=by
 rw[aa,if_pos ⟨h1,h2⟩];simp[cV,aY,h3]
theorem NB{af n j k w:Nat}{o X:dy}{r0 K:aj}{rows:List (List AV)}{row:List AV}{v:AV}{bx:bF}(hr:rows[j]?=some row)(h1:v.cells.length=n)(h2:AV.bq v.cells=true)(h3:k+v.cells.length<=row.length)(h4:AV.ai v.cells=true) :
  aV 0 af (.store n) [.val (.ptr (pre.length+(r0.length+1+1)) w j k),.val v] (pre++o::(r0++X::.rows w 11 rows::K)) bx=some (.none,pre++o::(r0++X::.rows w 11 (rows.set j (ag row k v.cells))::K),bx):=by
 rw[aa,if_pos ⟨h1,h2⟩];simp[cV,aY,h3,h4,hr]
def wS:List AV:=[.int .i64 0,.int .i64 0,.str [],.str [],.int .i64 0,.U,.int .i64 0,.int .i64 0,.int .i64 0,.int .i64 0,.int .i64 0]
theorem Pc(c:CK)(e:E)(hf:c.fe=0)(hn:e.aC.length<1000000000)(hl:∀x∈e.aC,JW pre c x)(_lim:Nat)(r0:aj){rs:List iE}{Q:Ex->St->Prop}{kk:List qv}(b1:List AV)(kv:AV)(ow:kv=aI e.aC)(row:List AV)(cZ:row=[.int .i64 e.k,.int .i64 e.n,.str e.nm,.str e.on,.int .i64 e.od,kv,.int .i64 e.a,.int .i64 e.ty.b,.int .i64 e.ty.r,.int .i64 e.ty.d,.int .i64 e.cG])
  (F7:∀ys,kM c.H c.V e.aC=.ok ys->W S 0 (pre.length+(r0.length+1)) rs Q kk .normal ⟨[(0,.val (.ptr pre.length 0 0 0)),(3,.fp 0 0),(4,.fp 1 0),(6,.val (.ptr (pre.length+(r0.length+1)) 0 0 0))],[row,b1],pre++c.aT::(r0++.rows 0 11 [kX e.k 0 [] [] 0 (qH (pre.length+(r0.length+1+1)) ys) e.a T0 0]::kK ys)⟩)
  (jy:∀a X K,kM c.H c.V e.aC=.error a->W S 0 (pre.length+(r0.length+1)) rs Q kk .normal ⟨[(0,.val (.ptr pre.length 0 0 0)),(3,.fp 0 0),(4,.fp 1 0),(6,.val (.ptr (pre.length+(r0.length+1)) 0 0 0))],[row,b1],pre++(c.fail a).aT::(r0++X::K)⟩) :
  W S 0 (pre.length+(r0.length+1)) rs Q (.code (.loop qy)::.jF 0::kk) .normal ⟨[(0,.val (.ptr pre.length 0 0 0)),(3,.fp 0 0),(4,.fp 1 0),(6,.val (.ptr (pre.length+(r0.length+1)) 0 0 0)),(7,.val (.int .i64 0))],[row,b1],pre++c.aT::(r0++[.rows 0 11 [kX e.k 0 [] [] 0 .U e.a T0 0]])⟩:=by
 subst cZ;have hz:bX 11 kv=true:=by rw[ow];exact iM
 have cA:aD kv=true:=by rw[ow];exact aQ
 have dW:kv.view=kv:=by rw[ow];exact aN
 have cN:aM kv=E.rows e.aC:=by rw[ow];exact aE
 have fy:=λaf r=>gz (pre:=pre) af c r;rw[decide_eq_true hf]at fy;refine bf qy.eq_1 (λx:Nat×List E×Option (Int×dy×aj)=>⟨[(0,.val (.ptr pre.length 0 0 0)),(3,.fp 0 0),(4,.fp 1 0),(6,.val (.ptr (pre.length+(r0.length+1)) 0 0 0)),(7,.val (.int .i64 x.1))],[[.int .i64 e.k,.int .i64 e.n,.str e.nm,.str e.on,.int .i64 e.od,kv,.int .i64 e.a,.int .i64 e.ty.b,.int .i64 e.ty.r,.int .i64 e.ty.d,.int .i64 e.cG],b1],
   match x.2.2 with
   |none=>pre++c.aT::(r0++.rows 0 11 [kX e.k 0 [] [] 0 (qH (pre.length+(r0.length+1+1)) x.2.1) e.a T0 0]::kK x.2.1)|some (a,X,K)=>pre++(c.fail a).aT::(r0++X::K)⟩)
  (λx=>x.1<=e.aC.length/\match x.2.2 with
   |none=>x.2.1.length=x.1/\yZ x.2.1 (kM c.H c.V (e.aC.drop x.1))=kM c.H c.V e.aC|some (a,_,_)=>kM c.H c.V e.aC=.error a) (λx=>e.aC.length-x.1) (0,[],none) rfl ⟨by simp,rfl,by simp[yZ];split<;>rename_i h<;>exact h.symm⟩ ?_
 rintro⟨j,ys,q⟩ ⟨hj,hq⟩ ih;simp only at hj hq ih;cases q with
 |some q=>
  obtain⟨a,X,K⟩:=q;simp only at hq ⊢;have xX:=fV (c:=c) (a:=a);have gr:=λaf r=>gz (pre:=pre) af (c.fail a) r;rw[decide_eq_false xX]at gr;have L8:=jy a X K hq;generalize (c.fail a).aT=o2 at *;by_cases aW:j<e.aC.length;simp[-ah,-aa,cA,dW,cN,aW,gr];exact L8;simp[-ah,-aa,cA,dW,cN,aW];exact L8
 |none=>
  simp only at hq ⊢;obtain⟨hy,hp⟩:=hq;by_cases aW:j<e.aC.length;have hw:=wk j (by omega);have hv:=wJ (pre:=pre) c e.aC[j] hf (hl _ (List.getElem_mem aW));unfold Kt at hv;rw[An aW]at hp;have gE:=uZ aW;have mZ:=λh2=>oW aW h2;have gY:j<(E.rows e.aC).length:=by simpa using aW
  have tO:=mZ gY;clear mZ;have region:∀(b:bw) (hb:b=qy) (d:dy) (y:E),(∀af r,(bh S).call 0 af 110 [.ptr pre.length 0 0 0,.agg e.aC[j].row] (pre++c.aT::r)=some (.agg y.row,pre++d::r))->
    W S 0 (pre.length+(r0.length+1)) rs Q (.code (.loop qy)::.jF 0::kk) .normal ⟨[(0,.val (.ptr pre.length 0 0 0)),(3,.fp 0 0),(4,.fp 1 0),(6,.val (.ptr (pre.length+(r0.length+1)) 0 0 0)),(7,.val (.int .i64 ((j+1:Nat):Int)))],[[.int .i64 e.k,.int .i64 e.n,.str e.nm,.str e.on,.int .i64 e.od,kv,.int .i64 e.a,.int .i64 e.ty.b,.int .i64 e.ty.r,.int .i64 e.ty.d,.int .i64 e.cG],b1],
     pre++d::(r0++.rows 0 11 [kX e.k 0 [] [] 0 (qH (pre.length+(r0.length+1+1)) (ys++[y])) e.a T0 0]::kK (ys++[y]))⟩->
    W S 0 (pre.length+(r0.length+1)) rs Q (.code b::.uU qy::.jF 0::kk) .normal ⟨[(0,.val (.ptr pre.length 0 0 0)),(3,.fp 0 0),(4,.fp 1 0),(6,.val (.ptr (pre.length+(r0.length+1)) 0 0 0)),(7,.val (.int .i64 j))],[[.int .i64 e.k,.int .i64 e.n,.str e.nm,.str e.on,.int .i64 e.od,kv,.int .i64 e.a,.int .i64 e.ty.b,.int .i64 e.ty.r,.int .i64 e.ty.d,.int .i64 e.cG],b1],
     pre++c.aT::(r0++.rows 0 11 [kX e.k 0 [] [] 0 (qH (pre.length+(r0.length+1+1)) ys) e.a T0 0]::kK ys)⟩:=by
   intro b hb d y ct D1;rw[qy.eq_1]at hb;subst hb;rw[E.az e.aC[j]]at ct gE tO;have B0:aD (aI y.aC)=true:=aQ;have hyw:(aI y.aC).view=aI y.aC:=aN;rw[E.az y]at ct;generalize e.aC[j]=x at *;generalize c.aT=o at *;clear ih jy F7 hl hv;cases ys with
   |nil=>
    simp only[qH,kK,List.isEmpty_nil,if_true];simp[-ah,-aa,cA,dW,cN,aW,fy];rw[mV];have hwl:IntKind.i64.wrap (0:Int)=0:=(by decide);simp[-ah,-aa,dS,dR,AE,NB,B0,bN,cR,dW,cN,hz,aW,tO,aX,ct,ag,AV.view];refine⟨_,_,⟨rfl,rfl⟩,?_⟩;simp[-ah,-aa,gO,cW,Yc,dR,AE,bG,hw,ag,AV.view,fq.fG,AV.fG];simp only[List.nil_append,qH,kK,E.rows,E.az y,List.isEmpty_cons,Bool.false_eq_true,if_false]at D1;exact D1
   |cons y0 l=>
    have VC:W S 0 (pre.length+(r0.length+1)) rs Q (.code (.loop qy)::.jF 0::kk) .normal ⟨[(0,.val (.ptr pre.length 0 0 0)),(3,.fp 0 0),(4,.fp 1 0),(6,.val (.ptr (pre.length+(r0.length+1)) 0 0 0)),(7,.val (.int .i64 ((j+1:Nat):Int)))],[[.int .i64 e.k,.int .i64 e.n,.str e.nm,.str e.on,.int .i64 e.od,kv,.int .i64 e.a,.int .i64 e.ty.b,.int .i64 e.ty.r,.int .i64 e.ty.d,.int .i64 e.cG],b1],
     pre++d::(r0++.rows 0 11 [kX e.k 0 [] [] 0 (.mu (pre.length+(r0.length+1+1)) (l.length+1)) e.a T0 0]::[.rows (l.length+1) 11 (E.rows (y0::l)++[y.row])])⟩:=by
     have h1:qH (pre.length+(r0.length+1+1)) (y0::l++[y])=.mu (pre.length+(r0.length+1+1)) (l.length+1):=(by simp[qH]);have h2:kK (y0::l++[y])=[.rows (l.length+1) 11 (E.rows (y0::l)++[y.row])]:=(by simp[kK,gh]);rw[h1,h2]at D1;exact D1
    clear D1;have Ut:(E.rows (y0::l)).length=l.length+1:=(by simp);simp only[qH,kK,List.isEmpty_cons,Bool.false_eq_true,if_false,List.length_cons,Nat.add_sub_cancel];rw[E.az y]at VC;simp only[List.length_cons]at hy;generalize E.rows (y0::l)=R at *;have lJ:∀(af:Nat) (o X:dy) (new:List AV) (bx:bF),new.length=11->AV.ai new=true->aV 0 af (.jx 11 120) [.val (.mu (pre.length+(r0.length+1+1)) l.length),.val (.dL 11 [new])] (pre++o::(r0++[X,.rows l.length 11 R])) bx=some (.val (.mu (pre.length+(r0.length+1+1)) (l.length+1)),pre++o::(r0++[X,.rows (l.length+1) 11 (R++[new])]),bx):=λaf o X new bx h1 h2=>by
     simp[aV,vA,dY,fJ,bN,h1,h2,Ut,cR];omega
    have i1:(0:Int)<=(l.length:Int)+1:=(by omega);have i2:(l.length:Int)<(l.length:Int)+1:=(by omega);have g1:∀z:List AV,(R++[z])[l.length+1]?=some z:=λz=>by rw[<-Ut];simp
    have g2:∀z w:List AV,(R++[z]).set (l.length+1) w=R++[w]:=λz w=>by rw[<-Ut];simp
    simp[-ah,-aa,cA,dW,cN,aW,fy];rw[mV];simp[-ah,-aa,dS,dR,AE,NB,i1,i2,g2,B0,lJ,Ut,dW,cN,hz,aW,tO,aX,ct,ag,AV.view];refine⟨_,_,⟨rfl,rfl⟩,?_⟩;simp[-ah,-aa,gO,cW,Yc,dR,AE,i1,i2,Ut,bG,hw,ag,AV.view,fq.fG,AV.fG];exact VC
  cases hx:Eu c e.aC[j] with
  |error a=>
   rw[hx]at hp hv;simp only at hp hv;obtain⟨y,hv⟩:=hv;exact region _ rfl _ y hv (ih (j+1,ys++[y],some (a,_,_)) ⟨by simp only;omega,hp.symm⟩ (by simp only;omega))
  |ok y=>
   rw[hx]at hp hv;simp only at hp hv;exact region _ rfl _ y hv (ih (j+1,ys++[y],none) ⟨by simp only;omega,by simp[hy],hp⟩ (by simp only;omega))
  have eK:j=e.aC.length:=by omega
  have hR:kM c.H c.V e.aC=.ok ys:=by
   rw[<-hp,eK,List.drop_length];simp[kM,yZ]
  have Tz:=F7 ys hR;generalize c.aT=o at *;simp[-ah,-aa,cA,dW,cN,aW];exact Tz
end R9
namespace R9
open Ax Go bu V7 jG j9 K9
variable {pre:aj}
theorem aaS(H:Hd)(V:List Vd)(e:E):xC H V e=if gq e.k e.n e.aC.length then
  match kM H V e.aC with
  |.error x=>.error x|.ok ks=>match lV H V e.k e.nm e.on e.od ks with
   |none=>.error e.a|some (t,r)=>.ok (.mk e.k (pP e.k e.n) (kF e.k e.nm) (kG e.k e.on) (kH e.k e.od) ks e.a t r)
  else .error e.a:=by
 obtain⟨k,n,nm,on,od,aC,a,ty,cG⟩:=e
 (conv=>lhs;unfold xC)<;>rfl
def gi:bw->bw
 |.seq _ b=>b|x=>x
def uS:bw:=gi (gi (gi (gi (gi oM.body))))
theorem Wy(_e:E)(a:Int)(c:CK)(r:aj)(o X:dy)(K:aj)(row:List AV) :
  W S 0 (pre.length+(r.length+1)) oM.results (zM oM.results .kg (pre++o::r) (.agg E0.row,pre++(c.fail a).aT::r)) [.code uS] .normal ⟨[(0,.val (.ptr pre.length 0 0 0)),(3,.fp 0 0),(4,.fp 1 0),(6,.val (.ptr (pre.length+(r.length+1)) 0 0 0))],[row,wS],pre++(c.fail a).aT::(r++X::K)⟩:=by
 have xX:=fV (c:=c) (a:=a);have gr:=λaf r=>gz (pre:=pre) af (c.fail a) r;rw[decide_eq_false xX]at gr;rw[Ig];generalize (c.fail a).aT=o2 at *;simp[-ah,-aa,uS,gi,oM,gr,wS,ag,AV.view]
theorem L9{wl:Nat}{v:AV}{st:aj}(h:aD v=true):me wl v st=some (v.view,st):=by
 cases v<;>simp_all [aD,me,AV.ax,AV.cx]
theorem Pd{wl:Nat}{y:E}{st:aj}:kq wl y.row st=some (y.row,st):=by
 have h1:aD (aI y.aC)=true:=aQ;have h2:(aI y.aC).view=aI y.aC:=aN;have h3:me wl (aI y.aC) st=some (aI y.aC,st):=by rw[L9 h1,h2]
 have fI:∀n,me wl (.int .i64 n) st=some (.int .i64 n,st):=λn=>rfl;have fS:∀n,me wl (.str n) st=some (.str n,st):=λn=>rfl;rw[E.az];simp only[kq,h3,fI,fS]
theorem EU{wl:Nat}{st:aj}:∀ys:List E,kN wl (E.rows ys) st=some (E.rows ys,st)
 |[]=>rfl|y::ys=>by simp only[E.rows,kN,Pd,EU ys]
theorem TA{wl v:Nat}{o X:dy}{r:aj}{ys:List E}(hw:wl=0)(h:ys≠[]):jm wl (.mu (pre.length+(r.length+1+1)) v) (pre++o::(r++[X,.rows v 11 (E.rows ys)]))=some (.dL 11 (E.rows ys),pre++o::(r++[X,.rows (v+1) 11 []])):=by
 subst hw;have h2:(E.rows ys).isEmpty=false:=by cases ys with
  |nil=>exact absurd rfl h|cons y l=>rfl
 simp[jm,EU];cases ys with
 |nil=>exact absurd rfl h|cons y l=>simp[E.rows]
theorem Pe(af:Nat)(c:CK)(r0:aj)(e:E)(ys:List E)(hk:gq e.k e.n ys.length=true)(tL:12<=e.k) :
  ∃v' bV,(bh S).call 0 af 131 [.ptr pre.length 0 0 0,.ptr (pre.length+(r0.length+1)) 0 0 0] (pre++c.aT::(r0++.rows 0 11 [kX e.k 0 [] [] 0 (qH (pre.length+(r0.length+1+1)) ys) e.a T0 0]::kK ys))=some (v',bV)/\
   Ic pre c.aT r0 (kK ys) (lV c.H c.V e.k e.nm e.on e.od ys) (kX e.k (pP e.k e.n) (kF e.k e.nm) (kG e.k e.on) (kH e.k e.od) (qH (pre.length+(r0.length+1+1)) ys) e.a) v' bV:=by
 rw[Pa tL];have k1:pP e.k e.n=0:=if_neg (by omega);have k2:kF e.k e.nm=[]:=if_neg (by omega);have k3:kG e.k e.on=[]:=if_neg (by omega);have k4:kH e.k e.od=0:=if_neg (by omega);rw[k1,k2,k3,k4];by_cases h:e.k=12\/e.k=13;obtain⟨y,rfl⟩:∃y,ys=[y]:=by
  have hlen:ys.length=1:=by rcases h with h|h<;>rw[h]at hk<;>simpa [gq] using hk
  match ys,hlen with
  |[y],_=>exact⟨y,rfl⟩
 rw[if_pos h];exact⟨_,_,O8 (pre:=pre) af c.aT r0 e.k 0 [] [] 0 e.a 0 T0 y h,AD⟩;have X2:14<=e.k:=by omega
 obtain⟨x,y,rfl⟩:∃x y,ys=[x,y]:=by
  have hlen:ys.length=2:=by
   unfold gq at hk;rw[if_neg (by omega),if_neg (by omega),if_neg (by omega),if_neg (by omega)]at hk;simp only[Bool.and_eq_true,decide_eq_true_eq]at hk;exact hk.2
  match ys,hlen with
  |[x,y],_=>exact⟨x,y,rfl⟩
 rw[if_neg h];exact⟨_,_,O9 (pre:=pre) af c.aT r0 e.k 0 [] [] 0 e.a 0 T0 x y X2,AD⟩
theorem Hr(o o0:dy)(r:aj)(ys:List E)(kk n:Int)(nm on:List UInt8)(od a z:Int)(t:T3)(row:List AV)(_hrow:row.length=11) :
  W S 0 (pre.length+(r.length+1)) [iE.box 4 1 11 true] (zM [iE.box 4 1 11 true] .kg (pre++o0::r) (.agg (kX kk n nm on od (aI ys) a t z),pre++o::r))
  [.code (.u6 6 5),.code (.region [{ dst:=some 94,op:=.load true 11 false,args:=[.tmp 6 true],guard:=none },{ dst:=none,op:=.jH 1 11,args:=[.tmp 4 false,.tmp 94 true],guard:=none }] none []),.code .ret] .normal
  ⟨[(4,.fp 1 0),(6,.val (.ptr (pre.length+(r.length+1)) 0 0 0))],[row,wS],pre++o::(r++.rows 0 11 [kX kk n nm on od (qH (pre.length+(r.length+1+1)) ys) a t z]::kK ys)⟩:=by
 have B0:aD (aI ys)=true:=aQ;have hyw:(aI ys).view=aI ys:=aN;rw[K5];cases ys with
 |nil=>
  refine⟨pre.length+(r.length+1),0,0,0,.U,.U,pre++o::(r++[.rows 0 11 [kX kk n nm on od .U a t z]]),pre++o::(r++[.rows 0 11 [kX kk n nm on od .U a t z]]),rfl,?_,rfl,?_,?_⟩;simp[dM,qH,kK,cut];simp[cV,aY,ag];have he:aI []=.U:=rfl;rw[he];simp[-ah,-aa,dR,wS,ag,AV.view]
 |cons y l=>
  have he:aI (y::l)=.dL 11 (E.rows (y::l)):=rfl;have hfz:=TA (pre:=pre) (wl:=0) (v:=(y::l).length-1) (o:=o) (X:=.rows 0 11 [kX kk n nm on od (.mu (pre.length+(r.length+1+1)) ((y::l).length-1)) a t z]) (r:=r) (ys:=y::l) rfl (by simp);refine⟨pre.length+(r.length+1),0,0,0,.mu (pre.length+(r.length+1+1)) ((y::l).length-1),.dL 11 (E.rows (y::l)),_,pre++o::(r++[.rows 0 11 [kX kk n nm on od (.dL 11 (E.rows (y::l))) a t z],.rows ((y::l).length-1+1) 11 []]),rfl,?_,hfz,?_,?_⟩;simp[dM,qH,kK,cut];simp[cV,aY,ag];rw[he];generalize E.rows (y::l)=R at *;simp[-ah,-aa,dR,wS,ag,AV.view]
theorem Wz(c:CK)(e:E)(r:aj)(o0:dy)(ys:List E)(hf:c.fe=0)(hs:oh c)(hn:ys.length<1000000000)(hk:gq e.k e.n ys.length=true)(V5:c.H.rs.length=c.H.bK.length)(hw:∀x∈ys,WT c.H.rs.length x.ty) :
  W S 0 (pre.length+(r.length+1)) oM.results (zM oM.results .kg (pre++o0::r) (match lV c.H c.V e.k e.nm e.on e.od ys with
   |none=>(.agg E0.row,pre++(c.fail e.a).aT::r)
   |some (t,z)=>(.agg (E.mk e.k (pP e.k e.n) (kF e.k e.nm) (kG e.k e.on) (kH e.k e.od) ys e.a t z).row,pre++c.aT::r))) [.code uS] .normal
   ⟨[(0,.val (.ptr pre.length 0 0 0)),(3,.fp 0 0),(4,.fp 1 0),(6,.val (.ptr (pre.length+(r.length+1)) 0 0 0))],[[.int .i64 e.k,.int .i64 e.n,.str e.nm,.str e.on,.int .i64 e.od,aI e.aC,.int .i64 e.a,.int .i64 e.ty.b,.int .i64 e.ty.r,.int .i64 e.ty.d,.int .i64 e.cG],wS],
    pre++c.aT::(r++.rows 0 11 [kX e.k 0 [] [] 0 (qH (pre.length+(r.length+1+1)) ys) e.a T0 0]::kK ys)⟩:=by
 have fy:=λaf r=>gz (pre:=pre) af c r;rw[decide_eq_true hf]at fy;have oy:=λaf r=>jl (pre:=pre) af c e.a r;have ow:aD (aI e.aC)=true:=aQ;have Ku:(aI e.aC).view=aI e.aC:=aN;have done:∀v' bV,Ic pre c.aT r (kK ys) (lV c.H c.V e.k e.nm e.on e.od ys) (kX e.k (pP e.k e.n) (kF e.k e.nm) (kG e.k e.on) (kH e.k e.od) (qH (pre.length+(r.length+1+1)) ys) e.a) v' bV->
   (12<=e.k->(bh S).call 0 (pre.length+(r.length+1)) 131 [.ptr pre.length 0 0 0,.ptr (pre.length+(r.length+1)) 0 0 0] (pre++c.aT::(r++.rows 0 11 [kX e.k 0 [] [] 0 (qH (pre.length+(r.length+1+1)) ys) e.a T0 0]::kK ys))=some (v',bV))->
   (¬12<=e.k->(bh S).call 0 (pre.length+(r.length+1)) 132 [.ptr pre.length 0 0 0,.agg e.row,.ptr (pre.length+(r.length+1)) 0 0 0] (pre++c.aT::(r++.rows 0 11 [kX e.k 0 [] [] 0 (qH (pre.length+(r.length+1+1)) ys) e.a T0 0]::kK ys))=some (v',bV))->
   W S 0 (pre.length+(r.length+1)) oM.results (zM oM.results .kg (pre++o0::r) (match lV c.H c.V e.k e.nm e.on e.od ys with
    |none=>(.agg E0.row,pre++(c.fail e.a).aT::r)
    |some (t,z)=>(.agg (E.mk e.k (pP e.k e.n) (kF e.k e.nm) (kG e.k e.on) (kH e.k e.od) ys e.a t z).row,pre++c.aT::r))) [.code uS] .normal
    ⟨[(0,.val (.ptr pre.length 0 0 0)),(3,.fp 0 0),(4,.fp 1 0),(6,.val (.ptr (pre.length+(r.length+1)) 0 0 0))],[[.int .i64 e.k,.int .i64 e.n,.str e.nm,.str e.on,.int .i64 e.od,aI e.aC,.int .i64 e.a,.int .i64 e.ty.b,.int .i64 e.ty.r,.int .i64 e.ty.d,.int .i64 e.cG],wS],
     pre++c.aT::(r++.rows 0 11 [kX e.k 0 [] [] 0 (qH (pre.length+(r.length+1+1)) ys) e.a T0 0]::kK ys)⟩:=by
  rintro v' bV ⟨b,Y,rfl,rfl,hT⟩ c1 c2;rw[E.az e]at c2;generalize aI e.aC=kv at *;cases ht:lV c.H c.V e.k e.nm e.on e.od ys with
  |none=>
   rw[ht]at hT;simp only at hT ⊢;subst hT;rw[Ig];generalize (c.fail e.a).aT=o2 at *;generalize c.aT=o at *;by_cases tL:12<=e.k;have c1:=c1 tL;simp[-ah,-aa,uS,gi,oM,fy,c1,tL,oy,wS,ag,AV.view];have c2:=c2 tL;simp[-ah,-aa,uS,gi,oM,fy,c2,tL,oy,wS,Ku,ag,AV.view]
  |some x=>
   obtain⟨t,z⟩:=x;rw[ht]at hT;obtain⟨rfl,rfl⟩:=hT;simp only;have hr:∀k n nm on od ks a (t:T3) z,(E.mk k n nm on od ks a t z).row=[.int .i64 k,.int .i64 n,.str nm,.str on,.int .i64 od,aI ks,.int .i64 a,.int .i64 t.b,.int .i64 t.r,.int .i64 t.d,.int .i64 z]:=λk n nm on od ks a t z=>E.az _;rw[hr];generalize c.aT=o at *;by_cases tL:12<=e.k;have c1:=c1 tL;simp[-ah,-aa,uS,gi,oM,fy,c1,tL,AV.view];exact Hr (pre:=pre) _ _ _ _ _ _ _ _ _ _ _ _ _ rfl;have c2:=c2 tL;simp[-ah,-aa,uS,gi,oM,fy,c2,tL,Ku,AV.view];exact Hr (pre:=pre) _ _ _ _ _ _ _ _ _ _ _ _ _ rfl
 by_cases tL:12<=e.k;obtain⟨v',bV,h1,h2⟩:=Pe (pre:=pre) (pre.length+(r.length+1)) c r e ys hk tL;exact done v' bV h2 (λ_=>h1) (λh=>absurd tL h);obtain⟨v',bV,h1,h2⟩:=El (pre:=pre) (pre.length+(r.length+1)) c r e ys hs hn hk (by omega) V5 hw;exact done v' bV h2 (λh=>absurd h tL) (λ_=>h1)
theorem eP(c:CK)(hf:c.fe=0)(hw:pS c)(e:E):E.sz e<1000000000->JW pre c e:=by
 induction e using E.yu with
 |_ e ih=>
  intro dF;have nj:=E.mz e;have eK:=E.dD e.aC;have hl:∀x∈e.aC,JW pre c x:=λx hx=>ih x hx (by have:=E.iA hx;omega);have Fx:=λwl af st=>CT wl af e.k st;have Ks:=L6 e.k e.n e.aC.length;have oy:=λaf r=>jl (pre:=pre) af c e.a r;have fy:=λaf r=>gz (pre:=pre) af c r;rw[decide_eq_true hf]at fy;unfold JW;rw[aaS];have ow:aD (aI e.aC)=true:=aQ;have Ku:(aI e.aC).view=aI e.aC:=aN;have cN:aM (aI e.aC)=E.rows e.aC:=aE;have ni:(E.rows e.aC).length=e.aC.length:=by simp
  cases hk:gq e.k e.n e.aC.length with
  |false=>
   rw[hk]at Ks;simp only[Bool.false_eq_true,if_false];intro af r;rw[Ig,E.az e];generalize B6 e.k=kt at *;generalize (c.fail e.a).aT=o2 at *;generalize c.aT=o at *;generalize aI e.aC=kv at *;generalize E.rows e.aC=RE at *;refine ay (sf:=oM) rfl rfl rfl ?_;by_cases a1:kt = -2;simp[-ah,-aa,oM,Fx,a1,oy,ow,ag,AV.view];by_cases a2:0<=kt;by_cases a3:(e.aC.length:Int)=kt;have a4:e.k=2/\e.n≠0/\e.n≠1:=(by simpa [a1,a2,a3] using Ks);have a5:(e.k=2)=True:=eq_true a4.1;have a6:(e.n=0)=False:=eq_false a4.2.1;have a7:(e.n=1)=False:=eq_false a4.2.2;simp[-ah,-aa,oM,Fx,a1,a2,a3,a5,a6,a7,oy,ow,Ku,cN,ni,ag,AV.view];simp[-ah,-aa,oM,Fx,a1,a2,a3,oy,ow,Ku,cN,ni,ag,AV.view];have a4:e.k=2/\e.n≠0/\e.n≠1:=(by simpa [a1,a2] using Ks);have a5:(e.k=2)=True:=eq_true a4.1;have a6:(e.n=0)=False:=eq_false a4.2.1;have a7:(e.n=1)=False:=eq_false a4.2.2;simp[-ah,-aa,oM,Fx,a1,a2,a5,a6,a7,oy,ow,ag,AV.view]
  |true=>
   rw[hk]at Ks;simp only[if_true];have V5:=hw.H.rs;have walk:∀(af:Nat) (r:aj) (v:AV) (st:aj),W S 0 (pre.length+(r.length+1)) oM.results (zM oM.results .kg (pre++c.aT::r) (v,st)) [.code (.loop qy),.jF 0,.code uS] .normal
     ⟨[(0,.val (.ptr pre.length 0 0 0)),(3,.fp 0 0),(4,.fp 1 0),(6,.val (.ptr (pre.length+(r.length+1)) 0 0 0)),(7,.val (.int .i64 0))],[[.int .i64 e.k,.int .i64 e.n,.str e.nm,.str e.on,.int .i64 e.od,aI e.aC,.int .i64 e.a,.int .i64 e.ty.b,.int .i64 e.ty.r,.int .i64 e.ty.d,.int .i64 e.cG],wS],
      pre++c.aT::(r++[.rows 0 11 [kX e.k 0 [] [] 0 .U e.a T0 0]])⟩->(bh S).call 0 af 109 [.ptr pre.length 0 0 0,.agg e.row] (pre++c.aT::r)=some (v,st):=by
    intro af r v st go;rw[E.az e];generalize B6 e.k=kt at *;generalize c.aT=o at *;generalize aI e.aC=kv at *;generalize E.rows e.aC=RE at *;refine ay (sf:=oM) rfl rfl rfl ?_;have fork:(e.k≠2)\/(e.k=2/\e.n=0)\/(e.k=2/\e.n≠0/\e.n=1):=by
     by_cases h2:e.k=2;by_cases h3:e.n=0;exact .inr (.inl ⟨h2,h3⟩);by_cases h4:e.n=1;exact .inr (.inr ⟨h2,h3,h4⟩);simp[h2,h3,h4]at Ks;exact .inl h2
    have a1:kt≠-2:=λh=>by simp[h]at Ks
    by_cases a2:0<=kt;have a3:(e.aC.length:Int)=kt:=by
     apply Classical.byContradiction;intro h;simp[a2,h]at Ks
    rcases fork with a4|⟨a4,a5⟩|⟨a4,a5,a6⟩;simp[-ah,-aa,oM,Fx,a1,a2,a3,a4,ow,Ku,cN,ni,cm,ag,AV.view];exact go;have a4:(e.k=2)=True:=eq_true a4;have a5:(e.n=0)=True:=eq_true a5;simp[-ah,-aa,oM,Fx,a1,a2,a3,a4,a5,ow,Ku,cN,ni,cm,ag,AV.view];exact go;have a4:(e.k=2)=True:=eq_true a4;have a6:(e.n=1)=True:=eq_true a6;simp[-ah,-aa,oM,Fx,a1,a2,a3,a4,a5,a6,ow,Ku,cN,ni,cm,ag,AV.view];exact go;rcases fork with a4|⟨a4,a5⟩|⟨a4,a5,a6⟩;simp[-ah,-aa,oM,Fx,a1,a2,a4,ow,cm,ag,AV.view];exact go;have a4:(e.k=2)=True:=eq_true a4;have a5:(e.n=0)=True:=eq_true a5;simp[-ah,-aa,oM,Fx,a1,a2,a4,a5,ow,cm,ag,AV.view];exact go;have a4:(e.k=2)=True:=eq_true a4;have a6:(e.n=1)=True:=eq_true a6;simp[-ah,-aa,oM,Fx,a1,a2,a4,a5,a6,ow,cm,ag,AV.view];exact go
   have loop:=λr {rs:List iE} {Q:Ex->St->Prop} {kk:List qv}=>Pc (pre:=pre) c e hf (by omega) hl 0 r (rs:=rs) (Q:=Q) (kk:=kk) wS (aI e.aC) rfl _ rfl;cases hv:kM c.H c.V e.aC with
   |error a=>
    simp only;intro af r;refine walk af r _ _ (loop r (λys h=>by rw[hv]at h;cases h) λa' X K h=>?_);rw[hv]at h;cases h;exact Wy (pre:=pre) e a c r c.aT X K _
   |ok ks=>
    simp only;have hlen:=nY hv;have XQ:∀x∈ks,WT c.H.rs.length x.ty:=qB hv λx hx y hy=>Sx hw.H hw.V x y hy;have ht:=λr=>Wz (pre:=pre) c e r c.aT ks hf hw.s (by omega) (by rw[hlen];exact hk) V5 XQ;cases hT:lV c.H c.V e.k e.nm e.on e.od ks with
    |none=>
     simp only;intro af r;refine walk af r _ _ (loop r (λys h=>?_) λa' X K h=>by rw[hv]at h;cases h);rw[hv]at h;cases h;have ht:=ht r;rw[hT]at ht;exact ht
    |some x=>
     obtain⟨t,z⟩:=x;simp only;intro af r;refine walk af r _ _ (loop r (λys h=>?_) λa' X K h=>by rw[hv]at h;cases h);rw[hv]at h;cases h;have ht:=ht r;rw[hT]at ht;exact ht
end R9
namespace R9
open Ax Go bu V7 jG j9 K9
variable {pre:aj}
theorem HY{af:Nat}{c:CK}{bx:bF}:aV 0 af (.load false 1 true) [.val (.ptr pre.length 0 0 11)] (pre++[c.aT]) bx=some (.val (bD 4 (c.V.map Vd.row)),pre++[c.Es (bD 4 (c.V.map Vd.row)).dJ],bx):=by
 simp only[CK.aT,CK.Es];generalize c.V.map Vd.row=rows;cases rows with
 |nil=>simp[aV,bD,cut,dM,cV,aY,AV.dJ,AV.ax,AV.ai,ag,bP]|cons a l=>simp[aV,bD,cut,dM,cV,aY,AV.dJ,AV.ax,AV.ai,ag,bP]
theorem Nm{af:Nat}{c:CK}{w:AV}{W:List Vd}{bx:bF}:aV 0 af (.store 1) [.val (.ptr pre.length 0 0 11),.val (bD 4 (W.map Vd.row))] (pre++[c.Es w]) bx=some (.none,pre++[({ c with V:=W }:CK).aT],bx):=by
 simp[CK.aT,CK.Es,aY,AV.ai,ag]
def qE(pre:aj)(c:CK)(s:Sm):Prop:=match xU c.H c.sg.bO c.sg.bz c.V s with
 |.ok (y,W)=>∀af,(bh S).call 0 af 90 [.ptr pre.length 0 0 0,.agg s.row] (pre++[c.aT])=some (.agg y.row,pre++[(c.aZ W).aT])|.error a=>∀af,∃W row,Ev row/\(bh S).call 0 af 90 [.ptr pre.length 0 0 0,.agg s.row] (pre++[c.aT])=some (.agg row,pre++[((c.aZ W).fail a).aT])
def AJ(pre:aj)(c:CK)(l:List Sm):Prop:=match ki c.H c.sg.bO c.sg.bz c.V l with
 |.ok (ys,W)=>∀af,(bh S).call 0 af 51 [.ptr pre.length 0 0 0,aS l] (pre++[c.aT])=some (bD 9 (Sm.rows ys),pre++[(c.aZ W).aT])|.error a=>∀af,∃W v,aD v=true/\(bh S).call 0 af 51 [.ptr pre.length 0 0 0,aS l] (pre++[c.aT])=some (v,pre++[((c.aZ W).fail a).aT])
theorem NC(c:CK)(s:Sm)(hf:c.fe=0)(hn:s.es.length<1000000000)(h9:s.k≠9)(hl:∀x∈s.es,JW pre c x)(af:Nat){rs:List iE}{Q:Ex->St->Prop}{kk:List qv}(b1 b3 b4 b5:List AV)(dc:Bool)(xk Ma xa xr:Int)(X3 Mb:List UInt8)
  (row:List AV)(cZ:row=s.row)
  (F7:∀ys,kM c.H c.V s.es=.ok ys->W S 0 af rs Q kk .normal ⟨[(0,.val (.ptr pre.length 0 0 0)),(3,.fp 0 0),(4,.fp 1 0),(5,.fp 2 0),(6,.fp 3 0),(7,.val (.bool dc))],[row,b1,[.int .i64 xk,.str X3,.str Mb,.int .i64 Ma,bD 11 (E.rows ys),.U,.U,.int .i64 xa,.int .i64 xr],b3,b4,b5],pre++[c.aT]⟩)
  (jy:∀a v,aD v=true->kM c.H c.V s.es=.error a->W S 0 af rs Q kk .normal ⟨[(0,.val (.ptr pre.length 0 0 0)),(3,.fp 0 0),(4,.fp 1 0),(5,.fp 2 0),(6,.fp 3 0),(7,.val (.bool dc))],[row,b1,[.int .i64 xk,.str X3,.str Mb,.int .i64 Ma,v,.U,.U,.int .i64 xa,.int .i64 xr],b3,b4,b5],pre++[(c.fail a).aT]⟩) :
  W S 0 af rs Q (.code (.loop rC)::.jF 0::kk) .normal ⟨[(0,.val (.ptr pre.length 0 0 0)),(3,.fp 0 0),(4,.fp 1 0),(5,.fp 2 0),(6,.fp 3 0),(7,.val (.bool dc)),(10,.val (.int .i64 0))],[row,b1,[.int .i64 xk,.str X3,.str Mb,.int .i64 Ma,.U,.U,.U,.int .i64 xa,.int .i64 xr],b3,b4,b5],pre++[c.aT]⟩:=by
 subst cZ;rw[Sm.az]at *;have hz:bX 11 (aI s.es)=true:=iM;have cA:aD (aI s.es)=true:=aQ;have dW:(aI s.es).view=aI s.es:=aN;have cN:aM (aI s.es)=E.rows s.es:=aE;have b1':aD (aS s.bd)=true:=bn;have fy:=λaf r=>gz (pre:=pre) af c r;rw[decide_eq_true hf]at fy;have lJ:∀(ys:List E) (y:E),ys.length<1000000000->nH 11 120 (bD 11 (E.rows ys)) [y.row]=some (bD 11 (E.rows (ys++[y]))):=λys y h=>by
  rw[dV (by simp[bN,E.az]) (by simp[cR];omega)];simp[gh]
 generalize aI s.es=kv at *;generalize aS s.bd=bv at *;generalize aS s.el=lv at *;refine bf rC.eq_1 (λx:Nat×List E×Option Int=>⟨[(0,.val (.ptr pre.length 0 0 0)),(3,.fp 0 0),(4,.fp 1 0),(5,.fp 2 0),(6,.fp 3 0),(7,.val (.bool dc)),(10,.val (.int .i64 x.1))],
   [[.int .i64 s.k,.str s.nm,.str s.on,.int .i64 s.od,kv,bv,lv,.int .i64 s.a,.int .i64 s.cG],b1,[.int .i64 xk,.str X3,.str Mb,.int .i64 Ma,bD 11 (E.rows x.2.1),.U,.U,.int .i64 xa,.int .i64 xr],b3,b4,b5],
   match x.2.2 with
   |none=>pre++[c.aT]|some a=>pre++[(c.fail a).aT]⟩)
  (λx=>x.1<=s.es.length/\x.2.1.length=x.1/\match x.2.2 with
   |none=>yZ x.2.1 (kM c.H c.V (s.es.drop x.1))=kM c.H c.V s.es|some a=>kM c.H c.V s.es=.error a) (λx=>s.es.length-x.1) (0,[],none) rfl ⟨by simp,rfl,by simp[yZ];split<;>rename_i h<;>exact h.symm⟩ ?_
 rintro⟨j,ys,q⟩ ⟨hj,hy,hq⟩ ih;simp only at hj hq ih hy;cases q with
 |some a=>
  simp only at hq ⊢;have xX:=fV (c:=c) (a:=a);have gr:=λaf r=>gz (pre:=pre) af (c.fail a) r;rw[decide_eq_false xX]at gr;have L8:=jy a (bD 11 (E.rows ys)) bY hq;generalize (c.fail a).aT=o2 at *;by_cases aW:j<s.es.length;simp[-ah,-aa,cA,dW,cN,aW,gr];exact L8;simp[-ah,-aa,cA,dW,cN,aW];exact L8
 |none=>
  simp only at hq ⊢;by_cases aW:j<s.es.length;have hw:=wk j (by omega);have hv:=wJ (pre:=pre) c s.es[j] hf (hl _ (List.getElem_mem aW));unfold Kt at hv;rw[An aW]at hq;have gE:=uZ aW;have mZ:=λh2=>oW aW h2;have gY:j<(E.rows s.es).length:=by simpa using aW
  have tO:=mZ gY;clear mZ;cases hx:Eu c s.es[j] with
  |error a=>
   rw[hx]at hq hv;simp only at hq hv;obtain⟨y,hv⟩:=hv;have ap:=lJ ys y (by omega);have dx:=ih (j+1,ys++[y],some a) ⟨by simp only;omega,by simp[hy],hq.symm⟩ (by simp only;omega);simp only at dx;have m1:aD (bD 11 (E.rows (ys++[y])))=true:=bY;generalize bD 11 (E.rows (ys++[y]))=R at *;generalize (c.fail a).aT=o2 at *;generalize c.aT=o at *;rw[E.az s.es[j]]at hv gE tO;rw[E.az y]at hv ap;generalize s.es[j]=x at *;simp[-ah,-aa,aX,cA,dW,cN,hz,aW,h9,hw,tO,fy,hv,ap,m1,au,an,ag,AV.view];exact dx
  |ok y=>
   rw[hx]at hq hv;simp only at hq hv;have ap:=lJ ys y (by omega);have dx:=ih (j+1,ys++[y],none) ⟨by simp only;omega,by simp[hy],hq⟩ (by simp only;omega);simp only at dx;have m1:aD (bD 11 (E.rows (ys++[y])))=true:=bY;generalize bD 11 (E.rows (ys++[y]))=R at *;generalize c.aT=o at *;rw[E.az s.es[j]]at hv gE tO;rw[E.az y]at hv ap;generalize s.es[j]=x at *;simp[-ah,-aa,aX,cA,dW,cN,hz,aW,h9,hw,tO,fy,hv,ap,m1,au,an,ag,AV.view];exact dx
  have eK:j=s.es.length:=by omega
  have hR:kM c.H c.V s.es=.ok ys:=by
   rw[<-hq,eK,List.drop_length];simp[kM,yZ]
  have Tz:=F7 ys hR;generalize c.aT=o at *;simp[-ah,-aa,cA,dW,cN,aW];exact Tz
theorem WA(c:CK)(s:Sm)(e:E)(hf:c.fe=0)(h9:s.k=9)(jR:s.es=[e])(hl:JW pre c e)(af:Nat){rs:List iE}{Q:Ex->St->Prop}{kk:List qv}(b1 b3 b4 b5:List AV)(dc:Bool)(xk Ma xa xr:Int)(X3 Mb:List UInt8)
  (row:List AV)(cZ:row=s.row)
  (F7:∀y,xC c.H c.V e=.ok y->W S 0 af rs Q kk .normal ⟨[(0,.val (.ptr pre.length 0 0 0)),(3,.fp 0 0),(4,.fp 1 0),(5,.fp 2 0),(6,.fp 3 0),(7,.val (.bool dc))],[row,b1,[.int .i64 xk,.str X3,.str Mb,.int .i64 Ma,bD 11 (E.rows [y]),.U,.U,.int .i64 xa,.int .i64 xr],b3,b4,b5],pre++[c.aT]⟩)
  (jy:∀a v,aD v=true->xC c.H c.V e=.error a->W S 0 af rs Q kk .normal ⟨[(0,.val (.ptr pre.length 0 0 0)),(3,.fp 0 0),(4,.fp 1 0),(5,.fp 2 0),(6,.fp 3 0),(7,.val (.bool dc))],[row,b1,[.int .i64 xk,.str X3,.str Mb,.int .i64 Ma,v,.U,.U,.int .i64 xa,.int .i64 xr],b3,b4,b5],pre++[(c.fail a).aT]⟩) :
  W S 0 af rs Q (.code (.loop rC)::.jF 0::kk) .normal ⟨[(0,.val (.ptr pre.length 0 0 0)),(3,.fp 0 0),(4,.fp 1 0),(5,.fp 2 0),(6,.fp 3 0),(7,.val (.bool dc)),(10,.val (.int .i64 0))],[row,b1,[.int .i64 xk,.str X3,.str Mb,.int .i64 Ma,.U,.U,.U,.int .i64 xa,.int .i64 xr],b3,b4,b5],pre++[c.aT]⟩:=by
 subst cZ;rw[Sm.az]at *;rw[jR]at *;have hz:bX 11 (aI [e])=true:=iM;have cA:aD (aI [e])=true:=aQ;have dW:(aI [e]).view=aI [e]:=aN;have cN:aM (aI [e])=[e.row]:=aE;have fy:=λaf r=>gz (pre:=pre) af c r;rw[decide_eq_true hf]at fy;have lJ:∀y:E,nH 11 120 .U [y.row]=some (bD 11 (E.rows [y])):=λy=>by
  have:=dV (sz:=11) (bytes:=120) (r:=[]) (new:=[y.row]) (by simp[bN,E.az]) (by simp[cR]);exact this
 have hw:IntKind.i64.wrap (0+1:Int)=1:=by decide
 rw[h9]at *;generalize aI [e]=kv at *;generalize aS s.bd=bv at *;generalize aS s.el=lv at *;unfold JW at hl;rw[qx rC.eq_1];cases hx:xC c.H c.V e with
 |error a=>
  rw[hx]at hl;simp only at hl;have L8:=λv h=>jy a v h hx;have xX:=fV (c:=c) (a:=a);have gr:=λaf r=>gz (pre:=pre) af (c.fail a) r;rw[decide_eq_false xX]at gr;have ap:=lJ E0;have m1:aD (bD 11 (E.rows [E0]))=true:=bY;generalize bD 11 (E.rows [E0])=R at *;generalize (c.fail a).aT=o2 at *;generalize c.aT=o at *;rw[E.az e]at hl cN;rw[E.az E0]at hl ap;simp[-ah,-aa,aX,cA,dW,cN,hz,fy,hl,ap,m1,au,an,ag,AV.view];show W S 0 af rs Q (.code (.loop rC)::.jF 0::kk) .normal _;rw[qx rC.eq_1];simp[-ah,-aa,cA,dW,cN];exact L8 _ m1
 |ok y=>
  rw[hx]at hl;simp only at hl;have Tz:=F7 y hx;have ap:=lJ y;have m1:aD (bD 11 (E.rows [y]))=true:=bY;generalize bD 11 (E.rows [y])=R at *;generalize c.aT=o at *;rw[E.az e]at hl cN;rw[E.az y]at hl ap;simp[-ah,-aa,aX,cA,dW,cN,hz,fy,hl,ap,m1,au,an,ag,AV.view];show W S 0 af rs Q (.code (.loop rC)::.jF 0::kk) .normal _;rw[qx rC.eq_1];simp[-ah,-aa,cA,dW,cN];exact Tz
end R9
