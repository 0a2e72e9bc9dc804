/- Part of a proof. -/
import Derived.Test.YtgblgbgjmgjfkaaGreatD
import Derived.Test.YtgblgbgjmgjfkaaGreatO

open List renaming drop_length->aep,getElem_mem->acH,getElem?_eq_getElem->aas,length_cons->aeo,isEmpty_cons->amC
open Bool renaming false_eq_true->acC
set_option maxRecDepth 100000
set_option maxHeartbeats 8000000
namespace R9
open Ax Go aO V7 iQ iZ K9
variable {pre:aj}
variable{g:Type}{c:CK}{r:aj}{wl ah:Nat}{bx:bK}
theorem awn{l:List g}(p:List g)(i:Nat):(p++l)[p.length+i]?=l[i]?:=by
 rw[List.getElem?_append_right (by omega)];simp
theorem aqZ{l:List g}(p:List g)(i:Nat):(p++l).take (p.length+i)=p++l.take i:=by
 rw[List.take_append,List.take_of_length_le (by omega),Nat.add_sub_cancel_left]
attribute [simp] awn aqZ
theorem awo{w k:Nat}{B:bK}:bz w k (.load false 1 false) [.val (.ptr pre.length 0 0 12)] (pre++c.bO::r) B=some (.val (.int .i64 c.fe),pre++c.bO::r,B):=by
 simp[CK.bO,cut,AV.ai]
theorem alI:bz wl ah (.load false 1 false) [.val (.ptr pre.length 0 0 4)] (pre++c.bO::r) bx=some (.val (aM 1 (lX c.H.rs)),pre++c.bO::r,bx):=by
 simp[CK.bO,cut,aM]
theorem awp:bz wl ah (.load false 1 false) [.val (.ptr pre.length 0 0 0)] (pre++c.bO::r) bx=some (.val (aM 2 (c.H.bJ.map fQ)),pre++c.bO::r,bx):=by
 simp[CK.bO,cut]
theorem awq:bz wl ah (.load false 1 false) [.val (.ptr pre.length 0 0 1)] (pre++c.bO::r) bx=some (.val (cG c.H.az),pre++c.bO::r,bx):=by
 simp[CK.bO,cut]
theorem aq0:bz wl ah (.load false 1 false) [.val (.ptr pre.length 0 0 2)] (pre++c.bO::r) bx=some (.val (aM 6 (c.H.aW.map Sg.aI)),pre++c.bO::r,bx):=by
 simp[CK.bO,cut]
theorem EM:bz wl ah (.load false 1 false) [.val (.ptr pre.length 0 0 7)] (pre++c.bO::r) bx=some (.val (.bool c.sg.bR),pre++c.bO::r,bx):=by
 simp[CK.bO,cut,AV.ai]
theorem Ho:bz wl ah (.load true 3 false) [.val (.ptr pre.length 0 0 8)] (pre++c.bO::r) bx=some (.val (.agg [.int .i64 c.sg.res.b,.int .i64 c.sg.res.r,.int .i64 c.sg.res.d]),pre++c.bO::r,bx):=by
 simp[CK.bO,cut,AV.ai]
theorem acM:bz wl ah (.load false 1 false) [.val (.ptr pre.length 0 0 11)] (pre++c.bO::r) bx=some (.val (cG c.V),pre++c.bO::r,bx):=by
 simp[CK.bO,cut,cG,aM]
theorem aq1{k:Nat}{a:Int}{B:bK}:bz 0 k (.store 2) [.val (.ptr pre.length 0 0 12),.val (.agg [.int .i64 3,.int .i64 a])] (pre++c.bO::r) B=some (.none,pre++({ c with fe:=3,fa:=a }:CK).bO::r,B):=by
 simp[CK.bO,bu,AV.aB,AV.aH,ay]
theorem iS(ah:Nat)(c:CK)(r:aj):(aZ S).call 0 ah 89 [.ptr pre.length 0 0 0] (pre++c.bO::r)=some (.bool (decide (c.fe=0)),pre++c.bO::r):=by
 refine aG (sf:=s89) rfl rfl rfl ?_;simp[-aE,-ax,s89,awo]
theorem kJ(ah:Nat)(c:CK)(a:Int)(r:aj):(aZ S).call 0 ah 151 [.ptr pre.length 0 0 0,.int .i64 a] (pre++c.bO::r)=some (.eY [],pre++(c.fail a).bO::r):=by
 have e:=λah=>iS (pre:=pre) ah c r;have E:=λwl ah st=>U7.EK wl ah a st;refine aG (sf:=af2) rfl rfl rfl ?_;unfold CK.fail;by_cases h:c.fe=0;rw[af h];simp[-aE,-ax,af2,e,E,h,aq1];rw[U h];simp[-aE,-ax,af2,e,h]
theorem ot(wl ah:Nat)(st:aj):(aZ S).call wl ah 155 [] st=some (.agg [.int .i64 2,.int .i64 0,.int .i64 0],st):=by
 refine bE (sf:=akT) rfl rfl (by simp) rfl (by simp[AV.aH,AV.aB]) ?_;simp[akT,ay]
theorem rA(wl ah:Nat)(st:aj):(aZ S).call wl ah 156 [] st=some (.agg [.int .i64 1,.int .i64 0,.int .i64 0],st):=by
 refine bE (sf:=aky) rfl rfl (by simp) rfl (by simp[AV.aH,AV.aB]) ?_;simp[aky,ay]
def Hp(k:Int):Int:=
 if k=1\/k=2\/k=3\/k=4\/k=8\/k=11 then 0
 else if k=5\/k=9\/k=10\/k=12\/k=13 then 1
 else if k=7 then -1
 else if k=6\/k=14\/k=15\/k=16\/k=17\/k=18\/k=19\/k=20\/k=21\/k=22\/k=23\/k=24 then 2
 else -2
theorem xG(W y:Nat)(k:Int)(st:aj):(aZ S).call W y 166 [.int .i64 k] st=some (.int .i64 (Hp k),st):=by
 refine bE (sf:=rT) rfl rfl (by simp) rfl (by simp) ?_;unfold Hp;by_cases H:k=1;subst H;simp[rT];by_cases p:k=2;subst p;simp[rT];by_cases q:k=3;subst q;simp[rT];by_cases r:k=4;subst r;simp[rT];by_cases v:k=8;subst v;simp[rT];by_cases t:k=11;subst t;simp[rT];by_cases V:k=5;subst V;simp[rT];by_cases w:k=9;subst w;simp[rT];by_cases D:k=10;subst D;simp[rT];by_cases x:k=12;subst x;simp[rT];by_cases C:k=13;subst C;simp[rT];by_cases Y:k=7;subst Y;simp[rT];by_cases z:k=6;subst z;simp[rT];by_cases m:k=14;subst m;simp[rT];by_cases j:k=15;subst j;simp[rT];by_cases l:k=16;subst l;simp[rT];by_cases n:k=17;subst n;simp[rT];by_cases g:k=18;subst g;simp[rT];by_cases F:k=19;subst F;simp[rT];by_cases G:k=20;subst G;simp[rT];by_cases T:k=21;subst T;simp[rT];by_cases o:k=22;subst o;simp[rT];by_cases s:k=23;subst s;simp[rT];by_cases h:k=24;subst h;simp[rT];simp[rT,H,p,q,r,V,z,Y,v,w,D,t,x,C,m,j,l,n,g,F,G,T,o,s,h]
theorem T4(k n:Int)(m:Nat):ir k n m = !(decide (Hp k = -2)||(decide (0<=Hp k) && !decide ((m:Int)=Hp k))||(decide (k=2)&&(!decide (n=0) && !decide (n=1)))):=by
 have m0:((m:Int)=0)=(m=0):=by simp
 have M:((m:Int)=1)=(m=1):=by apply propext;omega
 have N:((m:Int)=2)=(m=2):=by apply propext;omega
 unfold ir Hp;by_cases h:k=1\/k=3\/k=4\/k=8\/k=11;rcases h with h|h|h|h|h<;>subst h<;>simp;by_cases H:k=2;subst H;by_cases q:n=0<;>by_cases p:n=1<;>simp[p,q];by_cases Y:k=7;subst Y;simp;by_cases V:k=5\/k=9\/k=10\/k=12\/k=13;rcases V with h|h|h|h|h<;>subst h<;>simp[M];rw[U h,U H,U Y,U V,U (by omega),U V,U Y];by_cases g:k=6\/14<=k/\k<=24;have e:(decide (k=6)||decide (14<=k)&&decide (k<=24))=true:=by simpa using g
 rw[af (by omega),e];simp[N,H];have e:(decide (k=6)||decide (14<=k)&&decide (k<=24))=false:=by simp only[Bool.or_eq_false_iff,Bool.and_eq_false_iff,decide_eq_false_iff_not];omega
 rw[U (by omega),e];simp
end R9
namespace R9
open Ax Go aO V7 iQ iZ K9
variable {pre:aj}
theorem lK(ah:Nat)(c:CK)(s:List UInt8)(r:aj)(B:ED c):(aZ S).call 0 ah 154 [.ptr pre.length 0 0 0,.str s] (pre++c.bO::r)=some (qE (ue c.H c.V s),pre++c.bO::r):=by
 have L:=B.V;have K:=B.G;have m:cN 4 (cG c.V)=true:=vC;have l:cN 4 (cG c.H.az)=true:=vC;have t:bf (cG c.V)=true:=iD;have g:bf (cG c.H.az)=true:=iD;have z:aY (cG c.V)=c.V.map Vd.aI:=sA;have h:aY (cG c.H.az)=c.H.az.map Vd.aI:=sA;have p:=λwl ah bx=>acM (pre:=pre) (wl:=wl) (ah:=ah) (c:=c) (r:=r) (bx:=bx);have E:=λwl ah bx=>awq (pre:=pre) (wl:=wl) (ah:=ah) (c:=c) (r:=r) (bx:=bx);generalize cG c.V=J,cG c.H.az=D at *;refine aG (sf:=akM) rfl rfl rfl ?_;generalize c.bO=o at *;simp[-aE,-ax,akM];refine bN Vz.eq_1 (λq:Nat×Int=>⟨[(0,.val (.ptr pre.length 0 0 0)),(1,.val (.str s)),(5,.fp 0 0),(7,.val (.int .i64 q.1))],[[.int .i64 0,.int .i64 0,.int .i64 0]],pre++o::r⟩)
  (λq=>q.1<=c.V.length/\jj s 0 c.V=jj s q.1 (c.V.drop q.1)) (λq=>c.V.length-q.1) (0,0) (by simp) ⟨by simp,by simp⟩ ?_
 rintro⟨k,C⟩ ⟨w,j⟩ I;simp only at w j I;by_cases F:k<c.V.length;have x:=wk k (by omega);rw[Ck F]at j;by_cases e:c.V[k].nm=s;rw[af e]at j;unfold ue;rw[j];simp[-aE,-ax,cT,p,t,m,z,F,e,Vd.aI,qE,aD,aC,ay];rw[U e]at j;simp[-aE,-ax,cT,p,t,m,z,F,e,Vd.aI,x];exact I (k+1,0) ⟨by simp;omega,j⟩ (by simp;omega);have v:k=c.V.length:=by omega
 have y:jj s 0 c.V=none:=by rw[j,v,aep];rfl
 simp[-aE,-ax,p,t,z,F];clear I;refine bN VB.eq_1 (λq:Nat×Int=>⟨[(0,.val (.ptr pre.length 0 0 0)),(1,.val (.str s)),(5,.fp 0 0),(8,.val (.int .i64 q.1))],[[.int .i64 0,.int .i64 0,.int .i64 0]],pre++o::r⟩)
  (λq=>q.1<=c.H.az.length/\jj s 0 c.H.az=jj s q.1 (c.H.az.drop q.1)) (λq=>c.H.az.length-q.1) (0,0) (by simp) ⟨by simp,by simp⟩ ?_
 rintro⟨k,C⟩ ⟨w,j⟩ I;simp only at w j I;by_cases F:k<c.H.az.length;have x:=wk k (by omega);have X:IntKind.i64.wrap (-1-(k:Int)) = -1-(k:Int):=by rw[dY]<;>omega
 rw[Ck F]at j;by_cases e:c.H.az[k].nm=s;rw[af e]at j;unfold ue;rw[y,j];simp[-aE,-ax,cT,E,g,l,h,F,e,X,Vd.aI,qE,aD,aC,ay];rw[U e]at j;simp[-aE,-ax,cT,E,g,l,h,F,e,Vd.aI,x];exact I (k+1,0) ⟨by simp;omega,j⟩ (by simp;omega);have v:k=c.H.az.length:=by omega
 have n:jj s 0 c.H.az=none:=by rw[j,v,aep];rfl
 unfold ue;rw[y,n];simp[-aE,-ax,E,g,h,F,qE,ay]
theorem Co(ah:Nat)(c:CK)(s:Sm)(r:aj)(_hn:s.es.length<1000000000):(aZ S).call 0 ah 150 [.ptr pre.length 0 0 0,.agg s.aI] (pre++c.bO::r)=some (.bool (fy c.sg.bR s.k s.es),pre++c.bO::r):=by
 have G:=Sm.aQ s;have h:cN 11 (bG s.es)=true:=nC;have J:bf (bG s.es)=true:=ck;have K:(bG s.es).ai=bG s.es:=bY;have j:aY (bG s.es)=E.rows s.es:=bn;have m0:((s.es.length:Int)=0)=(s.es.length=0):=by simp
 have t:((s.es.length:Int)=1)=(s.es.length=1):=by apply propext;omega
 have N:((s.es.length:Int)=2)=(s.es.length=2):=by apply propext;omega
 rw[G];generalize s.k=k at *;unfold fy;have B:bf (bZ s.bd)=true:=cQ;have I:(bZ s.bd).ai=bZ s.bd:=bQ;have L:bf (bZ s.el)=true:=cQ;have P:(bZ s.el).ai=bZ s.el:=bQ;generalize bZ s.bd=O,bZ s.el=Z at *;have p:=λwl ah bx=>EM (pre:=pre) (wl:=wl) (ah:=ah) (c:=c) (r:=r) (bx:=bx);generalize c.bO=o at *;refine aG (sf:=rU) rfl rfl rfl ?_;by_cases n:k=1;subst n;generalize bG s.es=m at *;by_cases q0:s.es.length=0;simp[-aE,-ax,rU,J,K,j,q0,B,L,AV.ai];simp[-aE,-ax,rU,J,K,j,q0,B,L,AV.ai];by_cases v:k=4;subst v;simp only[U n,bh];match M:s.es,j,N with
 |[e,g],j,N=>
  rw[M]at h J K;simp only[E.rows]at j;rw[E.aQ e,E.aQ g]at j;generalize bG [e,g]=m at *;by_cases q:e.k=5;simp[-aE,-ax,rU,cT,h,J,K,j,q,B,L,AV.ai];simp[-aE,-ax,rU,cT,h,J,K,j,q,B,L,AV.ai]
 |[],j,N=>
  rw[M]at h J K;generalize bG []=m at *;simp[-aE,-ax,rU,J,K,j,B,L,E.rows,AV.ai]
 |[e],j,N=>
  rw[M]at h J K;simp only[E.rows]at j;generalize bG [e]=m at *;simp[-aE,-ax,rU,J,K,j,B,L,AV.ai]
 |e::g::w::l,j,N=>
  rw[M]at h J K;have H:¬((E.rows (e::g::w::l)).length:Int)=2:=by simp;omega
  generalize bG (e::g::w::l)=m,E.rows (e::g::w::l)=R at *;simp[-aE,-ax,rU,J,K,j,H,B,L,AV.ai]
 by_cases Y:k=7;subst Y;simp only[U n,U v,bh];generalize bG s.es=m at *;cases F:c.sg.bR with
 |false=>
  rw[F]at p;by_cases q0:s.es.length=0;simp[-aE,-ax,rU,J,K,j,q0,B,L,p,AV.ai];simp[-aE,-ax,rU,J,K,j,q0,B,L,p,AV.ai]
 |true=>
  rw[F]at p;by_cases q1:s.es.length=1;simp[-aE,-ax,rU,J,K,j,q1,B,L,p,AV.ai];simp[-aE,-ax,rU,J,K,j,t,q1,B,L,p,AV.ai]
 by_cases x:k=9;subst x;simp only[U n,U v,U Y,bh];match M:s.es,j,N with
 |[e],j,N=>
  rw[M]at h J K;simp only[E.rows]at j;rw[E.aQ e]at j;generalize bG [e]=m at *;simp[-aE,-ax,rU,cT,h,J,K,j,B,L,AV.ai]
 |[],j,N=>
  rw[M]at h J K;generalize bG []=m at *;simp[-aE,-ax,rU,J,K,j,B,L,E.rows,AV.ai]
 |e::g::l,j,N=>
  rw[M]at h J K;have H:¬((E.rows (e::g::l)).length:Int)=1:=by simp;omega
  generalize bG (e::g::l)=m,E.rows (e::g::l)=R at *;simp[-aE,-ax,rU,J,K,j,H,B,L,AV.ai]
 simp only[U n,U v,U Y,U x];generalize bG s.es=m at *;by_cases y:k=2;subst y;by_cases q1:s.es.length=1;simp[-aE,-ax,rU,J,K,j,q1,B,L,AV.ai];simp[-aE,-ax,rU,J,K,j,t,q1,B,L,AV.ai];by_cases z:k=3;subst z;by_cases q1:s.es.length=1;simp[-aE,-ax,rU,J,K,j,q1,B,L,AV.ai];simp[-aE,-ax,rU,J,K,j,t,q1,B,L,AV.ai];by_cases V:k=5;subst V;by_cases q1:s.es.length=1;simp[-aE,-ax,rU,J,K,j,q1,B,L,AV.ai];simp[-aE,-ax,rU,J,K,j,t,q1,B,L,AV.ai];by_cases C:k=6;subst C;by_cases q1:s.es.length=1;simp[-aE,-ax,rU,J,K,j,q1,B,L,AV.ai];simp[-aE,-ax,rU,J,K,j,t,q1,B,L,AV.ai];by_cases D:k=8;subst D;by_cases q1:s.es.length=1;simp[-aE,-ax,rU,J,K,j,q1,B,L,AV.ai];simp[-aE,-ax,rU,J,K,j,t,q1,B,L,AV.ai];simp[-aE,-ax,rU,J,B,L,n,y,z,v,V,C,Y,D,x,AV.ai]
end R9
namespace R9
open Ax Go aO V7 iQ iZ K9
variable {pre:aj}
abbrev mz(k n:Int)(nm on:List UInt8)(od:Int)(kv:AV)(a:Int)(t:T3)(z:Int):List AV:=[.int .i64 k,.int .i64 n,.str nm,.str on,.int .i64 od,kv,.int .i64 a,.int .i64 t.b,.int .i64 t.r,.int .i64 t.d,.int .i64 z]
variable{agg:Bool}{o:dJ}{C:List AV}{bx:bK}
theorem eM{wl ah n k:Nat}{r0 K:aj}:bz wl ah (.load agg n false) [.val (.ptr (pre.length+(r0.length+1)) 0 0 k)] (pre++o::(r0++.rows 0 11 [C]::K)) bx =
  uR (pre++o::(r0++.rows 0 11 [C]::K)) bx ((cut C k n).bind λC=>bH agg (AV.cC C)):=by
 rw[aE];simp[gm]
theorem cH{ah n k:Nat}{r0 K:aj}{v:AV}(h:v.cells.length=n)(H:AV.bC v.cells=true)(j:k+v.cells.length<=C.length)(l:AV.aB v.cells=true) :
  bz 0 ah (.store n) [.val (.ptr (pre.length+(r0.length+1)) 0 0 k),.val v] (pre++o::(r0++.rows 0 11 [C]::K)) bx=some (.none,pre++o::(r0++.rows 0 11 [ay C k v.cells]::K),bx):=by
 rw[ax,af ⟨h,H⟩];simp[fR,bu,j,l]
theorem iu{wl ah n j k v:Nat}{X:dJ}{r0 K:aj}{rows:List (List AV)}:bz wl ah (.load agg n false) [.val (.ptr (pre.length+(r0.length+1+1)) v j k)] (pre++o::(r0++X::.rows v 11 rows::K)) bx =
  uR (pre++o::(r0++X::.rows v 11 rows::K)) bx ((match rows[j]? with|some C=>cut C k n|none=>none).bind λC=>bH agg (AV.cC C)):=by
 rw[aE];cases h:rows[j]?<;>simp[gm,h]
def sgR(k:Int):T3:=if k=12\/k=14\/k=15\/k=16\/k=17\/k=18 then tI else tB
def sgB(k:Int)(a b:T3):Bool:=if k=12\/k=14\/k=15\/k=16\/k=17\/k=18\/k=19\/k=20 then decide (a=tI)&&decide (b=tI) else if k=21\/k=22 then decide (a=b) else decide (a=tB)&&decide (b=tB)
theorem Yv(g:Nat)(o:dJ)(r0:aj)(k n:Int)(N m:List UInt8)(O a z:Int)(t:T3)(y:E)(H:k=12\/k=13) :
  (aZ S).call 0 g 167 [.ptr pre.length 0 0 0,.ptr (pre.length+(r0.length+1)) 0 0 0] (pre++o::(r0++[.rows 0 11 [mz k n N m O (.mu (pre.length+(r0.length+1+1)) 0) a t z],.rows 0 11 [y.aI]])) =
  some (.bool (sgB k y.ty y.ty),pre++o::(r0++[.rows 0 11 [mz k n N m O (.mu (pre.length+(r0.length+1+1)) 0) a (sgR k) z],.rows 0 11 [y.aI]])):=by
 have j:=λw g st=>rA w g st;have l:=λw g st=>ot w g st;rw[E.aQ];refine aG (sf:=tY) rfl rfl rfl ?_;unfold sgB sgR;rcases H with h|h<;>subst h;by_cases q:y.ty=tI;simp[-aE,-ax,tY,eM,cH,iu,j,q,aD,aC,ay,AV.ai];simp[-aE,-ax,tY,eM,cH,iu,j,K9.dI,q,aD,aC,ay,AV.ai];by_cases q:y.ty=tB;simp[-aE,-ax,tY,eM,cH,iu,l,q,aD,aC,ay,AV.ai];simp[-aE,-ax,tY,eM,cH,iu,l,dB,q,aD,aC,ay,AV.ai]
theorem Yw(g:Nat)(o:dJ)(r0:aj)(k n:Int)(N s:List UInt8)(O a z:Int)(t:T3)(x y:E)(H:14<=k) :
  (aZ S).call 0 g 167 [.ptr pre.length 0 0 0,.ptr (pre.length+(r0.length+1)) 0 0 0] (pre++o::(r0++[.rows 0 11 [mz k n N s O (.mu (pre.length+(r0.length+1+1)) 1) a t z],.rows 1 11 [x.aI,y.aI]])) =
  some (.bool (sgB k x.ty y.ty),pre++o::(r0++[.rows 0 11 [mz k n N s O (.mu (pre.length+(r0.length+1+1)) 1) a (sgR k) z],.rows 1 11 [x.aI,y.aI]])):=by
 have j:=λw g st=>rA w g st;have l:=λw g st=>ot w g st;have v:k≠12:=by omega
 rw[E.aQ x,E.aQ y];refine aG (sf:=tY) rfl rfl rfl ?_;unfold sgB sgR;by_cases m:k=14;subst m;by_cases q:x.ty=tI;simp[-aE,-ax,tY,eM,cH,iu,j,K9.dI,q,aD,aC,ay,AV.ai];simp[-aE,-ax,tY,eM,cH,iu,j,K9.dI,q,aD,aC,ay,AV.ai];by_cases D:k=15;subst D;by_cases q:x.ty=tI;simp[-aE,-ax,tY,eM,cH,iu,j,K9.dI,q,aD,aC,ay,AV.ai];simp[-aE,-ax,tY,eM,cH,iu,j,K9.dI,q,aD,aC,ay,AV.ai];by_cases h:k=16;subst h;by_cases q:x.ty=tI;simp[-aE,-ax,tY,eM,cH,iu,j,K9.dI,q,aD,aC,ay,AV.ai];simp[-aE,-ax,tY,eM,cH,iu,j,K9.dI,q,aD,aC,ay,AV.ai];by_cases p:k=17;subst p;by_cases q:x.ty=tI;simp[-aE,-ax,tY,eM,cH,iu,j,K9.dI,q,aD,aC,ay,AV.ai];simp[-aE,-ax,tY,eM,cH,iu,j,K9.dI,q,aD,aC,ay,AV.ai];by_cases C:k=18;subst C;by_cases q:x.ty=tI;simp[-aE,-ax,tY,eM,cH,iu,j,K9.dI,q,aD,aC,ay,AV.ai];simp[-aE,-ax,tY,eM,cH,iu,j,K9.dI,q,aD,aC,ay,AV.ai];by_cases F:k=19;subst F;by_cases q:x.ty=tI;simp[-aE,-ax,tY,eM,cH,iu,j,l,K9.dI,q,aD,aC,ay,AV.ai];simp[-aE,-ax,tY,eM,cH,iu,j,l,K9.dI,q,aD,aC,ay,AV.ai];by_cases G:k=20;subst G;by_cases q:x.ty=tI;simp[-aE,-ax,tY,eM,cH,iu,j,l,K9.dI,q,aD,aC,ay,AV.ai];simp[-aE,-ax,tY,eM,cH,iu,j,l,K9.dI,q,aD,aC,ay,AV.ai];by_cases T:k=21;subst T;simp[-aE,-ax,tY,eM,cH,iu,l,dU,ay,AV.ai];by_cases r:k=22;subst r;simp[-aE,-ax,tY,eM,cH,iu,l,dU,ay,AV.ai];by_cases q:x.ty=tB;simp[-aE,-ax,tY,eM,cH,iu,l,v,m,D,h,p,C,F,G,T,r,dB,q,aD,aC,ay,AV.ai];simp[-aE,-ax,tY,eM,cH,iu,l,v,m,D,h,p,C,F,G,T,r,dB,q,aD,aC,ay,AV.ai]
theorem Yx{H:Hd}{V:List Vd}{k:Int}{N O:List UInt8}{o:Int}{K:List E}(j:12<=k):mR H V k N O o K=Ka (sgB k (Ce K) (if k=12\/k=13 then Ce K else J9 K)) (sgR k):=by
 unfold mR sgB sgR;rw[U (by omega),U (by omega),U (by omega),U (by omega),U (by omega),U (by omega),U (by omega),U (by omega),U (by omega),U (by omega)];by_cases x:k=12;subst x;simp;by_cases C:k=13;subst C;simp;unfold pJ;rw[U x,U C];have g:(if k=12\/k=13 then Ce K else J9 K)=J9 K:=U (by omega);rw[g];by_cases c1:k=14\/k=15\/k=16\/k=17\/k=18;rcases c1 with h|h|h|h|h<;>subst h<;>simp;rw[U c1];by_cases c2:k=19\/k=20;rcases c2 with h|h<;>subst h<;>simp;rw[U c2,U (show ¬(k=12\/k=14\/k=15\/k=16\/k=17\/k=18\/k=19\/k=20) by omega),U (show ¬(k=12\/k=14\/k=15\/k=16\/k=17\/k=18) by omega)];split<;>rfl
end R9
namespace R9
open Ax Go aO V7 iQ iZ K9
variable {pre:aj}
def Ow(pre:aj)(o:dJ)(r0 K:aj)(q:Option (T3×Int))(h:T3->Int->List AV)(v:AV)(st:aj):Prop:=∃b Y,v=.bool b/\st=pre++o::(r0++Y::K)/\match q with
 |none=>b=false|some (u,z)=>b=true/\Y=.rows 0 11 [h u z]
variable{o:dJ}{h:T3->Int->List AV}
theorem ki{r0 K:aj}{Y:dJ}:Ow pre o r0 K none h (.bool false) (pre++o::(r0++Y::K)):=⟨false,Y,rfl,rfl,rfl⟩
theorem pS{r0 K:aj}{u:T3}{z:Int}:Ow pre o r0 K (some (u,z)) h (.bool true) (pre++o::(r0++.rows 0 11 [h u z]::K)):=⟨true,_,rfl,rfl,rfl,rfl⟩
theorem EN{r0 K:aj}{u:T3}{b:Bool}:Ow pre o r0 K (Ka b u) h (.bool b) (pre++o::(r0++.rows 0 11 [h u 0]::K)):=by
 cases b;exact ki;exact pS
theorem acN(ah:Nat)(c:CK)(r0:aj)(e:E)(k n:Int)(nm N:List UInt8)(O a z:Int)(t:T3)(v:Nat)(Y:List E)(hs:ED c)(hn:Y.length<1000000000) :
  ∃v' J,(aZ S).call 0 ah 182 [.ptr pre.length 0 0 0,.agg e.aI,.ptr (pre.length+(r0.length+1)) 0 0 0] (pre++c.bO::(r0++[.rows 0 11 [mz k n nm N O (.mu (pre.length+(r0.length+1+1)) v) a t z],.rows v 11 (E.rows Y)]))=some (v',J)/\
   Ow pre c.bO r0 [.rows v 11 (E.rows Y)] (qZ c.H e.nm Y) (mz k n e.nm N O (.mu (pre.length+(r0.length+1+1)) v) a) v' J:=by
 have hS:=hs.S;have B:cN 6 (aM 6 (c.H.aW.map Sg.aI))=true:=ji (by simp[cr,Sg.aI]);have s:bf (aM 6 (c.H.aW.map Sg.aI))=true:=bL;have m:aY (aM 6 (c.H.aW.map Sg.aI))=c.H.aW.map Sg.aI:=bn;have l:=λwl ah r bx=>aq0 (pre:=pre) (wl:=wl) (ah:=ah) (c:=c) (r:=r) (bx:=bx);have sP:bf (bG e.aN)=true:=ck;have Sq:(bG e.aN).ai=bG e.aN:=bY;rw[E.aQ e];generalize bG e.aN=kv,aM 6 (c.H.aW.map Sg.aI)=SV,c.bO=o at *;refine jL (sf:=abe) rfl rfl rfl ?_;simp[-aE,-ax,abe,cH,sP,ay];refine bN Nw.eq_1 (λq:Nat×List AV=>⟨[(0,.val (.ptr pre.length 0 0 0)),(2,.val (.ptr (pre.length+(r0.length+1)) 0 0 0)),(4,.fp 0 0),(7,.val (.int .i64 q.1))],[[.int .i64 e.k,.int .i64 e.n,.str e.nm,.str e.on,.int .i64 e.od,kv,.int .i64 e.a,.int .i64 e.ty.b,.int .i64 e.ty.r,.int .i64 e.ty.d,.int .i64 e.ref],q.2],
   pre++o::(r0++[.rows 0 11 [mz k n e.nm N O (.mu (pre.length+(r0.length+1+1)) v) a t z],.rows v 11 (E.rows Y)])⟩)
  (λq=>q.1<=c.H.aW.length/\uC e.nm 0 c.H.aW=uC e.nm q.1 (c.H.aW.drop q.1)) (λq=>c.H.aW.length-q.1) (0,[]) (by simp) ⟨by simp,by simp⟩ ?_
 rintro⟨i,b1⟩ ⟨hi,x⟩ I;simp only at hi x I;by_cases F:i<c.H.aW.length;have hw:=wk i (by omega);rw[Q3 F]at x;have gS:∀h:i<(c.H.aW.map Sg.aI).length,(c.H.aW.map Sg.aI)[i]=[.str c.H.aW[i].nm,cG c.H.aW[i].ps,.bool c.H.aW[i].bR,.int .i64 c.H.aW[i].res.b,.int .i64 c.H.aW[i].res.r,.int .i64 c.H.aW[i].res.d]:=λh=>by simp[Sg.aI]
 have M:i<(c.H.aW.map Sg.aI).length:=by simpa using F
 have X:=gS M;clear gS;have hnp:=hs.P _ (acH F);have C:cN 4 (cG c.H.aW[i].ps)=true:=vC;have nU:bf (cG c.H.aW[i].ps)=true:=iD;have p:aY (cG c.H.aW[i].ps)=c.H.aW[i].ps.map Vd.aI:=sA;have Z:(cG c.H.aW[i].ps).ai=cG c.H.aW[i].ps:=lu;have gZ:=λb1=>I (i+1,b1);simp only at gZ;generalize hRS:c.H.aW.map Sg.aI=RS at *;have hgg:c.H.aW[i]?=some c.H.aW[i]:=aas F;generalize c.H.aW[i]=g at *;by_cases h:g.nm=e.nm;rw[af h]at x;have tW:qZ c.H e.nm Y=if jC g.ps Y then some (g.res,(i:Int)) else none:=by unfold qZ;rw[x]
 rw[tW];by_cases L:g.ps.length=Y.length;generalize cG g.ps=W at *;simp[-aE,-ax,eM,cT,l,s,B,m,M,X,nU,p,Z,h,L,dX,di,ay];clear I gZ;refine bN Nv.eq_1 (λj:Nat=>⟨[(2,.val (.ptr (pre.length+(r0.length+1)) 0 0 0)),(7,.val (.int .i64 i)),(8,.fp 1 0),(9,.val (.int .i64 j))],[[.int .i64 e.k,.int .i64 e.n,.str e.nm,.str e.on,.int .i64 e.od,kv,.int .i64 e.a,.int .i64 e.ty.b,.int .i64 e.ty.r,.int .i64 e.ty.d,.int .i64 e.ref],
   [.str e.nm,W,.bool g.bR,.int .i64 g.res.b,.int .i64 g.res.r,.int .i64 g.res.d]],
   pre++o::(r0++[.rows 0 11 [mz k n e.nm N O (.mu (pre.length+(r0.length+1+1)) v) a t z],.rows v 11 (E.rows Y)])⟩)
  (λj=>j<=Y.length/\jC g.ps Y=jC (g.ps.drop j) (Y.drop j)) (λj=>Y.length-j) 0 (by simp) ⟨by simp,by simp⟩ ?_
 rintro j ⟨hj,w⟩ I;by_cases V:j<Y.length;have hwj:=wk j (by omega);have R:j<g.ps.length:=by omega
 rw[Ym R V]at w;have gE:=Mu V;have gV:∀h:j<(g.ps.map Vd.aI).length,(g.ps.map Vd.aI)[j]=[.str g.ps[j].nm,.int .i64 g.ps[j].ty.b,.int .i64 g.ps[j].ty.r,.int .i64 g.ps[j].ty.d]:=λh=>by simp[Vd.aI]
 have Q:j<(g.ps.map Vd.aI).length:=by simpa using R
 have G:=gV Q;clear gV;have gV2:(g.ps.map Vd.aI)[j]?=some [.str g.ps[j].nm,.int .i64 g.ps[j].ty.b,.int .i64 g.ps[j].ty.r,.int .i64 g.ps[j].ty.d]:=by simp[R,Vd.aI]
 rw[E.aQ]at gE;have UW:j<(E.rows Y).length:=by simpa using V
 have T:=Bo V UW;rw[E.aQ]at T;generalize hRY:E.rows Y=RY at *;generalize hRP:g.ps.map Vd.aI=RP at *;by_cases D:Y[j].ty=g.ps[j].ty;have dq:(decide (Y[j].ty.b=g.ps[j].ty.b)&&(decide (Y[j].ty.r=g.ps[j].ty.r)&&decide (Y[j].ty.d=g.ps[j].ty.d)))=true:=by rw[dU];exact cz D
 rw[cz D,Bool.true_and]at w;generalize Y[j]=y,g.ps[j]=f at *;simp[-aE,-ax,eM,iu,cT,UW,T,G,C,p,Q,D,hwj,dX,di];exact I (j+1) ⟨by omega,w⟩ (by omega);rw[eX D,Bool.false_and]at w;rw[w];generalize Y[j]=y,g.ps[j]=f at *;simp[-aE,-ax,eM,iu,cT,UW,T,G,C,p,Q,dU,D,dX,di];exact ki;have K:j=Y.length:=by omega
 have:jC g.ps Y=true:=by rw[w,K,aep,<-L,aep];rfl
 rw[this];simp[-aE,-ax,eM,cH,K,ay];exact pS;have ee:jC g.ps Y=false:=by
  cases w:jC g.ps Y with
  |false=>rfl|true=>exact au (Km w) L
 rw[ee];generalize cG g.ps=W at *;simp[-aE,-ax,eM,cT,l,s,B,m,M,X,nU,p,Z,h,L,dX,di,ay];exact ki;rw[U h]at x;generalize cG g.ps=W at *;simp[-aE,-ax,cT,l,s,B,m,M,X,nU,Z,h,hw,ay];exact gZ _ ⟨by omega,x⟩ (by omega);have K:i=c.H.aW.length:=by omega
 have ee:uC e.nm 0 c.H.aW=none:=by rw[x,K,aep];rfl
 have tW:qZ c.H e.nm Y=none:=by unfold qZ;rw[ee]
 rw[tW];simp[-aE,-ax,l,s,m,F];exact ki
end R9
namespace R9
open Ax Go aO V7 iQ iZ K9
variable {pre:aj}
theorem Ej(ah:Nat)(c:CK)(r0:aj)(e:E)(k n:Int)(nm y:List UInt8)(O a z:Int)(t:T3)(Q:ED c) :
  ∃V w,(aZ S).call 0 ah 182 [.ptr pre.length 0 0 0,.agg e.aI,.ptr (pre.length+(r0.length+1)) 0 0 0] (pre++c.bO::(r0++[.rows 0 11 [mz k n nm y O .aF a t z]]))=some (V,w)/\
   Ow pre c.bO r0 [] (qZ c.H e.nm []) (mz k n e.nm y O .aF a) V w:=by
 have hS:=Q.S;have B:cN 6 (aM 6 (c.H.aW.map Sg.aI))=true:=ji (by simp[cr,Sg.aI]);have s:bf (aM 6 (c.H.aW.map Sg.aI))=true:=bL;have m:aY (aM 6 (c.H.aW.map Sg.aI))=c.H.aW.map Sg.aI:=bn;have l:=λwl ah r bx=>aq0 (pre:=pre) (wl:=wl) (ah:=ah) (c:=c) (r:=r) (bx:=bx);have sP:bf (bG e.aN)=true:=ck;have Sq:(bG e.aN).ai=bG e.aN:=bY;rw[E.aQ e];generalize bG e.aN=R,aM 6 (c.H.aW.map Sg.aI)=SV,c.bO=o at *;refine jL (sf:=abe) rfl rfl rfl ?_;simp[-aE,-ax,abe,cH,sP,ay];refine bN Nw.eq_1 (λq:Nat×List AV=>⟨[(0,.val (.ptr pre.length 0 0 0)),(2,.val (.ptr (pre.length+(r0.length+1)) 0 0 0)),(4,.fp 0 0),(7,.val (.int .i64 q.1))],[[.int .i64 e.k,.int .i64 e.n,.str e.nm,.str e.on,.int .i64 e.od,R,.int .i64 e.a,.int .i64 e.ty.b,.int .i64 e.ty.r,.int .i64 e.ty.d,.int .i64 e.ref],q.2],
   pre++o::(r0++[.rows 0 11 [mz k n e.nm y O .aF a t z]])⟩)
  (λq=>q.1<=c.H.aW.length/\uC e.nm 0 c.H.aW=uC e.nm q.1 (c.H.aW.drop q.1)) (λq=>c.H.aW.length-q.1) (0,[]) (by simp) ⟨by simp,by simp⟩ ?_
 rintro⟨i,J⟩ ⟨hi,p⟩ I;simp only at hi p I;by_cases F:i<c.H.aW.length;have hw:=wk i (by omega);rw[Q3 F]at p;have K:∀h:i<(c.H.aW.map Sg.aI).length,(c.H.aW.map Sg.aI)[i]=[.str c.H.aW[i].nm,cG c.H.aW[i].ps,.bool c.H.aW[i].bR,.int .i64 c.H.aW[i].res.b,.int .i64 c.H.aW[i].res.r,.int .i64 c.H.aW[i].res.d]:=λh=>by simp[Sg.aI]
 have M:i<(c.H.aW.map Sg.aI).length:=by simpa using F
 have X:=K M;clear K;have hnp:=Q.P _ (acH F);have hzp:cN 4 (cG c.H.aW[i].ps)=true:=vC;have N:bf (cG c.H.aW[i].ps)=true:=iD;have v:aY (cG c.H.aW[i].ps)=c.H.aW[i].ps.map Vd.aI:=sA;have Z:(cG c.H.aW[i].ps).ai=cG c.H.aW[i].ps:=lu;have D:=λJ=>I (i+1,J);simp only at D;generalize Y:c.H.aW.map Sg.aI=RS at *;have hgg:c.H.aW[i]?=some c.H.aW[i]:=aas F;generalize c.H.aW[i]=g at *;by_cases h:g.nm=e.nm;rw[af h]at p;have T:qZ c.H e.nm []=if jC g.ps [] then some (g.res,(i:Int)) else none:=by unfold qZ;rw[p]
 rw[T];by_cases x:g.ps.length=0;generalize cG g.ps=W at *;simp[-aE,-ax,eM,cT,l,s,B,m,M,X,N,v,Z,h,x,dX,di,ay];clear I D;refine bN Nv.eq_1 (λj:Nat=>⟨[(2,.val (.ptr (pre.length+(r0.length+1)) 0 0 0)),(7,.val (.int .i64 i)),(8,.fp 1 0),(9,.val (.int .i64 j))],[[.int .i64 e.k,.int .i64 e.n,.str e.nm,.str e.on,.int .i64 e.od,R,.int .i64 e.a,.int .i64 e.ty.b,.int .i64 e.ty.r,.int .i64 e.ty.d,.int .i64 e.ref],
   [.str e.nm,W,.bool g.bR,.int .i64 g.res.b,.int .i64 g.res.r,.int .i64 g.res.d]],
   pre++o::(r0++[.rows 0 11 [mz k n e.nm y O .aF a t z]])⟩)
  (λj=>j<=0/\jC g.ps []=jC (g.ps.drop j) []) (λj=>0-j) 0 (by simp) ⟨by simp,by simp⟩ ?_
 rintro j ⟨hj,L⟩ I;have G:j=0:=by omega
 have:jC g.ps []=true:=by rw[List.length_eq_zero_iff.1 x];rfl
 rw[this];simp[-aE,-ax,eM,cH,G,ay];exact pS;have C:jC g.ps []=false:=by
  cases L:jC g.ps [] with
  |false=>rfl|true=>exact au (Km L) x
 rw[C];generalize cG g.ps=W at *;simp[-aE,-ax,eM,cT,l,s,B,m,M,X,N,v,Z,h,x,dX,di,ay];exact ki;rw[U h]at p;generalize cG g.ps=W at *;simp[-aE,-ax,cT,l,s,B,m,M,X,N,Z,h,hw,ay];exact D _ ⟨by omega,p⟩ (by omega);have G:i=c.H.aW.length:=by omega
 have C:uC e.nm 0 c.H.aW=none:=by rw[p,G,aep];rfl
 have T:qZ c.H e.nm []=none:=by unfold qZ;rw[C]
 rw[T];simp[-aE,-ax,l,s,m,F];exact ki
variable{l:List (List UInt8)}
theorem Yy:Dc (aM 1 (lX l))=true:=by
 unfold Dc gH;rw[N7.EC,N7.Cj (by simp[cr,lX]),bn];simp[lX,VM]
theorem Rq:oh (aM 1 (lX l))=l:=by
 simp only[oh,bn,lX,List.map_map];conv=>rhs;rw[<-List.map_id l]
 exact List.map_congr_left λ_ _=>rfl
theorem Ox(wl ah:Nat)(l:List (List UInt8))(s:List UInt8)(d:Int)(st:aj)(g:l.length<1000000000) :
  (aZ S).call wl ah 133 [aM 1 (lX l),.agg [.str s,.int .i64 d]] st=some (tyV (dw l s d),st):=by
 rw[U7.Kv wl ah (aM 1 (lX l)) s d st Yy (by rw[Rq];exact g),Rq]
 rfl
theorem Iq(wl ah:Nat)(t:T3)(st:aj):(aZ S).call wl ah 44 [.agg [.int .i64 t.b,.int .i64 t.r,.int .i64 t.d]] st=some (.bool (mh t),st):=U7.Iq wl ah t st
def u0(i:Nat)(ys:List E):AV:=if ys.isEmpty then .aF else .mu i (ys.length-1)
def kK(ys:List E):aj:=if ys.isEmpty then [] else [.rows (ys.length-1) 11 (E.rows ys)]
theorem acQ(ah:Nat)(c:CK)(r0:aj)(e:E)(k n:Int)(N O:List UInt8)(o a z:Int)(t:T3)(Y:List E)(j:ED c)(g:Y.length<1000000000) :
  ∃V s,(aZ S).call 0 ah 182 [.ptr pre.length 0 0 0,.agg e.aI,.ptr (pre.length+(r0.length+1)) 0 0 0] (pre++c.bO::(r0++.rows 0 11 [mz k n N O o (u0 (pre.length+(r0.length+1+1)) Y) a t z]::kK Y))=some (V,s)/\
   Ow pre c.bO r0 (kK Y) (qZ c.H e.nm Y) (mz k n e.nm O o (u0 (pre.length+(r0.length+1+1)) Y) a) V s:=by
 cases Y with
 |nil=>exact Ej (pre:=pre) ah c r0 e k n N O o a z t j|cons y l=>exact acN (pre:=pre) ah c r0 e k n N O o a z t ((y::l).length-1) (y::l) j g
end R9
namespace R9
open Ax Go aO V7 iQ iZ K9
variable {pre:aj}
theorem Kk(ah:Nat)(c:CK)(r0:aj)(e:E)(g:List E)(hs:ED c)(hn:g.length<1000000000)(w:ir e.k e.n g.length=true)(tP:e.k<12)(hRS:c.H.rs.length=c.H.bJ.length)(hw:∀x∈g,WT c.H.rs.length x.ty) :
  ∃v' J,(aZ S).call 0 ah 168 [.ptr pre.length 0 0 0,.agg e.aI,.ptr (pre.length+(r0.length+1)) 0 0 0] (pre++c.bO::(r0++.rows 0 11 [mz e.k 0 [] [] 0 (u0 (pre.length+(r0.length+1+1)) g) e.a T0 0]::kK g))=some (v',J)/\
   Ow pre c.bO r0 (kK g) (mR c.H c.V e.k e.nm e.on e.od g) (mz e.k (uD e.k e.n) (uf e.k e.nm) (uh e.k e.on) (uk e.k e.od) (u0 (pre.length+(r0.length+1+1)) g) e.a) v' J:=by
 have P:=λwl ah st=>rA wl ah st;have eT:=λwl ah st=>ot wl ah st;have eV:=λah r=>lK (pre:=pre) ah c e.nm r hs;have l:=λwl ah st=>Ox wl ah c.H.rs e.on e.od st hs.R;have Z:=λwl ah st=>Iq wl ah (dw c.H.rs e.on e.od).1 st;have ecl:=λah k n nm on od a z t=>acQ (pre:=pre) ah c r0 e k n nm on od a z t g hs hn;have p:=λwl ah r bx=>alI (pre:=pre) (wl:=wl) (ah:=ah) (c:=c) (r:=r) (bx:=bx);have esh:=λwl ah r bx=>awp (pre:=pre) (wl:=wl) (ah:=ah) (c:=c) (r:=r) (bx:=bx);have I:bf (bG e.aN)=true:=ck;have Sq:(bG e.aN).ai=bG e.aN:=bY;have T:=p9 c.H.rs e.on e.od;rw[E.aQ e]at *;generalize bG e.aN=kv at *;have nil:∀j,e.k=j->(j=1\/j=2\/j=3\/j=4\/j=8\/j=11)->g=[]:=λj X h=>by
  rw[X]at w;rcases h with h|h|h|h|h|h<;>subst h<;>simp[ir]at w<;>first|exact w|exact w.1
 have one:∀j,e.k=j->(j=5\/j=9\/j=10)->∃x,g=[x]:=λj X h=>by
  have B:g.length=1:=by
   rw[X]at w;rcases h with h|h|h<;>subst h<;>simpa [ir] using w
  match g,B with
  |[x],_=>exact⟨x,rfl⟩
 by_cases h1:e.k=1;have C:=nil 1 h1 (by simp);subst C;rw[h1];refine jL (sf:=og) rfl rfl rfl ?_;simp[-aE,-ax,og,cH,u0,kK,P,I,ay,AV.ai];exact pS;by_cases h2:e.k=2;have C:=nil 2 h2 (by simp);subst C;rw[h2];refine jL (sf:=og) rfl rfl rfl ?_;simp[-aE,-ax,og,cH,u0,kK,eT,I,ay,AV.ai];exact pS;by_cases AD:e.k=11;have C:=nil 11 AD (by simp);subst C;rw[AD];refine jL (sf:=og) rfl rfl rfl ?_;simp[-aE,-ax,og,cH,u0,kK,P,I,ay,AV.ai];exact pS;by_cases h3:e.k=3;have C:=nil 3 h3 (by simp);subst C;rw[h3];have m:mR c.H c.V 3 e.nm e.on e.od []=Ka ((dw c.H.rs e.on e.od).2&&mh (dw c.H.rs e.on e.od).1) (dw c.H.rs e.on e.od).1:=rfl;rw[m];refine jL (sf:=og) rfl rfl rfl ?_;unfold tyV at l;generalize dw c.H.rs e.on e.od=tt at *;obtain⟨t,b⟩:=tt;generalize c.bO=o at *;cases b;simp[-aE,-ax,og,cH,u0,kK,p,l,I,ay,AV.ai,dX,di];exact ki;cases G:mh t with
 |false=>
  rw[G]at Z;simp[-aE,-ax,og,cH,u0,kK,p,l,Z,I,ay,AV.ai,dX,di];exact ki
 |true=>
  rw[G]at Z;simp[-aE,-ax,og,cH,u0,kK,p,l,Z,I,ay,AV.ai,dX,di];exact pS
 by_cases h8:e.k=8;have C:=nil 8 h8 (by simp);subst C;rw[h8];have m:mR c.H c.V 8 e.nm e.on e.od []=Ka ((dw c.H.rs e.on e.od).2&&decide ((dw c.H.rs e.on e.od).1.b=3)&&decide ((dw c.H.rs e.on e.od).1.d=0)) (dw c.H.rs e.on e.od).1:=rfl;rw[m];refine jL (sf:=og) rfl rfl rfl ?_;unfold tyV at l;generalize dw c.H.rs e.on e.od=tt at *;obtain⟨t,b⟩:=tt;generalize c.bO=o at *;cases b;simp[-aE,-ax,og,cH,u0,kK,p,l,I,ay,AV.ai,dX,di];exact ki;by_cases D:t.d=0;have DU:(t.d=0)=True:=eq_true D;by_cases v:t.b=3;have G:mh t=true:=by unfold mh;simp[v]
 rw[G]at Z;rw[cz v,cz D];simp[-aE,-ax,og,cH,u0,kK,p,l,Z,DU,I,ay,AV.ai,dX,di];exact pS;have G:mh t=false:=by unfold mh;simp[v,D]
 rw[G]at Z;rw[eX v];simp[-aE,-ax,og,cH,u0,kK,p,l,Z,I,ay,AV.ai,dX,di];exact ki;cases G:mh t with
 |false=>
  rw[G]at Z;simp[-aE,-ax,og,cH,u0,kK,p,l,Z,D,I,ay,AV.ai,dX,di];exact ki
 |true=>
  rw[G]at Z;simp[-aE,-ax,og,cH,u0,kK,p,l,Z,D,I,ay,AV.ai,dX,di];exact ki
 by_cases h4:e.k=4;have C:=nil 4 h4 (by simp);subst C;rw[h4];have m:mR c.H c.V 4 e.nm e.on e.od []=ue c.H c.V e.nm:=rfl;rw[m];refine jL (sf:=og) rfl rfl rfl ?_;generalize ue c.H c.V e.nm=vt,c.bO=o at *;cases vt with
 |none=>
  simp[-aE,-ax,og,cH,u0,kK,eV,qE,I,ay,AV.ai];exact ki
 |some x=>
  simp[-aE,-ax,og,cH,u0,kK,eV,qE,I,ay,AV.ai];exact pS
 by_cases h9:e.k=9;obtain⟨y,rfl⟩:=one 9 h9 (by simp);rw[h9];have m:mR c.H c.V 9 e.nm e.on e.od [y]=Ka ((dw c.H.rs e.on e.od).2&&decide ((dw c.H.rs e.on e.od).1.d<3)&&decide (y.ty=tI)) ⟨(dw c.H.rs e.on e.od).1.b,(dw c.H.rs e.on e.od).1.r,(dw c.H.rs e.on e.od).1.d+1⟩:=rfl;rw[m];refine jL (sf:=og) rfl rfl rfl ?_;have M:IntKind.i64.wrap ((dw c.H.rs e.on e.od).1.d+1)=(dw c.H.rs e.on e.od).1.d+1:=by
  have:=T.1;have:=T.2.1;rw[dY]<;>omega
 unfold tyV at l;generalize dw c.H.rs e.on e.od=tt at *;obtain⟨t,b⟩:=tt;generalize c.bO=o at *;dsimp only;cases b;simp[-aE,-ax,og,cH,u0,kK,E.rows,E.aQ,p,l,M,I,ay,AV.ai,aD,dX,di,aC];exact ki;by_cases q:t.d<3;simp[-aE,-ax,og,eM,cH,iu,u0,kK,E.rows,E.aQ,p,l,P,K9.dI,q,M,I,ay,AV.ai,aD,dX,di,aC];exact EN;simp[-aE,-ax,og,cH,u0,kK,E.rows,E.aQ,p,l,q,M,I,ay,AV.ai,aD,dX,di,aC];exact ki;by_cases DQ:e.k=10;obtain⟨y,rfl⟩:=one 10 DQ (by simp);rw[DQ];have m:mR c.H c.V 10 e.nm e.on e.od [y]=Ka (decide (0<y.ty.d)) tI:=rfl;rw[m];refine jL (sf:=og) rfl rfl rfl ?_;generalize c.bO=o at *;simp[-aE,-ax,og,eM,cH,iu,u0,kK,E.rows,E.aQ,P,I,ay,AV.ai];exact EN;by_cases h6:e.k=6;obtain⟨x,y,rfl⟩:∃x y,g=[x,y]:=by
  have B:g.length=2:=by rw[h6]at w;simpa [ir] using w
  match g,B with
  |[x,y],_=>exact⟨x,y,rfl⟩
 rw[h6];have m:mR c.H c.V 6 e.nm e.on e.od [x,y]=Ka (decide (0<x.ty.d)&&decide (y.ty=tI)) ⟨x.ty.b,x.ty.r,x.ty.d-1⟩:=rfl;rw[m];have M:IntKind.i64.wrap (x.ty.d-1)=x.ty.d-1:=by
  have wx:=hw x (by simp);have:=wx.1;have:=wx.2.1;rw[dY]<;>omega
 refine jL (sf:=og) rfl rfl rfl ?_;generalize c.bO=o at *;by_cases q:0<x.ty.d;simp[-aE,-ax,og,eM,cH,iu,u0,kK,E.rows,E.aQ,P,K9.dI,q,M,I,ay,AV.ai,aD,aC];exact EN;simp[-aE,-ax,og,eM,cH,iu,u0,kK,E.rows,E.aQ,q,M,I,ay,AV.ai,aD,aC];exact ki;by_cases h5:e.k=5;obtain⟨y,rfl⟩:=one 5 h5 (by simp);rw[h5];have m:mR c.H c.V 5 e.nm e.on e.od [y]=zG c.H y.ty e.nm:=rfl;rw[m];refine jL (sf:=og) rfl rfl rfl ?_;have hzs:cN 2 (aM 2 (c.H.bJ.map fQ))=true:=ji (by simp[cr,fQ]);have Av:bf (aM 2 (c.H.bJ.map fQ))=true:=bL;have Lv:aY (aM 2 (c.H.bJ.map fQ))=c.H.bJ.map fQ:=bn;generalize aM 2 (c.H.bJ.map fQ)=SV,c.bO=o at *;unfold zG;by_cases v:y.ty.b=3;by_cases D:y.ty.d=0;rw[af ⟨v,D⟩];have wy:=(hw y (by simp)).2.2 v;rw[hRS]at wy;obtain⟨j,X⟩:∃j:Nat,y.ty.r=j:=⟨y.ty.r.toNat,by omega⟩;have vm:j<c.H.bJ.length:=by omega
 have hg:c.H.bJ[j]?=some c.H.bJ[j]:=aas vm;have hF:=hs.F _ (acH vm);have Q:∀h:j<(c.H.bJ.map fQ).length,(c.H.bJ.map fQ)[j]=[.str c.H.bJ[j].1,cG c.H.bJ[j].2]:=λh=>by simp[fQ]
 have O:j<(c.H.bJ.map fQ).length:=by simpa using vm
 have awv:=Q O;clear Q;generalize c.H.bJ[j]=s,c.H.bJ.map fQ=RS at *;rw[X,Int.toNat_natCast,hg];simp only;have W:cN 4 (cG s.2)=true:=vC;have nU:bf (cG s.2)=true:=iD;have L:aY (cG s.2)=s.2.map Vd.aI:=sA;have TR:(cG s.2).ai=cG s.2:=lu;generalize cG s.2=PV at *;simp[-aE,-ax,og,eM,cH,iu,cT,esh,hzs,Lv,O,awv,TR,u0,kK,E.rows,E.aQ,v,D,X,I,ay,AV.ai,aD,aC];refine bN VC.eq_1 (λi:Nat=>⟨[(2,.val (.ptr (pre.length+(r0.length+1)) 0 0 0)),(4,.fp 0 0),(16,.val PV),(17,.val (.int .i64 i))],[[.int .i64 5,.int .i64 e.n,.str e.nm,.str e.on,.int .i64 e.od,kv,.int .i64 e.a,.int .i64 e.ty.b,.int .i64 e.ty.r,.int .i64 e.ty.d,.int .i64 e.ref],[],[],[],[],[.int .i64 3,.int .i64 j,.int .i64 0]],
   pre++o::(r0++[.rows 0 11 [mz 5 0 e.nm [] 0 (.mu (pre.length+(r0.length+1+1)) 0) e.a T0 0],.rows 0 11 [[.int .i64 y.k,.int .i64 y.n,.str y.nm,.str y.on,.int .i64 y.od,bG y.aN,.int .i64 y.a,.int .i64 3,.int .i64 j,.int .i64 0,.int .i64 y.ref]]])⟩)
  (λi=>i<=s.2.length/\jj e.nm 0 s.2=jj e.nm i (s.2.drop i)) (λi=>s.2.length-i) 0 (by simp) ⟨by simp,by simp⟩ ?_
 rintro i ⟨hi,N⟩ ih;by_cases Zh:i<s.2.length;have hwi:=wk i (by omega);rw[Ck Zh]at N;by_cases q:s.2[i].nm=e.nm;rw[af q]at N;rw[N];simp[-aE,-ax,cH,cT,W,nU,L,TR,Zh,q,Vd.aI,ay,AV.ai,aD,aC];exact pS;rw[U q]at N;simp[-aE,-ax,cT,W,nU,L,TR,Zh,q,hwi,Vd.aI,AV.ai,aD,aC];exact ih (i+1) ⟨by omega,N⟩ (by omega);have gW:i=s.2.length:=by omega
 have ee:jj e.nm 0 s.2=none:=by rw[N,gW,aep];rfl
 rw[ee];simp[-aE,-ax,nU,L,Zh];exact ki;rw[U (λh=>D h.2)];simp[-aE,-ax,og,eM,cH,iu,u0,kK,E.rows,E.aQ,v,D,I,ay,AV.ai];exact ki;rw[U (λh=>v h.1)];simp[-aE,-ax,og,eM,cH,iu,u0,kK,E.rows,E.aQ,v,I,ay,AV.ai];exact ki;have h7:e.k=7:=by
  have:(0:Int)<e.k:=by
   apply Classical.byContradiction;intro hc;unfold ir at w;rw[U (by omega),U h2,U (by omega),U (by omega)]at w;simp[h6]at w;omega
  omega
 rw[h7];have m:mR c.H c.V 7 e.nm e.on e.od g=qZ c.H e.nm g:=rfl;rw[m];obtain⟨v',J,e1,e2⟩:=ecl ((pre++c.bO::(r0++.rows 0 11 [mz 7 0 [] [] 0 (u0 (pre.length+(r0.length+1+1)) g) e.a T0 0]::kK g)).length) 7 0 [] [] 0 e.a 0 T0;refine⟨v',J,?_,e2⟩;obtain⟨b,Y,rfl,rfl,_⟩:=e2;simp only[aeo,List.length_append,h7]at e1;have hkc:(u0 (pre.length+(r0.length+1+1)) g).cM=true:=by unfold u0;split<;>rfl
 generalize c.bO=o,u0 (pre.length+(r0.length+1+1)) g=kw,kK g=K at *;refine aG (sf:=og) rfl rfl rfl ?_;simp[-aE,-ax,og,e1,I,Sq,AV.ai]
end R9
namespace R9
open Ax Go aO V7 iQ iZ K9
variable {pre:aj}
def OkX(pre:aj)(c:CK)(e:E):Prop:=match xX c.H c.V e with
 |.ok y=>∀k r,(aZ S).call 0 k 152 [.ptr pre.length 0 0 0,.agg e.aI] (pre++c.bO::r)=some (.agg y.aI,pre++c.bO::r)|.error a=>∀k r,(aZ S).call 0 k 152 [.ptr pre.length 0 0 0,.agg e.aI] (pre++c.bO::r)=some (.agg E0.aI,pre++(c.fail a).bO::r)
def Zn(pre:aj)(c:CK)(e:E):Prop:=match Q4 c e with
 |.ok y=>∀k r,(aZ S).call 0 k 153 [.ptr pre.length 0 0 0,.agg e.aI] (pre++c.bO::r)=some (.agg y.aI,pre++c.bO::r)|.error a=>∃y:E,∀k r,(aZ S).call 0 k 153 [.ptr pre.length 0 0 0,.agg e.aI] (pre++c.bO::r)=some (.agg y.aI,pre++(c.fail a).bO::r)
theorem Oy:E0.aI=[.int .i64 0,.int .i64 0,.str [],.str [],.int .i64 0,.aF,.int .i64 0,.int .i64 0,.int .i64 0,.int .i64 0,.int .i64 0]:=by simp[E0,E.aI,E.rows]
theorem aq5{H:Hd}{V:List Vd}{e y:E}(h:xX H V e=.ok y):y.a=e.a:=by
 obtain⟨K,t,r,_,_,_,rfl⟩:=qj h
 rfl
theorem Rt(c:CK)(e:E)(t:c.fe=0)(h:OkX pre c e):Zn pre c e:=by
 unfold OkX at h;unfold Zn Q4;have m:=λk r=>iS (pre:=pre) k c r;rw[cz t]at m;have I:bf (bG e.aN)=true:=ck;have s:(bG e.aN).ai=bG e.aN:=bY;cases l:xX c.H c.V e with
 |error a=>
  rw[l]at h;simp only at h ⊢;refine⟨E0,λk r=>?_⟩;have F:=uY (c:=c) (a:=a);have w:=λk r=>iS (pre:=pre) k (c.fail a) r;rw[eX F]at w;rw[Oy]at h ⊢;rw[E.aQ e]at h ⊢;generalize (c.fail a).bO=O,c.bO=o,bG e.aN=K at *;refine aG (sf:=To) rfl rfl rfl ?_;simp[-aE,-ax,To,h,w,I,s,ay,AV.ai]
 |ok y=>
  rw[l]at h;simp only at h ⊢;have p:=aq5 l;have g:bf (bG y.aN)=true:=ck;have j:(bG y.aN).ai=bG y.aN:=bY;by_cases q:y.ty=T0;rw[af q];refine⟨y,λk r=>?_⟩;have n:=λk r=>kJ (pre:=pre) k c e.a r;rw[show c.fail y.a=c.fail e.a by rw[p]];rw[E.aQ e]at h ⊢;rw[E.aQ y]at h ⊢;generalize (c.fail e.a).bO=O,c.bO=o,bG e.aN=K,bG y.aN=Y at *;refine aG (sf:=To) rfl rfl rfl ?_;simp[-aE,-ax,To,h,m,q,n,I,s,g,j,ay,AV.ai];rw[U q];intro k r;rw[E.aQ e]at h ⊢;rw[E.aQ y]at h ⊢;generalize c.bO=o,bG e.aN=K,bG y.aN=Y at *;refine aG (sf:=To) rfl rfl rfl ?_;simp[-aE,-ax,To,h,m,d0,q,I,s,g,j,ay,AV.ai]
theorem EO{n k:Nat}{o:dJ}{r0 K:aj}{C:List AV}{v:AV}{B:bK}(h:v.cells.length=n)(H:AV.bC v.cells=true)(j:k+v.cells.length<=C.length) :
  bz 0 (pre.length+(r0.length+1)) (.store n) [.val (.ptr (pre.length+(r0.length+1)) 0 0 k),.val v] (pre++o::(r0++.rows 0 11 [C]::K)) B=some (.none,pre++o::(r0++.rows 0 11 [ay C k v.cells]::K),B):=by
 rw[ax,af ⟨h,H⟩];simp[fR,bu,j]
theorem We{g n j k w:Nat}{o X:dJ}{r0 K:aj}{rows:List (List AV)}{h:List AV}{v:AV}{B:bK}(q:rows[j]?=some h)(H:v.cells.length=n)(l:AV.bC v.cells=true)(m:k+v.cells.length<=h.length)(p:AV.aB v.cells=true) :
  bz 0 g (.store n) [.val (.ptr (pre.length+(r0.length+1+1)) w j k),.val v] (pre++o::(r0++X::.rows w 11 rows::K)) B=some (.none,pre++o::(r0++X::.rows w 11 (rows.set j (ay h k v.cells))::K),B):=by
 rw[ax,af ⟨H,l⟩];simp[fR,bu,m,p,q]
def Bs:List AV:=[.int .i64 0,.int .i64 0,.str [],.str [],.int .i64 0,.aF,.int .i64 0,.int .i64 0,.int .i64 0,.int .i64 0,.int .i64 0]
theorem Yz(c:CK)(e:E)(hf:c.fe=0)(hn:e.aN.length<1000000000)(hl:∀x∈e.aN,OkX pre c x)(_lim:Nat)(r0:aj){rs:List jv}{Q:Ex->St->Prop}{kk:List uQ}(B:List AV)(m:AV)(U:m=bG e.aN)(N:List AV)(g9:N=[.int .i64 e.k,.int .i64 e.n,.str e.nm,.str e.on,.int .i64 e.od,m,.int .i64 e.a,.int .i64 e.ty.b,.int .i64 e.ty.r,.int .i64 e.ty.d,.int .i64 e.ref])
  (Jy:∀Y,rF c.H c.V e.aN=.ok Y->W S 0 (pre.length+(r0.length+1)) rs Q kk .normal ⟨[(0,.val (.ptr pre.length 0 0 0)),(3,.fp 0 0),(4,.fp 1 0),(6,.val (.ptr (pre.length+(r0.length+1)) 0 0 0))],[N,B],pre++c.bO::(r0++.rows 0 11 [mz e.k 0 [] [] 0 (u0 (pre.length+(r0.length+1+1)) Y) e.a T0 0]::kK Y)⟩)
  (ee:∀a X K,rF c.H c.V e.aN=.error a->W S 0 (pre.length+(r0.length+1)) rs Q kk .normal ⟨[(0,.val (.ptr pre.length 0 0 0)),(3,.fp 0 0),(4,.fp 1 0),(6,.val (.ptr (pre.length+(r0.length+1)) 0 0 0))],[N,B],pre++(c.fail a).bO::(r0++X::K)⟩) :
  W S 0 (pre.length+(r0.length+1)) rs Q (.code (.loop uS)::.kC 0::kk) .normal ⟨[(0,.val (.ptr pre.length 0 0 0)),(3,.fp 0 0),(4,.fp 1 0),(6,.val (.ptr (pre.length+(r0.length+1)) 0 0 0)),(7,.val (.int .i64 0))],[N,B],pre++c.bO::(r0++[.rows 0 11 [mz e.k 0 [] [] 0 .aF e.a T0 0]])⟩:=by
 subst g9;have hz:cN 11 m=true:=by rw[U];exact nC
 have M:bf m=true:=by rw[U];exact ck
 have v:m.ai=m:=by rw[U];exact bY
 have J:aY m=E.rows e.aN:=by rw[U];exact bn
 have mT:=λs r=>iS (pre:=pre) s c r;rw[cz hf]at mT;refine bN uS.eq_1 (λx:Nat×List E×Option (Int×dJ×aj)=>⟨[(0,.val (.ptr pre.length 0 0 0)),(3,.fp 0 0),(4,.fp 1 0),(6,.val (.ptr (pre.length+(r0.length+1)) 0 0 0)),(7,.val (.int .i64 x.1))],[[.int .i64 e.k,.int .i64 e.n,.str e.nm,.str e.on,.int .i64 e.od,m,.int .i64 e.a,.int .i64 e.ty.b,.int .i64 e.ty.r,.int .i64 e.ty.d,.int .i64 e.ref],B],
   match x.2.2 with
   |none=>pre++c.bO::(r0++.rows 0 11 [mz e.k 0 [] [] 0 (u0 (pre.length+(r0.length+1+1)) x.2.1) e.a T0 0]::kK x.2.1)|some (a,X,K)=>pre++(c.fail a).bO::(r0++X::K)⟩)
  (λx=>x.1<=e.aN.length/\match x.2.2 with
   |none=>x.2.1.length=x.1/\F2 x.2.1 (rF c.H c.V (e.aN.drop x.1))=rF c.H c.V e.aN|some (a,_,_)=>rF c.H c.V e.aN=.error a) (λx=>e.aN.length-x.1) (0,[],none) rfl ⟨by simp,rfl,by simp[F2];split<;>rename_i h<;>exact h.symm⟩ ?_
 rintro⟨j,Y,q⟩ ⟨hj,I⟩ T;simp only at hj I T;cases q with
 |some q=>
  obtain⟨a,X,K⟩:=q;simp only at I ⊢;have Fp:=uY (c:=c) (a:=a);have wR:=λs r=>iS (pre:=pre) s (c.fail a) r;rw[eX Fp]at wR;have T6:=ee a X K I;generalize (c.fail a).bO=o2 at *;by_cases F:j<e.aN.length;simp[-aE,-ax,M,v,J,F,wR];exact T6;simp[-aE,-ax,M,v,J,F];exact T6
 |none=>
  simp only at I ⊢;obtain⟨hy,t⟩:=I;by_cases F:j<e.aN.length;have hw:=wk j (by omega);have p:=Rt (pre:=pre) c e.aN[j] hf (hl _ (acH F));unfold Zn at p;rw[Q5 F]at t;have gE:=Mu F;have CW:=λD=>Bo F D;have mg:j<(E.rows e.aN).length:=by simpa using F
  have Z:=CW mg;clear CW;have region:∀(b:aT) (hb:b=uS) (d:dJ) (y:E),(∀s r,(aZ S).call 0 s 153 [.ptr pre.length 0 0 0,.agg e.aN[j].aI] (pre++c.bO::r)=some (.agg y.aI,pre++d::r))->
    W S 0 (pre.length+(r0.length+1)) rs Q (.code (.loop uS)::.kC 0::kk) .normal ⟨[(0,.val (.ptr pre.length 0 0 0)),(3,.fp 0 0),(4,.fp 1 0),(6,.val (.ptr (pre.length+(r0.length+1)) 0 0 0)),(7,.val (.int .i64 ((j+1:Nat):Int)))],[[.int .i64 e.k,.int .i64 e.n,.str e.nm,.str e.on,.int .i64 e.od,m,.int .i64 e.a,.int .i64 e.ty.b,.int .i64 e.ty.r,.int .i64 e.ty.d,.int .i64 e.ref],B],
     pre++d::(r0++.rows 0 11 [mz e.k 0 [] [] 0 (u0 (pre.length+(r0.length+1+1)) (Y++[y])) e.a T0 0]::kK (Y++[y]))⟩->
    W S 0 (pre.length+(r0.length+1)) rs Q (.code b::.yx uS::.kC 0::kk) .normal ⟨[(0,.val (.ptr pre.length 0 0 0)),(3,.fp 0 0),(4,.fp 1 0),(6,.val (.ptr (pre.length+(r0.length+1)) 0 0 0)),(7,.val (.int .i64 j))],[[.int .i64 e.k,.int .i64 e.n,.str e.nm,.str e.on,.int .i64 e.od,m,.int .i64 e.a,.int .i64 e.ty.b,.int .i64 e.ty.r,.int .i64 e.ty.d,.int .i64 e.ref],B],
     pre++c.bO::(r0++.rows 0 11 [mz e.k 0 [] [] 0 (u0 (pre.length+(r0.length+1+1)) Y) e.a T0 0]::kK Y)⟩:=by
   intro b hb d y O P;rw[uS.eq_1]at hb;subst hb;rw[E.aQ e.aN[j]]at O gE Z;have L:bf (bG y.aN)=true:=ck;have hyw:(bG y.aN).ai=bG y.aN:=bY;rw[E.aQ y]at O;generalize e.aN[j]=x,c.bO=o at *;clear T ee Jy hl p;cases Y with
   |nil=>
    simp only[u0,kK,List.isEmpty_nil,bh];simp[-aE,-ax,M,v,J,F,mT];rw[gO];have hwl:IntKind.i64.wrap (0:Int)=0:=(by decide);simp[-aE,-ax,cR,eM,EO,We,L,cr,cZ,v,J,hz,F,Z,cT,O,ay,AV.ai];refine⟨_,_,⟨rfl,rfl⟩,?_⟩;simp[-aE,-ax,eR,cw,xSt,eM,EO,di,hw,ay,AV.ai,fz.cU,AV.cU];simp only[List.nil_append,u0,kK,E.rows,E.aQ y,amC,acC,br]at P;exact P
   |cons C l=>
    have G:W S 0 (pre.length+(r0.length+1)) rs Q (.code (.loop uS)::.kC 0::kk) .normal ⟨[(0,.val (.ptr pre.length 0 0 0)),(3,.fp 0 0),(4,.fp 1 0),(6,.val (.ptr (pre.length+(r0.length+1)) 0 0 0)),(7,.val (.int .i64 ((j+1:Nat):Int)))],[[.int .i64 e.k,.int .i64 e.n,.str e.nm,.str e.on,.int .i64 e.od,m,.int .i64 e.a,.int .i64 e.ty.b,.int .i64 e.ty.r,.int .i64 e.ty.d,.int .i64 e.ref],B],
     pre++d::(r0++.rows 0 11 [mz e.k 0 [] [] 0 (.mu (pre.length+(r0.length+1+1)) (l.length+1)) e.a T0 0]::[.rows (l.length+1) 11 (E.rows (C::l)++[y.aI])])⟩:=by
     have h1:u0 (pre.length+(r0.length+1+1)) (C::l++[y])=.mu (pre.length+(r0.length+1+1)) (l.length+1):=(by simp[u0]);have D:kK (C::l++[y])=[.rows (l.length+1) 11 (E.rows (C::l)++[y.aI])]:=(by simp[kK,jq]);rw[h1,D]at P;exact P
    clear P;have g:(E.rows (C::l)).length=l.length+1:=(by simp);simp only[u0,kK,amC,acC,br,aeo,Nat.add_sub_cancel];rw[E.aQ y]at G;simp only[aeo]at hy;generalize E.rows (C::l)=R at *;have sR:∀(s:Nat) (o X:dJ) (new:List AV) (bx:bK),new.length=11->AV.aB new=true->bz 0 s (.jH 11 120) [.val (.mu (pre.length+(r0.length+1+1)) l.length),.val (.dV 11 [new])] (pre++o::(r0++[X,.rows l.length 11 R])) bx=some (.val (.mu (pre.length+(r0.length+1+1)) (l.length+1)),pre++o::(r0++[X,.rows (l.length+1) 11 (R++[new])]),bx):=λs o X new bx h1 D=>by
     simp[bz,tR,dG,fA,cr,h1,D,g,cZ];omega
    have i1:(0:Int)<=(l.length:Int)+1:=(by omega);have i2:(l.length:Int)<(l.length:Int)+1:=(by omega);have g1:∀z:List AV,(R++[z])[l.length+1]?=some z:=λz=>by rw[<-g];simp
    have g2:∀z w:List AV,(R++[z]).set (l.length+1) w=R++[w]:=λz w=>by rw[<-g];simp
    simp[-aE,-ax,M,v,J,F,mT];rw[gO];simp[-aE,-ax,cR,eM,EO,We,i1,i2,g2,L,sR,g,v,J,hz,F,Z,cT,O,ay,AV.ai];refine⟨_,_,⟨rfl,rfl⟩,?_⟩;simp[-aE,-ax,eR,cw,xSt,eM,EO,i1,i2,g,di,hw,ay,AV.ai,fz.cU,AV.cU];exact G
  cases hx:Q4 c e.aN[j] with
  |error a=>
   rw[hx]at t p;simp only at t p;obtain⟨y,p⟩:=p;exact region _ rfl _ y p (T (j+1,Y++[y],some (a,_,_)) ⟨by simp only;omega,t.symm⟩ (by simp only;omega))
  |ok y=>
   rw[hx]at t p;simp only at t p;exact region _ rfl _ y p (T (j+1,Y++[y],none) ⟨by simp only;omega,by simp[hy],t⟩ (by simp only;omega))
  have gW:j=e.aN.length:=by omega
  have hR:rF c.H c.V e.aN=.ok Y:=by
   rw[<-t,gW,aep];simp[rF,F2]
  have acR:=Jy Y hR;generalize c.bO=o at *;simp[-aE,-ax,M,v,J,F];exact acR
end R9
namespace R9
open Ax Go aO V7 iQ iZ K9
variable {pre:aj}
theorem alM(H:Hd)(V:List Vd)(e:E):xX H V e=if ir e.k e.n e.aN.length then
  match rF H V e.aN with
  |.error x=>.error x|.ok K=>match mR H V e.k e.nm e.on e.od K with
   |none=>.error e.a|some (t,r)=>.ok (.mk e.k (uD e.k e.n) (uf e.k e.nm) (uh e.k e.on) (uk e.k e.od) K e.a t r)
  else .error e.a:=by
 obtain⟨k,n,N,O,o,g,a,T,ref⟩:=e
 (conv=>lhs;unfold xX)<;>rfl
def jG:aT->aT
 |.seq _ b=>b|x=>x
def zQ:aT:=jG (jG (jG (jG (jG rS.body))))
theorem agP(_e:E)(a:Int)(c:CK)(r:aj)(o X:dJ)(K:aj)(h:List AV) :
  W S 0 (pre.length+(r.length+1)) rS.results (HH rS.results .mH (pre++o::r) (.agg E0.aI,pre++(c.fail a).bO::r)) [.code zQ] .normal ⟨[(0,.val (.ptr pre.length 0 0 0)),(3,.fp 0 0),(4,.fp 1 0),(6,.val (.ptr (pre.length+(r.length+1)) 0 0 0))],[h,Bs],pre++(c.fail a).bO::(r++X::K)⟩:=by
 have F:=uY (c:=c) (a:=a);have w:=λk r=>iS (pre:=pre) k (c.fail a) r;rw[eX F]at w;rw[Oy];generalize (c.fail a).bO=q at *;simp[-aE,-ax,zQ,jG,rS,w,Bs,ay,AV.ai]
theorem T7{w:Nat}{v:AV}{st:aj}(h:bf v=true):mM w v st=some (v.ai,st):=by
 cases v<;>simp_all [bf,mM,AV.aH,AV.cM]
theorem YA{w:Nat}{y:E}{st:aj}:lB w y.aI st=some (y.aI,st):=by
 have h:bf (bG y.aN)=true:=ck;have H:(bG y.aN).ai=bG y.aN:=bY;have j:mM w (bG y.aN) st=some (bG y.aN,st):=by rw[T7 h,H]
 have F:∀n,mM w (.int .i64 n) st=some (.int .i64 n,st):=λn=>rfl;have g:∀n,mM w (.str n) st=some (.str n,st):=λn=>rfl;rw[E.aQ];simp only[lB,j,F,g]
theorem Ky{w:Nat}{st:aj}:∀Y:List E,jV w (E.rows Y) st=some (E.rows Y,st)
 |[]=>rfl|y::Y=>by simp only[E.rows,jV,YA,Ky Y]
theorem acS{wl v:Nat}{o X:dJ}{r:aj}{ys:List E}(H:wl=0)(h:ys≠[]):jw wl (.mu (pre.length+(r.length+1+1)) v) (pre++o::(r++[X,.rows v 11 (E.rows ys)]))=some (.dV 11 (E.rows ys),pre++o::(r++[X,.rows (v+1) 11 []])):=by
 subst H;have g:(E.rows ys).isEmpty=false:=by cases ys with
  |nil=>exact au rfl h|cons y l=>rfl
 simp[jw,Ky];cases ys with
 |nil=>exact au rfl h|cons y l=>simp[E.rows]
theorem YB(g:Nat)(c:CK)(r0:aj)(e:E)(Y:List E)(j:ir e.k e.n Y.length=true)(t:12<=e.k) :
  ∃v s,(aZ S).call 0 g 167 [.ptr pre.length 0 0 0,.ptr (pre.length+(r0.length+1)) 0 0 0] (pre++c.bO::(r0++.rows 0 11 [mz e.k 0 [] [] 0 (u0 (pre.length+(r0.length+1+1)) Y) e.a T0 0]::kK Y))=some (v,s)/\
   Ow pre c.bO r0 (kK Y) (mR c.H c.V e.k e.nm e.on e.od Y) (mz e.k (uD e.k e.n) (uf e.k e.nm) (uh e.k e.on) (uk e.k e.od) (u0 (pre.length+(r0.length+1+1)) Y) e.a) v s:=by
 rw[Yx t];have K:uD e.k e.n=0:=U (by omega);have l:uf e.k e.nm=[]:=U (by omega);have o:uh e.k e.on=[]:=U (by omega);have p:uk e.k e.od=0:=U (by omega);rw[K,l,o,p];by_cases h:e.k=12\/e.k=13;obtain⟨y,rfl⟩:∃y,Y=[y]:=by
  have m:Y.length=1:=by rcases h with h|h<;>rw[h]at j<;>simpa [ir] using j
  match Y,m with
  |[y],_=>exact⟨y,rfl⟩
 rw[af h];exact⟨_,_,Yv (pre:=pre) g c.bO r0 e.k 0 [] [] 0 e.a 0 T0 y h,EN⟩;have D:14<=e.k:=by omega
 obtain⟨x,y,rfl⟩:∃x y,Y=[x,y]:=by
  have m:Y.length=2:=by
   unfold ir at j;rw[U (by omega),U (by omega),U (by omega),U (by omega)]at j;simp only[Bool.and_eq_true,aA]at j;exact j.2
  match Y,m with
  |[x,y],_=>exact⟨x,y,rfl⟩
 rw[U h];exact⟨_,_,Yw (pre:=pre) g c.bO r0 e.k 0 [] [] 0 e.a 0 T0 x y D,EN⟩
theorem Nk(o m:dJ)(r:aj)(ys:List E)(kk n:Int)(N g:List UInt8)(O a z:Int)(t:T3)(j:List AV)(_hrow:j.length=11) :
  W S 0 (pre.length+(r.length+1)) [jv.box 4 1 11 true] (HH [jv.box 4 1 11 true] .mH (pre++m::r) (.agg (mz kk n N g O (bG ys) a t z),pre++o::r))
  [.code (.qL 6 5),.code (.region [{ dst:=some 94,op:=.load true 11 false,args:=[.tmp 6 true],guard:=none },{ dst:=none,op:=.xM 1 11,args:=[.tmp 4 false,.tmp 94 true],guard:=none }] none []),.code .ret] .normal
  ⟨[(4,.fp 1 0),(6,.val (.ptr (pre.length+(r.length+1)) 0 0 0))],[j,Bs],pre++o::(r++.rows 0 11 [mz kk n N g O (u0 (pre.length+(r.length+1+1)) ys) a t z]::kK ys)⟩:=by
 have H:bf (bG ys)=true:=ck;have k:(bG ys).ai=bG ys:=bY;rw[DE];cases ys with
 |nil=>
  refine⟨pre.length+(r.length+1),0,0,0,.aF,.aF,pre++o::(r++[.rows 0 11 [mz kk n N g O .aF a t z]]),pre++o::(r++[.rows 0 11 [mz kk n N g O .aF a t z]]),rfl,?_,rfl,?_,?_⟩;simp[gm,u0,kK,cut];simp[fR,bu,ay];have U:bG []=.aF:=rfl;rw[U];simp[-aE,-ax,eM,Bs,ay,AV.ai]
 |cons y l=>
  have U:bG (y::l)=.dV 11 (E.rows (y::l)):=rfl;have h:=acS (pre:=pre) (wl:=0) (v:=(y::l).length-1) (o:=o) (X:=.rows 0 11 [mz kk n N g O (.mu (pre.length+(r.length+1+1)) ((y::l).length-1)) a t z]) (r:=r) (ys:=y::l) rfl (by simp);refine⟨pre.length+(r.length+1),0,0,0,.mu (pre.length+(r.length+1+1)) ((y::l).length-1),.dV 11 (E.rows (y::l)),_,pre++o::(r++[.rows 0 11 [mz kk n N g O (.dV 11 (E.rows (y::l))) a t z],.rows ((y::l).length-1+1) 11 []]),rfl,?_,h,?_,?_⟩;simp[gm,u0,kK,cut];simp[fR,bu,ay];rw[U];generalize E.rows (y::l)=R at *;simp[-aE,-ax,eM,Bs,ay,AV.ai]
theorem agQ(c:CK)(e:E)(r:aj)(F:dJ)(y:List E)(G:c.fe=0)(L:ED c)(I:y.length<1000000000)(C:ir e.k e.n y.length=true)(q:c.H.rs.length=c.H.bJ.length)(M:∀x∈y,WT c.H.rs.length x.ty) :
  W S 0 (pre.length+(r.length+1)) rS.results (HH rS.results .mH (pre++F::r) (match mR c.H c.V e.k e.nm e.on e.od y with
   |none=>(.agg E0.aI,pre++(c.fail e.a).bO::r)
   |some (t,z)=>(.agg (E.mk e.k (uD e.k e.n) (uf e.k e.nm) (uh e.k e.on) (uk e.k e.od) y e.a t z).aI,pre++c.bO::r))) [.code zQ] .normal
   ⟨[(0,.val (.ptr pre.length 0 0 0)),(3,.fp 0 0),(4,.fp 1 0),(6,.val (.ptr (pre.length+(r.length+1)) 0 0 0))],[[.int .i64 e.k,.int .i64 e.n,.str e.nm,.str e.on,.int .i64 e.od,bG e.aN,.int .i64 e.a,.int .i64 e.ty.b,.int .i64 e.ty.r,.int .i64 e.ty.d,.int .i64 e.ref],Bs],
    pre++c.bO::(r++.rows 0 11 [mz e.k 0 [] [] 0 (u0 (pre.length+(r.length+1+1)) y) e.a T0 0]::kK y)⟩:=by
 have m:=λj r=>iS (pre:=pre) j c r;rw[cz G]at m;have D:=λj r=>kJ (pre:=pre) j c e.a r;have R:bf (bG e.aN)=true:=ck;have B:(bG e.aN).ai=bG e.aN:=bY;have done:∀v s,Ow pre c.bO r (kK y) (mR c.H c.V e.k e.nm e.on e.od y) (mz e.k (uD e.k e.n) (uf e.k e.nm) (uh e.k e.on) (uk e.k e.od) (u0 (pre.length+(r.length+1+1)) y) e.a) v s->
   (12<=e.k->(aZ S).call 0 (pre.length+(r.length+1)) 167 [.ptr pre.length 0 0 0,.ptr (pre.length+(r.length+1)) 0 0 0] (pre++c.bO::(r++.rows 0 11 [mz e.k 0 [] [] 0 (u0 (pre.length+(r.length+1+1)) y) e.a T0 0]::kK y))=some (v,s))->
   (¬12<=e.k->(aZ S).call 0 (pre.length+(r.length+1)) 168 [.ptr pre.length 0 0 0,.agg e.aI,.ptr (pre.length+(r.length+1)) 0 0 0] (pre++c.bO::(r++.rows 0 11 [mz e.k 0 [] [] 0 (u0 (pre.length+(r.length+1+1)) y) e.a T0 0]::kK y))=some (v,s))->
   W S 0 (pre.length+(r.length+1)) rS.results (HH rS.results .mH (pre++F::r) (match mR c.H c.V e.k e.nm e.on e.od y with
    |none=>(.agg E0.aI,pre++(c.fail e.a).bO::r)
    |some (t,z)=>(.agg (E.mk e.k (uD e.k e.n) (uf e.k e.nm) (uh e.k e.on) (uk e.k e.od) y e.a t z).aI,pre++c.bO::r))) [.code zQ] .normal
    ⟨[(0,.val (.ptr pre.length 0 0 0)),(3,.fp 0 0),(4,.fp 1 0),(6,.val (.ptr (pre.length+(r.length+1)) 0 0 0))],[[.int .i64 e.k,.int .i64 e.n,.str e.nm,.str e.on,.int .i64 e.od,bG e.aN,.int .i64 e.a,.int .i64 e.ty.b,.int .i64 e.ty.r,.int .i64 e.ty.d,.int .i64 e.ref],Bs],
     pre++c.bO::(r++.rows 0 11 [mz e.k 0 [] [] 0 (u0 (pre.length+(r.length+1+1)) y) e.a T0 0]::kK y)⟩:=by
  rintro v s ⟨b,Y,rfl,rfl,g⟩ c1 c2;rw[E.aQ e]at c2;generalize bG e.aN=P at *;cases X:mR c.H c.V e.k e.nm e.on e.od y with
  |none=>
   rw[X]at g;simp only at g ⊢;subst g;rw[Oy];generalize (c.fail e.a).bO=Q,c.bO=o at *;by_cases T:12<=e.k;have c1:=c1 T;simp[-aE,-ax,zQ,jG,rS,m,c1,T,D,Bs,ay,AV.ai];have c2:=c2 T;simp[-aE,-ax,zQ,jG,rS,m,c2,T,D,Bs,B,ay,AV.ai]
  |some x=>
   obtain⟨t,z⟩:=x;rw[X]at g;obtain⟨rfl,rfl⟩:=g;simp only;have J:∀k n N w O K a (t:T3) z,(E.mk k n N w O K a t z).aI=[.int .i64 k,.int .i64 n,.str N,.str w,.int .i64 O,bG K,.int .i64 a,.int .i64 t.b,.int .i64 t.r,.int .i64 t.d,.int .i64 z]:=λk n N w O K a t z=>E.aQ _;rw[J];generalize c.bO=o at *;by_cases T:12<=e.k;have c1:=c1 T;simp[-aE,-ax,zQ,jG,rS,m,c1,T,AV.ai];exact Nk (pre:=pre) _ _ _ _ _ _ _ _ _ _ _ _ _ rfl;have c2:=c2 T;simp[-aE,-ax,zQ,jG,rS,m,c2,T,B,AV.ai];exact Nk (pre:=pre) _ _ _ _ _ _ _ _ _ _ _ _ _ rfl
 by_cases T:12<=e.k;obtain⟨v,s,l,p⟩:=YB (pre:=pre) (pre.length+(r.length+1)) c r e y C T;exact done v s p (λ_=>l) (λh=>au T h);obtain⟨v,s,l,p⟩:=Kk (pre:=pre) (pre.length+(r.length+1)) c r e y L I C (by omega) q M;exact done v s p (λh=>au h T) (λ_=>l)
theorem mS(c:CK)(hf:c.fe=0)(U:F3 c)(e:E):E.sz e<1000000000->OkX pre c e:=by
 induction e using E.Cf with
 |_ e ih=>
  intro eO;have zi:=E.rj e;have gW:=E.lF e.aN;have hl:∀x∈e.aN,OkX pre c x:=λx hx=>ih x hx (by have:=E.ri hx;omega);have L:=λwl l st=>xG wl l e.k st;have D:=T4 e.k e.n e.aN.length;have P:=λl r=>kJ (pre:=pre) l c e.a r;have mT:=λl r=>iS (pre:=pre) l c r;rw[cz hf]at mT;unfold OkX;rw[alM];have I:bf (bG e.aN)=true:=ck;have M:(bG e.aN).ai=bG e.aN:=bY;have O:aY (bG e.aN)=E.rows e.aN:=bn;have T:(E.rows e.aN).length=e.aN.length:=by simp
  cases hk:ir e.k e.n e.aN.length with
  |false=>
   rw[hk]at D;simp only[acC,br];intro l r;rw[Oy,E.aQ e];generalize Hp e.k=J,(c.fail e.a).bO=o2,c.bO=o,bG e.aN=kv,E.rows e.aN=RE at *;refine aG (sf:=rS) rfl rfl rfl ?_;by_cases m:J = -2;simp[-aE,-ax,rS,L,m,P,I,ay,AV.ai];by_cases p:0<=J;by_cases G:(e.aN.length:Int)=J;have g:e.k=2/\e.n≠0/\e.n≠1:=(by simpa [m,p,G] using D);have j:(e.k=2)=True:=eq_true g.1;have q:(e.n=0)=False:=eq_false g.2.1;have Y:(e.n=1)=False:=eq_false g.2.2;simp[-aE,-ax,rS,L,m,p,G,j,q,Y,P,I,M,O,T,ay,AV.ai];simp[-aE,-ax,rS,L,m,p,G,P,I,M,O,T,ay,AV.ai];have g:e.k=2/\e.n≠0/\e.n≠1:=(by simpa [m,p] using D);have j:(e.k=2)=True:=eq_true g.1;have q:(e.n=0)=False:=eq_false g.2.1;have Y:(e.n=1)=False:=eq_false g.2.2;simp[-aE,-ax,rS,L,m,p,j,q,Y,P,I,ay,AV.ai]
  |true=>
   rw[hk]at D;simp only[bh];have hRS:=U.H.rs;have w:∀(l:Nat) (r:aj) (v:AV) (st:aj),W S 0 (pre.length+(r.length+1)) rS.results (HH rS.results .mH (pre++c.bO::r) (v,st)) [.code (.loop uS),.kC 0,.code zQ] .normal
     ⟨[(0,.val (.ptr pre.length 0 0 0)),(3,.fp 0 0),(4,.fp 1 0),(6,.val (.ptr (pre.length+(r.length+1)) 0 0 0)),(7,.val (.int .i64 0))],[[.int .i64 e.k,.int .i64 e.n,.str e.nm,.str e.on,.int .i64 e.od,bG e.aN,.int .i64 e.a,.int .i64 e.ty.b,.int .i64 e.ty.r,.int .i64 e.ty.d,.int .i64 e.ref],Bs],
      pre++c.bO::(r++[.rows 0 11 [mz e.k 0 [] [] 0 .aF e.a T0 0]])⟩->(aZ S).call 0 l 152 [.ptr pre.length 0 0 0,.agg e.aI] (pre++c.bO::r)=some (v,st):=by
    intro l r v st go;rw[E.aQ e];generalize Hp e.k=J,c.bO=o,bG e.aN=kv,E.rows e.aN=RE at *;refine aG (sf:=rS) rfl rfl rfl ?_;have F:(e.k≠2)\/(e.k=2/\e.n=0)\/(e.k=2/\e.n≠0/\e.n=1):=by
     by_cases R:e.k=2;by_cases Z:e.n=0;exact .inr (.inl ⟨R,Z⟩);by_cases h4:e.n=1;exact .inr (.inr ⟨R,Z,h4⟩);simp[R,Z,h4]at D;exact .inl R
    have m:J≠-2:=λh=>by simp[h]at D
    by_cases p:0<=J;have G:(e.aN.length:Int)=J:=by
     apply Classical.byContradiction;intro h;simp[p,h]at D
    rcases F with g|⟨g,j⟩|⟨g,j,q⟩;simp[-aE,-ax,rS,L,m,p,G,g,I,M,O,T,cH,ay,AV.ai];exact go;have g:(e.k=2)=True:=eq_true g;have j:(e.n=0)=True:=eq_true j;simp[-aE,-ax,rS,L,m,p,G,g,j,I,M,O,T,cH,ay,AV.ai];exact go;have g:(e.k=2)=True:=eq_true g;have q:(e.n=1)=True:=eq_true q;simp[-aE,-ax,rS,L,m,p,G,g,j,q,I,M,O,T,cH,ay,AV.ai];exact go;rcases F with g|⟨g,j⟩|⟨g,j,q⟩;simp[-aE,-ax,rS,L,m,p,g,I,cH,ay,AV.ai];exact go;have g:(e.k=2)=True:=eq_true g;have j:(e.n=0)=True:=eq_true j;simp[-aE,-ax,rS,L,m,p,g,j,I,cH,ay,AV.ai];exact go;have g:(e.k=2)=True:=eq_true g;have q:(e.n=1)=True:=eq_true q;simp[-aE,-ax,rS,L,m,p,g,j,q,I,cH,ay,AV.ai];exact go
   have loop:=λr {rs:List jv} {Q:Ex->St->Prop} {kk:List uQ}=>Yz (pre:=pre) c e hf (by omega) hl 0 r (rs:=rs) (Q:=Q) (kk:=kk) Bs (bG e.aN) rfl _ rfl;cases C:rF c.H c.V e.aN with
   |error a=>
    simp only;intro l r;refine w l r _ _ (loop r (λys h=>by rw[C]at h;cases h) λa' X K h=>?_);rw[C]at h;cases h;exact agP (pre:=pre) e a c r c.bO X K _
   |ok ks=>
    simp only;have N:=nH C;have hwt:∀x∈ks,WT c.H.rs.length x.ty:=jy C λx hx y hy=>NT U.H U.V x y hy;have B:=λr=>agQ (pre:=pre) c e r c.bO ks hf U.s (by omega) (by rw[N];exact hk) hRS hwt;cases hT:mR c.H c.V e.k e.nm e.on e.od ks with
    |none=>
     simp only;intro l r;refine w l r _ _ (loop r (λys h=>?_) λa' X K h=>by rw[C]at h;cases h);rw[C]at h;cases h;have B:=B r;rw[hT]at B;exact B
    |some x=>
     obtain⟨t,z⟩:=x;simp only;intro l r;refine w l r _ _ (loop r (λys h=>?_) λa' X K h=>by rw[C]at h;cases h);rw[C]at h;cases h;have B:=B r;rw[hT]at B;exact B
end R9
namespace R9
open Ax Go aO V7 iQ iZ K9
variable {pre:aj}
variable{ah:Nat}{rs:List jv}{Q:Ex->St->Prop}
theorem acT{c:CK}{bx:bK}:bz 0 ah (.load false 1 true) [.val (.ptr pre.length 0 0 11)] (pre++[c.bO]) bx=some (.val (cq 4 (c.V.map Vd.aI)),pre++[c.Yl (cq 4 (c.V.map Vd.aI)).gi],bx):=by
 simp only[CK.bO,CK.Yl];generalize c.V.map Vd.aI=rows;cases rows with
 |nil=>simp[bz,cq,cut,gm,fR,bu,AV.gi,AV.aH,AV.aB,ay,bH]|cons a l=>simp[bz,cq,cut,gm,fR,bu,AV.gi,AV.aH,AV.aB,ay,bH]
theorem aiV{c:CK}{w:AV}{W:List Vd}{bx:bK}:bz 0 ah (.store 1) [.val (.ptr pre.length 0 0 11),.val (cq 4 (W.map Vd.aI))] (pre++[c.Yl w]) bx=some (.none,pre++[({ c with V:=W }:CK).bO],bx):=by
 simp[CK.bO,CK.Yl,bu,AV.aB,ay]
def HO(pre:aj)(c:CK)(s:Sm):Prop:=match Au c.H c.sg.bR c.sg.res c.V s with
 |.ok (y,W)=>∀ah,(aZ S).call 0 ah 134 [.ptr pre.length 0 0 0,.agg s.aI] (pre++[c.bO])=some (.agg y.aI,pre++[(c.cy W).bO])|.error a=>∀ah,∃W h,Oc h/\(aZ S).call 0 ah 134 [.ptr pre.length 0 0 0,.agg s.aI] (pre++[c.bO])=some (.agg h,pre++[((c.cy W).fail a).bO])
def Sn(pre:aj)(c:CK)(l:List Sm):Prop:=match nN c.H c.sg.bR c.sg.res c.V l with
 |.ok (y,W)=>∀ah,(aZ S).call 0 ah 88 [.ptr pre.length 0 0 0,bZ l] (pre++[c.bO])=some (cq 9 (Sm.rows y),pre++[(c.cy W).bO])|.error a=>∀ah,∃W v,bf v=true/\(aZ S).call 0 ah 88 [.ptr pre.length 0 0 0,bZ l] (pre++[c.bO])=some (v,pre++[((c.cy W).fail a).bO])
theorem Wf(c:CK)(s:Sm)(hf:c.fe=0)(hn:s.es.length<1000000000)(h9:s.k≠9)(hl:∀x∈s.es,OkX pre c x)(g:Nat){kk:List uQ}(B w z C:List AV)(D:Bool)(L t I M:Int)(X T:List UInt8)
  (n:List AV)(g9:n=s.aI)
  (Jy:∀Y,rF c.H c.V s.es=.ok Y->W S 0 g rs Q kk .normal ⟨[(0,.val (.ptr pre.length 0 0 0)),(3,.fp 0 0),(4,.fp 1 0),(5,.fp 2 0),(6,.fp 3 0),(7,.val (.bool D))],[n,B,[.int .i64 L,.str X,.str T,.int .i64 t,cq 11 (E.rows Y),.aF,.aF,.int .i64 I,.int .i64 M],w,z,C],pre++[c.bO]⟩)
  (ee:∀a v,bf v=true->rF c.H c.V s.es=.error a->W S 0 g rs Q kk .normal ⟨[(0,.val (.ptr pre.length 0 0 0)),(3,.fp 0 0),(4,.fp 1 0),(5,.fp 2 0),(6,.fp 3 0),(7,.val (.bool D))],[n,B,[.int .i64 L,.str X,.str T,.int .i64 t,v,.aF,.aF,.int .i64 I,.int .i64 M],w,z,C],pre++[(c.fail a).bO]⟩) :
  W S 0 g rs Q (.code (.loop qT)::.kC 0::kk) .normal ⟨[(0,.val (.ptr pre.length 0 0 0)),(3,.fp 0 0),(4,.fp 1 0),(5,.fp 2 0),(6,.fp 3 0),(7,.val (.bool D)),(10,.val (.int .i64 0))],[n,B,[.int .i64 L,.str X,.str T,.int .i64 t,.aF,.aF,.aF,.int .i64 I,.int .i64 M],w,z,C],pre++[c.bO]⟩:=by
 subst g9;rw[Sm.aQ]at *;have hz:cN 11 (bG s.es)=true:=nC;have m:bf (bG s.es)=true:=ck;have K:(bG s.es).ai=bG s.es:=bY;have J:aY (bG s.es)=E.rows s.es:=bn;have b1':bf (bZ s.bd)=true:=cQ;have mT:=λg r=>iS (pre:=pre) g c r;rw[cz hf]at mT;have sR:∀(Y:List E) (y:E),Y.length<1000000000->v8 11 120 (cq 11 (E.rows Y)) [y.aI]=some (cq 11 (E.rows (Y++[y]))):=λY y h=>by
  rw[gP (by simp[cr,E.aQ]) (by simp[cZ];omega)];simp[jq]
 generalize bG s.es=kv,bZ s.bd=bv,bZ s.el=lv at *;refine bN qT.eq_1 (λx:Nat×List E×Option Int=>⟨[(0,.val (.ptr pre.length 0 0 0)),(3,.fp 0 0),(4,.fp 1 0),(5,.fp 2 0),(6,.fp 3 0),(7,.val (.bool D)),(10,.val (.int .i64 x.1))],
   [[.int .i64 s.k,.str s.nm,.str s.on,.int .i64 s.od,kv,bv,lv,.int .i64 s.a,.int .i64 s.ref],B,[.int .i64 L,.str X,.str T,.int .i64 t,cq 11 (E.rows x.2.1),.aF,.aF,.int .i64 I,.int .i64 M],w,z,C],
   match x.2.2 with
   |none=>pre++[c.bO]|some a=>pre++[(c.fail a).bO]⟩)
  (λx=>x.1<=s.es.length/\x.2.1.length=x.1/\match x.2.2 with
   |none=>F2 x.2.1 (rF c.H c.V (s.es.drop x.1))=rF c.H c.V s.es|some a=>rF c.H c.V s.es=.error a) (λx=>s.es.length-x.1) (0,[],none) rfl ⟨by simp,rfl,by simp[F2];split<;>rename_i h<;>exact h.symm⟩ ?_
 rintro⟨j,Y,q⟩ ⟨hj,O,l⟩ P;simp only at hj l P O;cases q with
 |some a=>
  simp only at l ⊢;have Fp:=uY (c:=c) (a:=a);have wR:=λg r=>iS (pre:=pre) g (c.fail a) r;rw[eX Fp]at wR;have T6:=ee a (cq 11 (E.rows Y)) dM l;generalize (c.fail a).bO=o2 at *;by_cases F:j<s.es.length;simp[-aE,-ax,m,K,J,F,wR];exact T6;simp[-aE,-ax,m,K,J,F];exact T6
 |none=>
  simp only at l ⊢;by_cases F:j<s.es.length;have hw:=wk j (by omega);have p:=Rt (pre:=pre) c s.es[j] hf (hl _ (acH F));unfold Zn at p;rw[Q5 F]at l;have gE:=Mu F;have CW:=λh2=>Bo F h2;have mg:j<(E.rows s.es).length:=by simpa using F
  have Z:=CW mg;clear CW;cases hx:Q4 c s.es[j] with
  |error a=>
   rw[hx]at l p;simp only at l p;obtain⟨y,p⟩:=p;have ap:=sR Y y (by omega);have G:=P (j+1,Y++[y],some a) ⟨by simp only;omega,by simp[O],l.symm⟩ (by simp only;omega);simp only at G;have U:bf (cq 11 (E.rows (Y++[y])))=true:=dM;generalize cq 11 (E.rows (Y++[y]))=R,(c.fail a).bO=o2,c.bO=o at *;rw[E.aQ s.es[j]]at p gE Z;rw[E.aQ y]at p ap;generalize s.es[j]=x at *;simp[-aE,-ax,cT,m,K,J,hz,F,h9,hw,Z,mT,p,ap,U,aD,aC,ay,AV.ai];exact G
  |ok y=>
   rw[hx]at l p;simp only at l p;have ap:=sR Y y (by omega);have G:=P (j+1,Y++[y],none) ⟨by simp only;omega,by simp[O],l⟩ (by simp only;omega);simp only at G;have U:bf (cq 11 (E.rows (Y++[y])))=true:=dM;generalize cq 11 (E.rows (Y++[y]))=R,c.bO=o at *;rw[E.aQ s.es[j]]at p gE Z;rw[E.aQ y]at p ap;generalize s.es[j]=x at *;simp[-aE,-ax,cT,m,K,J,hz,F,h9,hw,Z,mT,p,ap,U,aD,aC,ay,AV.ai];exact G
  have gW:j=s.es.length:=by omega
  have hR:rF c.H c.V s.es=.ok Y:=by
   rw[<-l,gW,aep];simp[rF,F2]
  have N:=Jy Y hR;generalize c.bO=o at *;simp[-aE,-ax,m,K,J,F];exact N
theorem agR(c:CK)(s:Sm)(e:E)(hf:c.fe=0)(Z:s.k=9)(mZ:s.es=[e])(g:OkX pre c e)(j:Nat){kk:List uQ}(B p z C:List AV)(D:Bool)(L t I x:Int)(X T:List UInt8)
  (l:List AV)(Y:l=s.aI)
  (O:∀y,xX c.H c.V e=.ok y->W S 0 j rs Q kk .normal ⟨[(0,.val (.ptr pre.length 0 0 0)),(3,.fp 0 0),(4,.fp 1 0),(5,.fp 2 0),(6,.fp 3 0),(7,.val (.bool D))],[l,B,[.int .i64 L,.str X,.str T,.int .i64 t,cq 11 (E.rows [y]),.aF,.aF,.int .i64 I,.int .i64 x],p,z,C],pre++[c.bO]⟩)
  (U:∀a v,bf v=true->xX c.H c.V e=.error a->W S 0 j rs Q kk .normal ⟨[(0,.val (.ptr pre.length 0 0 0)),(3,.fp 0 0),(4,.fp 1 0),(5,.fp 2 0),(6,.fp 3 0),(7,.val (.bool D))],[l,B,[.int .i64 L,.str X,.str T,.int .i64 t,v,.aF,.aF,.int .i64 I,.int .i64 x],p,z,C],pre++[(c.fail a).bO]⟩) :
  W S 0 j rs Q (.code (.loop qT)::.kC 0::kk) .normal ⟨[(0,.val (.ptr pre.length 0 0 0)),(3,.fp 0 0),(4,.fp 1 0),(5,.fp 2 0),(6,.fp 3 0),(7,.val (.bool D)),(10,.val (.int .i64 0))],[l,B,[.int .i64 L,.str X,.str T,.int .i64 t,.aF,.aF,.aF,.int .i64 I,.int .i64 x],p,z,C],pre++[c.bO]⟩:=by
 subst Y;rw[Sm.aQ]at *;rw[mZ]at *;have w:cN 11 (bG [e])=true:=nC;have n:bf (bG [e])=true:=ck;have K:(bG [e]).ai=bG [e]:=bY;have J:aY (bG [e])=[e.aI]:=bn;have q:=λj r=>iS (pre:=pre) j c r;rw[cz hf]at q;have F:∀y:E,v8 11 120 .aF [y.aI]=some (cq 11 (E.rows [y])):=λy=>by
  have:=gP (sz:=11) (bytes:=120) (r:=[]) (new:=[y.aI]) (by simp[cr,E.aQ]) (by simp[cZ]);exact this
 have hw:IntKind.i64.wrap (0+1:Int)=1:=by decide
 rw[Z]at *;generalize bG [e]=kv,bZ s.bd=bv,bZ s.el=lv at *;unfold OkX at g;rw[zm qT.eq_1];cases m:xX c.H c.V e with
 |error a=>
  rw[m]at g;simp only at g;have P:=λv h=>U a v h m;have G:=uY (c:=c) (a:=a);have wR:=λj r=>iS (pre:=pre) j (c.fail a) r;rw[eX G]at wR;have ap:=F E0;have M:bf (cq 11 (E.rows [E0]))=true:=dM;generalize cq 11 (E.rows [E0])=R,(c.fail a).bO=o2,c.bO=o at *;rw[E.aQ e]at g J;rw[E.aQ E0]at g ap;simp[-aE,-ax,cT,n,K,J,w,q,g,ap,M,aD,aC,ay,AV.ai];show W S 0 j rs Q (.code (.loop qT)::.kC 0::kk) .normal _;rw[zm qT.eq_1];simp[-aE,-ax,n,K,J];exact P _ M
 |ok y=>
  rw[m]at g;simp only at g;have N:=O y m;have ap:=F y;have M:bf (cq 11 (E.rows [y]))=true:=dM;generalize cq 11 (E.rows [y])=R,c.bO=o at *;rw[E.aQ e]at g J;rw[E.aQ y]at g ap;simp[-aE,-ax,cT,n,K,J,w,q,g,ap,M,aD,aC,ay,AV.ai];show W S 0 j rs Q (.code (.loop qT)::.kC 0::kk) .normal _;rw[zm qT.eq_1];simp[-aE,-ax,n,K,J];exact N
end R9
