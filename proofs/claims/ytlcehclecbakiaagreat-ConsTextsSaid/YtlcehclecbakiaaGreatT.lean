/- Part of a proof. -/
import Derived.Test.YtlcehclecbakiaaGreatD
import Derived.Test.YtlcehclecbakiaaGreatO

open List renaming drop_length→abp,getElem_mem→aar,getElem?_eq_getElem→aao,length_cons→abq,isEmpty_cons→ag7
open Bool renaming false_eq_true→aaq
set_option maxRecDepth 100000
set_option maxHeartbeats 8000000
namespace R9
open Ax Go aF V7 jw jX K9
variable {pre:ag}
theorem anV{α:Type}{l:List α}(p:List α)(i:Nat):(p++l)[p.length+i]?=l[i]?:=by
 rw[List.getElem?_append_right (by omega)];simp
theorem ai6{α:Type}{l:List α}(p:List α)(i:Nat):(p++l).take (p.length+i)=p++l.take i:=by
 rw[List.take_append,List.take_of_length_le (by omega),Nat.add_sub_cancel_left]
attribute [simp] anV ai6
theorem anW{wl aa:Nat}{c:CK}{r:ag}{bx:br}:aU wl aa (.load false 1 false) [.val (.ptr pre.length 0 0 12)] (pre++c.aZ::r) bx=some (.val (.int .i64 c.fe),pre++c.aZ::r,bx):=by
 simp[CK.aZ,cut,AV.view]
theorem aeu{wl aa:Nat}{c:CK}{r:ag}{bx:br}:aU wl aa (.load false 1 false) [.val (.ptr pre.length 0 0 4)] (pre++c.aZ::r) bx=some (.val (aB 1 (jY c.H.rs)),pre++c.aZ::r,bx):=by
 simp[CK.aZ,cut,aB]
theorem anX{wl aa:Nat}{c:CK}{r:ag}{bx:br}:aU wl aa (.load false 1 false) [.val (.ptr pre.length 0 0 0)] (pre++c.aZ::r) bx=some (.val (aB 2 (c.H.bL.map gD)),pre++c.aZ::r,bx):=by
 simp[CK.aZ,cut]
theorem anY{wl aa:Nat}{c:CK}{r:ag}{bx:br}:aU wl aa (.load false 1 false) [.val (.ptr pre.length 0 0 1)] (pre++c.aZ::r) bx=some (.val (cj c.H.globals),pre++c.aZ::r,bx):=by
 simp[CK.aZ,cut]
theorem ai7{wl aa:Nat}{c:CK}{r:ag}{bx:br}:aU wl aa (.load false 1 false) [.val (.ptr pre.length 0 0 2)] (pre++c.aZ::r) bx=some (.val (aB 6 (c.H.sigs.map Sg.row)),pre++c.aZ::r,bx):=by
 simp[CK.aZ,cut]
theorem AW{wl aa:Nat}{c:CK}{r:ag}{bx:br}:aU wl aa (.load false 1 false) [.val (.ptr pre.length 0 0 7)] (pre++c.aZ::r) bx=some (.val (.bool c.sg.bg),pre++c.aZ::r,bx):=by
 simp[CK.aZ,cut,AV.view]
theorem CB{wl aa:Nat}{c:CK}{r:ag}{bx:br}:aU wl aa (.load true 3 false) [.val (.ptr pre.length 0 0 8)] (pre++c.aZ::r) bx=some (.val (.agg [.int .i64 c.sg.res.b,.int .i64 c.sg.res.r,.int .i64 c.sg.res.d]),pre++c.aZ::r,bx):=by
 simp[CK.aZ,cut,AV.view]
theorem WH{wl aa:Nat}{c:CK}{r:ag}{bx:br}:aU wl aa (.load false 1 false) [.val (.ptr pre.length 0 0 11)] (pre++c.aZ::r) bx=some (.val (cj c.V),pre++c.aZ::r,bx):=by
 simp[CK.aZ,cut,cj,aB]
theorem ai8{aa:Nat}{c:CK}{a:Int}{r:ag}{bx:br}:aU 0 aa (.store 2) [.val (.ptr pre.length 0 0 12),.val (.agg [.int .i64 3,.int .i64 a])] (pre++c.aZ::r) bx=some (.none,pre++({ c with fe:=3,fa:=a }:CK).aZ::r,bx):=by
 simp[CK.aZ,bD,AV.au,AV.ay,aj]
theorem gw(aa:Nat)(c:CK)(r:ag):(aP S).call 0 aa 72 [.ptr pre.length 0 0 0] (pre++c.aZ::r)=some (.bool (decide (c.fe=0)),pre++c.aZ::r):=by
 refine aO (sf:=s72) rfl rfl rfl ?_;simp[-an,-af,s72,anW]
theorem jj(aa:Nat)(c:CK)(a:Int)(r:ag):(aP S).call 0 aa 113 [.ptr pre.length 0 0 0,.int .i64 a] (pre++c.aZ::r)=some (.ir [],pre++(c.fail a).aZ::r):=by
 have e:=λaa=>gw (pre:=pre) aa c r;have ew:=λwl aa st=>U7.AU wl aa a st;refine aO (sf:=ZE) rfl rfl rfl ?_;unfold CK.fail;by_cases h:c.fe=0;rw[if_pos h];simp[-an,-af,ZE,e,ew,h,ai8];rw[if_neg h];simp[-an,-af,ZE,e,h]
theorem ck(wl aa:Nat)(st:ag):(aP S).call wl aa 117 [] st=some (.agg [.int .i64 2,.int .i64 0,.int .i64 0],st):=by
 refine aH (sf:=adJ) rfl rfl (by simp) rfl (by simp[AV.ay,AV.au]) ?_;simp[adJ,aj]
theorem cm(wl aa:Nat)(st:ag):(aP S).call wl aa 118 [] st=some (.agg [.int .i64 1,.int .i64 0,.int .i64 0],st):=by
 refine aH (sf:=adK) rfl rfl (by simp) rfl (by simp[AV.ay,AV.au]) ?_;simp[adK,aj]
def CC(k:Int):Int:=
 if k=1\/k=2\/k=3\/k=4\/k=8\/k=11 then 0
 else if k=5\/k=9\/k=10\/k=12\/k=13 then 1
 else if k=7 then -1
 else if k=6\/k=14\/k=15\/k=16\/k=17\/k=18\/k=19\/k=20\/k=21\/k=22\/k=23\/k=24 then 2
 else -2
theorem Dx(wl aa:Nat)(k:Int)(st:ag):(aP S).call wl aa 124 [.int .i64 k] st=some (.int .i64 (CC k),st):=by
 refine aH (sf:=pq) rfl rfl (by simp) rfl (by simp) ?_;unfold CC;by_cases h1:k=1;subst h1;simp[pq];by_cases h2:k=2;subst h2;simp[pq];by_cases h3:k=3;subst h3;simp[pq];by_cases h4:k=4;subst h4;simp[pq];by_cases h8:k=8;subst h8;simp[pq];by_cases yN:k=11;subst yN;simp[pq];by_cases h5:k=5;subst h5;simp[pq];by_cases h9:k=9;subst h9;simp[pq];by_cases Bi:k=10;subst Bi;simp[pq];by_cases tX:k=12;subst tX;simp[pq];by_cases Cw:k=13;subst Cw;simp[pq];by_cases h7:k=7;subst h7;simp[pq];by_cases h6:k=6;subst h6;simp[pq];by_cases F2:k=14;subst F2;simp[pq];by_cases HH:k=15;subst HH;simp[pq];by_cases AX:k=16;subst AX;simp[pq];by_cases Aa:k=17;subst Aa;simp[pq];by_cases FB:k=18;subst FB;simp[pq];by_cases CE:k=19;subst CE;simp[pq];by_cases CF:k=20;subst CF;simp[pq];by_cases N0:k=21;subst N0;simp[pq];by_cases N6:k=22;subst N6;simp[pq];by_cases Ke:k=23;subst Ke;simp[pq];by_cases X9:k=24;subst X9;simp[pq];simp[pq,h1,h2,h3,h4,h5,h6,h7,h8,h9,Bi,yN,tX,Cw,F2,HH,AX,Aa,FB,CE,CF,N0,N6,Ke,X9]
theorem N8(k n:Int)(m:Nat):iQ k n m = !(decide (CC k = -2)||(decide (0<=CC k) && !decide ((m:Int)=CC k))||(decide (k=2)&&(!decide (n=0) && !decide (n=1)))):=by
 have m0:((m:Int)=0)=(m=0):=by simp
 have m1:((m:Int)=1)=(m=1):=by apply propext;omega
 have m2:((m:Int)=2)=(m=2):=by apply propext;omega
 unfold iQ CC;by_cases h:k=1\/k=3\/k=4\/k=8\/k=11;rcases h with h|h|h|h|h<;>subst h<;>simp;by_cases h2:k=2;subst h2;by_cases q:n=0<;>by_cases p:n=1<;>simp[p,q];by_cases h7:k=7;subst h7;simp;by_cases h5:k=5\/k=9\/k=10\/k=12\/k=13;rcases h5 with h|h|h|h|h<;>subst h<;>simp[m1];rw[if_neg h,if_neg h2,if_neg h7,if_neg h5,if_neg (by omega),if_neg h5,if_neg h7];by_cases g:k=6\/14<=k/\k<=24;have e:(decide (k=6)||decide (14<=k)&&decide (k<=24))=true:=by simpa using g
 rw[if_pos (by omega),e];simp[m2,h2];have e:(decide (k=6)||decide (14<=k)&&decide (k<=24))=false:=by simp only[Bool.or_eq_false_iff,Bool.and_eq_false_iff,decide_eq_false_iff_not];omega
 rw[if_neg (by omega),e];simp
end R9
namespace R9
open Ax Go aF V7 jw jX K9
variable {pre:ag}
theorem jP(aa:Nat)(c:CK)(s:List UInt8)(r:ag)(hs:AO c):(aP S).call 0 aa 116 [.ptr pre.length 0 0 0,.str s] (pre++c.aZ::r)=some (Jk (rq c.H c.V s),pre++c.aZ::r):=by
 have hV:=hs.V;have hG:=hs.G;have hzV:bY 4 (cj c.V)=true:=rQ;have hzG:bY 4 (cj c.H.globals)=true:=rQ;have N9:aL (cj c.V)=true:=iL;have hsG:aL (cj c.H.globals)=true:=iL;have S2:aJ (cj c.V)=c.V.map Vd.row:=pK;have hrG:aJ (cj c.H.globals)=c.H.globals.map Vd.row:=pK;have Kf:=λwl aa bx=>WH (pre:=pre) (wl:=wl) (aa:=aa) (c:=c) (r:=r) (bx:=bx);have egl:=λwl aa bx=>anY (pre:=pre) (wl:=wl) (aa:=aa) (c:=c) (r:=r) (bx:=bx);generalize cj c.V=VV at *;generalize cj c.H.globals=GV at *;refine aO (sf:=adI) rfl rfl rfl ?_;generalize c.aZ=o at *;simp[-an,-af,adI];refine aT Pj.eq_1 (λq:Nat×Int=>⟨[(0,.val (.ptr pre.length 0 0 0)),(1,.val (.str s)),(5,.fp 0 0),(7,.val (.int .i64 q.1))],[[.int .i64 0,.int .i64 0,.int .i64 0]],pre++o::r⟩)
  (λq=>q.1<=c.V.length/\iw s 0 c.V=iw s q.1 (c.V.drop q.1)) (λq=>c.V.length-q.1) (0,0) (by simp) ⟨by simp,by simp⟩ ?_
 rintro⟨k,bb⟩ ⟨hk,hp⟩ ih;simp only at hk hp ih;by_cases aQ:k<c.V.length;have hw:=wk k (by omega);rw[yz aQ]at hp;by_cases e:c.V[k].nm=s;rw[if_pos e]at hp;unfold rq;rw[hp];simp[-an,-af,cg,Kf,N9,hzV,S2,aQ,e,Vd.row,Jk,ai,ah,aj];rw[if_neg e]at hp;simp[-an,-af,cg,Kf,N9,hzV,S2,aQ,e,Vd.row,hw];exact ih (k+1,0) ⟨by simp;omega,hp⟩ (by simp;omega);have cL:k=c.V.length:=by omega
 have iu:iw s 0 c.V=none:=by rw[hp,cL,abp];rfl
 simp[-an,-af,Kf,N9,S2,aQ];clear ih;refine aT Pk.eq_1 (λq:Nat×Int=>⟨[(0,.val (.ptr pre.length 0 0 0)),(1,.val (.str s)),(5,.fp 0 0),(8,.val (.int .i64 q.1))],[[.int .i64 0,.int .i64 0,.int .i64 0]],pre++o::r⟩)
  (λq=>q.1<=c.H.globals.length/\iw s 0 c.H.globals=iw s q.1 (c.H.globals.drop q.1)) (λq=>c.H.globals.length-q.1) (0,0) (by simp) ⟨by simp,by simp⟩ ?_
 rintro⟨k,bb⟩ ⟨hk,hp⟩ ih;simp only at hk hp ih;by_cases aQ:k<c.H.globals.length;have hw:=wk k (by omega);have nR:IntKind.i64.wrap (-1-(k:Int)) = -1-(k:Int):=by rw[cI]<;>omega
 rw[yz aQ]at hp;by_cases e:c.H.globals[k].nm=s;rw[if_pos e]at hp;unfold rq;rw[iu,hp];simp[-an,-af,cg,egl,hsG,hzG,hrG,aQ,e,nR,Vd.row,Jk,ai,ah,aj];rw[if_neg e]at hp;simp[-an,-af,cg,egl,hsG,hzG,hrG,aQ,e,Vd.row,hw];exact ih (k+1,0) ⟨by simp;omega,hp⟩ (by simp;omega);have cL:k=c.H.globals.length:=by omega
 have an2:iw s 0 c.H.globals=none:=by rw[hp,cL,abp];rfl
 unfold rq;rw[iu,an2];simp[-an,-af,egl,hsG,hrG,aQ,Jk,aj]
theorem yC(aa:Nat)(c:CK)(s:Sm)(r:ag)(_hn:s.es.length<1000000000):(aP S).call 0 aa 112 [.ptr pre.length 0 0 0,.agg s.row] (pre++c.aZ::r)=some (.bool (eu c.sg.bg s.k s.es),pre++c.aZ::r):=by
 have ff:=Sm.aE s;have hz:bY 11 (bf s.es)=true:=nM;have jB:aL (bf s.es)=true:=bQ;have kQ:(bf s.es).view=bf s.es:=bH;have jn:aJ (bf s.es)=E.rows s.es:=aM;have m0:((s.es.length:Int)=0)=(s.es.length=0):=by simp
 have m1:((s.es.length:Int)=1)=(s.es.length=1):=by apply propext;omega
 have m2:((s.es.length:Int)=2)=(s.es.length=2):=by apply propext;omega
 rw[ff];generalize s.k=k at *;unfold eu;have b1:aL (bN s.bd)=true:=cZ;have b2:(bN s.bd).view=bN s.bd:=bz;have l1:aL (bN s.el)=true:=cZ;have l2:(bN s.el).view=bN s.el:=bz;generalize bN s.bd=bv at *;generalize bN s.el=lv at *;have hc:=λwl aa bx=>AW (pre:=pre) (wl:=wl) (aa:=aa) (c:=c) (r:=r) (bx:=bx);generalize c.aZ=o at *;refine aO (sf:=pe) rfl rfl rfl ?_;by_cases h1:k=1;subst h1;generalize bf s.es=kv at *;by_cases q0:s.es.length=0;simp[-an,-af,pe,jB,kQ,jn,q0,b1,l1,AV.view];simp[-an,-af,pe,jB,kQ,jn,q0,b1,l1,AV.view];by_cases h4:k=4;subst h4;simp only[if_neg h1,if_true];match qU:s.es,jn,m2 with
 |[e,e2],jn,m2=>
  rw[qU]at hz jB kQ;simp only[E.rows]at jn;rw[E.aE e,E.aE e2]at jn;generalize bf [e,e2]=kv at *;by_cases q:e.k=5;simp[-an,-af,pe,cg,hz,jB,kQ,jn,q,b1,l1,AV.view];simp[-an,-af,pe,cg,hz,jB,kQ,jn,q,b1,l1,AV.view]
 |[],jn,m2=>
  rw[qU]at hz jB kQ;generalize bf []=kv at *;simp[-an,-af,pe,jB,kQ,jn,b1,l1,E.rows,AV.view]
 |[e],jn,m2=>
  rw[qU]at hz jB kQ;simp only[E.rows]at jn;generalize bf [e]=kv at *;simp[-an,-af,pe,jB,kQ,jn,b1,l1,AV.view]
 |e::e2::e3::l,jn,m2=>
  rw[qU]at hz jB kQ;have hl3:¬((E.rows (e::e2::e3::l)).length:Int)=2:=by simp;omega
  generalize bf (e::e2::e3::l)=kv at *;generalize E.rows (e::e2::e3::l)=rws at *;simp[-an,-af,pe,jB,kQ,jn,hl3,b1,l1,AV.view]
 by_cases h7:k=7;subst h7;simp only[if_neg h1,if_neg h4,if_true];generalize bf s.es=kv at *;cases hh:c.sg.bg with
 |false=>
  rw[hh]at hc;by_cases q0:s.es.length=0;simp[-an,-af,pe,jB,kQ,jn,q0,b1,l1,hc,AV.view];simp[-an,-af,pe,jB,kQ,jn,q0,b1,l1,hc,AV.view]
 |true=>
  rw[hh]at hc;by_cases q1:s.es.length=1;simp[-an,-af,pe,jB,kQ,jn,q1,b1,l1,hc,AV.view];simp[-an,-af,pe,jB,kQ,jn,m1,q1,b1,l1,hc,AV.view]
 by_cases h9:k=9;subst h9;simp only[if_neg h1,if_neg h4,if_neg h7,if_true];match qU:s.es,jn,m2 with
 |[e],jn,m2=>
  rw[qU]at hz jB kQ;simp only[E.rows]at jn;rw[E.aE e]at jn;generalize bf [e]=kv at *;simp[-an,-af,pe,cg,hz,jB,kQ,jn,b1,l1,AV.view]
 |[],jn,m2=>
  rw[qU]at hz jB kQ;generalize bf []=kv at *;simp[-an,-af,pe,jB,kQ,jn,b1,l1,E.rows,AV.view]
 |e::e2::l,jn,m2=>
  rw[qU]at hz jB kQ;have hl3:¬((E.rows (e::e2::l)).length:Int)=1:=by simp;omega
  generalize bf (e::e2::l)=kv at *;generalize E.rows (e::e2::l)=rws at *;simp[-an,-af,pe,jB,kQ,jn,hl3,b1,l1,AV.view]
 simp only[if_neg h1,if_neg h4,if_neg h7,if_neg h9];generalize bf s.es=kv at *;by_cases h2:k=2;subst h2;by_cases q1:s.es.length=1;simp[-an,-af,pe,jB,kQ,jn,q1,b1,l1,AV.view];simp[-an,-af,pe,jB,kQ,jn,m1,q1,b1,l1,AV.view];by_cases h3:k=3;subst h3;by_cases q1:s.es.length=1;simp[-an,-af,pe,jB,kQ,jn,q1,b1,l1,AV.view];simp[-an,-af,pe,jB,kQ,jn,m1,q1,b1,l1,AV.view];by_cases h5:k=5;subst h5;by_cases q1:s.es.length=1;simp[-an,-af,pe,jB,kQ,jn,q1,b1,l1,AV.view];simp[-an,-af,pe,jB,kQ,jn,m1,q1,b1,l1,AV.view];by_cases h6:k=6;subst h6;by_cases q1:s.es.length=1;simp[-an,-af,pe,jB,kQ,jn,q1,b1,l1,AV.view];simp[-an,-af,pe,jB,kQ,jn,m1,q1,b1,l1,AV.view];by_cases h8:k=8;subst h8;by_cases q1:s.es.length=1;simp[-an,-af,pe,jB,kQ,jn,q1,b1,l1,AV.view];simp[-an,-af,pe,jB,kQ,jn,m1,q1,b1,l1,AV.view];simp[-an,-af,pe,jB,b1,l1,h1,h2,h3,h4,h5,h6,h7,h8,h9,AV.view]
end R9
namespace R9
open Ax Go aF V7 jw jX K9
variable {pre:ag}
abbrev k9(k n:Int)(nm on:List UInt8)(od:Int)(kv:AV)(a:Int)(t:T3)(z:Int):List AV:=[.int .i64 k,.int .i64 n,.str nm,.str on,.int .i64 od,kv,.int .i64 a,.int .i64 t.b,.int .i64 t.r,.int .i64 t.d,.int .i64 z]
theorem dA{wl aa n k:Nat}{agg:Bool}{o:dK}{r0 K:ag}{cs:List AV}{bx:br}:aU wl aa (.load agg n false) [.val (.ptr (pre.length+(r0.length+1)) 0 0 k)] (pre++o::(r0++.rows 0 11 [cs]::K)) bx =
  qX (pre++o::(r0++.rows 0 11 [cs]::K)) bx ((cut cs k n).bind λcs=>bU agg (AV.cG cs)):=by
 rw[an];simp[fy]
theorem bR{aa n k:Nat}{o:dK}{r0 K:ag}{cs:List AV}{v:AV}{bx:br}(h1:v.cells.length=n)(h2:AV.aS v.cells=true)(h3:k+v.cells.length<=cs.length)(h4:AV.au v.cells=true) :
  aU 0 aa (.store n) [.val (.ptr (pre.length+(r0.length+1)) 0 0 k),.val v] (pre++o::(r0++.rows 0 11 [cs]::K)) bx=some (.none,pre++o::(r0++.rows 0 11 [aj cs k v.cells]::K),bx):=by
 rw[af,if_pos ⟨h1,h2⟩];simp[eK,bD,h3,h4]
theorem fQ{wl aa n j k v:Nat}{agg:Bool}{o X:dK}{r0 K:ag}{rows:List (List AV)}{bx:br}:aU wl aa (.load agg n false) [.val (.ptr (pre.length+(r0.length+1+1)) v j k)] (pre++o::(r0++X::.rows v 11 rows::K)) bx =
  qX (pre++o::(r0++X::.rows v 11 rows::K)) bx ((match rows[j]? with|some cs=>cut cs k n|none=>none).bind λcs=>bU agg (AV.cG cs)):=by
 rw[an];cases h:rows[j]?<;>simp[fy,h]
def sgR(k:Int):T3:=if k=12\/k=14\/k=15\/k=16\/k=17\/k=18 then tI else tB
def sgB(k:Int)(a b:T3):Bool:=if k=12\/k=14\/k=15\/k=16\/k=17\/k=18\/k=19\/k=20 then decide (a=tI)&&decide (b=tI) else if k=21\/k=22 then decide (a=b) else decide (a=tB)&&decide (b=tB)
theorem R2(aa:Nat)(o:dK)(r0:ag)(k n:Int)(nm on:List UInt8)(od a z:Int)(t:T3)(y:E)(hk:k=12\/k=13) :
  (aP S).call 0 aa 125 [.ptr pre.length 0 0 0,.ptr (pre.length+(r0.length+1)) 0 0 0] (pre++o::(r0++[.rows 0 11 [k9 k n nm on od (.mu (pre.length+(r0.length+1+1)) 0) a t z],.rows 0 11 [y.row]])) =
  some (.bool (sgB k y.ty y.ty),pre++o::(r0++[.rows 0 11 [k9 k n nm on od (.mu (pre.length+(r0.length+1+1)) 0) a (sgR k) z],.rows 0 11 [y.row]])):=by
 have eI:=λwl aa st=>cm wl aa st;have eT:=λwl aa st=>ck wl aa st;rw[E.aE];refine aO (sf:=qy) rfl rfl rfl ?_;unfold sgB sgR;rcases hk with h|h<;>subst h;by_cases q:y.ty=tI;simp[-an,-af,qy,dA,bR,fQ,eI,q,ai,ah,aj,AV.view];simp[-an,-af,qy,dA,bR,fQ,eI,K9.dI,q,ai,ah,aj,AV.view];by_cases q:y.ty=tB;simp[-an,-af,qy,dA,bR,fQ,eT,q,ai,ah,aj,AV.view];simp[-an,-af,qy,dA,bR,fQ,eT,dB,q,ai,ah,aj,AV.view]
theorem R3(aa:Nat)(o:dK)(r0:ag)(k n:Int)(nm on:List UInt8)(od a z:Int)(t:T3)(x y:E)(hk:14<=k) :
  (aP S).call 0 aa 125 [.ptr pre.length 0 0 0,.ptr (pre.length+(r0.length+1)) 0 0 0] (pre++o::(r0++[.rows 0 11 [k9 k n nm on od (.mu (pre.length+(r0.length+1+1)) 1) a t z],.rows 1 11 [x.row,y.row]])) =
  some (.bool (sgB k x.ty y.ty),pre++o::(r0++[.rows 0 11 [k9 k n nm on od (.mu (pre.length+(r0.length+1+1)) 1) a (sgR k) z],.rows 1 11 [x.row,y.row]])):=by
 have eI:=λwl aa st=>cm wl aa st;have eT:=λwl aa st=>ck wl aa st;have tX:k≠12:=by omega
 rw[E.aE x,E.aE y];refine aO (sf:=qy) rfl rfl rfl ?_;unfold sgB sgR;by_cases F2:k=14;subst F2;by_cases q:x.ty=tI;simp[-an,-af,qy,dA,bR,fQ,eI,K9.dI,q,ai,ah,aj,AV.view];simp[-an,-af,qy,dA,bR,fQ,eI,K9.dI,q,ai,ah,aj,AV.view];by_cases HH:k=15;subst HH;by_cases q:x.ty=tI;simp[-an,-af,qy,dA,bR,fQ,eI,K9.dI,q,ai,ah,aj,AV.view];simp[-an,-af,qy,dA,bR,fQ,eI,K9.dI,q,ai,ah,aj,AV.view];by_cases AX:k=16;subst AX;by_cases q:x.ty=tI;simp[-an,-af,qy,dA,bR,fQ,eI,K9.dI,q,ai,ah,aj,AV.view];simp[-an,-af,qy,dA,bR,fQ,eI,K9.dI,q,ai,ah,aj,AV.view];by_cases Aa:k=17;subst Aa;by_cases q:x.ty=tI;simp[-an,-af,qy,dA,bR,fQ,eI,K9.dI,q,ai,ah,aj,AV.view];simp[-an,-af,qy,dA,bR,fQ,eI,K9.dI,q,ai,ah,aj,AV.view];by_cases FB:k=18;subst FB;by_cases q:x.ty=tI;simp[-an,-af,qy,dA,bR,fQ,eI,K9.dI,q,ai,ah,aj,AV.view];simp[-an,-af,qy,dA,bR,fQ,eI,K9.dI,q,ai,ah,aj,AV.view];by_cases CE:k=19;subst CE;by_cases q:x.ty=tI;simp[-an,-af,qy,dA,bR,fQ,eI,eT,K9.dI,q,ai,ah,aj,AV.view];simp[-an,-af,qy,dA,bR,fQ,eI,eT,K9.dI,q,ai,ah,aj,AV.view];by_cases CF:k=20;subst CF;by_cases q:x.ty=tI;simp[-an,-af,qy,dA,bR,fQ,eI,eT,K9.dI,q,ai,ah,aj,AV.view];simp[-an,-af,qy,dA,bR,fQ,eI,eT,K9.dI,q,ai,ah,aj,AV.view];by_cases N0:k=21;subst N0;simp[-an,-af,qy,dA,bR,fQ,eT,dU,aj,AV.view];by_cases N6:k=22;subst N6;simp[-an,-af,qy,dA,bR,fQ,eT,dU,aj,AV.view];by_cases q:x.ty=tB;simp[-an,-af,qy,dA,bR,fQ,eT,tX,F2,HH,AX,Aa,FB,CE,CF,N0,N6,dB,q,ai,ah,aj,AV.view];simp[-an,-af,qy,dA,bR,fQ,eT,tX,F2,HH,AX,Aa,FB,CE,CF,N0,N6,dB,q,ai,ah,aj,AV.view]
theorem R4{H:Hd}{V:List Vd}{k:Int}{nm on:List UInt8}{od:Int}{ks:List E}(hk:12<=k):mR H V k nm on od ks=F0 (sgB k (yp ks) (if k=12\/k=13 then yp ks else E9 ks)) (sgR k):=by
 unfold mR sgB sgR;rw[if_neg (by omega),if_neg (by omega),if_neg (by omega),if_neg (by omega),if_neg (by omega),if_neg (by omega),if_neg (by omega),if_neg (by omega),if_neg (by omega),if_neg (by omega)];by_cases tX:k=12;subst tX;simp;by_cases Cw:k=13;subst Cw;simp;unfold mZ;rw[if_neg tX,if_neg Cw];have g:(if k=12\/k=13 then yp ks else E9 ks)=E9 ks:=if_neg (by omega);rw[g];by_cases c1:k=14\/k=15\/k=16\/k=17\/k=18;rcases c1 with h|h|h|h|h<;>subst h<;>simp;rw[if_neg c1];by_cases c2:k=19\/k=20;rcases c2 with h|h<;>subst h<;>simp;rw[if_neg c2,if_neg (show ¬(k=12\/k=14\/k=15\/k=16\/k=17\/k=18\/k=19\/k=20) by omega),if_neg (show ¬(k=12\/k=14\/k=15\/k=16\/k=17\/k=18) by omega)];split<;>rfl
end R9
namespace R9
open Ax Go aF V7 jw jX K9
variable {pre:ag}
def JG(pre:ag)(o:dK)(r0 K:ag)(q:Option (T3×Int))(row:T3->Int->List AV)(v:AV)(st:ag):Prop:=∃b Y,v=.bool b/\st=pre++o::(r0++Y::K)/\match q with
 |none=>b=false|some (u,z)=>b=true/\Y=.rows 0 11 [row u z]
theorem iY{o:dK}{r0 K:ag}{row:T3->Int->List AV}{Y:dK}:JG pre o r0 K none row (.bool false) (pre++o::(r0++Y::K)):=⟨false,Y,rfl,rfl,rfl⟩
theorem nq{o:dK}{r0 K:ag}{row:T3->Int->List AV}{u:T3}{z:Int}:JG pre o r0 K (some (u,z)) row (.bool true) (pre++o::(r0++.rows 0 11 [row u z]::K)):=⟨true,_,rfl,rfl,rfl,rfl⟩
theorem AY{o:dK}{r0 K:ag}{row:T3->Int->List AV}{u:T3}{b:Bool}:JG pre o r0 K (F0 b u) row (.bool b) (pre++o::(r0++.rows 0 11 [row u 0]::K)):=by
 cases b;exact iY;exact nq
theorem WI(aa:Nat)(c:CK)(r0:ag)(e:E)(k n:Int)(nm on:List UInt8)(od a z:Int)(t:T3)(v:Nat)(ys:List E)(hs:AO c)(hn:ys.length<1000000000) :
  ∃v' bG,(aP S).call 0 aa 139 [.ptr pre.length 0 0 0,.agg e.row,.ptr (pre.length+(r0.length+1)) 0 0 0] (pre++c.aZ::(r0++[.rows 0 11 [k9 k n nm on od (.mu (pre.length+(r0.length+1+1)) v) a t z],.rows v 11 (E.rows ys)]))=some (v',bG)/\
   JG pre c.aZ r0 [.rows v 11 (E.rows ys)] (oV c.H e.nm ys) (k9 k n e.nm on od (.mu (pre.length+(r0.length+1+1)) v) a) v' bG:=by
 have hS:=hs.S;have hzS:bY 6 (aB 6 (c.H.sigs.map Sg.row))=true:=kU (by simp[bw,Sg.row]);have hsS:aL (aB 6 (c.H.sigs.map Sg.row))=true:=bq;have WJ:aJ (aB 6 (c.H.sigs.map Sg.row))=c.H.sigs.map Sg.row:=aM;have esi:=λwl aa r bx=>ai7 (pre:=pre) (wl:=wl) (aa:=aa) (c:=c) (r:=r) (bx:=bx);have pS:aL (bf e.aK)=true:=bQ;have MB:(bf e.aK).view=bf e.aK:=bH;rw[E.aE e];generalize bf e.aK=kv at *;generalize aB 6 (c.H.sigs.map Sg.row)=SV at *;generalize c.aZ=o at *;refine kP (sf:=Vx) rfl rfl rfl ?_;simp[-an,-af,Vx,bR,pS,aj];refine aT IZ.eq_1 (λq:Nat×List AV=>⟨[(0,.val (.ptr pre.length 0 0 0)),(2,.val (.ptr (pre.length+(r0.length+1)) 0 0 0)),(4,.fp 0 0),(7,.val (.int .i64 q.1))],[[.int .i64 e.k,.int .i64 e.n,.str e.nm,.str e.on,.int .i64 e.od,kv,.int .i64 e.a,.int .i64 e.ty.b,.int .i64 e.ty.r,.int .i64 e.ty.d,.int .i64 e.dz],q.2],
   pre++o::(r0++[.rows 0 11 [k9 k n e.nm on od (.mu (pre.length+(r0.length+1+1)) v) a t z],.rows v 11 (E.rows ys)])⟩)
  (λq=>q.1<=c.H.sigs.length/\tC e.nm 0 c.H.sigs=tC e.nm q.1 (c.H.sigs.drop q.1)) (λq=>c.H.sigs.length-q.1) (0,[]) (by simp) ⟨by simp,by simp⟩ ?_
 rintro⟨i,b1⟩ ⟨hi,hp⟩ ih;simp only at hi hp ih;by_cases aQ:i<c.H.sigs.length;have hw:=wk i (by omega);rw[LF aQ]at hp;have gS:∀h:i<(c.H.sigs.map Sg.row).length,(c.H.sigs.map Sg.row)[i]=[.str c.H.sigs[i].nm,cj c.H.sigs[i].ps,.bool c.H.sigs[i].bg,.int .i64 c.H.sigs[i].res.b,.int .i64 c.H.sigs[i].res.r,.int .i64 c.H.sigs[i].res.d]:=λh=>by simp[Sg.row]
 have lq:i<(c.H.sigs.map Sg.row).length:=by simpa using aQ
 have MD:=gS lq;clear gS;have hnp:=hs.P _ (aar aQ);have hzp:bY 4 (cj c.H.sigs[i].ps)=true:=rQ;have n6:aL (cj c.H.sigs[i].ps)=true:=iL;have WK:aJ (cj c.H.sigs[i].ps)=c.H.sigs[i].ps.map Vd.row:=pK;have NQ:(cj c.H.sigs[i].ps).view=cj c.H.sigs[i].ps:=mI;have fA:=λb1=>ih (i+1,b1);simp only at fA;generalize hRS:c.H.sigs.map Sg.row=RS at *;have hgg:c.H.sigs[i]?=some c.H.sigs[i]:=aao aQ;generalize c.H.sigs[i]=g at *;by_cases h:g.nm=e.nm;rw[if_pos h]at hp;have w6:oV c.H e.nm ys=if jx g.ps ys then some (g.res,(i:Int)) else none:=by unfold oV;rw[hp]
 rw[w6];by_cases hl:g.ps.length=ys.length;generalize cj g.ps=PV at *;simp[-an,-af,dA,cg,esi,hsS,hzS,WJ,lq,MD,n6,WK,NQ,h,hl,aN,bp,aj];clear ih fA;refine aT IY.eq_1 (λj:Nat=>⟨[(2,.val (.ptr (pre.length+(r0.length+1)) 0 0 0)),(7,.val (.int .i64 i)),(8,.fp 1 0),(9,.val (.int .i64 j))],[[.int .i64 e.k,.int .i64 e.n,.str e.nm,.str e.on,.int .i64 e.od,kv,.int .i64 e.a,.int .i64 e.ty.b,.int .i64 e.ty.r,.int .i64 e.ty.d,.int .i64 e.dz],
   [.str e.nm,PV,.bool g.bg,.int .i64 g.res.b,.int .i64 g.res.r,.int .i64 g.res.d]],
   pre++o::(r0++[.rows 0 11 [k9 k n e.nm on od (.mu (pre.length+(r0.length+1+1)) v) a t z],.rows v 11 (E.rows ys)])⟩)
  (λj=>j<=ys.length/\jx g.ps ys=jx (g.ps.drop j) (ys.drop j)) (λj=>ys.length-j) 0 (by simp) ⟨by simp,by simp⟩ ?_
 rintro j ⟨hj,hq⟩ ih;by_cases kJ:j<ys.length;have NF:=wk j (by omega);have hjp:j<g.ps.length:=by omega
 rw[RK hjp kJ]at hq;have gE:=HA kJ;have gV:∀h:j<(g.ps.map Vd.row).length,(g.ps.map Vd.row)[j]=[.str g.ps[j].nm,.int .i64 g.ps[j].ty.b,.int .i64 g.ps[j].ty.r,.int .i64 g.ps[j].ty.d]:=λh=>by simp[Vd.row]
 have hjr:j<(g.ps.map Vd.row).length:=by simpa using hjp
 have gV':=gV hjr;clear gV;have gV2:(g.ps.map Vd.row)[j]?=some [.str g.ps[j].nm,.int .i64 g.ps[j].ty.b,.int .i64 g.ps[j].ty.r,.int .i64 g.ps[j].ty.d]:=by simp[hjp,Vd.row]
 rw[E.aE]at gE;have OP:j<(E.rows ys).length:=by simpa using kJ
 have BQ:=zO kJ OP;rw[E.aE]at BQ;generalize hRY:E.rows ys=RY at *;generalize hRP:g.ps.map Vd.row=RP at *;by_cases qq:ys[j].ty=g.ps[j].ty;have dq:(decide (ys[j].ty.b=g.ps[j].ty.b)&&(decide (ys[j].ty.r=g.ps[j].ty.r)&&decide (ys[j].ty.d=g.ps[j].ty.d)))=true:=by rw[dU];exact decide_eq_true qq
 rw[decide_eq_true qq,Bool.true_and]at hq;generalize ys[j]=y at *;generalize g.ps[j]=f at *;simp[-an,-af,dA,fQ,cg,OP,BQ,gV',hzp,WK,hjr,qq,NF,aN,bp];exact ih (j+1) ⟨by omega,hq⟩ (by omega);rw[decide_eq_false qq,Bool.false_and]at hq;rw[hq];generalize ys[j]=y at *;generalize g.ps[j]=f at *;simp[-an,-af,dA,fQ,cg,OP,BQ,gV',hzp,WK,hjr,dU,qq,aN,bp];exact iY;have cL:j=ys.length:=by omega
 have:jx g.ps ys=true:=by rw[hq,cL,abp,<-hl,abp];rfl
 rw[this];simp[-an,-af,dA,bR,cL,aj];exact nq;have iu:jx g.ps ys=false:=by
  cases hq:jx g.ps ys with
  |false=>rfl|true=>exact absurd (Fm hq) hl
 rw[iu];generalize cj g.ps=PV at *;simp[-an,-af,dA,cg,esi,hsS,hzS,WJ,lq,MD,n6,WK,NQ,h,hl,aN,bp,aj];exact iY;rw[if_neg h]at hp;generalize cj g.ps=PV at *;simp[-an,-af,cg,esi,hsS,hzS,WJ,lq,MD,n6,NQ,h,hw,aj];exact fA _ ⟨by omega,hp⟩ (by omega);have cL:i=c.H.sigs.length:=by omega
 have iu:tC e.nm 0 c.H.sigs=none:=by rw[hp,cL,abp];rfl
 have w6:oV c.H e.nm ys=none:=by unfold oV;rw[iu]
 rw[w6];simp[-an,-af,esi,hsS,WJ,aQ];exact iY
end R9
namespace R9
open Ax Go aF V7 jw jX K9
variable {pre:ag}
theorem Ay(aa:Nat)(c:CK)(r0:ag)(e:E)(k n:Int)(nm on:List UInt8)(od a z:Int)(t:T3)(hs:AO c) :
  ∃v' bG,(aP S).call 0 aa 139 [.ptr pre.length 0 0 0,.agg e.row,.ptr (pre.length+(r0.length+1)) 0 0 0] (pre++c.aZ::(r0++[.rows 0 11 [k9 k n nm on od .U a t z]]))=some (v',bG)/\
   JG pre c.aZ r0 [] (oV c.H e.nm []) (k9 k n e.nm on od .U a) v' bG:=by
 have hS:=hs.S;have hzS:bY 6 (aB 6 (c.H.sigs.map Sg.row))=true:=kU (by simp[bw,Sg.row]);have hsS:aL (aB 6 (c.H.sigs.map Sg.row))=true:=bq;have WJ:aJ (aB 6 (c.H.sigs.map Sg.row))=c.H.sigs.map Sg.row:=aM;have esi:=λwl aa r bx=>ai7 (pre:=pre) (wl:=wl) (aa:=aa) (c:=c) (r:=r) (bx:=bx);have pS:aL (bf e.aK)=true:=bQ;have MB:(bf e.aK).view=bf e.aK:=bH;rw[E.aE e];generalize bf e.aK=kv at *;generalize aB 6 (c.H.sigs.map Sg.row)=SV at *;generalize c.aZ=o at *;refine kP (sf:=Vx) rfl rfl rfl ?_;simp[-an,-af,Vx,bR,pS,aj];refine aT IZ.eq_1 (λq:Nat×List AV=>⟨[(0,.val (.ptr pre.length 0 0 0)),(2,.val (.ptr (pre.length+(r0.length+1)) 0 0 0)),(4,.fp 0 0),(7,.val (.int .i64 q.1))],[[.int .i64 e.k,.int .i64 e.n,.str e.nm,.str e.on,.int .i64 e.od,kv,.int .i64 e.a,.int .i64 e.ty.b,.int .i64 e.ty.r,.int .i64 e.ty.d,.int .i64 e.dz],q.2],
   pre++o::(r0++[.rows 0 11 [k9 k n e.nm on od .U a t z]])⟩)
  (λq=>q.1<=c.H.sigs.length/\tC e.nm 0 c.H.sigs=tC e.nm q.1 (c.H.sigs.drop q.1)) (λq=>c.H.sigs.length-q.1) (0,[]) (by simp) ⟨by simp,by simp⟩ ?_
 rintro⟨i,b1⟩ ⟨hi,hp⟩ ih;simp only at hi hp ih;by_cases aQ:i<c.H.sigs.length;have hw:=wk i (by omega);rw[LF aQ]at hp;have gS:∀h:i<(c.H.sigs.map Sg.row).length,(c.H.sigs.map Sg.row)[i]=[.str c.H.sigs[i].nm,cj c.H.sigs[i].ps,.bool c.H.sigs[i].bg,.int .i64 c.H.sigs[i].res.b,.int .i64 c.H.sigs[i].res.r,.int .i64 c.H.sigs[i].res.d]:=λh=>by simp[Sg.row]
 have lq:i<(c.H.sigs.map Sg.row).length:=by simpa using aQ
 have MD:=gS lq;clear gS;have hnp:=hs.P _ (aar aQ);have hzp:bY 4 (cj c.H.sigs[i].ps)=true:=rQ;have n6:aL (cj c.H.sigs[i].ps)=true:=iL;have WK:aJ (cj c.H.sigs[i].ps)=c.H.sigs[i].ps.map Vd.row:=pK;have NQ:(cj c.H.sigs[i].ps).view=cj c.H.sigs[i].ps:=mI;have fA:=λb1=>ih (i+1,b1);simp only at fA;generalize hRS:c.H.sigs.map Sg.row=RS at *;have hgg:c.H.sigs[i]?=some c.H.sigs[i]:=aao aQ;generalize c.H.sigs[i]=g at *;by_cases h:g.nm=e.nm;rw[if_pos h]at hp;have w6:oV c.H e.nm []=if jx g.ps [] then some (g.res,(i:Int)) else none:=by unfold oV;rw[hp]
 rw[w6];by_cases hl:g.ps.length=0;generalize cj g.ps=PV at *;simp[-an,-af,dA,cg,esi,hsS,hzS,WJ,lq,MD,n6,WK,NQ,h,hl,aN,bp,aj];clear ih fA;refine aT IY.eq_1 (λj:Nat=>⟨[(2,.val (.ptr (pre.length+(r0.length+1)) 0 0 0)),(7,.val (.int .i64 i)),(8,.fp 1 0),(9,.val (.int .i64 j))],[[.int .i64 e.k,.int .i64 e.n,.str e.nm,.str e.on,.int .i64 e.od,kv,.int .i64 e.a,.int .i64 e.ty.b,.int .i64 e.ty.r,.int .i64 e.ty.d,.int .i64 e.dz],
   [.str e.nm,PV,.bool g.bg,.int .i64 g.res.b,.int .i64 g.res.r,.int .i64 g.res.d]],
   pre++o::(r0++[.rows 0 11 [k9 k n e.nm on od .U a t z]])⟩)
  (λj=>j<=0/\jx g.ps []=jx (g.ps.drop j) []) (λj=>0-j) 0 (by simp) ⟨by simp,by simp⟩ ?_
 rintro j ⟨hj,hq⟩ ih;have cL:j=0:=by omega
 have:jx g.ps []=true:=by rw[List.length_eq_zero_iff.1 hl];rfl
 rw[this];simp[-an,-af,dA,bR,cL,aj];exact nq;have iu:jx g.ps []=false:=by
  cases hq:jx g.ps [] with
  |false=>rfl|true=>exact absurd (Fm hq) hl
 rw[iu];generalize cj g.ps=PV at *;simp[-an,-af,dA,cg,esi,hsS,hzS,WJ,lq,MD,n6,WK,NQ,h,hl,aN,bp,aj];exact iY;rw[if_neg h]at hp;generalize cj g.ps=PV at *;simp[-an,-af,cg,esi,hsS,hzS,WJ,lq,MD,n6,NQ,h,hw,aj];exact fA _ ⟨by omega,hp⟩ (by omega);have cL:i=c.H.sigs.length:=by omega
 have iu:tC e.nm 0 c.H.sigs=none:=by rw[hp,cL,abp];rfl
 have w6:oV c.H e.nm []=none:=by unfold oV;rw[iu]
 rw[w6];simp[-an,-af,esi,hsS,WJ,aQ];exact iY
theorem R5{l:List (List UInt8)}:zf (aB 1 (jY l))=true:=by
 unfold zf fj;rw[N7.AN,N7.yy (by simp[bw,jY]),aM];simp[jY,Py]
theorem L4{l:List (List UInt8)}:l8 (aB 1 (jY l))=l:=by
 simp only[l8,aM,jY,List.map_map];conv=>rhs;rw[<-List.map_id l]
 exact List.map_congr_left λ_ _=>rfl
theorem JH(wl aa:Nat)(l:List (List UInt8))(s:List UInt8)(d:Int)(st:ag)(hn:l.length<1000000000) :
  (aP S).call wl aa 101 [aB 1 (jY l),.agg [.str s,.int .i64 d]] st=some (tyV (cz l s d),st):=by
 rw[U7.Fx wl aa (aB 1 (jY l)) s d st R5 (by rw[L4];exact hn),L4]
 rfl
theorem pZ(wl aa:Nat)(t:T3)(st:ag):(aP S).call wl aa 17 [.agg [.int .i64 t.b,.int .i64 t.r,.int .i64 t.d]] st=some (.bool (g9 t),st):=U7.pZ wl aa t st
def rC(i:Nat)(ys:List E):AV:=if ys.isEmpty then .U else .mu i (ys.length-1)
def kK(ys:List E):ag:=if ys.isEmpty then [] else [.rows (ys.length-1) 11 (E.rows ys)]
theorem WL(aa:Nat)(c:CK)(r0:ag)(e:E)(k n:Int)(nm on:List UInt8)(od a z:Int)(t:T3)(ys:List E)(hs:AO c)(hn:ys.length<1000000000) :
  ∃v' bG,(aP S).call 0 aa 139 [.ptr pre.length 0 0 0,.agg e.row,.ptr (pre.length+(r0.length+1)) 0 0 0] (pre++c.aZ::(r0++.rows 0 11 [k9 k n nm on od (rC (pre.length+(r0.length+1+1)) ys) a t z]::kK ys))=some (v',bG)/\
   JG pre c.aZ r0 (kK ys) (oV c.H e.nm ys) (k9 k n e.nm on od (rC (pre.length+(r0.length+1+1)) ys) a) v' bG:=by
 cases ys with
 |nil=>exact Ay (pre:=pre) aa c r0 e k n nm on od a z t hs|cons y l=>exact WI (pre:=pre) aa c r0 e k n nm on od a z t ((y::l).length-1) (y::l) hs hn
end R9
namespace R9
open Ax Go aF V7 jw jX K9
variable {pre:ag}
theorem Fk(aa:Nat)(c:CK)(r0:ag)(e:E)(ys:List E)(hs:AO c)(hn:ys.length<1000000000)(hk:iQ e.k e.n ys.length=true)(tX:e.k<12)(hRS:c.H.rs.length=c.H.bL.length)(hw:∀x∈ys,WT c.H.rs.length x.ty) :
  ∃v' bG,(aP S).call 0 aa 126 [.ptr pre.length 0 0 0,.agg e.row,.ptr (pre.length+(r0.length+1)) 0 0 0] (pre++c.aZ::(r0++.rows 0 11 [k9 e.k 0 [] [] 0 (rC (pre.length+(r0.length+1+1)) ys) e.a T0 0]::kK ys))=some (v',bG)/\
   JG pre c.aZ r0 (kK ys) (mR c.H c.V e.k e.nm e.on e.od ys) (k9 e.k (qK e.k e.n) (qC e.k e.nm) (qD e.k e.on) (qE e.k e.od) (rC (pre.length+(r0.length+1+1)) ys) e.a) v' bG:=by
 have eI:=λwl aa st=>cm wl aa st;have eT:=λwl aa st=>ck wl aa st;have eV:=λaa r=>jP (pre:=pre) aa c e.nm r hs;have xN:=λwl aa st=>JH wl aa c.H.rs e.on e.od st hs.R;have S3:=λwl aa st=>pZ wl aa (cz c.H.rs e.on e.od).1 st;have ecl:=λaa k n nm on od a z t=>WL (pre:=pre) aa c r0 e k n nm on od a z t ys hs hn;have L5:=λwl aa r bx=>aeu (pre:=pre) (wl:=wl) (aa:=aa) (c:=c) (r:=r) (bx:=bx);have esh:=λwl aa r bx=>anX (pre:=pre) (wl:=wl) (aa:=aa) (c:=c) (r:=r) (bx:=bx);have pS:aL (bf e.aK)=true:=bQ;have MB:(bf e.aK).view=bf e.aK:=bH;have X5:=oC c.H.rs e.on e.od;rw[E.aE e]at *;generalize bf e.aK=kv at *;have nil:∀j,e.k=j->(j=1\/j=2\/j=3\/j=4\/j=8\/j=11)->ys=[]:=λj hj h=>by
  rw[hj]at hk;rcases h with h|h|h|h|h|h<;>subst h<;>simp[iQ]at hk<;>first|exact hk|exact hk.1
 have one:∀j,e.k=j->(j=5\/j=9\/j=10)->∃x,ys=[x]:=λj hj h=>by
  have hlen:ys.length=1:=by
   rw[hj]at hk;rcases h with h|h|h<;>subst h<;>simpa [iQ] using hk
  match ys,hlen with
  |[x],_=>exact⟨x,rfl⟩
 by_cases h1:e.k=1;have hy:=nil 1 h1 (by simp);subst hy;rw[h1];refine kP (sf:=l7) rfl rfl rfl ?_;simp[-an,-af,l7,bR,rC,kK,eI,pS,aj,AV.view];exact nq;by_cases h2:e.k=2;have hy:=nil 2 h2 (by simp);subst hy;rw[h2];refine kP (sf:=l7) rfl rfl rfl ?_;simp[-an,-af,l7,bR,rC,kK,eT,pS,aj,AV.view];exact nq;by_cases yN:e.k=11;have hy:=nil 11 yN (by simp);subst hy;rw[yN];refine kP (sf:=l7) rfl rfl rfl ?_;simp[-an,-af,l7,bR,rC,kK,eI,pS,aj,AV.view];exact nq;by_cases h3:e.k=3;have hy:=nil 3 h3 (by simp);subst hy;rw[h3];have Kb:mR c.H c.V 3 e.nm e.on e.od []=F0 ((cz c.H.rs e.on e.od).2&&g9 (cz c.H.rs e.on e.od).1) (cz c.H.rs e.on e.od).1:=rfl;rw[Kb];refine kP (sf:=l7) rfl rfl rfl ?_;unfold tyV at xN;generalize cz c.H.rs e.on e.od=tt at *;obtain⟨t,b⟩:=tt;generalize c.aZ=o at *;cases b;simp[-an,-af,l7,bR,rC,kK,L5,xN,pS,aj,AV.view,aN,bp];exact iY;cases hr:g9 t with
 |false=>
  rw[hr]at S3;simp[-an,-af,l7,bR,rC,kK,L5,xN,S3,pS,aj,AV.view,aN,bp];exact iY
 |true=>
  rw[hr]at S3;simp[-an,-af,l7,bR,rC,kK,L5,xN,S3,pS,aj,AV.view,aN,bp];exact nq
 by_cases h8:e.k=8;have hy:=nil 8 h8 (by simp);subst hy;rw[h8];have Kb:mR c.H c.V 8 e.nm e.on e.od []=F0 ((cz c.H.rs e.on e.od).2&&decide ((cz c.H.rs e.on e.od).1.b=3)&&decide ((cz c.H.rs e.on e.od).1.d=0)) (cz c.H.rs e.on e.od).1:=rfl;rw[Kb];refine kP (sf:=l7) rfl rfl rfl ?_;unfold tyV at xN;generalize cz c.H.rs e.on e.od=tt at *;obtain⟨t,b⟩:=tt;generalize c.aZ=o at *;cases b;simp[-an,-af,l7,bR,rC,kK,L5,xN,pS,aj,AV.view,aN,bp];exact iY;by_cases hd:t.d=0;have YP:(t.d=0)=True:=eq_true hd;by_cases hb:t.b=3;have hr:g9 t=true:=by unfold g9;simp[hb]
 rw[hr]at S3;rw[decide_eq_true hb,decide_eq_true hd];simp[-an,-af,l7,bR,rC,kK,L5,xN,S3,YP,pS,aj,AV.view,aN,bp];exact nq;have hr:g9 t=false:=by unfold g9;simp[hb,hd]
 rw[hr]at S3;rw[decide_eq_false hb];simp[-an,-af,l7,bR,rC,kK,L5,xN,S3,pS,aj,AV.view,aN,bp];exact iY;cases hr:g9 t with
 |false=>
  rw[hr]at S3;simp[-an,-af,l7,bR,rC,kK,L5,xN,S3,hd,pS,aj,AV.view,aN,bp];exact iY
 |true=>
  rw[hr]at S3;simp[-an,-af,l7,bR,rC,kK,L5,xN,S3,hd,pS,aj,AV.view,aN,bp];exact iY
 by_cases h4:e.k=4;have hy:=nil 4 h4 (by simp);subst hy;rw[h4];have Kb:mR c.H c.V 4 e.nm e.on e.od []=rq c.H c.V e.nm:=rfl;rw[Kb];refine kP (sf:=l7) rfl rfl rfl ?_;generalize rq c.H c.V e.nm=vt at *;generalize c.aZ=o at *;cases vt with
 |none=>
  simp[-an,-af,l7,bR,rC,kK,eV,Jk,pS,aj,AV.view];exact iY
 |some x=>
  simp[-an,-af,l7,bR,rC,kK,eV,Jk,pS,aj,AV.view];exact nq
 by_cases h9:e.k=9;obtain⟨y,rfl⟩:=one 9 h9 (by simp);rw[h9];have Kb:mR c.H c.V 9 e.nm e.on e.od [y]=F0 ((cz c.H.rs e.on e.od).2&&decide ((cz c.H.rs e.on e.od).1.d<3)&&decide (y.ty=tI)) ⟨(cz c.H.rs e.on e.od).1.b,(cz c.H.rs e.on e.od).1.r,(cz c.H.rs e.on e.od).1.d+1⟩:=rfl;rw[Kb];refine kP (sf:=l7) rfl rfl rfl ?_;have wA:IntKind.i64.wrap ((cz c.H.rs e.on e.od).1.d+1)=(cz c.H.rs e.on e.od).1.d+1:=by
  have:=X5.1;have:=X5.2.1;rw[cI]<;>omega
 unfold tyV at xN;generalize cz c.H.rs e.on e.od=tt at *;obtain⟨t,b⟩:=tt;generalize c.aZ=o at *;dsimp only;cases b;simp[-an,-af,l7,bR,rC,kK,E.rows,E.aE,L5,xN,wA,pS,aj,AV.view,ai,aN,bp,ah];exact iY;by_cases q:t.d<3;simp[-an,-af,l7,dA,bR,fQ,rC,kK,E.rows,E.aE,L5,xN,eI,K9.dI,q,wA,pS,aj,AV.view,ai,aN,bp,ah];exact AY;simp[-an,-af,l7,bR,rC,kK,E.rows,E.aE,L5,xN,q,wA,pS,aj,AV.view,ai,aN,bp,ah];exact iY;by_cases Bi:e.k=10;obtain⟨y,rfl⟩:=one 10 Bi (by simp);rw[Bi];have Kb:mR c.H c.V 10 e.nm e.on e.od [y]=F0 (decide (0<y.ty.d)) tI:=rfl;rw[Kb];refine kP (sf:=l7) rfl rfl rfl ?_;generalize c.aZ=o at *;simp[-an,-af,l7,dA,bR,fQ,rC,kK,E.rows,E.aE,eI,pS,aj,AV.view];exact AY;by_cases h6:e.k=6;obtain⟨x,y,rfl⟩:∃x y,ys=[x,y]:=by
  have hlen:ys.length=2:=by rw[h6]at hk;simpa [iQ] using hk
  match ys,hlen with
  |[x,y],_=>exact⟨x,y,rfl⟩
 rw[h6];have Kb:mR c.H c.V 6 e.nm e.on e.od [x,y]=F0 (decide (0<x.ty.d)&&decide (y.ty=tI)) ⟨x.ty.b,x.ty.r,x.ty.d-1⟩:=rfl;rw[Kb];have wA:IntKind.i64.wrap (x.ty.d-1)=x.ty.d-1:=by
  have wx:=hw x (by simp);have:=wx.1;have:=wx.2.1;rw[cI]<;>omega
 refine kP (sf:=l7) rfl rfl rfl ?_;generalize c.aZ=o at *;by_cases q:0<x.ty.d;simp[-an,-af,l7,dA,bR,fQ,rC,kK,E.rows,E.aE,eI,K9.dI,q,wA,pS,aj,AV.view,ai,ah];exact AY;simp[-an,-af,l7,dA,bR,fQ,rC,kK,E.rows,E.aE,q,wA,pS,aj,AV.view,ai,ah];exact iY;by_cases h5:e.k=5;obtain⟨y,rfl⟩:=one 5 h5 (by simp);rw[h5];have Kb:mR c.H c.V 5 e.nm e.on e.od [y]=xD c.H y.ty e.nm:=rfl;rw[Kb];refine kP (sf:=l7) rfl rfl rfl ?_;have hzs:bY 2 (aB 2 (c.H.bL.map gD))=true:=kU (by simp[bw,gD]);have BR:aL (aB 2 (c.H.bL.map gD))=true:=bq;have Gn:aJ (aB 2 (c.H.bL.map gD))=c.H.bL.map gD:=aM;generalize aB 2 (c.H.bL.map gD)=SV at *;generalize c.aZ=o at *;unfold xD;by_cases hb:y.ty.b=3;by_cases hd:y.ty.d=0;rw[if_pos ⟨hb,hd⟩];have wy:=(hw y (by simp)).2.2 hb;rw[hRS]at wy;obtain⟨j,hj⟩:∃j:Nat,y.ty.r=j:=⟨y.ty.r.toNat,by omega⟩;have kJ:j<c.H.bL.length:=by omega
 have hg:c.H.bL[j]?=some c.H.bL[j]:=aao kJ;have hF:=hs.F _ (aar kJ);have Oa:∀h:j<(c.H.bL.map gD).length,(c.H.bL.map gD)[j]=[.str c.H.bL[j].1,cj c.H.bL[j].2]:=λh=>by simp[gD]
 have ajb:j<(c.H.bL.map gD).length:=by simpa using kJ
 have an3:=Oa ajb;clear Oa;generalize c.H.bL[j]=sh at *;generalize c.H.bL.map gD=RS at *;rw[hj,Int.toNat_natCast,hg];simp only;have hzp:bY 4 (cj sh.2)=true:=rQ;have n6:aL (cj sh.2)=true:=iL;have WK:aJ (cj sh.2)=sh.2.map Vd.row:=pK;have NQ:(cj sh.2).view=cj sh.2:=mI;generalize cj sh.2=PV at *;simp[-an,-af,l7,dA,bR,fQ,cg,esh,hzs,Gn,ajb,an3,NQ,rC,kK,E.rows,E.aE,hb,hd,hj,pS,aj,AV.view,ai,ah];refine aT Pm.eq_1 (λi:Nat=>⟨[(2,.val (.ptr (pre.length+(r0.length+1)) 0 0 0)),(4,.fp 0 0),(16,.val PV),(17,.val (.int .i64 i))],[[.int .i64 5,.int .i64 e.n,.str e.nm,.str e.on,.int .i64 e.od,kv,.int .i64 e.a,.int .i64 e.ty.b,.int .i64 e.ty.r,.int .i64 e.ty.d,.int .i64 e.dz],[],[],[],[],[.int .i64 3,.int .i64 j,.int .i64 0]],
   pre++o::(r0++[.rows 0 11 [k9 5 0 e.nm [] 0 (.mu (pre.length+(r0.length+1+1)) 0) e.a T0 0],.rows 0 11 [[.int .i64 y.k,.int .i64 y.n,.str y.nm,.str y.on,.int .i64 y.od,bf y.aK,.int .i64 y.a,.int .i64 3,.int .i64 j,.int .i64 0,.int .i64 y.dz]]])⟩)
  (λi=>i<=sh.2.length/\iw e.nm 0 sh.2=iw e.nm i (sh.2.drop i)) (λi=>sh.2.length-i) 0 (by simp) ⟨by simp,by simp⟩ ?_
 rintro i ⟨hi,hp⟩ ih;by_cases Q2:i<sh.2.length;have hwi:=wk i (by omega);rw[yz Q2]at hp;by_cases q:sh.2[i].nm=e.nm;rw[if_pos q]at hp;rw[hp];simp[-an,-af,bR,cg,hzp,n6,WK,NQ,Q2,q,Vd.row,aj,AV.view,ai,ah];exact nq;rw[if_neg q]at hp;simp[-an,-af,cg,hzp,n6,WK,NQ,Q2,q,hwi,Vd.row,AV.view,ai,ah];exact ih (i+1) ⟨by omega,hp⟩ (by omega);have cL:i=sh.2.length:=by omega
 have iu:iw e.nm 0 sh.2=none:=by rw[hp,cL,abp];rfl
 rw[iu];simp[-an,-af,n6,WK,Q2];exact iY;rw[if_neg (λh=>hd h.2)];simp[-an,-af,l7,dA,bR,fQ,rC,kK,E.rows,E.aE,hb,hd,pS,aj,AV.view];exact iY;rw[if_neg (λh=>hb h.1)];simp[-an,-af,l7,dA,bR,fQ,rC,kK,E.rows,E.aE,hb,pS,aj,AV.view];exact iY;have h7:e.k=7:=by
  have:(0:Int)<e.k:=by
   apply Classical.byContradiction;intro hc;unfold iQ at hk;rw[if_neg (by omega),if_neg h2,if_neg (by omega),if_neg (by omega)]at hk;simp[h6]at hk;omega
  omega
 rw[h7];have Kb:mR c.H c.V 7 e.nm e.on e.od ys=oV c.H e.nm ys:=rfl;rw[Kb];obtain⟨v',bG,e1,e2⟩:=ecl ((pre++c.aZ::(r0++.rows 0 11 [k9 7 0 [] [] 0 (rC (pre.length+(r0.length+1+1)) ys) e.a T0 0]::kK ys)).length) 7 0 [] [] 0 e.a 0 T0;refine⟨v',bG,?_,e2⟩;obtain⟨b,Y,rfl,rfl,_⟩:=e2;simp only[abq,List.length_append,h7]at e1;have RA:(rC (pre.length+(r0.length+1+1)) ys).cx=true:=by unfold rC;split<;>rfl
 generalize c.aZ=o at *;generalize rC (pre.length+(r0.length+1+1)) ys=kw at *;generalize kK ys=K at *;refine aO (sf:=l7) rfl rfl rfl ?_;simp[-an,-af,l7,e1,pS,MB,AV.view]
 done
end R9
namespace R9
open Ax Go aF V7 jw jX K9
variable {pre:ag}
def Wh(pre:ag)(c:CK)(e:E):Prop:=match uS c.H c.V e with
 |.ok y=>∀aa r,(aP S).call 0 aa 114 [.ptr pre.length 0 0 0,.agg e.row] (pre++c.aZ::r)=some (.agg y.row,pre++c.aZ::r)|.error a=>∀aa r,(aP S).call 0 aa 114 [.ptr pre.length 0 0 0,.agg e.row] (pre++c.aZ::r)=some (.agg E0.row,pre++(c.fail a).aZ::r)
def S0(pre:ag)(c:CK)(e:E):Prop:=match LH c e with
 |.ok y=>∀aa r,(aP S).call 0 aa 115 [.ptr pre.length 0 0 0,.agg e.row] (pre++c.aZ::r)=some (.agg y.row,pre++c.aZ::r)|.error a=>∃y:E,∀aa r,(aP S).call 0 aa 115 [.ptr pre.length 0 0 0,.agg e.row] (pre++c.aZ::r)=some (.agg y.row,pre++(c.fail a).aZ::r)
theorem JI:E0.row=[.int .i64 0,.int .i64 0,.str [],.str [],.int .i64 0,.U,.int .i64 0,.int .i64 0,.int .i64 0,.int .i64 0,.int .i64 0]:=by simp[E0,E.row,E.rows]
theorem ajc{H:Hd}{V:List Vd}{e y:E}(h:uS H V e=.ok y):y.a=e.a:=by
 obtain⟨ks,t,r,_,_,_,rfl⟩:=qF h
 rfl
theorem L6(c:CK)(e:E)(hf:c.fe=0)(h:Wh pre c e):S0 pre c e:=by
 unfold Wh at h;unfold S0 LH;have kR:=λaa r=>gw (pre:=pre) aa c r;rw[decide_eq_true hf]at kR;have pS:aL (bf e.aK)=true:=bQ;have MB:(bf e.aK).view=bf e.aK:=bH;cases hc:uS c.H c.V e with
 |error a=>
  rw[hc]at h;simp only at h ⊢;refine⟨E0,λaa r=>?_⟩;have Bm:=rB (c:=c) (a:=a);have s5:=λaa r=>gw (pre:=pre) aa (c.fail a) r;rw[decide_eq_false Bm]at s5;rw[JI]at h ⊢;rw[E.aE e]at h ⊢;generalize (c.fail a).aZ=o2 at *;generalize c.aZ=o at *;generalize bf e.aK=kv at *;refine aO (sf:=NA) rfl rfl rfl ?_;simp[-an,-af,NA,h,s5,pS,MB,aj,AV.view]
 |ok y=>
  rw[hc]at h;simp only at h ⊢;have ha:=ajc hc;have hyv:aL (bf y.aK)=true:=bQ;have hyw:(bf y.aK).view=bf y.aK:=bH;by_cases q:y.ty=T0;rw[if_pos q];refine⟨y,λaa r=>?_⟩;have ef:=λaa r=>jj (pre:=pre) aa c e.a r;rw[show c.fail y.a=c.fail e.a by rw[ha]];rw[E.aE e]at h ⊢;rw[E.aE y]at h ⊢;generalize (c.fail e.a).aZ=o2 at *;generalize c.aZ=o at *;generalize bf e.aK=kv at *;generalize bf y.aK=yv at *;refine aO (sf:=NA) rfl rfl rfl ?_;simp[-an,-af,NA,h,kR,q,ef,pS,MB,hyv,hyw,aj,AV.view];rw[if_neg q];intro aa r;rw[E.aE e]at h ⊢;rw[E.aE y]at h ⊢;generalize c.aZ=o at *;generalize bf e.aK=kv at *;generalize bf y.aK=yv at *;refine aO (sf:=NA) rfl rfl rfl ?_;simp[-an,-af,NA,h,kR,d0,q,pS,MB,hyv,hyw,aj,AV.view]
theorem AZ{n k:Nat}{o:dK}{r0 K:ag}{cs:List AV}{v:AV}{bx:br}(h1:v.cells.length=n)(h2:AV.aS v.cells=true)(h3:k+v.cells.length<=cs.length) :
  aU 0 (pre.length+(r0.length+1)) (.store n) [.val (.ptr (pre.length+(r0.length+1)) 0 0 k),.val v] (pre++o::(r0++.rows 0 11 [cs]::K)) bx=some (.none,pre++o::(r0++.rows 0 11 [aj cs k v.cells]::K),bx):=by
 rw[af,if_pos ⟨h1,h2⟩];simp[eK,bD,h3]
theorem Qb{aa n j k w:Nat}{o X:dK}{r0 K:ag}{rows:List (List AV)}{row:List AV}{v:AV}{bx:br}(hr:rows[j]?=some row)(h1:v.cells.length=n)(h2:AV.aS v.cells=true)(h3:k+v.cells.length<=row.length)(h4:AV.au v.cells=true) :
  aU 0 aa (.store n) [.val (.ptr (pre.length+(r0.length+1+1)) w j k),.val v] (pre++o::(r0++X::.rows w 11 rows::K)) bx=some (.none,pre++o::(r0++X::.rows w 11 (rows.set j (aj row k v.cells))::K),bx):=by
 rw[af,if_pos ⟨h1,h2⟩];simp[eK,bD,h3,h4,hr]
def xO:List AV:=[.int .i64 0,.int .i64 0,.str [],.str [],.int .i64 0,.U,.int .i64 0,.int .i64 0,.int .i64 0,.int .i64 0,.int .i64 0]
theorem R6(c:CK)(e:E)(hf:c.fe=0)(hn:e.aK.length<1000000000)(hl:∀x∈e.aK,Wh pre c x)(_lim:Nat)(r0:ag){rs:List iE}{Q:Ex->St->Prop}{kk:List sX}(b1:List AV)(kv:AV)(pS:kv=bf e.aK)(row:List AV)(ff:row=[.int .i64 e.k,.int .i64 e.n,.str e.nm,.str e.on,.int .i64 e.od,kv,.int .i64 e.a,.int .i64 e.ty.b,.int .i64 e.ty.r,.int .i64 e.ty.d,.int .i64 e.dz])
  (KO:∀ys,oQ c.H c.V e.aK=.ok ys->W S 0 (pre.length+(r0.length+1)) rs Q kk .normal ⟨[(0,.val (.ptr pre.length 0 0 0)),(3,.fp 0 0),(4,.fp 1 0),(6,.val (.ptr (pre.length+(r0.length+1)) 0 0 0))],[row,b1],pre++c.aZ::(r0++.rows 0 11 [k9 e.k 0 [] [] 0 (rC (pre.length+(r0.length+1+1)) ys) e.a T0 0]::kK ys)⟩)
  (iu:∀a X K,oQ c.H c.V e.aK=.error a->W S 0 (pre.length+(r0.length+1)) rs Q kk .normal ⟨[(0,.val (.ptr pre.length 0 0 0)),(3,.fp 0 0),(4,.fp 1 0),(6,.val (.ptr (pre.length+(r0.length+1)) 0 0 0))],[row,b1],pre++(c.fail a).aZ::(r0++X::K)⟩) :
  W S 0 (pre.length+(r0.length+1)) rs Q (.code (.loop qZ)::.j7 0::kk) .normal ⟨[(0,.val (.ptr pre.length 0 0 0)),(3,.fp 0 0),(4,.fp 1 0),(6,.val (.ptr (pre.length+(r0.length+1)) 0 0 0)),(7,.val (.int .i64 0))],[row,b1],pre++c.aZ::(r0++[.rows 0 11 [k9 e.k 0 [] [] 0 .U e.a T0 0]])⟩:=by
 subst ff;have hz:bY 11 kv=true:=by rw[pS];exact nM
 have jB:aL kv=true:=by rw[pS];exact bQ
 have kQ:kv.view=kv:=by rw[pS];exact bH
 have jn:aJ kv=E.rows e.aK:=by rw[pS];exact aM
 have kR:=λaa r=>gw (pre:=pre) aa c r;rw[decide_eq_true hf]at kR;refine aT qZ.eq_1 (λx:Nat×List E×Option (Int×dK×ag)=>⟨[(0,.val (.ptr pre.length 0 0 0)),(3,.fp 0 0),(4,.fp 1 0),(6,.val (.ptr (pre.length+(r0.length+1)) 0 0 0)),(7,.val (.int .i64 x.1))],[[.int .i64 e.k,.int .i64 e.n,.str e.nm,.str e.on,.int .i64 e.od,kv,.int .i64 e.a,.int .i64 e.ty.b,.int .i64 e.ty.r,.int .i64 e.ty.d,.int .i64 e.dz],b1],
   match x.2.2 with
   |none=>pre++c.aZ::(r0++.rows 0 11 [k9 e.k 0 [] [] 0 (rC (pre.length+(r0.length+1+1)) x.2.1) e.a T0 0]::kK x.2.1)|some (a,X,K)=>pre++(c.fail a).aZ::(r0++X::K)⟩)
  (λx=>x.1<=e.aK.length/\match x.2.2 with
   |none=>x.2.1.length=x.1/\Jl x.2.1 (oQ c.H c.V (e.aK.drop x.1))=oQ c.H c.V e.aK|some (a,_,_)=>oQ c.H c.V e.aK=.error a) (λx=>e.aK.length-x.1) (0,[],none) rfl ⟨by simp,rfl,by simp[Jl];split<;>rename_i h<;>exact h.symm⟩ ?_
 rintro⟨j,ys,q⟩ ⟨hj,hq⟩ ih;simp only at hj hq ih;cases q with
 |some q=>
  obtain⟨a,X,K⟩:=q;simp only at hq ⊢;have Bm:=rB (c:=c) (a:=a);have s5:=λaa r=>gw (pre:=pre) aa (c.fail a) r;rw[decide_eq_false Bm]at s5;have Ob:=iu a X K hq;generalize (c.fail a).aZ=o2 at *;by_cases aQ:j<e.aK.length;simp[-an,-af,jB,kQ,jn,aQ,s5];exact Ob;simp[-an,-af,jB,kQ,jn,aQ];exact Ob
 |none=>
  simp only at hq ⊢;obtain⟨hy,hp⟩:=hq;by_cases aQ:j<e.aK.length;have hw:=wk j (by omega);have hv:=L6 (pre:=pre) c e.aK[j] hf (hl _ (aar aQ));unfold S0 at hv;rw[LI aQ]at hp;have gE:=HA aQ;have BQ:=λh2=>zO aQ h2;have lq:j<(E.rows e.aK).length:=by simpa using aQ
  have A2:=BQ lq;clear BQ;have region:∀(b:aX) (hb:b=qZ) (d:dK) (y:E),(∀aa r,(aP S).call 0 aa 115 [.ptr pre.length 0 0 0,.agg e.aK[j].row] (pre++c.aZ::r)=some (.agg y.row,pre++d::r))->
    W S 0 (pre.length+(r0.length+1)) rs Q (.code (.loop qZ)::.j7 0::kk) .normal ⟨[(0,.val (.ptr pre.length 0 0 0)),(3,.fp 0 0),(4,.fp 1 0),(6,.val (.ptr (pre.length+(r0.length+1)) 0 0 0)),(7,.val (.int .i64 ((j+1:Nat):Int)))],[[.int .i64 e.k,.int .i64 e.n,.str e.nm,.str e.on,.int .i64 e.od,kv,.int .i64 e.a,.int .i64 e.ty.b,.int .i64 e.ty.r,.int .i64 e.ty.d,.int .i64 e.dz],b1],
     pre++d::(r0++.rows 0 11 [k9 e.k 0 [] [] 0 (rC (pre.length+(r0.length+1+1)) (ys++[y])) e.a T0 0]::kK (ys++[y]))⟩->
    W S 0 (pre.length+(r0.length+1)) rs Q (.code b::.wj qZ::.j7 0::kk) .normal ⟨[(0,.val (.ptr pre.length 0 0 0)),(3,.fp 0 0),(4,.fp 1 0),(6,.val (.ptr (pre.length+(r0.length+1)) 0 0 0)),(7,.val (.int .i64 j))],[[.int .i64 e.k,.int .i64 e.n,.str e.nm,.str e.on,.int .i64 e.od,kv,.int .i64 e.a,.int .i64 e.ty.b,.int .i64 e.ty.r,.int .i64 e.ty.d,.int .i64 e.dz],b1],
     pre++c.aZ::(r0++.rows 0 11 [k9 e.k 0 [] [] 0 (rC (pre.length+(r0.length+1+1)) ys) e.a T0 0]::kK ys)⟩:=by
   intro b hb d y fJ EU;rw[qZ.eq_1]at hb;subst hb;rw[E.aE e.aK[j]]at fJ gE A2;have hyv:aL (bf y.aK)=true:=bQ;have hyw:(bf y.aK).view=bf y.aK:=bH;rw[E.aE y]at fJ;generalize e.aK[j]=x at *;generalize c.aZ=o at *;clear ih iu KO hl hv;cases ys with
   |nil=>
    simp only[rC,kK,List.isEmpty_nil,if_true];simp[-an,-af,jB,kQ,jn,aQ,kR];rw[yd];have hwl:IntKind.i64.wrap (0:Int)=0:=(by decide);simp[-an,-af,eE,dA,AZ,Qb,hyv,bw,dQ,kQ,jn,hz,aQ,A2,cg,fJ,aj,AV.view];refine⟨_,_,⟨rfl,rfl⟩,?_⟩;simp[-an,-af,ju,dY,xSt,dA,AZ,bp,hw,aj,AV.view,eW.fB,AV.fB];simp only[List.nil_append,rC,kK,E.rows,E.aE y,ag7,aaq,if_false]at EU;exact EU
   |cons y0 l=>
    have hnx:W S 0 (pre.length+(r0.length+1)) rs Q (.code (.loop qZ)::.j7 0::kk) .normal ⟨[(0,.val (.ptr pre.length 0 0 0)),(3,.fp 0 0),(4,.fp 1 0),(6,.val (.ptr (pre.length+(r0.length+1)) 0 0 0)),(7,.val (.int .i64 ((j+1:Nat):Int)))],[[.int .i64 e.k,.int .i64 e.n,.str e.nm,.str e.on,.int .i64 e.od,kv,.int .i64 e.a,.int .i64 e.ty.b,.int .i64 e.ty.r,.int .i64 e.ty.d,.int .i64 e.dz],b1],
     pre++d::(r0++.rows 0 11 [k9 e.k 0 [] [] 0 (.mu (pre.length+(r0.length+1+1)) (l.length+1)) e.a T0 0]::[.rows (l.length+1) 11 (E.rows (y0::l)++[y.row])])⟩:=by
     have h1:rC (pre.length+(r0.length+1+1)) (y0::l++[y])=.mu (pre.length+(r0.length+1+1)) (l.length+1):=(by simp[rC]);have h2:kK (y0::l++[y])=[.rows (l.length+1) 11 (E.rows (y0::l)++[y.row])]:=(by simp[kK,iJ]);rw[h1,h2]at EU;exact EU
    clear EU;have QM:(E.rows (y0::l)).length=l.length+1:=(by simp);simp only[rC,kK,ag7,aaq,if_false,abq,Nat.add_sub_cancel];rw[E.aE y]at hnx;simp only[abq]at hy;generalize E.rows (y0::l)=R at *;have nC:∀(aa:Nat) (o X:dK) (new:List AV) (bx:br),new.length=11->AV.au new=true->aU 0 aa (.kE 11 120) [.val (.mu (pre.length+(r0.length+1+1)) l.length),.val (.dh 11 [new])] (pre++o::(r0++[X,.rows l.length 11 R])) bx=some (.val (.mu (pre.length+(r0.length+1+1)) (l.length+1)),pre++o::(r0++[X,.rows (l.length+1) 11 (R++[new])]),bx):=λaa o X new bx h1 h2=>by
     simp[aU,yG,dV,fF,bw,h1,h2,QM,dQ];omega
    have i1:(0:Int)<=(l.length:Int)+1:=(by omega);have i2:(l.length:Int)<(l.length:Int)+1:=(by omega);have g1:∀z:List AV,(R++[z])[l.length+1]?=some z:=λz=>by rw[<-QM];simp
    have g2:∀z w:List AV,(R++[z]).set (l.length+1) w=R++[w]:=λz w=>by rw[<-QM];simp
    simp[-an,-af,jB,kQ,jn,aQ,kR];rw[yd];simp[-an,-af,eE,dA,AZ,Qb,i1,i2,g2,hyv,nC,QM,kQ,jn,hz,aQ,A2,cg,fJ,aj,AV.view];refine⟨_,_,⟨rfl,rfl⟩,?_⟩;simp[-an,-af,ju,dY,xSt,dA,AZ,i1,i2,QM,bp,hw,aj,AV.view,eW.fB,AV.fB];exact hnx
  cases hx:LH c e.aK[j] with
  |error a=>
   rw[hx]at hp hv;simp only at hp hv;obtain⟨y,hv⟩:=hv;exact region _ rfl _ y hv (ih (j+1,ys++[y],some (a,_,_)) ⟨by simp only;omega,hp.symm⟩ (by simp only;omega))
  |ok y=>
   rw[hx]at hp hv;simp only at hp hv;exact region _ rfl _ y hv (ih (j+1,ys++[y],none) ⟨by simp only;omega,by simp[hy],hp⟩ (by simp only;omega))
  have cL:j=e.aK.length:=by omega
  have hR:oQ c.H c.V e.aK=.ok ys:=by
   rw[<-hp,cL,abp];simp[oQ,Jl]
  have WM:=KO ys hR;generalize c.aZ=o at *;simp[-an,-af,jB,kQ,jn,aQ];exact WM
end R9
namespace R9
open Ax Go aF V7 jw jX K9
variable {pre:ag}
theorem aex(H:Hd)(V:List Vd)(e:E):uS H V e=if iQ e.k e.n e.aK.length then
  match oQ H V e.aK with
  |.error x=>.error x|.ok ks=>match mR H V e.k e.nm e.on e.od ks with
   |none=>.error e.a|some (t,r)=>.ok (.mk e.k (qK e.k e.n) (qC e.k e.nm) (qD e.k e.on) (qE e.k e.od) ks e.a t r)
  else .error e.a:=by
 obtain⟨k,n,nm,on,od,aK,a,ty,dz⟩:=e
 (conv=>lhs;unfold uS)<;>rfl
def iF:aX->aX
 |.seq _ b=>b|x=>x
def v8:aX:=iF (iF (iF (iF (iF pg.body))))
theorem aas(_e:E)(a:Int)(c:CK)(r:ag)(o X:dK)(K:ag)(row:List AV) :
  W S 0 (pre.length+(r.length+1)) pg.results (CU pg.results .oP (pre++o::r) (.agg E0.row,pre++(c.fail a).aZ::r)) [.code v8] .normal ⟨[(0,.val (.ptr pre.length 0 0 0)),(3,.fp 0 0),(4,.fp 1 0),(6,.val (.ptr (pre.length+(r.length+1)) 0 0 0))],[row,xO],pre++(c.fail a).aZ::(r++X::K)⟩:=by
 have Bm:=rB (c:=c) (a:=a);have s5:=λaa r=>gw (pre:=pre) aa (c.fail a) r;rw[decide_eq_false Bm]at s5;rw[JI];generalize (c.fail a).aZ=o2 at *;simp[-an,-af,v8,iF,pg,s5,xO,aj,AV.view]
theorem Oc{wl:Nat}{v:AV}{st:ag}(h:aL v=true):lE wl v st=some (v.view,st):=by
 cases v<;>simp_all [aL,lE,AV.ay,AV.cx]
theorem R7{wl:Nat}{y:E}{st:ag}:j6 wl y.row st=some (y.row,st):=by
 have h1:aL (bf y.aK)=true:=bQ;have h2:(bf y.aK).view=bf y.aK:=bH;have h3:lE wl (bf y.aK) st=some (bf y.aK,st):=by rw[Oc h1,h2]
 have fI:∀n,lE wl (.int .i64 n) st=some (.int .i64 n,st):=λn=>rfl;have fS:∀n,lE wl (.str n) st=some (.str n,st):=λn=>rfl;rw[E.aE];simp only[j6,h3,fI,fS]
theorem FC{wl:Nat}{st:ag}:∀ys:List E,jH wl (E.rows ys) st=some (E.rows ys,st)
 |[]=>rfl|y::ys=>by simp only[E.rows,jH,R7,FC ys]
theorem WN{wl v:Nat}{o X:dK}{r:ag}{ys:List E}(hw:wl=0)(h:ys≠[]):iG wl (.mu (pre.length+(r.length+1+1)) v) (pre++o::(r++[X,.rows v 11 (E.rows ys)]))=some (.dh 11 (E.rows ys),pre++o::(r++[X,.rows (v+1) 11 []])):=by
 subst hw;have h2:(E.rows ys).isEmpty=false:=by cases ys with
  |nil=>exact absurd rfl h|cons y l=>rfl
 simp[iG,FC];cases ys with
 |nil=>exact absurd rfl h|cons y l=>simp[E.rows]
theorem R8(aa:Nat)(c:CK)(r0:ag)(e:E)(ys:List E)(hk:iQ e.k e.n ys.length=true)(tX:12<=e.k) :
  ∃v' bG,(aP S).call 0 aa 125 [.ptr pre.length 0 0 0,.ptr (pre.length+(r0.length+1)) 0 0 0] (pre++c.aZ::(r0++.rows 0 11 [k9 e.k 0 [] [] 0 (rC (pre.length+(r0.length+1+1)) ys) e.a T0 0]::kK ys))=some (v',bG)/\
   JG pre c.aZ r0 (kK ys) (mR c.H c.V e.k e.nm e.on e.od ys) (k9 e.k (qK e.k e.n) (qC e.k e.nm) (qD e.k e.on) (qE e.k e.od) (rC (pre.length+(r0.length+1+1)) ys) e.a) v' bG:=by
 rw[R4 tX];have k1:qK e.k e.n=0:=if_neg (by omega);have k2:qC e.k e.nm=[]:=if_neg (by omega);have k3:qD e.k e.on=[]:=if_neg (by omega);have k4:qE e.k e.od=0:=if_neg (by omega);rw[k1,k2,k3,k4];by_cases h:e.k=12\/e.k=13;obtain⟨y,rfl⟩:∃y,ys=[y]:=by
  have hlen:ys.length=1:=by rcases h with h|h<;>rw[h]at hk<;>simpa [iQ] using hk
  match ys,hlen with
  |[y],_=>exact⟨y,rfl⟩
 rw[if_pos h];exact⟨_,_,R2 (pre:=pre) aa c.aZ r0 e.k 0 [] [] 0 e.a 0 T0 y h,AY⟩;have F2:14<=e.k:=by omega
 obtain⟨x,y,rfl⟩:∃x y,ys=[x,y]:=by
  have hlen:ys.length=2:=by
   unfold iQ at hk;rw[if_neg (by omega),if_neg (by omega),if_neg (by omega),if_neg (by omega)]at hk;simp only[Bool.and_eq_true,decide_eq_true_eq]at hk;exact hk.2
  match ys,hlen with
  |[x,y],_=>exact⟨x,y,rfl⟩
 rw[if_neg h];exact⟨_,_,R3 (pre:=pre) aa c.aZ r0 e.k 0 [] [] 0 e.a 0 T0 x y F2,AY⟩
theorem IG(o o0:dK)(r:ag)(ys:List E)(kk n:Int)(nm on:List UInt8)(od a z:Int)(t:T3)(row:List AV)(_hrow:row.length=11) :
  W S 0 (pre.length+(r.length+1)) [iE.box 4 1 11 true] (CU [iE.box 4 1 11 true] .oP (pre++o0::r) (.agg (k9 kk n nm on od (bf ys) a t z),pre++o::r))
  [.code (.wJ 6 5),.code (.region [{ dst:=some 94,op:=.load true 11 false,args:=[.tmp 6 true],guard:=none },{ dst:=none,op:=.iW 1 11,args:=[.tmp 4 false,.tmp 94 true],guard:=none }] none []),.code .ret] .normal
  ⟨[(4,.fp 1 0),(6,.val (.ptr (pre.length+(r.length+1)) 0 0 0))],[row,xO],pre++o::(r++.rows 0 11 [k9 kk n nm on od (rC (pre.length+(r.length+1+1)) ys) a t z]::kK ys)⟩:=by
 have hyv:aL (bf ys)=true:=bQ;have hyw:(bf ys).view=bf ys:=bH;rw[Uk];cases ys with
 |nil=>
  refine⟨pre.length+(r.length+1),0,0,0,.U,.U,pre++o::(r++[.rows 0 11 [k9 kk n nm on od .U a t z]]),pre++o::(r++[.rows 0 11 [k9 kk n nm on od .U a t z]]),rfl,?_,rfl,?_,?_⟩;simp[fy,rC,kK,cut];simp[eK,bD,aj];have he:bf []=.U:=rfl;rw[he];simp[-an,-af,dA,xO,aj,AV.view]
 |cons y l=>
  have he:bf (y::l)=.dh 11 (E.rows (y::l)):=rfl;have hfz:=WN (pre:=pre) (wl:=0) (v:=(y::l).length-1) (o:=o) (X:=.rows 0 11 [k9 kk n nm on od (.mu (pre.length+(r.length+1+1)) ((y::l).length-1)) a t z]) (r:=r) (ys:=y::l) rfl (by simp);refine⟨pre.length+(r.length+1),0,0,0,.mu (pre.length+(r.length+1+1)) ((y::l).length-1),.dh 11 (E.rows (y::l)),_,pre++o::(r++[.rows 0 11 [k9 kk n nm on od (.dh 11 (E.rows (y::l))) a t z],.rows ((y::l).length-1+1) 11 []]),rfl,?_,hfz,?_,?_⟩;simp[fy,rC,kK,cut];simp[eK,bD,aj];rw[he];generalize E.rows (y::l)=R at *;simp[-an,-af,dA,xO,aj,AV.view]
theorem aat(c:CK)(e:E)(r:ag)(o0:dK)(ys:List E)(hf:c.fe=0)(hs:AO c)(hn:ys.length<1000000000)(hk:iQ e.k e.n ys.length=true)(hRS:c.H.rs.length=c.H.bL.length)(hw:∀x∈ys,WT c.H.rs.length x.ty) :
  W S 0 (pre.length+(r.length+1)) pg.results (CU pg.results .oP (pre++o0::r) (match mR c.H c.V e.k e.nm e.on e.od ys with
   |none=>(.agg E0.row,pre++(c.fail e.a).aZ::r)
   |some (t,z)=>(.agg (E.mk e.k (qK e.k e.n) (qC e.k e.nm) (qD e.k e.on) (qE e.k e.od) ys e.a t z).row,pre++c.aZ::r))) [.code v8] .normal
   ⟨[(0,.val (.ptr pre.length 0 0 0)),(3,.fp 0 0),(4,.fp 1 0),(6,.val (.ptr (pre.length+(r.length+1)) 0 0 0))],[[.int .i64 e.k,.int .i64 e.n,.str e.nm,.str e.on,.int .i64 e.od,bf e.aK,.int .i64 e.a,.int .i64 e.ty.b,.int .i64 e.ty.r,.int .i64 e.ty.d,.int .i64 e.dz],xO],
    pre++c.aZ::(r++.rows 0 11 [k9 e.k 0 [] [] 0 (rC (pre.length+(r.length+1+1)) ys) e.a T0 0]::kK ys)⟩:=by
 have kR:=λaa r=>gw (pre:=pre) aa c r;rw[decide_eq_true hf]at kR;have zk:=λaa r=>jj (pre:=pre) aa c e.a r;have pS:aL (bf e.aK)=true:=bQ;have MB:(bf e.aK).view=bf e.aK:=bH;have done:∀v' bG,JG pre c.aZ r (kK ys) (mR c.H c.V e.k e.nm e.on e.od ys) (k9 e.k (qK e.k e.n) (qC e.k e.nm) (qD e.k e.on) (qE e.k e.od) (rC (pre.length+(r.length+1+1)) ys) e.a) v' bG->
   (12<=e.k->(aP S).call 0 (pre.length+(r.length+1)) 125 [.ptr pre.length 0 0 0,.ptr (pre.length+(r.length+1)) 0 0 0] (pre++c.aZ::(r++.rows 0 11 [k9 e.k 0 [] [] 0 (rC (pre.length+(r.length+1+1)) ys) e.a T0 0]::kK ys))=some (v',bG))->
   (¬12<=e.k->(aP S).call 0 (pre.length+(r.length+1)) 126 [.ptr pre.length 0 0 0,.agg e.row,.ptr (pre.length+(r.length+1)) 0 0 0] (pre++c.aZ::(r++.rows 0 11 [k9 e.k 0 [] [] 0 (rC (pre.length+(r.length+1+1)) ys) e.a T0 0]::kK ys))=some (v',bG))->
   W S 0 (pre.length+(r.length+1)) pg.results (CU pg.results .oP (pre++o0::r) (match mR c.H c.V e.k e.nm e.on e.od ys with
    |none=>(.agg E0.row,pre++(c.fail e.a).aZ::r)
    |some (t,z)=>(.agg (E.mk e.k (qK e.k e.n) (qC e.k e.nm) (qD e.k e.on) (qE e.k e.od) ys e.a t z).row,pre++c.aZ::r))) [.code v8] .normal
    ⟨[(0,.val (.ptr pre.length 0 0 0)),(3,.fp 0 0),(4,.fp 1 0),(6,.val (.ptr (pre.length+(r.length+1)) 0 0 0))],[[.int .i64 e.k,.int .i64 e.n,.str e.nm,.str e.on,.int .i64 e.od,bf e.aK,.int .i64 e.a,.int .i64 e.ty.b,.int .i64 e.ty.r,.int .i64 e.ty.d,.int .i64 e.dz],xO],
     pre++c.aZ::(r++.rows 0 11 [k9 e.k 0 [] [] 0 (rC (pre.length+(r.length+1+1)) ys) e.a T0 0]::kK ys)⟩:=by
  rintro v' bG ⟨b,Y,rfl,rfl,hT⟩ c1 c2;rw[E.aE e]at c2;generalize bf e.aK=kv at *;cases ht:mR c.H c.V e.k e.nm e.on e.od ys with
  |none=>
   rw[ht]at hT;simp only at hT ⊢;subst hT;rw[JI];generalize (c.fail e.a).aZ=o2 at *;generalize c.aZ=o at *;by_cases tX:12<=e.k;have c1:=c1 tX;simp[-an,-af,v8,iF,pg,kR,c1,tX,zk,xO,aj,AV.view];have c2:=c2 tX;simp[-an,-af,v8,iF,pg,kR,c2,tX,zk,xO,MB,aj,AV.view]
  |some x=>
   obtain⟨t,z⟩:=x;rw[ht]at hT;obtain⟨rfl,rfl⟩:=hT;simp only;have hr:∀k n nm on od ks a (t:T3) z,(E.mk k n nm on od ks a t z).row=[.int .i64 k,.int .i64 n,.str nm,.str on,.int .i64 od,bf ks,.int .i64 a,.int .i64 t.b,.int .i64 t.r,.int .i64 t.d,.int .i64 z]:=λk n nm on od ks a t z=>E.aE _;rw[hr];generalize c.aZ=o at *;by_cases tX:12<=e.k;have c1:=c1 tX;simp[-an,-af,v8,iF,pg,kR,c1,tX,AV.view];exact IG (pre:=pre) _ _ _ _ _ _ _ _ _ _ _ _ _ rfl;have c2:=c2 tX;simp[-an,-af,v8,iF,pg,kR,c2,tX,MB,AV.view];exact IG (pre:=pre) _ _ _ _ _ _ _ _ _ _ _ _ _ rfl
 by_cases tX:12<=e.k;obtain⟨v',bG,h1,h2⟩:=R8 (pre:=pre) (pre.length+(r.length+1)) c r e ys hk tX;exact done v' bG h2 (λ_=>h1) (λh=>absurd tX h);obtain⟨v',bG,h1,h2⟩:=Fk (pre:=pre) (pre.length+(r.length+1)) c r e ys hs hn hk (by omega) hRS hw;exact done v' bG h2 (λh=>absurd h tX) (λ_=>h1)
theorem nE(c:CK)(hf:c.fe=0)(hw:BJ c)(e:E):E.sz e<1000000000->Wh pre c e:=by
 induction e using E.zY with
 |_ e ih=>
  intro fM;have uR:=E.vP e;have cL:=E.lK e.aK;have hl:∀x∈e.aK,Wh pre c x:=λx hx=>ih x hx (by have:=E.tD hx;omega);have Gp:=λwl aa st=>Dx wl aa e.k st;have Du:=N8 e.k e.n e.aK.length;have zk:=λaa r=>jj (pre:=pre) aa c e.a r;have kR:=λaa r=>gw (pre:=pre) aa c r;rw[decide_eq_true hf]at kR;unfold Wh;rw[aex];have pS:aL (bf e.aK)=true:=bQ;have MB:(bf e.aK).view=bf e.aK:=bH;have jn:aJ (bf e.aK)=E.rows e.aK:=aM;have qQ:(E.rows e.aK).length=e.aK.length:=by simp
  cases hk:iQ e.k e.n e.aK.length with
  |false=>
   rw[hk]at Du;simp only[aaq,if_false];intro aa r;rw[JI,E.aE e];generalize CC e.k=kt at *;generalize (c.fail e.a).aZ=o2 at *;generalize c.aZ=o at *;generalize bf e.aK=kv at *;generalize E.rows e.aK=RE at *;refine aO (sf:=pg) rfl rfl rfl ?_;by_cases a1:kt = -2;simp[-an,-af,pg,Gp,a1,zk,pS,aj,AV.view];by_cases a2:0<=kt;by_cases a3:(e.aK.length:Int)=kt;have a4:e.k=2/\e.n≠0/\e.n≠1:=(by simpa [a1,a2,a3] using Du);have a5:(e.k=2)=True:=eq_true a4.1;have a6:(e.n=0)=False:=eq_false a4.2.1;have a7:(e.n=1)=False:=eq_false a4.2.2;simp[-an,-af,pg,Gp,a1,a2,a3,a5,a6,a7,zk,pS,MB,jn,qQ,aj,AV.view];simp[-an,-af,pg,Gp,a1,a2,a3,zk,pS,MB,jn,qQ,aj,AV.view];have a4:e.k=2/\e.n≠0/\e.n≠1:=(by simpa [a1,a2] using Du);have a5:(e.k=2)=True:=eq_true a4.1;have a6:(e.n=0)=False:=eq_false a4.2.1;have a7:(e.n=1)=False:=eq_false a4.2.2;simp[-an,-af,pg,Gp,a1,a2,a5,a6,a7,zk,pS,aj,AV.view]
  |true=>
   rw[hk]at Du;simp only[if_true];have hRS:=hw.H.rs;have walk:∀(aa:Nat) (r:ag) (v:AV) (st:ag),W S 0 (pre.length+(r.length+1)) pg.results (CU pg.results .oP (pre++c.aZ::r) (v,st)) [.code (.loop qZ),.j7 0,.code v8] .normal
     ⟨[(0,.val (.ptr pre.length 0 0 0)),(3,.fp 0 0),(4,.fp 1 0),(6,.val (.ptr (pre.length+(r.length+1)) 0 0 0)),(7,.val (.int .i64 0))],[[.int .i64 e.k,.int .i64 e.n,.str e.nm,.str e.on,.int .i64 e.od,bf e.aK,.int .i64 e.a,.int .i64 e.ty.b,.int .i64 e.ty.r,.int .i64 e.ty.d,.int .i64 e.dz],xO],
      pre++c.aZ::(r++[.rows 0 11 [k9 e.k 0 [] [] 0 .U e.a T0 0]])⟩->(aP S).call 0 aa 114 [.ptr pre.length 0 0 0,.agg e.row] (pre++c.aZ::r)=some (v,st):=by
    intro aa r v st go;rw[E.aE e];generalize CC e.k=kt at *;generalize c.aZ=o at *;generalize bf e.aK=kv at *;generalize E.rows e.aK=RE at *;refine aO (sf:=pg) rfl rfl rfl ?_;have fork:(e.k≠2)\/(e.k=2/\e.n=0)\/(e.k=2/\e.n≠0/\e.n=1):=by
     by_cases h2:e.k=2;by_cases h3:e.n=0;exact .inr (.inl ⟨h2,h3⟩);by_cases h4:e.n=1;exact .inr (.inr ⟨h2,h3,h4⟩);simp[h2,h3,h4]at Du;exact .inl h2
    have a1:kt≠-2:=λh=>by simp[h]at Du
    by_cases a2:0<=kt;have a3:(e.aK.length:Int)=kt:=by
     apply Classical.byContradiction;intro h;simp[a2,h]at Du
    rcases fork with a4|⟨a4,a5⟩|⟨a4,a5,a6⟩;simp[-an,-af,pg,Gp,a1,a2,a3,a4,pS,MB,jn,qQ,bR,aj,AV.view];exact go;have a4:(e.k=2)=True:=eq_true a4;have a5:(e.n=0)=True:=eq_true a5;simp[-an,-af,pg,Gp,a1,a2,a3,a4,a5,pS,MB,jn,qQ,bR,aj,AV.view];exact go;have a4:(e.k=2)=True:=eq_true a4;have a6:(e.n=1)=True:=eq_true a6;simp[-an,-af,pg,Gp,a1,a2,a3,a4,a5,a6,pS,MB,jn,qQ,bR,aj,AV.view];exact go;rcases fork with a4|⟨a4,a5⟩|⟨a4,a5,a6⟩;simp[-an,-af,pg,Gp,a1,a2,a4,pS,bR,aj,AV.view];exact go;have a4:(e.k=2)=True:=eq_true a4;have a5:(e.n=0)=True:=eq_true a5;simp[-an,-af,pg,Gp,a1,a2,a4,a5,pS,bR,aj,AV.view];exact go;have a4:(e.k=2)=True:=eq_true a4;have a6:(e.n=1)=True:=eq_true a6;simp[-an,-af,pg,Gp,a1,a2,a4,a5,a6,pS,bR,aj,AV.view];exact go
   have loop:=λr {rs:List iE} {Q:Ex->St->Prop} {kk:List sX}=>R6 (pre:=pre) c e hf (by omega) hl 0 r (rs:=rs) (Q:=Q) (kk:=kk) xO (bf e.aK) rfl _ rfl;cases hv:oQ c.H c.V e.aK with
   |error a=>
    simp only;intro aa r;refine walk aa r _ _ (loop r (λys h=>by rw[hv]at h;cases h) λa' X K h=>?_);rw[hv]at h;cases h;exact aas (pre:=pre) e a c r c.aZ X K _
   |ok ks=>
    simp only;have hlen:=nD hv;have X5:∀x∈ks,WT c.H.rs.length x.ty:=jM hv λx hx y hy=>I8 hw.H hw.V x y hy;have ht:=λr=>aat (pre:=pre) c e r c.aZ ks hf hw.s (by omega) (by rw[hlen];exact hk) hRS X5;cases hT:mR c.H c.V e.k e.nm e.on e.od ks with
    |none=>
     simp only;intro aa r;refine walk aa r _ _ (loop r (λys h=>?_) λa' X K h=>by rw[hv]at h;cases h);rw[hv]at h;cases h;have ht:=ht r;rw[hT]at ht;exact ht
    |some x=>
     obtain⟨t,z⟩:=x;simp only;intro aa r;refine walk aa r _ _ (loop r (λys h=>?_) λa' X K h=>by rw[hv]at h;cases h);rw[hv]at h;cases h;have ht:=ht r;rw[hT]at ht;exact ht
end R9
namespace R9
open Ax Go aF V7 jw jX K9
variable {pre:ag}
theorem WQ{aa:Nat}{c:CK}{bx:br}:aU 0 aa (.load false 1 true) [.val (.ptr pre.length 0 0 11)] (pre++[c.aZ]) bx=some (.val (bF 4 (c.V.map Vd.row)),pre++[c.RJ (bF 4 (c.V.map Vd.row)).eL],bx):=by
 simp only[CK.aZ,CK.RJ];generalize c.V.map Vd.row=rows;cases rows with
 |nil=>simp[aU,bF,cut,fy,eK,bD,AV.eL,AV.ay,AV.au,aj,bU]|cons a l=>simp[aU,bF,cut,fy,eK,bD,AV.eL,AV.ay,AV.au,aj,bU]
theorem abW{aa:Nat}{c:CK}{w:AV}{W:List Vd}{bx:br}:aU 0 aa (.store 1) [.val (.ptr pre.length 0 0 11),.val (bF 4 (W.map Vd.row))] (pre++[c.RJ w]) bx=some (.none,pre++[({ c with V:=W }:CK).aZ],bx):=by
 simp[CK.aZ,CK.RJ,bD,AV.au,aj]
def C2(pre:ag)(c:CK)(s:Sm):Prop:=match yM c.H c.sg.bg c.sg.res c.V s with
 |.ok (y,W)=>∀aa,(aP S).call 0 aa 102 [.ptr pre.length 0 0 0,.agg s.row] (pre++[c.aZ])=some (.agg y.row,pre++[(c.cC W).aZ])|.error a=>∀aa,∃W row,Jm row/\(aP S).call 0 aa 102 [.ptr pre.length 0 0 0,.agg s.row] (pre++[c.aZ])=some (.agg row,pre++[((c.cC W).fail a).aZ])
def MA(pre:ag)(c:CK)(l:List Sm):Prop:=match mO c.H c.sg.bg c.sg.res c.V l with
 |.ok (ys,W)=>∀aa,(aP S).call 0 aa 71 [.ptr pre.length 0 0 0,bN l] (pre++[c.aZ])=some (bF 9 (Sm.rows ys),pre++[(c.cC W).aZ])|.error a=>∀aa,∃W v,aL v=true/\(aP S).call 0 aa 71 [.ptr pre.length 0 0 0,bN l] (pre++[c.aZ])=some (v,pre++[((c.cC W).fail a).aZ])
theorem Qc(c:CK)(s:Sm)(hf:c.fe=0)(hn:s.es.length<1000000000)(h9:s.k≠9)(hl:∀x∈s.es,Wh pre c x)(aa:Nat){rs:List iE}{Q:Ex->St->Prop}{kk:List sX}(b1 b3 b4 b5:List AV)(dc:Bool)(xk Od xa xr:Int)(xnm Oe:List UInt8)
  (row:List AV)(ff:row=s.row)
  (KO:∀ys,oQ c.H c.V s.es=.ok ys->W S 0 aa rs Q kk .normal ⟨[(0,.val (.ptr pre.length 0 0 0)),(3,.fp 0 0),(4,.fp 1 0),(5,.fp 2 0),(6,.fp 3 0),(7,.val (.bool dc))],[row,b1,[.int .i64 xk,.str xnm,.str Oe,.int .i64 Od,bF 11 (E.rows ys),.U,.U,.int .i64 xa,.int .i64 xr],b3,b4,b5],pre++[c.aZ]⟩)
  (iu:∀a v,aL v=true->oQ c.H c.V s.es=.error a->W S 0 aa rs Q kk .normal ⟨[(0,.val (.ptr pre.length 0 0 0)),(3,.fp 0 0),(4,.fp 1 0),(5,.fp 2 0),(6,.fp 3 0),(7,.val (.bool dc))],[row,b1,[.int .i64 xk,.str xnm,.str Oe,.int .i64 Od,v,.U,.U,.int .i64 xa,.int .i64 xr],b3,b4,b5],pre++[(c.fail a).aZ]⟩) :
  W S 0 aa rs Q (.code (.loop ow)::.j7 0::kk) .normal ⟨[(0,.val (.ptr pre.length 0 0 0)),(3,.fp 0 0),(4,.fp 1 0),(5,.fp 2 0),(6,.fp 3 0),(7,.val (.bool dc)),(10,.val (.int .i64 0))],[row,b1,[.int .i64 xk,.str xnm,.str Oe,.int .i64 Od,.U,.U,.U,.int .i64 xa,.int .i64 xr],b3,b4,b5],pre++[c.aZ]⟩:=by
 subst ff;rw[Sm.aE]at *;have hz:bY 11 (bf s.es)=true:=nM;have jB:aL (bf s.es)=true:=bQ;have kQ:(bf s.es).view=bf s.es:=bH;have jn:aJ (bf s.es)=E.rows s.es:=aM;have b1':aL (bN s.bd)=true:=cZ;have kR:=λaa r=>gw (pre:=pre) aa c r;rw[decide_eq_true hf]at kR;have nC:∀(ys:List E) (y:E),ys.length<1000000000->qY 11 120 (bF 11 (E.rows ys)) [y.row]=some (bF 11 (E.rows (ys++[y]))):=λys y h=>by
  rw[eB (by simp[bw,E.aE]) (by simp[dQ];omega)];simp[iJ]
 generalize bf s.es=kv at *;generalize bN s.bd=bv at *;generalize bN s.el=lv at *;refine aT ow.eq_1 (λx:Nat×List E×Option Int=>⟨[(0,.val (.ptr pre.length 0 0 0)),(3,.fp 0 0),(4,.fp 1 0),(5,.fp 2 0),(6,.fp 3 0),(7,.val (.bool dc)),(10,.val (.int .i64 x.1))],
   [[.int .i64 s.k,.str s.nm,.str s.on,.int .i64 s.od,kv,bv,lv,.int .i64 s.a,.int .i64 s.dz],b1,[.int .i64 xk,.str xnm,.str Oe,.int .i64 Od,bF 11 (E.rows x.2.1),.U,.U,.int .i64 xa,.int .i64 xr],b3,b4,b5],
   match x.2.2 with
   |none=>pre++[c.aZ]|some a=>pre++[(c.fail a).aZ]⟩)
  (λx=>x.1<=s.es.length/\x.2.1.length=x.1/\match x.2.2 with
   |none=>Jl x.2.1 (oQ c.H c.V (s.es.drop x.1))=oQ c.H c.V s.es|some a=>oQ c.H c.V s.es=.error a) (λx=>s.es.length-x.1) (0,[],none) rfl ⟨by simp,rfl,by simp[Jl];split<;>rename_i h<;>exact h.symm⟩ ?_
 rintro⟨j,ys,q⟩ ⟨hj,hy,hq⟩ ih;simp only at hj hq ih hy;cases q with
 |some a=>
  simp only at hq ⊢;have Bm:=rB (c:=c) (a:=a);have s5:=λaa r=>gw (pre:=pre) aa (c.fail a) r;rw[decide_eq_false Bm]at s5;have Ob:=iu a (bF 11 (E.rows ys)) cP hq;generalize (c.fail a).aZ=o2 at *;by_cases aQ:j<s.es.length;simp[-an,-af,jB,kQ,jn,aQ,s5];exact Ob;simp[-an,-af,jB,kQ,jn,aQ];exact Ob
 |none=>
  simp only at hq ⊢;by_cases aQ:j<s.es.length;have hw:=wk j (by omega);have hv:=L6 (pre:=pre) c s.es[j] hf (hl _ (aar aQ));unfold S0 at hv;rw[LI aQ]at hq;have gE:=HA aQ;have BQ:=λh2=>zO aQ h2;have lq:j<(E.rows s.es).length:=by simpa using aQ
  have A2:=BQ lq;clear BQ;cases hx:LH c s.es[j] with
  |error a=>
   rw[hx]at hq hv;simp only at hq hv;obtain⟨y,hv⟩:=hv;have ap:=nC ys y (by omega);have fA:=ih (j+1,ys++[y],some a) ⟨by simp only;omega,by simp[hy],hq.symm⟩ (by simp only;omega);simp only at fA;have m1:aL (bF 11 (E.rows (ys++[y])))=true:=cP;generalize bF 11 (E.rows (ys++[y]))=R at *;generalize (c.fail a).aZ=o2 at *;generalize c.aZ=o at *;rw[E.aE s.es[j]]at hv gE A2;rw[E.aE y]at hv ap;generalize s.es[j]=x at *;simp[-an,-af,cg,jB,kQ,jn,hz,aQ,h9,hw,A2,kR,hv,ap,m1,ai,ah,aj,AV.view];exact fA
  |ok y=>
   rw[hx]at hq hv;simp only at hq hv;have ap:=nC ys y (by omega);have fA:=ih (j+1,ys++[y],none) ⟨by simp only;omega,by simp[hy],hq⟩ (by simp only;omega);simp only at fA;have m1:aL (bF 11 (E.rows (ys++[y])))=true:=cP;generalize bF 11 (E.rows (ys++[y]))=R at *;generalize c.aZ=o at *;rw[E.aE s.es[j]]at hv gE A2;rw[E.aE y]at hv ap;generalize s.es[j]=x at *;simp[-an,-af,cg,jB,kQ,jn,hz,aQ,h9,hw,A2,kR,hv,ap,m1,ai,ah,aj,AV.view];exact fA
  have cL:j=s.es.length:=by omega
  have hR:oQ c.H c.V s.es=.ok ys:=by
   rw[<-hq,cL,abp];simp[oQ,Jl]
  have WM:=KO ys hR;generalize c.aZ=o at *;simp[-an,-af,jB,kQ,jn,aQ];exact WM
theorem aau(c:CK)(s:Sm)(e:E)(hf:c.fe=0)(h9:s.k=9)(qU:s.es=[e])(hl:Wh pre c e)(aa:Nat){rs:List iE}{Q:Ex->St->Prop}{kk:List sX}(b1 b3 b4 b5:List AV)(dc:Bool)(xk Od xa xr:Int)(xnm Oe:List UInt8)
  (row:List AV)(ff:row=s.row)
  (KO:∀y,uS c.H c.V e=.ok y->W S 0 aa rs Q kk .normal ⟨[(0,.val (.ptr pre.length 0 0 0)),(3,.fp 0 0),(4,.fp 1 0),(5,.fp 2 0),(6,.fp 3 0),(7,.val (.bool dc))],[row,b1,[.int .i64 xk,.str xnm,.str Oe,.int .i64 Od,bF 11 (E.rows [y]),.U,.U,.int .i64 xa,.int .i64 xr],b3,b4,b5],pre++[c.aZ]⟩)
  (iu:∀a v,aL v=true->uS c.H c.V e=.error a->W S 0 aa rs Q kk .normal ⟨[(0,.val (.ptr pre.length 0 0 0)),(3,.fp 0 0),(4,.fp 1 0),(5,.fp 2 0),(6,.fp 3 0),(7,.val (.bool dc))],[row,b1,[.int .i64 xk,.str xnm,.str Oe,.int .i64 Od,v,.U,.U,.int .i64 xa,.int .i64 xr],b3,b4,b5],pre++[(c.fail a).aZ]⟩) :
  W S 0 aa rs Q (.code (.loop ow)::.j7 0::kk) .normal ⟨[(0,.val (.ptr pre.length 0 0 0)),(3,.fp 0 0),(4,.fp 1 0),(5,.fp 2 0),(6,.fp 3 0),(7,.val (.bool dc)),(10,.val (.int .i64 0))],[row,b1,[.int .i64 xk,.str xnm,.str Oe,.int .i64 Od,.U,.U,.U,.int .i64 xa,.int .i64 xr],b3,b4,b5],pre++[c.aZ]⟩:=by
 subst ff;rw[Sm.aE]at *;rw[qU]at *;have hz:bY 11 (bf [e])=true:=nM;have jB:aL (bf [e])=true:=bQ;have kQ:(bf [e]).view=bf [e]:=bH;have jn:aJ (bf [e])=[e.row]:=aM;have kR:=λaa r=>gw (pre:=pre) aa c r;rw[decide_eq_true hf]at kR;have nC:∀y:E,qY 11 120 .U [y.row]=some (bF 11 (E.rows [y])):=λy=>by
  have:=eB (sz:=11) (bytes:=120) (r:=[]) (new:=[y.row]) (by simp[bw,E.aE]) (by simp[dQ]);exact this
 have hw:IntKind.i64.wrap (0+1:Int)=1:=by decide
 rw[h9]at *;generalize bf [e]=kv at *;generalize bN s.bd=bv at *;generalize bN s.el=lv at *;unfold Wh at hl;rw[vq ow.eq_1];cases hx:uS c.H c.V e with
 |error a=>
  rw[hx]at hl;simp only at hl;have Ob:=λv h=>iu a v h hx;have Bm:=rB (c:=c) (a:=a);have s5:=λaa r=>gw (pre:=pre) aa (c.fail a) r;rw[decide_eq_false Bm]at s5;have ap:=nC E0;have m1:aL (bF 11 (E.rows [E0]))=true:=cP;generalize bF 11 (E.rows [E0])=R at *;generalize (c.fail a).aZ=o2 at *;generalize c.aZ=o at *;rw[E.aE e]at hl jn;rw[E.aE E0]at hl ap;simp[-an,-af,cg,jB,kQ,jn,hz,kR,hl,ap,m1,ai,ah,aj,AV.view];show W S 0 aa rs Q (.code (.loop ow)::.j7 0::kk) .normal _;rw[vq ow.eq_1];simp[-an,-af,jB,kQ,jn];exact Ob _ m1
 |ok y=>
  rw[hx]at hl;simp only at hl;have WM:=KO y hx;have ap:=nC y;have m1:aL (bF 11 (E.rows [y]))=true:=cP;generalize bF 11 (E.rows [y])=R at *;generalize c.aZ=o at *;rw[E.aE e]at hl jn;rw[E.aE y]at hl ap;simp[-an,-af,cg,jB,kQ,jn,hz,kR,hl,ap,m1,ai,ah,aj,AV.view];show W S 0 aa rs Q (.code (.loop ow)::.j7 0::kk) .normal _;rw[vq ow.eq_1];simp[-an,-af,jB,kQ,jn];exact WM
end R9
