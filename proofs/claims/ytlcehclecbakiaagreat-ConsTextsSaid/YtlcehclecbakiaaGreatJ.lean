/- Part of a proof. -/
import Derived.Test.YtlcehclecbakiaaGreatI
import Derived.KernelRfl

open List renaming getElem_mem→aar,all_cons→afl,all_eq_true→aaS,length_pos_iff→acu,drop_eq_getElem_cons→aa3,drop_length→abp
open Bool renaming true_and→aeb,and_true→aeG,and_assoc→ags,and_comm→akO,and_false→aiq
set_option maxRecDepth 100000
set_option maxHeartbeats 8000000
namespace cr
open Ax Go aF cJ
def cT(x:XD)(f:Int)(c:CD)(i:ID)(a b d:T3):Bool:=
 if i.op=1 then fT a ⟨1,0,0⟩||fT a ⟨2,0,0⟩&&(decide (i.n=0)||decide (i.n=1)) else
 if i.op=2 then !fT a ⟨0,0,0⟩&&g9 a else
 if i.op=3 then !fT a ⟨0,0,0⟩&&fT a b else
 if i.op=4 then ld i.n a b d else
 if i.op=5 then decide (i.n=12)&&fT a ⟨1,0,0⟩&&fT b ⟨1,0,0⟩||decide (i.n=13)&&fT a ⟨2,0,0⟩&&fT b ⟨2,0,0⟩ else
 if i.op=6 then !fT a ⟨0,0,0⟩&&fT a (Ss (kq x.aD) b i.c) else
 if i.op=7 then !fT b ⟨0,0,0⟩&&fT b (Ss (kq x.aD) a i.c) else
 if i.op=8 then !fT a ⟨0,0,0⟩&&decide (0<b.d)&&fT d ⟨1,0,0⟩&&fT a ⟨b.b,b.r,b.d-1⟩ else
 if i.op=9 then !fT d ⟨0,0,0⟩&&decide (0<a.d)&&fT b ⟨1,0,0⟩&&fT d ⟨a.b,a.r,a.d-1⟩ else
 if i.op=10 then fT a ⟨1,0,0⟩&&decide (0<b.d) else
 if i.op=11 then !fT a ⟨0,0,0⟩&&decide (a.b=3)&&decide (a.d=0)&&Sr (oM x.ax) f i.n a else
 if i.op=12 then decide (0<a.d)&&fT b ⟨1,0,0⟩&&Sr (oM x.ax) f i.n a else
 if i.op=13 then Om (bP x.codes) (bJ c.vars) i else
 if i.op=14\/i.op=15 then fT a ⟨1,0,0⟩ else
 if i.op=16 then decide (0<=i.n)&&decide (i.n<((gx c.dO).length:Int)) else
 if i.op=17 then fT a ⟨2,0,0⟩&&decide (0<=i.n)&&decide (i.n<((gx c.dO).length:Int))&&decide (0<=i.c)&&decide (i.c<((gx c.dO).length:Int)) else
 if i.op=18 then (if c.bg then !fT a ⟨0,0,0⟩&&fT a c.res else decide (i.a = -1)) else
 if i.op=19\/i.op=20 then !fT a ⟨0,0,0⟩&&(match gh (bJ x.globals) i.n with|some t=>fT a t|none=>false) else false
def CG(x:XD)(f:Int)(i:ID):Bool:=match gh (bP x.codes) f with
 |none=>false|some c=>cQ i&&cT x f c i (fR (bJ c.vars) i.a) (fR (bJ c.vars) i.b) (fR (bJ c.vars) i.c)
theorem aaP(cs:List CD)(vs:List T3)(i:ID)(p:Int):Om cs vs ⟨p,i.a,i.b,i.c,i.n,i.args⟩=Om cs vs i:=rfl
theorem Xm(wl aa:Nat){x:XD}(f:Int){i:ID}(st:ag)(hx:x.ok)(hi:tu i.args=true)(iu:fZ i.args=true)(hb:∀g∈bP x.codes,(bJ g.vars).length<1000000000) :
  (aP S).call wl aa 48 [cH x,.int .i64 f,bX i] st=some (.bool (CG x f i),st):=by
 have hs:=hx.sl;have hG:=hx.codes;have hGl:=hx.globals;have h1:=jS hi;have h2:=dg iu h1;have ae7:=Xj 0 0 i [] hi iu;have og:∀p n,p=i.op->n=i.n->(aP S).call 0 0 76 [.agg [.int .i64 p,.int .i64 i.a,.int .i64 i.b,.int .i64 i.c,.int .i64 n,i.args]] []=some (.bool (cQ i),[]):=by
  intro p n hp hn;subst hp;subst hn;exact ae7
 simp only[bX]at ae7;refine aH (sf:=nA) rfl rfl (by simp[hx.pure,Ol hi]) rfl (by simp) ?_;unfold CG;cases hg:gh (bP x.codes) f with
 |none=>
  rcases iq hg with h0|⟨h0,iM⟩;simp[nA,cH,bX,hs,h1,h0];have rF:¬f<0:=by omega
  simp[nA,cH,bX,hs,h1,rF,iM,hG,aV hG]
 |some c=>
  obtain⟨k,hk,cL,jR⟩:=ij hg;have oU:=gQ hG c (jR ▸ aar cL);have mh:=iB oU.1;have lS:=gr oU.1;have hN:=oU.2;have fV:=lA oU.2;have fq:=jQ oU.2;have nW:=JW 0 0 (c:=c) i.a [] oU.1 hN;have nX:=JW 0 0 (c:=c) i.b [] oU.1 hN;have nY:=JW 0 0 (c:=c) i.c [] oU.1 hN;have jq:=BY oU.1 i.a;have hrb:=BY oU.1 i.b;simp only[MH,T3.cells]at nW nX nY;have h0:¬(k:Int)<0:=by omega
  have iM:¬((bP x.codes).length:Int)<=(k:Int):=by omega
  simp only;have MI:=λp=>Xl 0 0 (x:=x) (c:=c) (i:=⟨p,i.a,i.b,i.c,i.n,i.args⟩) [] hx oU.1 hN hi iu hb;simp only[aaP,cH,MH,bX]at MI;generalize fR (bJ c.vars) i.a=a at *;generalize fR (bJ c.vars) i.b=b at *;generalize fR (bJ c.vars) i.c=d at *;have aoH:=λn=>Sq 0 0 n a b d [];have hFa:=λk=>HN 0 0 (x:=x) a k [] hx;have hFb:=λk=>HN 0 0 (x:=x) b k [] hx;have hLa:=λh:decide (0<a.d)=true=>Qk 0 0 a [] (of_decide_eq_true h) jq;have hLb:=λh:decide (0<b.d)=true=>Qk 0 0 b [] (of_decide_eq_true h) hrb;have hAl:=λf n=>Xk 0 0 (x:=x) f n a [] hx;simp only[cH,T3.cells]at hFa hFb hAl;cases en:cQ i with
  |false=>simp[nA,cH,bX,hs,h1,h2,h0,iM,hk,hG,aV hG,ae7,en]|true=>
   rw[en]at og;simp only[hk,aeb];by_cases q1:i.op=1
   skip
   cases c0:fT a ⟨1,0,0⟩ with
   |true=>
    simp[nA,cH,bX,hs,h1,h2,h0,iM,cL,hG,aV hG,CD.cells,aN,bp,dG.aI,dZ,og,mh,lS,fV,fq,jR,nW,nX,nY,cm,cT,q1,c0]
   |false=>
    cases c1:fT a ⟨2,0,0⟩ with
    |true=>
     cases c2:decide (i.n=0) with
     |true=>
      simp[nA,cH,bX,hs,h1,h2,h0,iM,cL,hG,aV hG,CD.cells,aN,bp,dG.aI,dZ,og,mh,lS,fV,fq,jR,nW,nX,nY,cm,ck,cT,q1,c0,c1,c2]
     |false=>
      simp[nA,cH,bX,hs,h1,h2,h0,iM,cL,hG,aV hG,CD.cells,aN,bp,dG.aI,dZ,og,mh,lS,fV,fq,jR,nW,nX,nY,cm,ck,cT,q1,c0,c1,c2]
    |false=>
     simp[nA,cH,bX,hs,h1,h2,h0,iM,cL,hG,aV hG,CD.cells,aN,bp,dG.aI,dZ,og,mh,lS,fV,fq,jR,nW,nX,nY,cm,ck,cT,q1,c0,c1]
   skip
   by_cases q2:i.op=2
   skip
   cases z0:fT a ⟨0,0,0⟩ with
   |true=>
    simp[nA,cH,bX,hs,h1,h2,h0,iM,cL,hG,aV hG,CD.cells,aN,bp,dG.aI,dZ,og,mh,lS,fV,fq,jR,nW,nX,nY,cT,q2,z0]
   |false=>
    simp[nA,cH,bX,hs,h1,h2,h0,iM,cL,hG,aV hG,CD.cells,aN,bp,dG.aI,dZ,og,mh,lS,fV,fq,jR,nW,nX,nY,cT,pZ,q2,z0]
   skip
   by_cases q3:i.op=3
   skip
   cases z0:fT a ⟨0,0,0⟩ with
   |true=>
    simp[nA,cH,bX,hs,h1,h2,h0,iM,cL,hG,aV hG,CD.cells,aN,bp,dG.aI,dZ,og,mh,lS,fV,fq,jR,nW,nX,nY,cT,q3,z0]
   |false=>
    simp[nA,cH,bX,hs,h1,h2,h0,iM,cL,hG,aV hG,CD.cells,aN,bp,dG.aI,dZ,og,mh,lS,fV,fq,jR,nW,nX,nY,cT,q3,z0]
   skip
   by_cases q4:i.op=4
   skip
   simp[nA,cH,bX,hs,h1,h2,h0,iM,cL,hG,aV hG,CD.cells,aN,bp,dG.aI,dZ,og,mh,lS,fV,fq,jR,nW,nX,nY,cT,aoH,q4]
   skip
   by_cases q5:i.op=5
   skip
   by_cases m12:i.n=12
   skip
   cases c0:fT a ⟨1,0,0⟩ with
   |true=>
    cases c1:fT b ⟨1,0,0⟩ with
    |true=>
     simp[nA,cH,bX,hs,h1,h2,h0,iM,cL,hG,aV hG,CD.cells,aN,bp,dG.aI,dZ,og,mh,lS,fV,fq,jR,nW,nX,nY,cm,cT,q5,m12,c0,c1]
    |false=>
     simp[nA,cH,bX,hs,h1,h2,h0,iM,cL,hG,aV hG,CD.cells,aN,bp,dG.aI,dZ,og,mh,lS,fV,fq,jR,nW,nX,nY,cm,cT,q5,m12,c0,c1]
   |false=>
    simp[nA,cH,bX,hs,h1,h2,h0,iM,cL,hG,aV hG,CD.cells,aN,bp,dG.aI,dZ,og,mh,lS,fV,fq,jR,nW,nX,nY,cm,cT,q5,m12,c0]
   skip
   by_cases m13:i.n=13
   skip
   cases c0:fT a ⟨2,0,0⟩ with
   |true=>
    simp[nA,cH,bX,hs,h1,h2,h0,iM,cL,hG,aV hG,CD.cells,aN,bp,dG.aI,dZ,og,mh,lS,fV,fq,jR,nW,nX,nY,ck,cT,q5,m13,c0]
   |false=>
    simp[nA,cH,bX,hs,h1,h2,h0,iM,cL,hG,aV hG,CD.cells,aN,bp,dG.aI,dZ,og,mh,lS,fV,fq,jR,nW,nX,nY,ck,cT,q5,m13,c0]
   skip
   simp[nA,cH,bX,hs,h1,h2,h0,iM,cL,hG,aV hG,CD.cells,aN,bp,dG.aI,dZ,og,mh,lS,fV,fq,jR,nW,nX,nY,cT,q5,m12,m13]
   skip
   by_cases q6:i.op=6
   skip
   cases z0:fT a ⟨0,0,0⟩ with
   |true=>
    simp[nA,cH,bX,hs,h1,h2,h0,iM,cL,hG,aV hG,CD.cells,aN,bp,dG.aI,dZ,og,mh,lS,fV,fq,jR,nW,nX,nY,cT,q6,z0]
   |false=>
    simp[nA,cH,bX,hs,h1,h2,h0,iM,cL,hG,aV hG,CD.cells,aN,bp,dG.aI,dZ,og,mh,lS,fV,fq,jR,nW,nX,nY,cT,hFb,q6,z0]
   skip
   by_cases q7:i.op=7
   skip
   cases z0:fT b ⟨0,0,0⟩ with
   |true=>
    simp[nA,cH,bX,hs,h1,h2,h0,iM,cL,hG,aV hG,CD.cells,aN,bp,dG.aI,dZ,og,mh,lS,fV,fq,jR,nW,nX,nY,cT,q7,z0]
   |false=>
    simp[nA,cH,bX,hs,h1,h2,h0,iM,cL,hG,aV hG,CD.cells,aN,bp,dG.aI,dZ,og,mh,lS,fV,fq,jR,nW,nX,nY,cT,hFa,q7,z0]
   skip
   by_cases q8:i.op=8
   skip
   cases z0:fT a ⟨0,0,0⟩ with
   |true=>
    simp[nA,cH,bX,hs,h1,h2,h0,iM,cL,hG,aV hG,CD.cells,aN,bp,dG.aI,dZ,og,mh,lS,fV,fq,jR,nW,nX,nY,cT,q8,z0]
   |false=>
    cases c0:decide (0<b.d) with
    |true=>
     replace hLb:=hLb c0;cases c1:fT d ⟨1,0,0⟩ with
     |true=>
      simp[nA,cH,bX,hs,h1,h2,h0,iM,cL,hG,aV hG,CD.cells,aN,bp,dG.aI,dZ,og,mh,lS,fV,fq,jR,nW,nX,nY,cm,cT,hLb,q8,z0,c0,c1]
     |false=>
      simp[nA,cH,bX,hs,h1,h2,h0,iM,cL,hG,aV hG,CD.cells,aN,bp,dG.aI,dZ,og,mh,lS,fV,fq,jR,nW,nX,nY,cm,cT,q8,z0,c0,c1]
    |false=>
     simp[nA,cH,bX,hs,h1,h2,h0,iM,cL,hG,aV hG,CD.cells,aN,bp,dG.aI,dZ,og,mh,lS,fV,fq,jR,nW,nX,nY,cT,q8,z0,c0]
   skip
   by_cases q9:i.op=9
   skip
   cases z0:fT d ⟨0,0,0⟩ with
   |true=>
    simp[nA,cH,bX,hs,h1,h2,h0,iM,cL,hG,aV hG,CD.cells,aN,bp,dG.aI,dZ,og,mh,lS,fV,fq,jR,nW,nX,nY,cT,q9,z0]
   |false=>
    cases c0:decide (0<a.d) with
    |true=>
     replace hLa:=hLa c0;cases c1:fT b ⟨1,0,0⟩ with
     |true=>
      simp[nA,cH,bX,hs,h1,h2,h0,iM,cL,hG,aV hG,CD.cells,aN,bp,dG.aI,dZ,og,mh,lS,fV,fq,jR,nW,nX,nY,cm,cT,hLa,q9,z0,c0,c1]
     |false=>
      simp[nA,cH,bX,hs,h1,h2,h0,iM,cL,hG,aV hG,CD.cells,aN,bp,dG.aI,dZ,og,mh,lS,fV,fq,jR,nW,nX,nY,cm,cT,q9,z0,c0,c1]
    |false=>
     simp[nA,cH,bX,hs,h1,h2,h0,iM,cL,hG,aV hG,CD.cells,aN,bp,dG.aI,dZ,og,mh,lS,fV,fq,jR,nW,nX,nY,cT,q9,z0,c0]
   skip
   by_cases q10:i.op=10
   skip
   cases c0:fT a ⟨1,0,0⟩ with
   |true=>
    simp[nA,cH,bX,hs,h1,h2,h0,iM,cL,hG,aV hG,CD.cells,aN,bp,dG.aI,dZ,og,mh,lS,fV,fq,jR,nW,nX,nY,cm,cT,q10,c0]
   |false=>
    simp[nA,cH,bX,hs,h1,h2,h0,iM,cL,hG,aV hG,CD.cells,aN,bp,dG.aI,dZ,og,mh,lS,fV,fq,jR,nW,nX,nY,cm,cT,q10,c0]
   skip
   by_cases Yc:i.op=11
   skip
   cases z0:fT a ⟨0,0,0⟩ with
   |true=>
    simp[nA,cH,bX,hs,h1,h2,h0,iM,cL,hG,aV hG,CD.cells,aN,bp,dG.aI,dZ,og,mh,lS,fV,fq,jR,nW,nX,nY,cT,Yc,z0]
   |false=>
    cases c0:decide (a.b=3) with
    |true=>
     cases c1:decide (a.d=0) with
     |true=>
      simp[nA,cH,bX,hs,h1,h2,h0,iM,cL,hG,aV hG,CD.cells,aN,bp,dG.aI,dZ,og,mh,lS,fV,fq,jR,nW,nX,nY,cT,hAl,Yc,z0,c0,c1]
     |false=>
      simp[nA,cH,bX,hs,h1,h2,h0,iM,cL,hG,aV hG,CD.cells,aN,bp,dG.aI,dZ,og,mh,lS,fV,fq,jR,nW,nX,nY,cT,Yc,z0,c0,c1]
    |false=>
     simp[nA,cH,bX,hs,h1,h2,h0,iM,cL,hG,aV hG,CD.cells,aN,bp,dG.aI,dZ,og,mh,lS,fV,fq,jR,nW,nX,nY,cT,Yc,z0,c0]
   skip
   by_cases q12:i.op=12
   skip
   cases c0:decide (0<a.d) with
   |true=>
    cases c1:fT b ⟨1,0,0⟩ with
    |true=>
     simp[nA,cH,bX,hs,h1,h2,h0,iM,cL,hG,aV hG,CD.cells,aN,bp,dG.aI,dZ,og,mh,lS,fV,fq,jR,nW,nX,nY,cm,cT,hAl,q12,c0,c1]
    |false=>
     simp[nA,cH,bX,hs,h1,h2,h0,iM,cL,hG,aV hG,CD.cells,aN,bp,dG.aI,dZ,og,mh,lS,fV,fq,jR,nW,nX,nY,cm,cT,q12,c0,c1]
   |false=>
    simp[nA,cH,bX,hs,h1,h2,h0,iM,cL,hG,aV hG,CD.cells,aN,bp,dG.aI,dZ,og,mh,lS,fV,fq,jR,nW,nX,nY,cT,q12,c0]
   skip
   by_cases q13:i.op=13
   skip
   simp[nA,cH,bX,hs,h1,h2,h0,iM,cL,hG,aV hG,CD.cells,aN,bp,dG.aI,dZ,og,mh,lS,fV,fq,jR,nW,nX,nY,cT,MI,q13]
   skip
   by_cases q14:i.op=14
   skip
   simp[nA,cH,bX,hs,h1,h2,h0,iM,cL,hG,aV hG,CD.cells,aN,bp,dG.aI,dZ,og,mh,lS,fV,fq,jR,nW,nX,nY,cm,cT,q14]
   skip
   by_cases q15:i.op=15
   skip
   simp[nA,cH,bX,hs,h1,h2,h0,iM,cL,hG,aV hG,CD.cells,aN,bp,dG.aI,dZ,og,mh,lS,fV,fq,jR,nW,nX,nY,cm,cT,q15]
   skip
   by_cases q16:i.op=16
   skip
   cases c0:decide (0<=i.n) with
   |true=>
    simp[nA,cH,bX,hs,h1,h2,h0,iM,cL,hG,aV hG,CD.cells,aN,bp,dG.aI,dZ,og,mh,lS,fq,jR,nW,nX,nY,cT,hN,oL hN,q16,c0]
   |false=>
    simp[nA,cH,bX,hs,h1,h2,h0,iM,cL,hG,aV hG,CD.cells,aN,bp,dG.aI,dZ,og,mh,lS,fq,jR,nW,nX,nY,cT,hN,q16,c0]
   skip
   by_cases q17:i.op=17
   skip
   cases c0:fT a ⟨2,0,0⟩ with
   |true=>
    cases c1:decide (0<=i.n) with
    |true=>
     cases c2:decide (i.n<((gx c.dO).length:Int)) with
     |true=>
      cases c3:decide (0<=i.c) with
      |true=>
       simp[nA,cH,bX,hs,h1,h2,h0,iM,cL,hG,aV hG,CD.cells,aN,bp,dG.aI,dZ,og,mh,lS,fq,jR,nW,nX,nY,ck,cT,hN,oL hN,q17,c0,c1,c2,c3]
      |false=>
       simp[nA,cH,bX,hs,h1,h2,h0,iM,cL,hG,aV hG,CD.cells,aN,bp,dG.aI,dZ,og,mh,lS,fq,jR,nW,nX,nY,ck,cT,hN,oL hN,q17,c0,c1,c2,c3]
     |false=>
      simp[nA,cH,bX,hs,h1,h2,h0,iM,cL,hG,aV hG,CD.cells,aN,bp,dG.aI,dZ,og,mh,lS,fq,jR,nW,nX,nY,ck,cT,hN,oL hN,q17,c0,c1,c2]
    |false=>
     simp[nA,cH,bX,hs,h1,h2,h0,iM,cL,hG,aV hG,CD.cells,aN,bp,dG.aI,dZ,og,mh,lS,fq,jR,nW,nX,nY,ck,cT,hN,q17,c0,c1]
   |false=>
    simp[nA,cH,bX,hs,h1,h2,h0,iM,cL,hG,aV hG,CD.cells,aN,bp,dG.aI,dZ,og,mh,lS,fq,jR,nW,nX,nY,ck,cT,hN,q17,c0]
   skip
   by_cases q18:i.op=18
   skip
   cases eh:c.bg with
   |true=>
    simp only[eh]at nW nX nY;cases z0:fT a ⟨0,0,0⟩ with
    |true=>
     simp[nA,cH,bX,hs,h1,h2,h0,iM,cL,hG,aV hG,CD.cells,aN,bp,dG.aI,dZ,og,mh,lS,fV,fq,jR,nW,nX,nY,cT,q18,eh,z0]
    |false=>
     simp[nA,cH,bX,hs,h1,h2,h0,iM,cL,hG,aV hG,CD.cells,aN,bp,dG.aI,dZ,og,mh,lS,fV,fq,jR,nW,nX,nY,cT,q18,eh,z0]
   |false=>
    simp only[eh]at nW nX nY;cases z0:fT a ⟨0,0,0⟩ with
    |true=>
     simp[nA,cH,bX,hs,h1,h2,h0,iM,cL,hG,aV hG,CD.cells,aN,bp,dG.aI,dZ,og,mh,lS,fV,fq,jR,nW,nX,nY,cT,q18,eh]
    |false=>
     simp[nA,cH,bX,hs,h1,h2,h0,iM,cL,hG,aV hG,CD.cells,aN,bp,dG.aI,dZ,og,mh,lS,fV,fq,jR,nW,nX,nY,cT,q18,eh]
   skip
   by_cases q19:i.op=19
   skip
   cases z0:fT a ⟨0,0,0⟩ with
   |true=>simp[nA,cH,bX,hs,h1,h2,h0,iM,cL,hG,aV hG,CD.cells,aN,bp,dG.aI,dZ,og,mh,lS,fV,fq,jR,nW,nX,nY,cT,q19,z0]|false=>
    cases Bj:gh (bJ x.globals) i.n with
    |none=>
     rcases iq Bj with g0|⟨g0,g1⟩;have g0':¬0<=i.n:=(by omega);simp[nA,cH,bX,hs,h1,h2,h0,iM,cL,hG,aV hG,CD.cells,aN,bp,dG.aI,dZ,og,mh,lS,fV,fq,jR,nW,nX,nY,cT,q19,z0,g0',Bj];have g1':¬i.n<((bJ x.globals).length:Int):=(by omega);simp[nA,cH,bX,hs,h1,h2,h0,iM,cL,hG,aV hG,CD.cells,aN,bp,dG.aI,dZ,og,mh,lS,fV,fq,jR,nW,nX,nY,cT,q19,z0,g0,g1',Bj,hGl,dw hGl]
    |some tt=>
     obtain⟨gk,gkk,gkl,gq⟩:=ij Bj;have ae8:gh (bJ x.globals) (gk:Int)=some tt:=gkk ▸ Bj;simp[nA,cH,bX,hs,h1,h2,h0,iM,cL,hG,aV hG,CD.cells,aN,bp,dG.aI,dZ,og,mh,lS,fV,fq,jR,nW,nX,nY,cT,q19,z0,gkk,gkl,gq,ae8,hGl,dw hGl]
   skip
   by_cases q20:i.op=20
   skip
   cases z0:fT a ⟨0,0,0⟩ with
   |true=>simp[nA,cH,bX,hs,h1,h2,h0,iM,cL,hG,aV hG,CD.cells,aN,bp,dG.aI,dZ,og,mh,lS,fV,fq,jR,nW,nX,nY,cT,q20,z0]|false=>
    cases Bj:gh (bJ x.globals) i.n with
    |none=>
     rcases iq Bj with g0|⟨g0,g1⟩;have g0':¬0<=i.n:=(by omega);simp[nA,cH,bX,hs,h1,h2,h0,iM,cL,hG,aV hG,CD.cells,aN,bp,dG.aI,dZ,og,mh,lS,fV,fq,jR,nW,nX,nY,cT,q20,z0,g0',Bj];have g1':¬i.n<((bJ x.globals).length:Int):=(by omega);simp[nA,cH,bX,hs,h1,h2,h0,iM,cL,hG,aV hG,CD.cells,aN,bp,dG.aI,dZ,og,mh,lS,fV,fq,jR,nW,nX,nY,cT,q20,z0,g0,g1',Bj,hGl,dw hGl]
    |some tt=>
     obtain⟨gk,gkk,gkl,gq⟩:=ij Bj;have ae8:gh (bJ x.globals) (gk:Int)=some tt:=gkk ▸ Bj;simp[nA,cH,bX,hs,h1,h2,h0,iM,cL,hG,aV hG,CD.cells,aN,bp,dG.aI,dZ,og,mh,lS,fV,fq,jR,nW,nX,nY,cT,q20,z0,gkk,gkl,gq,ae8,hGl,dw hGl]
   skip
   simp[nA,cH,bX,hs,h1,h2,h0,iM,cL,hG,aV hG,CD.cells,aN,bp,dG.aI,dZ,og,mh,lS,fV,fq,jR,nW,nX,nY,cT,q1,q2,q3,q4,q5,q6,q7,q8,q9,q10,Yc,q12,q13,q14,q15,q16,q17,q18,q19,q20]
end cr
namespace cr
open Ax Go aF cJ
def BB{α:Type}(p:α->Bool)(l:List α)(k:Nat):Prop:=∀j (h:j<l.length),j<k->p l[j]=false
theorem yg{α:Type}{p:α->Bool}{l:List α}:BB p l 0:=λ_ _ h=>absurd h (by omega)
theorem yh{α:Type}{p:α->Bool}{l:List α}{k:Nat}(h:BB p l k)(h1:k<l.length)(hp:p l[k]=false):BB p l (k+1):=by
 intro j j1 hj;rcases Nat.lt_or_ge j k with oe|oe;exact h j j1 oe;have:j=k:=by omega
 subst this;exact hp
end cr
namespace cr
open Ax Go aF cJ
theorem Oq(i:ID)(h:1<=i.op/\i.op<=20):zm i=cQ i:=by
 have hh:i.op=1\/i.op=2\/i.op=3\/i.op=4\/i.op=5\/i.op=6\/i.op=7\/i.op=8\/i.op=9\/i.op=10\/i.op=11\/i.op=12\/i.op=13\/i.op=14\/i.op=15\/i.op=16\/i.op=17\/i.op=18\/i.op=19\/i.op=20:=by omega
 rcases hh with h|h|h|h|h|h|h|h|h|h|h|h|h|h|h|h|h|h|h|h<;>simp[zm,cQ,iD,rG,h]
theorem Xn(i:ID)(h:¬(1<=i.op/\i.op<=20)):zm i=false:=by
 unfold zm;repeat' rw[if_neg (by omega)]
theorem Xo(x:XD)(f:Int)(c:CD)(i:ID)(a b d:T3)(h:¬(1<=i.op/\i.op<=20)):cT x f c i a b d=false:=by
 unfold cT;repeat' rw[if_neg (by omega)]
theorem mm(vs:List T3)(t:T3)(a:Int):iU vs t [a]=(!fT (fR vs a) ⟨0,0,0⟩&&fT (fR vs a) t):=by
 simp only[iU,ua,afl,List.all_nil,aeG];by_cases h:fR vs a=t;simp[h];simp[h]
theorem acd(t u:T3)(hu:fT u ⟨0,0,0⟩=false):(!fT t ⟨0,0,0⟩&&fT t u)=fT t u:=by
 cases e:fT t u with
 |false=>simp|true=>
  rw[ua]at e;have:=of_decide_eq_true e;subst this;simp[hu]
theorem ae9(vs:List T3)(a:Int):iU vs uL [a]=fT (fR vs a) ⟨1,0,0⟩:=by
 rw[mm];exact acd _ _ rfl
theorem aaQ(vs:List T3)(a:Int):iU vs nu [a]=fT (fR vs a) ⟨2,0,0⟩:=by
 rw[mm];exact acd _ _ rfl
theorem DB(vs:List T3)(t:T3)(a b:Int)(l:List Int):iU vs t (a::b::l)=(iU vs t [a]&&iU vs t (b::l)):=by
 simp only[iU,afl,List.all_nil,aeG];cases decide (fR vs a=t)<;>cases decide (t≠T0)<;>simp
theorem afa(vs:List T3)(i:ID):mZ vs i=ld i.n (fR vs i.a) (fR vs i.b) (fR vs i.c):=by
 unfold mZ ld;split;simp only[DB,ae9,ags];split;simp only[DB,ae9,aaQ,ags];split;rw[aaQ,mm];simp only[ua];by_cases h:fR vs i.c=fR vs i.b;simp[h];have h':¬fR vs i.b=fR vs i.c:=λe=>h e.symm;simp[h,h'];split;simp only[DB,aaQ,ags]
 rfl
theorem afb(rs:List RD)(vs:List T3)(a k v:Int):C7 rs vs a k v=(!fT (fR vs v) ⟨0,0,0⟩&&fT (fR vs v) (Ss rs (fR vs a) k)):=by
 unfold C7 Ss;have hz:∀t:T3,(!fT t ⟨0,0,0⟩&&fT t T0)=false:=by intro t;simp
 by_cases hb:(fR vs a).b=3;by_cases hd:(fR vs a).d=0;simp only[hb,hd,decide_true,aeb,and_self,if_true];cases gh rs (fR vs a).r with
 |none=>
  dsimp only;exact(hz _).symm
 |some r=>
  dsimp only;cases gh (uT r.bM) k with
  |none=>exact(hz _).symm|some fd=>exact mm _ _ _
 simp[hb,hd,hz];simp[hb,hz]
theorem afc(vs:List T3)(a item:Int):A7 vs a item=(decide (0<(fR vs a).d)&&(!fT (fR vs item) ⟨0,0,0⟩&&fT (fR vs item) ⟨(fR vs a).b,(fR vs a).r,(fR vs a).d-1⟩)):=by
 unfold A7;rw[mm]
theorem all_eq(ss:List SD)(f:Int)(vs:List T3)(n a:Int):C6 ss f vs n a=(!fT (fR vs a) ⟨0,0,0⟩&&Sr ss f n (fR vs a)):=by
 unfold C6 Sr;cases gh ss n with
 |none=>simp|some s=>
  simp only[mm,ua];by_cases h:fR vs a=s.t;simp[h,akO];have h':¬s.t=fR vs a:=λe=>h e.symm;simp[h,h']
theorem afd(cs:List CD)(vs:List T3)(i:ID):C8 cs vs i=Om cs vs i:=by
 unfold C8 Om;cases gh cs i.c with
 |none=>rfl|some g=>
  simp only[Sn,ae6,mm];have e:(λp:Int×T3=>!fT (fR vs p.1) ⟨0,0,0⟩&&fT (fR vs p.1) p.2)=λp=>Da vs p.1 p.2:=rfl;rw[e];have e2:(!fT (fR vs i.a) ⟨0,0,0⟩&&fT (fR vs i.a) g.res)=Da vs i.a g.res:=rfl;rw[e2];by_cases hp:((dI i.args).length:Int)=g.params;have h0:¬g.params<0:=by omega
  simp[hp,h0];simp[hp]
theorem afe(gs vs:List T3)(n a:Int):FI gs vs n a=(!fT (fR vs a) ⟨0,0,0⟩&&(match gh gs n with|some t=>fT (fR vs a) t|none=>false)):=by
 unfold FI;cases gh gs n with
 |none=>simp|some t=>simp only[mm]
theorem Su(x:XD)(f:Int)(c:CD)(i:ID)(h:1<=i.op/\i.op<=20) :
  gf x f c i=cT x f c i (fR (bJ c.vars) i.a) (fR (bJ c.vars) i.b) (fR (bJ c.vars) i.c):=by
 have hh:i.op=1\/i.op=2\/i.op=3\/i.op=4\/i.op=5\/i.op=6\/i.op=7\/i.op=8\/i.op=9\/i.op=10\/i.op=11\/i.op=12\/i.op=13\/i.op=14\/i.op=15\/i.op=16\/i.op=17\/i.op=18\/i.op=19\/i.op=20:=by omega
 unfold gf cT mj;rcases hh with h|h|h|h|h|h|h|h|h|h|h|h|h|h|h|h|h|h|h|h<;>simp[h];all_goals try simp only[DB,ae9,aaQ,afa,afb,afc,all_eq,afd,afe,C9]
 intro hr;cases e:fT (fR (bJ c.vars) i.a) ⟨0,0,0⟩ with
 |false=>rfl|true=>
  rw[ua]at e;rw[of_decide_eq_true e]at hr;exact absurd hr (by decide)
 rw[mm,ua,ua,ua,ua];by_cases e:fR (bJ c.vars) i.a=fR (bJ c.vars) i.b;simp[e];have e':¬fR (bJ c.vars) i.b=fR (bJ c.vars) i.a:=λq=>e q.symm;simp[e,e'];simp only[ags]
 ac_rfl
 ac_rfl
 ac_rfl
 by_cases e:0<(fR (bJ c.vars) i.a).d;have e1:fT (fR (bJ c.vars) i.a) ⟨0,0,0⟩=false:=by
  rw[ua];refine decide_eq_false λq=>?_;rw[q]at e;exact absurd e (by decide)
 simp[e,e1,akO];simp[e];simp only[ags];split;exact mm _ _ _
 rfl
 all_goals rfl
theorem step_eq(x:XD)(f:Int)(i:ID):uM x f i=CG x f i:=by
 unfold uM CG;cases gh (bP x.codes) f with
 |none=>rfl|some c=>
  dsimp only;by_cases h:1<=i.op/\i.op<=20;rw[Oq i h,Su x f c i h];rw[Xn i h,Xo x f c i _ _ _ h];simp
end cr
namespace cr
open Ax Go aF cJ
end cr
namespace cr
open Ax Go aF cJ
def xQ{α:Type}(p:α->Bool)(l:List α)(k:Nat):Prop:=∀j (h:j<l.length),j<k->p l[j]=true
theorem jE{α:Type}{p:α->Bool}{l:List α}:xQ p l 0:=λ_ _ h=>absurd h (by omega)
theorem jF{α:Type}{p:α->Bool}{l:List α}{k:Nat}(h:xQ p l k)(h1:k<l.length)(hp:p l[k]=true):xQ p l (k+1):=by
 intro j j1 hj;rcases Nat.lt_or_ge j k with oe|oe;exact h j j1 oe;have:j=k:=by omega
 subst this;exact hp
theorem lf{α:Type}{p:α->Bool}{l:List α}(h:xQ p l l.length):l.all p=true:=by
 rw[aaS];intro q hq;obtain⟨j,hj,rfl⟩:=List.mem_iff_getElem.1 hq;exact h j hj hj
theorem jk{α:Type}{p:α->Bool}{l:List α}{k:Nat}(h1:k<l.length)(hp:p l[k]=false):l.all p=false:=
 List.all_eq_false.2 ⟨_,aar h1,by simp[hp]⟩
def lT(n:Nat)(t:T3):Bool:=decide (¬t.d<0)&&decide (¬3<t.d)&&if t.b=1\/t.b=2 then decide (t.r=0) else decide (t.b=3)&&decide (0<=t.r)&&decide (t.r<n)
theorem JX(wl aa:Nat){x:XD}(t:T3)(st:ag)(hx:x.ok) :
  (aP S).call wl aa 85 [cH x,.agg [.int .i64 t.b,.int .i64 t.r,.int .i64 t.d]] st=some (.bool (lT (kq x.aD).length t),st):=by
 have hs:=hx.sl;have hl:=mL hx.aD;refine aH (sf:=ZC) rfl rfl (by simp[hx.pure]) rfl (by simp) ?_;unfold lT;by_cases d0:t.d<0;simp[ZC,cH,hs,d0];by_cases d3:3<t.d;simp[ZC,cH,hs,d0,d3];by_cases b1:t.b=1;simp[ZC,cH,hs,d0,d3,b1];by_cases b2:t.b=2;simp[ZC,cH,hs,d0,d3,b2];by_cases b3:t.b=3;by_cases r0:0<=t.r;simp[ZC,cH,hs,hl,d0,d3,b3,r0];simp[ZC,cH,hs,d0,d3,b3,r0];simp[ZC,cH,hs,d0,d3,b1,b2,b3]
theorem Me(wl aa:Nat){x:XD}(l:AV)(st:ag)(hx:x.ok)(hT:sY l=true)(hn:(bJ l).length<1000000000) :
  (aP S).call wl aa 53 [cH x,l] st=some (.bool ((bJ l).all (lT (kq x.aD).length)),st):=by
 have hs:=hx.sl;have n8:=iB hT;have mU:=gr hT;have hm:=λt=>JX 0 0 (x:=x) t [] hx;simp only[cH]at hm;refine aH (sf:=s53) rfl rfl (by simp[hx.pure,cD n8]) rfl (by simp) ?_;simp[s53,cH,hs,n8,mU,dw hT];refine aT U5.eq_1 (λq:Nat×List AV=>⟨[(2,.fp 0 0),(7,.val l),(8,.val (.int .i64 (bJ l).length)),(9,.val (.int .i64 q.1))],[[x.aD,x.globals,x.codes,x.ax,.int .i64 x.main],q.2],[]⟩)
  (λq=>q.1<=(bJ l).length/\xQ (lT (kq x.aD).length) (bJ l) q.1) (λq=>(bJ l).length-q.1) (0,[]) (by simp) ⟨by simp,jE⟩ ?_
 rintro⟨k,bb⟩ ⟨hk,hp⟩ ih;simp only at hk hp ih;by_cases aQ:k<(bJ l).length;have hw:=wk k (by omega);have hc:=hm (bJ l)[k];cases e:lT (kq x.aD).length (bJ l)[k] with
 |true=>
  simp[hs,hT,dw hT,aQ,hc,e,hw];exact ih (k+1,_) ⟨by simp;omega,jF hp aQ e⟩ (by simp;omega)
 |false=>
  have hf:=jk aQ e;simp[hs,hT,dw hT,aQ,hc,e,hf]
 have cL:k=(bJ l).length:=by omega
 have hf:=lf (cL ▸ hp);simp[aQ,hf]
end cr
namespace cr
open Ax Go aF cJ
abbrev nr(x:XD):Nat:=(kq x.aD).length
def wF(n:Nat)(r:RD):Bool:=decide (¬8<(uT r.bM).length)&&(uT r.bM).all (λf=>lT n f.t)
theorem Sv(wl aa:Nat){x:XD}(st:ag)(hx:x.ok)(hn:(kq x.aD).length<1000000000) :
  (aP S).call wl aa 52 [cH x] st=some (.bool ((kq x.aD).all (wF (nr x))),st):=by
 have hs:=hx.sl;have hR:=hx.aD;have hl:=mL hx.aD;have hm:=λt=>JX 0 0 (x:=x) t [] hx;simp only[cH]at hm;refine aH (sf:=s52) rfl rfl (by simp[hx.pure]) rfl (by simp) ?_;simp[s52,cH,hs,hl];refine aT U4.eq_1 (λq:Nat×List AV×List AV=>⟨[(1,.fp 0 0),(8,.val x.aD),(9,.val (.int .i64 (kq x.aD).length)),(10,.val (.int .i64 q.1))],[[x.aD,x.globals,x.codes,x.ax,.int .i64 x.main],q.2.1,q.2.2],[]⟩)
  (λq=>q.1<=(kq x.aD).length/\xQ (wF (nr x)) (kq x.aD) q.1) (λq=>(kq x.aD).length-q.1) (0,[],[]) (by simp) ⟨by simp,jE⟩ ?_
 rintro⟨k,b1,b2⟩ ⟨hk,hp⟩ ih;simp only at hk hp ih;by_cases aQ:k<(kq x.aD).length;have hw:=wk k (by omega);have hF:=A4 hR _ (aar aQ);have S1:=JP hF;have CA:=DA hF;have Kd:=yE hF;by_cases g:8<(uT (kq x.aD)[k].bM).length;have g':(8:Int)<((uT (kq x.aD)[k].bM).length:Int):=by omega
 have hf:=jk (p:=wF (nr x)) aQ (by simp[wF,g]);simp[hs,hl,aQ,hR,RD.cells,hF,CA,Kd,g',hf];have g':¬(8:Int)<((uT (kq x.aD)[k].bM).length:Int):=by omega
 simp[hs,hl,aQ,hR,RD.cells,hF,CA,Kd,g'];refine aT U3.eq_1 (λq:Nat×List AV=>⟨[(1,.fp 0 0),(8,.val x.aD),(9,.val (.int .i64 (kq x.aD).length)),(10,.val (.int .i64 k)),(19,.val (kq x.aD)[k].bM),(20,.val (.int .i64 (uT (kq x.aD)[k].bM).length)),(21,.val (.int .i64 q.1))],
   [[x.aD,x.globals,x.codes,x.ax,.int .i64 x.main],[.str (kq x.aD)[k].name,(kq x.aD)[k].bM],q.2],[]⟩)
  (λq=>q.1<=(uT (kq x.aD)[k].bM).length/\xQ (λf=>lT (nr x) f.t) (uT (kq x.aD)[k].bM) q.1) (λq=>(uT (kq x.aD)[k].bM).length-q.1) (0,b2) (by simp) ⟨by simp,jE⟩ ?_
 rintro⟨j,b3⟩ ⟨hj,TT⟩ Rh;simp only at hj TT Rh;by_cases kJ:j<(uT (kq x.aD)[k].bM).length;have NF:=wk j (by omega);have hc:=hm (uT (kq x.aD)[k].bM)[j].t;cases e:lT (nr x) (uT (kq x.aD)[k].bM)[j].t with
 |true=>
  simp[hs,hF,Kd,kJ,FD.cells,hc,e,NF];exact Rh (j+1,_) ⟨by simp;omega,jF TT kJ e⟩ (by simp;omega)
 |false=>
  have S5:=jk (p:=λf:FD=>lT (nr x) f.t) kJ e;have hf:=jk (p:=wF (nr x)) aQ (by simp only[wF,S5,aiq]);simp[hs,hF,Kd,kJ,FD.cells,hc,e,hf]
 have oe:j=(uT (kq x.aD)[k].bM).length:=by omega
 have S5:=lf (oe ▸ TT);simp[kJ,hw];exact ih (k+1,_,_) ⟨by simp;omega,jF hp aQ (by simp only[wF,S5];simp;omega)⟩ (by simp;omega);have cL:k=(kq x.aD).length:=by omega
 have hf:=lf (cL ▸ hp);simp[aQ,hf]
def mP(n nc:Nat)(s:SD):Bool:=lT n s.t&&g9 s.t&&decide (¬s.fn<0)&&decide (s.fn<nc)
theorem Xp(wl aa:Nat){x:XD}(st:ag)(hx:x.ok)(hn:(oM x.ax).length<1000000000) :
  (aP S).call wl aa 54 [cH x] st=some (.bool ((oM x.ax).all (mP (nr x) (bP x.codes).length)),st):=by
 have hs:=hx.sl;have hS:=hx.ax;have hl:=rE hx.ax;have hlc:=aV hx.codes;have hm:=λt=>JX 0 0 (x:=x) t [] hx;simp only[cH]at hm;refine aH (sf:=s54) rfl rfl (by simp[hx.pure]) rfl (by simp) ?_;simp[s54,cH,hs,hl];refine aT U6.eq_1 (λq:Nat×List AV=>⟨[(1,.fp 0 0),(6,.val x.ax),(7,.val (.int .i64 (oM x.ax).length)),(8,.val (.int .i64 q.1))],[[x.aD,x.globals,x.codes,x.ax,.int .i64 x.main],q.2],[]⟩)
  (λq=>q.1<=(oM x.ax).length/\xQ (mP (nr x) (bP x.codes).length) (oM x.ax) q.1) (λq=>(oM x.ax).length-q.1) (0,[]) (by simp) ⟨by simp,jE⟩ ?_
 rintro⟨k,bb⟩ ⟨hk,hp⟩ ih;simp only at hk hp ih;by_cases aQ:k<(oM x.ax).length;have hw:=wk k (by omega);have hc:=hm (oM x.ax)[k].t;have hr:=λa b c=>JT 0 0 a b c [];cases e:lT (nr x) (oM x.ax)[k].t with
 |true=>
  cases e2:g9 (oM x.ax)[k].t with
  |true=>
   by_cases f0:(oM x.ax)[k].fn<0;have hf:=jk (p:=mP (nr x) (bP x.codes).length) aQ (by simp[mP,f0]);simp[hs,hS,hl,aQ,SD.cells,hc,hr,e,e2,f0,hf];by_cases f1:(oM x.ax)[k].fn<(bP x.codes).length;have f1':¬((bP x.codes).length:Int)<=(oM x.ax)[k].fn:=(by omega);simp[hs,hS,hl,hlc,aQ,SD.cells,hc,hr,e,e2,f0,f1',hw];exact ih (k+1,_) ⟨by simp;omega,jF hp aQ (by simp[mP,e,e2,f1];omega)⟩ (by simp;omega);have f1':((bP x.codes).length:Int)<=(oM x.ax)[k].fn:=(by omega);have hf:=jk (p:=mP (nr x) (bP x.codes).length) aQ (by simp[mP,f1]);simp[hs,hS,hl,hlc,aQ,SD.cells,hc,hr,e,e2,f0,f1',hf]
  |false=>
   have hf:=jk (p:=mP (nr x) (bP x.codes).length) aQ (by simp[mP,e2]);simp[hs,hS,hl,aQ,SD.cells,hc,hr,e,e2,hf]
 |false=>
  have hf:=jk (p:=mP (nr x) (bP x.codes).length) aQ (by simp[mP,e]);simp[hs,hS,hl,aQ,SD.cells,hc,e,hf]
 have cL:k=(oM x.ax).length:=by omega
 have hf:=lf (cL ▸ hp);simp[aQ,hf]
end cr
namespace cr
open Ax Go aF cJ
def Mf(l:List ID):Bool:=match l.getLast? with
 |some i=>decide (i.op=16)||decide (i.op=17)||decide (i.op=18)
 |none=>false
theorem FJ{l:List ID}{m:Nat}(h:l.length=m+1):Mf l=(decide ((l[m]'(by omega)).op=16)||decide ((l[m]'(by omega)).op=17)||decide ((l[m]'(by omega)).op=18)):=by
 have e:l.getLast? = some (l[m]'(by omega)):=by
  rw[List.getLast?_eq_getElem?];have:l.length-1=m:=by omega
  rw[this];exact List.getElem?_eq_getElem _
 unfold Mf;rw[e]
def zn(x:XD)(f:Int)(c:CD):Bool:=decide (¬c.params<0)&&decide (¬6<c.params)&&decide (¬((bJ c.vars).length:Int)<c.params)&&decide (¬4000<((bJ c.vars).length:Int)) &&
 decide (¬((gx c.dO).length:Int)=0)&&(bJ c.vars).all (lT (nr x))&&(if c.bg then lT (nr x) c.res else fT c.res ⟨0,0,0⟩)&&(gx c.dO).all (uM x f)&&Mf (gx c.dO)
theorem aaR(wl aa:Nat){x:XD}(k:Nat)(hk:k<(bP x.codes).length)(st:ag)(hx:x.ok)(hb:∀g∈bP x.codes,(bJ g.vars).length<1000000000)(Ee:∀g∈bP x.codes,(gx g.dO).length<1000000000) :
  (aP S).call wl aa 87 [cH x,.int .i64 k] st=some (.bool (zn x k (bP x.codes)[k]),st):=by
 have hs:=hx.sl;have hC:=hx.codes;have hl:=aV hx.codes;have oU:=gQ hC _ (aar hk);have hT:=oU.1;have n8:=iB oU.1;have mU:=gr oU.1;have Bn:=dw oU.1;have hN:=oU.2;have fV:=lA oU.2;have fq:=jQ oU.2;have s6:=oL oU.2;have hbn:=Ee _ (aar hk);have CP:=Me 0 0 (x:=x) (bP x.codes)[k].vars [] hx hT (hb _ (aar hk));have hm:=JX 0 0 (x:=x) (bP x.codes)[k].res [] hx;simp only[cH]at hm CP;refine aH (sf:=SQ) rfl rfl (by simp[hx.pure]) rfl (by simp) ?_;generalize jR:(bP x.codes)[k]=c at *;unfold zn;by_cases p0:c.params<0;simp[SQ,cH,hs,hl,hC,hk,jR,CD.cells,n8,mU,fV,fq,p0];by_cases p6:6<c.params;simp[SQ,cH,hs,hl,hC,hk,jR,CD.cells,n8,mU,fV,fq,p0,p6];by_cases pv:((bJ c.vars).length:Int)<c.params;simp[SQ,cH,hs,hl,hC,hk,jR,CD.cells,n8,mU,Bn,fV,fq,p0,p6,pv];by_cases v4:4000<((bJ c.vars).length:Int);simp[SQ,cH,hs,hl,hC,hk,jR,CD.cells,n8,mU,Bn,fV,fq,p0,p6,pv,v4];by_cases i0:gx c.dO=[];simp[SQ,cH,hs,hl,hC,hk,jR,CD.cells,n8,mU,Bn,fV,fq,s6,p0,p6,pv,v4,i0];cases MJ:(bJ c.vars).all (lT (nr x)) with
 |false=>simp[SQ,cH,hs,hl,hC,hk,jR,CD.cells,n8,mU,Bn,fV,fq,s6,p0,p6,pv,v4,i0,CP,MJ]|true=>
  cases hh:c.bg with
  |true=>
   cases hmr:lT (nr x) c.res with
   |false=>simp[SQ,cH,hs,hl,hC,hk,jR,CD.cells,n8,mU,Bn,fV,fq,s6,p0,p6,pv,v4,i0,CP,MJ,hh,hm,hmr,ai,ah]|true=>
    simp[SQ,cH,hs,hl,hC,hk,jR,CD.cells,n8,mU,Bn,fV,fq,s6,p0,p6,pv,v4,i0,CP,MJ,hh,hm,hmr,ai,ah];refine aT Ny.eq_1 (λq:Nat×List AV=>⟨[(1,.val (.int .i64 k)),(2,.fp 0 0),(5,.fp 1 0),(70,.val c.dO),(71,.val (.int .i64 (gx c.dO).length)),(72,.val (.int .i64 q.1))],
      [[x.aD,x.globals,x.codes,x.ax,.int .i64 x.main],[.int .i64 c.params,c.vars,.bool true,.int .i64 c.res.b,.int .i64 c.res.r,.int .i64 c.res.d,c.dO],q.2],[]⟩)
     (λq=>q.1<=(gx c.dO).length/\xQ (uM x k) (gx c.dO) q.1) (λq=>(gx c.dO).length-q.1) (0,[]) (by simp) ⟨by simp,jE⟩ ?_
    rintro⟨j,bb⟩ ⟨hj,hp⟩ ih;simp only at hj hp ih;by_cases aQ:j<(gx c.dO).length;have hw:=wk j (by omega);have hg:=A5 hN _ (aar aQ);have iO:=tr 0 0 (x:=x) (k:Int) (i:=(gx c.dO)[j]) [] hx hg.2 hg.1 hb;have hgs:=jS hg.2;have Oi:=dg hg.1 hgs;simp only[cH,bX]at iO;cases e:uM x k (gx c.dO)[j] with
    |true=>
     simp[hs,hN,s6,aQ,ID.cells,hgs,Oi,iO,e,hw];exact ih (j+1,_) ⟨by simp;omega,jF hp aQ e⟩ (by simp;omega)
    |false=>
     have hf:=jk aQ e;simp[hs,hN,s6,aQ,ID.cells,hgs,Oi,iO,e,hf]
    have kJ:j=(gx c.dO).length:=(by omega);have hf:=lf (kJ ▸ hp);obtain⟨m,Ua⟩:∃m,(gx c.dO).length=m+1:=⟨(gx c.dO).length-1,by have:=acu.2 i0;omega⟩;have JF:m<(gx c.dO).length:=(by omega);have nR:IntKind.i64.wrap (((gx c.dO).length:Int)-1)=(m:Int):=(by rw[cI]<;>omega);have tg:=FJ Ua;by_cases o1:(gx c.dO)[m].op=16;simp[hN,s6,aQ,hf,nR,JF,ID.cells,tg,o1];by_cases o2:(gx c.dO)[m].op=17;simp[hN,s6,aQ,hf,nR,JF,ID.cells,tg,o2];simp[hN,s6,aQ,hf,nR,JF,ID.cells,tg,o1,o2]
  |false=>
   cases SJ:fT c.res ⟨0,0,0⟩ with
   |false=>simp[SQ,cH,hs,hl,hC,hk,jR,CD.cells,n8,mU,Bn,fV,fq,s6,p0,p6,pv,v4,i0,CP,MJ,hh,A6,SJ,ai,ah]|true=>
    simp[SQ,cH,hs,hl,hC,hk,jR,CD.cells,n8,mU,Bn,fV,fq,s6,p0,p6,pv,v4,i0,CP,MJ,hh,A6,SJ,ai,ah];refine aT Ny.eq_1 (λq:Nat×List AV=>⟨[(1,.val (.int .i64 k)),(2,.fp 0 0),(5,.fp 1 0),(70,.val c.dO),(71,.val (.int .i64 (gx c.dO).length)),(72,.val (.int .i64 q.1))],
      [[x.aD,x.globals,x.codes,x.ax,.int .i64 x.main],[.int .i64 c.params,c.vars,.bool false,.int .i64 c.res.b,.int .i64 c.res.r,.int .i64 c.res.d,c.dO],q.2],[]⟩)
     (λq=>q.1<=(gx c.dO).length/\xQ (uM x k) (gx c.dO) q.1) (λq=>(gx c.dO).length-q.1) (0,[]) (by simp) ⟨by simp,jE⟩ ?_
    rintro⟨j,bb⟩ ⟨hj,hp⟩ ih;simp only at hj hp ih;by_cases aQ:j<(gx c.dO).length;have hw:=wk j (by omega);have hg:=A5 hN _ (aar aQ);have iO:=tr 0 0 (x:=x) (k:Int) (i:=(gx c.dO)[j]) [] hx hg.2 hg.1 hb;have hgs:=jS hg.2;have Oi:=dg hg.1 hgs;simp only[cH,bX]at iO;cases e:uM x k (gx c.dO)[j] with
    |true=>
     simp[hs,hN,s6,aQ,ID.cells,hgs,Oi,iO,e,hw];exact ih (j+1,_) ⟨by simp;omega,jF hp aQ e⟩ (by simp;omega)
    |false=>
     have hf:=jk aQ e;simp[hs,hN,s6,aQ,ID.cells,hgs,Oi,iO,e,hf]
    have kJ:j=(gx c.dO).length:=(by omega);have hf:=lf (kJ ▸ hp);obtain⟨m,Ua⟩:∃m,(gx c.dO).length=m+1:=⟨(gx c.dO).length-1,by have:=acu.2 i0;omega⟩;have JF:m<(gx c.dO).length:=(by omega);have nR:IntKind.i64.wrap (((gx c.dO).length:Int)-1)=(m:Int):=(by rw[cI]<;>omega);have tg:=FJ Ua;by_cases o1:(gx c.dO)[m].op=16;simp[hN,s6,aQ,hf,nR,JF,ID.cells,tg,o1];by_cases o2:(gx c.dO)[m].op=17;simp[hN,s6,aQ,hf,nR,JF,ID.cells,tg,o2];simp[hN,s6,aQ,hf,nR,JF,ID.cells,tg,o1,o2]
end cr
namespace cr
open Ax Go aF cJ
def oN(x:XD):List CD->Int->Int->Bool
 |[],_,_=>true|c::l,f,n=>decide (¬2500<n+(gx c.dO).length)&&zn x f c&&oN x l (f+1) (n+(gx c.dO).length)
theorem Xq(wl aa:Nat){x:XD}(st:ag)(hx:x.ok)(hn:(bP x.codes).length<1000000000)(hb:∀g∈bP x.codes,(bJ g.vars).length<1000000000)(Ee:∀g∈bP x.codes,(gx g.dO).length<1000000000) :
  (aP S).call wl aa 55 [cH x] st=some (.bool (oN x (bP x.codes) 0 0),st):=by
 have hs:=hx.sl;have hC:=hx.codes;have hl:=aV hx.codes;refine aH (sf:=s55) rfl rfl (by simp[hx.pure]) rfl (by simp) ?_;simp[s55,cH,hs,hl];refine aT U8.eq_1 (λq:Nat×Int×List AV=>⟨[(1,.fp 0 0),(3,.val (.int .i64 q.2.1)),(7,.val x.codes),(8,.val (.int .i64 (bP x.codes).length)),(9,.val (.int .i64 q.1))],[[x.aD,x.globals,x.codes,x.ax,.int .i64 x.main],q.2.2],[]⟩)
  (λq=>q.1<=(bP x.codes).length/\0<=q.2.1/\q.2.1<=2500/\oN x (bP x.codes) 0 0=oN x ((bP x.codes).drop q.1) q.1 q.2.1) (λq=>(bP x.codes).length-q.1) (0,0,[]) (by simp) ⟨by simp,by simp,by simp,by simp⟩ ?_
 rintro⟨k,n,bb⟩ ⟨hk,OO,hn1,hp⟩ ih;simp only at hk OO hn1 hp ih;by_cases aQ:k<(bP x.codes).length;have hw:=wk k (by omega);have oU:=gQ hC _ (aar aQ);have hbn:=Ee _ (aar aQ);have uy:=aaR 0 0 (x:=x) k aQ [] hx hb Ee;simp only[cH]at uy;rw[aa3 aQ]at hp;simp only[oN]at hp;have n8:=iB oU.1;have mU:=gr oU.1;have fV:=lA oU.2;have fq:=jQ oU.2;have s6:=oL oU.2;generalize jR:(bP x.codes)[k]=c at *;have nR:IntKind.i64.wrap (n+((gx c.dO).length:Int))=n+((gx c.dO).length:Int):=by rw[cI]<;>omega
 by_cases g:2500<n+((gx c.dO).length:Int);simp[hs,hl,hC,aQ,jR,CD.cells,n8,mU,fV,fq,s6,nR,g,hp];cases e:zn x k c with
 |false=>simp[hs,hl,hC,aQ,jR,CD.cells,n8,mU,fV,fq,s6,nR,g,hp,uy,e]|true=>
  simp[hs,hl,hC,aQ,jR,CD.cells,n8,mU,fV,fq,s6,nR,g,uy,e,hw];refine ih (k+1,n+((gx c.dO).length:Int),_) ⟨by simp;omega,by simp;omega,by simp;omega,?_⟩ (by simp;omega);rw[hp,e];simp[g]
 have cL:k=(bP x.codes).length:=by omega
 rw[cL,abp]at hp;simp only[oN]at hp;simp[aQ,hp]
def lB(x:XD):Bool:=decide (¬12<((kq x.aD).length:Int))&&decide (¬8<((bJ x.globals).length:Int))&&decide (¬bP x.codes=[])&&decide (¬16<((bP x.codes).length:Int)) &&
 decide (¬60<((oM x.ax).length:Int))&&(match gh (bP x.codes) x.main with
  |none=>false|some m=>decide (m.params=0) && !m.bg)&&(kq x.aD).all (wF (nr x))&&(bJ x.globals).all (lT (nr x))&&(oM x.ax).all (mP (nr x) (bP x.codes).length)&&oN x (bP x.codes) 0 0
theorem Xr(wl aa:Nat){x:XD}(st:ag)(hx:x.ok)(hb:∀g∈bP x.codes,(bJ g.vars).length<1000000000)(Ee:∀g∈bP x.codes,(gx g.dO).length<1000000000) :
  (aP S).call wl aa 25 [cH x] st=some (.bool (lB x),st):=by
 have hs:=hx.sl;have hC:=hx.codes;have hl:aJ x.aD=(kq x.aD).map RD.cells/\aJ x.globals=(bJ x.globals).map T3.cells/\aJ x.codes=(bP x.codes).map CD.cells/\aJ x.ax=(oM x.ax).map SD.cells:=
  ⟨mL hx.aD,dw hx.globals,aV hx.codes,rE hx.ax⟩
 refine aH (sf:=Nt) rfl rfl (by simp[hx.pure]) rfl (by simp) ?_;unfold lB;by_cases a1:12<((kq x.aD).length:Int);simp[Nt,cH,hs,hl,a1];by_cases a2:8<((bJ x.globals).length:Int);simp[Nt,cH,hs,hl,a1,a2];by_cases a3:bP x.codes=[];simp[Nt,cH,hs,hl,a1,a2,a3];by_cases a4:16<((bP x.codes).length:Int);simp[Nt,cH,hs,hl,a1,a2,a3,a4];by_cases a5:60<((oM x.ax).length:Int);simp[Nt,cH,hs,hl,a1,a2,a3,a4,a5];cases hg:gh (bP x.codes) x.main with
 |none=>
  rcases iq hg with h0|⟨h0,h1⟩;simp[Nt,cH,hs,hl,a1,a2,a3,a4,a5,h0];have rF:¬x.main<0:=by omega
  simp[Nt,cH,hs,hl,a1,a2,a3,a4,a5,rF,h1]
 |some m=>
  obtain⟨k,hk,cL,hq⟩:=ij hg;have rF:¬(k:Int)<0:=by omega
  have iM:¬((bP x.codes).length:Int)<=(k:Int):=by omega
  have oU:=gQ hC m (hq ▸ aar cL);have n8:=iB oU.1;have mU:=gr oU.1;have fV:=lA oU.2;have fq:=jQ oU.2;have e1:=Sv 0 0 [] hx (by omega);have e2:=Me 0 0 (x:=x) x.globals [] hx hx.globals (by omega);have e3:=Xp 0 0 [] hx (by omega);have e4:=Xq 0 0 [] hx (by omega) hb Ee;simp only[cH,hk]at e1 e2 e3 e4;by_cases p0:m.params=0;cases p1:m.bg with
  |true=>simp[Nt,cH,hs,hl,hC,a1,a2,a3,a4,a5,hk,cL,rF,iM,hq,CD.cells,n8,mU,fV,fq,p0,p1]|false=>
   cases q1:(kq x.aD).all (wF (nr x)) with
   |false=>simp[Nt,cH,hs,hl,hC,a1,a2,a3,a4,a5,hk,cL,rF,iM,hq,CD.cells,n8,mU,fV,fq,p0,p1,e1,q1]|true=>
    cases q2:(bJ x.globals).all (lT (nr x)) with
    |false=>simp[Nt,cH,hs,hl,hC,a1,a2,a3,a4,a5,hk,cL,rF,iM,hq,CD.cells,n8,mU,fV,fq,p0,p1,e1,q1,e2,q2]|true=>
     cases q3:(oM x.ax).all (mP (nr x) (bP x.codes).length) with
     |false=>simp[Nt,cH,hs,hl,hC,a1,a2,a3,a4,a5,hk,cL,rF,iM,hq,CD.cells,n8,mU,fV,fq,p0,p1,e1,q1,e2,q2,e3,q3]|true=>simp[Nt,cH,hs,hl,hC,a1,a2,a3,a4,a5,hk,cL,rF,iM,hq,CD.cells,n8,mU,fV,fq,p0,p1,e1,q1,e2,q2,e3,q3,e4]
  simp[Nt,cH,hs,hl,hC,a1,a2,a3,a4,a5,hk,cL,rF,iM,hq,CD.cells,n8,mU,fV,fq,p0]
end cr
namespace cr
open Ax Go aF cJ
theorem Ql(wl aa:Nat){x:XD}(t:T3)(st:ag)(hx:x.ok) :
  (aP S).call wl aa 47 [cH x,.agg [.int .i64 t.b,.int .i64 t.r,.int .i64 t.d]] st=some (.bool (lT (kq x.aD).length t),st):=by
 have hs:=hx.sl;have hl:=mL hx.aD;refine aH (sf:=ZA) rfl rfl (by simp[hx.pure]) rfl (by simp) ?_;unfold lT;by_cases d0:t.d<0;simp[ZA,cH,hs,d0];by_cases d3:3<t.d;simp[ZA,cH,hs,d0,d3];by_cases b1:t.b=1;simp[ZA,cH,hs,d0,d3,b1];by_cases b2:t.b=2;simp[ZA,cH,hs,d0,d3,b2];by_cases b3:t.b=3;by_cases r0:0<=t.r;simp[ZA,cH,hs,hl,d0,d3,b3,r0];simp[ZA,cH,hs,d0,d3,b3,r0];simp[ZA,cH,hs,d0,d3,b1,b2,b3]
theorem HO(wl aa:Nat){x:XD}(l:AV)(st:ag)(hx:x.ok)(hT:sY l=true)(hn:(bJ l).length<1000000000) :
  (aP S).call wl aa 46 [cH x,l] st=some (.bool ((bJ l).all (lT (kq x.aD).length)),st):=by
 have hs:=hx.sl;have n8:=iB hT;have mU:=gr hT;have hm:=λt=>Ql 0 0 (x:=x) t [] hx;simp only[cH]at hm;refine aH (sf:=s46) rfl rfl (by simp[hx.pure,cD n8]) rfl (by simp) ?_;simp[s46,cH,hs];refine aT U1.eq_1 (λk:Nat=>⟨[(1,.val l),(2,.fp 0 0),(5,.val (.int .i64 k))],[[x.aD,x.globals,x.codes,x.ax,.int .i64 x.main]],[]⟩)
  (λk=>k<=(bJ l).length/\xQ (lT (kq x.aD).length) (bJ l) k) (λk=>(bJ l).length-k) 0 (by simp) ⟨by simp,jE⟩ ?_
 intro k ⟨hk,hp⟩ ih;by_cases aQ:k<(bJ l).length;have hw:=wk k (by omega);have hc:=hm (bJ l)[k];cases e:lT (kq x.aD).length (bJ l)[k] with
 |true=>
  simp[hs,mU,hT,dw hT,aQ,hc,e,hw,ai,ah];exact ih (k+1) ⟨by omega,jF hp aQ e⟩ (by omega)
 |false=>
  have hf:=jk aQ e;simp[hs,mU,hT,dw hT,aQ,hc,e,hf,ai,ah]
 have cL:k=(bJ l).length:=by omega
 have hf:=lf (cL ▸ hp);simp[n8,mU,dw hT,aQ,hf]
def yR(x:XD):List CD->Int->Bool
 |[],_=>true|c::l,n=>decide (¬4000<((bJ c.vars).length:Int))&&decide (¬c.params<0)&&decide (¬6<c.params)&&decide (¬((bJ c.vars).length:Int)<c.params)&&(bJ c.vars).all (lT (nr x)) &&
  decide (¬gx c.dO=[])&&decide (¬2500<n+(gx c.dO).length)&&(if c.bg then lT (nr x) c.res else fT c.res ⟨0,0,0⟩)&&yR x l (n+(gx c.dO).length)
def Yd(x:XD):List CD->Int->Bool
 |[],_=>true|c::l,f=>(gx c.dO).all (CG x f)&&Mf (gx c.dO)&&Yd x l (f+1)
def iT(x:XD):Bool:=decide (¬12<((kq x.aD).length:Int))&&decide (¬8<((bJ x.globals).length:Int))&&decide (¬bP x.codes=[])&&decide (¬16<((bP x.codes).length:Int)) &&
 decide (¬60<((oM x.ax).length:Int))&&(bJ x.globals).all (lT (nr x))&&(kq x.aD).all (wF (nr x))&&(oM x.ax).all (mP (nr x) (bP x.codes).length)&&yR x (bP x.codes) 0&&Yd x (bP x.codes) 0 &&
 (match gh (bP x.codes) x.main with
  |none=>false|some m=>decide (m.params=0) && !m.bg)
end cr
namespace cr
open Ax Go aF cJ
theorem Sw(wl aa:Nat){x:XD}(st:ag)(hx:x.ok)(hb:∀g∈bP x.codes,(bJ g.vars).length<1000000000)(Ee:∀g∈bP x.codes,(gx g.dO).length<1000000000) :
  (aP S).call wl aa 18 [cH x] st=some (.bool (iT x),st):=by
 have hs:=hx.sl;have hR:=hx.aD;have hC:=hx.codes;have hS:=hx.ax;have hl:aJ x.aD=(kq x.aD).map RD.cells/\aJ x.globals=(bJ x.globals).map T3.cells/\aJ x.codes=(bP x.codes).map CD.cells/\aJ x.ax=(oM x.ax).map SD.cells:=
  ⟨mL hx.aD,dw hx.globals,aV hx.codes,rE hx.ax⟩
 have hm:=λt=>Ql 0 0 (x:=x) t [] hx;simp only[cH]at hm;refine aH (sf:=Zz) rfl rfl (by simp[hx.pure]) rfl (by simp) ?_;by_cases a1:12<((kq x.aD).length:Int);simp[iT,Zz,cH,hs,hl,a1];by_cases a2:8<((bJ x.globals).length:Int);simp[iT,Zz,cH,hs,hl,a1,a2];by_cases a3:bP x.codes=[];simp[iT,Zz,cH,hs,hl,a1,a2,a3];have a3':¬((bP x.codes).length:Int)<1:=by have:=acu.2 a3;omega
 by_cases a4:16<((bP x.codes).length:Int);simp[iT,Zz,cH,hs,hl,a1,a2,a3',a4];by_cases a5:60<((oM x.ax).length:Int);simp[iT,Zz,cH,hs,hl,a1,a2,a3',a4,a5];have e2:=HO 0 0 (x:=x) x.globals [] hx hx.globals (by omega);simp only[cH]at e2;cases q2:(bJ x.globals).all (lT (nr x)) with
 |false=>simp[iT,Zz,cH,hs,hl,a1,a2,a3',a4,a5,e2,q2]|true=>
  simp[Zz,cH,hs,hl,a1,a2,a3',a4,a5,e2,q2];refine aT UI.eq_1 (λk:Nat=>⟨[(1,.fp 0 0),(3,.val (.int .i64 k))],[[x.aD,x.globals,x.codes,x.ax,.int .i64 x.main],[],[]],[]⟩)
   (λk=>k<=(kq x.aD).length/\xQ (wF (nr x)) (kq x.aD) k) (λk=>(kq x.aD).length-k) 0 (by simp) ⟨by simp,jE⟩ ?_
  intro k ⟨hk,hp⟩ ih;by_cases aQ:k<(kq x.aD).length;have hw:=wk k (by omega);have hF:=A4 hR _ (aar aQ);have S1:=JP hF;have CA:=DA hF;have Kd:=yE hF;have nZ:wF (nr x) (kq x.aD)[k]=false->iT x=false:=λh=>by
   have h2:=jk (p:=wF (nr x)) aQ h;simp[iT,h2]
  by_cases g:8<(uT (kq x.aD)[k].bM).length;have g':(8:Int)<((uT (kq x.aD)[k].bM).length:Int):=by omega
  have hf:=nZ (by simp[wF,g]);simp[hs,hl,aQ,hR,RD.cells,S1,CA,Kd,g',hf];have g':¬(8:Int)<((uT (kq x.aD)[k].bM).length:Int):=by omega
  simp[hs,hl,aQ,hR,RD.cells,S1,CA,Kd,g'];refine aT UH.eq_1 (λj:Nat=>⟨[(1,.fp 0 0),(3,.val (.int .i64 k)),(4,.val (kq x.aD)[k].bM),(5,.val (.int .i64 j))],[[x.aD,x.globals,x.codes,x.ax,.int .i64 x.main],[],[]],[]⟩)
   (λj=>j<=(uT (kq x.aD)[k].bM).length/\xQ (λf=>lT (nr x) f.t) (uT (kq x.aD)[k].bM) j) (λj=>(uT (kq x.aD)[k].bM).length-j) 0 (by simp) ⟨by simp,jE⟩ ?_
  intro j ⟨hj,TT⟩ Rh;by_cases kJ:j<(uT (kq x.aD)[k].bM).length;have NF:=wk j (by omega);have hc:=hm (uT (kq x.aD)[k].bM)[j].t;cases e:lT (nr x) (uT (kq x.aD)[k].bM)[j].t with
  |true=>
   simp[hs,hF,CA,Kd,kJ,FD.cells,hc,e,NF,ai,ah];exact Rh (j+1) ⟨by omega,jF TT kJ e⟩ (by omega)
  |false=>
   have S5:=jk (p:=λf:FD=>lT (nr x) f.t) kJ e;have hf:=nZ (by simp only[wF,S5,aiq]);simp[hs,hF,CA,Kd,kJ,FD.cells,hc,e,hf,ai,ah]
  have oe:j=(uT (kq x.aD)[k].bM).length:=by omega
  have S5:=lf (oe ▸ TT);simp[S1,CA,Kd,kJ,hw];exact ih (k+1) ⟨by omega,jF hp aQ (by simp only[wF,S5];simp;omega)⟩ (by omega);have cL:k=(kq x.aD).length:=by omega
  have t1:=lf (cL ▸ hp);clear hp ih;simp[hs,hl,aQ];refine aT UJ.eq_1 (λq:Nat×List AV=>⟨[(1,.fp 0 0),(6,.val (.int .i64 q.1))],[[x.aD,x.globals,x.codes,x.ax,.int .i64 x.main],q.2,[]],[]⟩)
   (λq=>q.1<=(oM x.ax).length/\xQ (mP (nr x) (bP x.codes).length) (oM x.ax) q.1) (λq=>(oM x.ax).length-q.1) (0,[]) (by simp) ⟨by simp,jE⟩ ?_
  rintro⟨k,bb⟩ ⟨hk,hp⟩ ih;simp only at hk hp ih;by_cases aQ:k<(oM x.ax).length;have hw:=wk k (by omega);have hc:=hm (oM x.ax)[k].t;have hr:=λa b c=>pZ 0 0 a b c [];have nZ:mP (nr x) (bP x.codes).length (oM x.ax)[k]=false->iT x=false:=λh=>by
   have h2:=jk (p:=mP (nr x) (bP x.codes).length) aQ h;simp[iT,h2]
  by_cases f0:(oM x.ax)[k].fn<0;have hf:=nZ (by simp[mP,f0]);simp[hs,hS,hl,aQ,SD.cells,f0,hf];by_cases f1:((bP x.codes).length:Int)<=(oM x.ax)[k].fn;have hf:=nZ (by simp[mP];omega);simp[hs,hS,hl,aQ,SD.cells,f0,f1,hf];have f1':(oM x.ax)[k].fn<((bP x.codes).length:Int):=by omega
  cases e:lT (nr x) (oM x.ax)[k].t with
  |false=>
   have hf:=nZ (by simp[mP,e]);simp[hs,hS,hl,aQ,SD.cells,f0,f1,hc,e,hf]
  |true=>
   cases e2:g9 (oM x.ax)[k].t with
   |false=>
    have hf:=nZ (by simp[mP,e2]);simp[hs,hS,hl,aQ,SD.cells,f0,f1,hc,hr,e,e2,hf]
   |true=>
    simp[hs,hS,hl,aQ,SD.cells,f0,f1,hc,hr,e,e2,hw];exact ih (k+1,_) ⟨by simp;omega,jF hp aQ (by simp[mP,e,e2,f1'];omega)⟩ (by simp;omega)
  have cL:k=(oM x.ax).length:=by omega
  have t2:=lf (cL ▸ hp);clear hp ih;generalize bb=bA;simp[hs,hl,aQ];refine aT UK.eq_1 (λq:Nat×Int×List AV=>⟨[(1,.fp 0 0),(8,.val (.int .i64 q.2.1)),(9,.val (.int .i64 q.1))],[[x.aD,x.globals,x.codes,x.ax,.int .i64 x.main],bA,q.2.2],[]⟩)
   (λq=>q.1<=(bP x.codes).length/\0<=q.2.1/\q.2.1<=2500/\yR x (bP x.codes) 0=yR x ((bP x.codes).drop q.1) q.2.1/\xQ (λc=>decide (¬gx c.dO=[])) (bP x.codes) q.1) (λq=>(bP x.codes).length-q.1) (0,0,[]) (by simp) ⟨by simp,by simp,by simp,by simp,jE⟩ ?_
  rintro⟨k,n,bb⟩ ⟨hk,OO,hn1,hp,jJ⟩ ih;simp only at hk OO hn1 hp jJ ih;by_cases aQ:k<(bP x.codes).length;have hw:=wk k (by omega);have oU:=gQ hC _ (aar aQ);have hbn:=Ee _ (aar aQ);have hbv:=hb _ (aar aQ);have ajP:∀h:decide (¬gx (bP x.codes)[k].dO=[])=true,xQ (λc:CD=>decide (¬gx c.dO=[])) (bP x.codes) (k+1):=λh=>jF jJ aQ h;rw[aa3 aQ]at hp;simp only[yR]at hp;have n8:=iB oU.1;have mU:=gr oU.1;have Bn:=dw oU.1;have fV:=lA oU.2;have fq:=jQ oU.2;have s6:=oL oU.2;generalize jR:(bP x.codes)[k]=c at *;have nR:IntKind.i64.wrap (n+((gx c.dO).length:Int))=n+((gx c.dO).length:Int):=by rw[cI]<;>omega
  have xN:=HO 0 0 (x:=x) c.vars [] hx oU.1 hbv;simp only[cH]at xN;have hmr:=hm c.res;have nZ:yR x (bP x.codes) 0=false->iT x=false:=λh=>by simp[iT,h]
  by_cases v4:4000<((bJ c.vars).length:Int);have hf:=nZ (by rw[hp];simp[v4]);simp[hs,hl,hC,aQ,jR,CD.cells,n8,mU,Bn,fV,fq,s6,nR,v4,hf];by_cases p0:c.params<0;have hf:=nZ (by rw[hp];simp[p0]);simp[hs,hl,hC,aQ,jR,CD.cells,n8,mU,Bn,fV,fq,s6,nR,v4,p0,hf];by_cases p6:6<c.params;have hf:=nZ (by rw[hp];simp[p6]);simp[hs,hl,hC,aQ,jR,CD.cells,n8,mU,Bn,fV,fq,s6,nR,v4,p0,p6,hf];by_cases pv:((bJ c.vars).length:Int)<c.params;have hf:=nZ (by rw[hp];simp[pv]);simp[hs,hl,hC,aQ,jR,CD.cells,n8,mU,Bn,fV,fq,s6,nR,v4,p0,p6,pv,hf];cases MJ:(bJ c.vars).all (lT (nr x)) with
  |false=>
   have hf:=nZ (by rw[hp];simp[MJ]);simp[hs,hl,hC,aQ,jR,CD.cells,n8,mU,Bn,fV,fq,s6,nR,v4,p0,p6,pv,xN,MJ,hf]
  |true=>
   by_cases i0:gx c.dO=[];have hf:=nZ (by rw[hp];simp[i0]);simp[hs,hl,hC,aQ,jR,CD.cells,n8,mU,Bn,fV,fq,s6,v4,p0,p6,pv,xN,MJ,i0,hf];have i1:¬((gx c.dO).length:Int)<1:=(by have:=acu.2 i0;omega);by_cases n2:2500<n+((gx c.dO).length:Int);have hf:=nZ (by rw[hp];simp[n2]);simp[hs,hl,hC,aQ,jR,CD.cells,n8,mU,Bn,fV,fq,s6,nR,v4,p0,p6,pv,xN,MJ,i1,n2,hf];cases hh:c.bg with
   |true=>
    cases e:lT (nr x) c.res with
    |false=>
     have hf:=nZ (by rw[hp];simp[hh,e]);simp[hs,hl,hC,aQ,jR,CD.cells,n8,mU,Bn,fV,fq,s6,nR,v4,p0,p6,pv,xN,MJ,i1,n2,hh,hmr,e,hf]
    |true=>
     simp[hs,hl,hC,aQ,jR,CD.cells,n8,mU,Bn,fV,fq,s6,nR,v4,p0,p6,pv,xN,MJ,i1,n2,hh,hmr,e,hw];exact ih (k+1,n+((gx c.dO).length:Int),_) ⟨by simp;omega,by simp;omega,by simp;omega,by rw[hp];simp[v4,p0,p6,pv,MJ,i0,n2,hh,e],ajP (by simp[i0])⟩ (by simp;omega)
   |false=>
    cases e:fT c.res ⟨0,0,0⟩ with
    |false=>
     have hf:=nZ (by rw[hp];simp[hh,e]);simp[hs,hl,hC,aQ,jR,CD.cells,n8,mU,Bn,fV,fq,s6,nR,v4,p0,p6,pv,xN,MJ,i1,n2,hh,e,hf]
    |true=>
     simp[hs,hl,hC,aQ,jR,CD.cells,n8,mU,Bn,fV,fq,s6,nR,v4,p0,p6,pv,xN,MJ,i1,n2,hh,e,hw];exact ih (k+1,n+((gx c.dO).length:Int),_) ⟨by simp;omega,by simp;omega,by simp;omega,by rw[hp];simp[v4,p0,p6,pv,MJ,i0,n2,hh,e],ajP (by simp[i0])⟩ (by simp;omega)
  have cL:k=(bP x.codes).length:=by omega
  rw[cL,abp]at hp;have t3:yR x (bP x.codes) 0=true:=hp;have cne:∀c∈bP x.codes,¬gx c.dO=[]:=λc hc=>by
   have:=aaS.1 (lf (cL ▸ jJ)) c hc;simpa using this
  clear hp jJ ih;generalize bb=bB;simp[hs,hl,aQ];refine aT UM.eq_1 (λq:Nat=>⟨[(1,.fp 0 0),(11,.val (.int .i64 q))],[[x.aD,x.globals,x.codes,x.ax,.int .i64 x.main],bA,bB],[]⟩)
   (λq=>q<=(bP x.codes).length/\Yd x (bP x.codes) 0=Yd x ((bP x.codes).drop q) q) (λq=>(bP x.codes).length-q) 0 (by simp) ⟨by simp,by simp⟩ ?_
  intro k ⟨hk,hp⟩ ih;by_cases aQ:k<(bP x.codes).length;have hw:=wk k (by omega);have oU:=gQ hC _ (aar aQ);have hbn:=Ee _ (aar aQ);rw[aa3 aQ]at hp;simp only[Yd]at hp;have jJ:=cne _ (aar aQ);have hN:=oU.2;have fV:=lA oU.2;have fq:=jQ oU.2;have s6:=oL oU.2;generalize jR:(bP x.codes)[k]=c at *;simp[hs,hl,hC,aQ,jR,CD.cells,fq];refine aT UL.eq_1 (λj:Nat=>⟨[(1,.fp 0 0),(11,.val (.int .i64 k)),(12,.val c.dO),(13,.val (.int .i64 j))],[[x.aD,x.globals,x.codes,x.ax,.int .i64 x.main],bA,bB],[]⟩)
   (λj=>j<=(gx c.dO).length/\xQ (CG x k) (gx c.dO) j) (λj=>(gx c.dO).length-j) 0 (by simp) ⟨by simp,jE⟩ ?_
  intro j ⟨hj,TT⟩ Rh;by_cases kJ:j<(gx c.dO).length;have NF:=wk j (by omega);have hgi:=A5 hN _ (aar kJ);have iO:=Xm 0 0 (x:=x) (k:Int) (i:=(gx c.dO)[j]) [] hx hgi.2 hgi.1 hb;have hgs:=jS hgi.2;have Oi:=dg hgi.1 hgs;simp only[cH,bX]at iO;cases e:CG x k (gx c.dO)[j] with
  |true=>
   simp[hs,hN,fq,s6,kJ,ID.cells,Oi,iO,e,NF,ai,ah];exact Rh (j+1) ⟨by omega,jF TT kJ e⟩ (by omega)
  |false=>
   have S5:=jk kJ e;have hf:iT x=false:=by
    have h2:Yd x (bP x.codes) 0=false:=(by rw[hp,S5];rfl);simp[iT,h2]
   simp[hs,hN,fq,s6,kJ,ID.cells,Oi,iO,e,hf,ai,ah]
  have oe:j=(gx c.dO).length:=by omega
  have S5:=lf (oe ▸ TT);obtain⟨m,Ua⟩:∃m,(gx c.dO).length=m+1:=⟨(gx c.dO).length-1,by have:=acu.2 jJ;omega⟩;have JF:m<(gx c.dO).length:=by omega
  have nR:IntKind.i64.wrap (((gx c.dO).length:Int)-1)=(m:Int):=by rw[cI]<;>omega
  have tg:=FJ Ua;rw[S5]at hp;by_cases o1:(gx c.dO)[m].op=16;simp[hN,fq,s6,kJ,nR,JF,ID.cells,o1,hw];exact ih (k+1) ⟨by omega,by rw[hp,tg];simp[o1]⟩ (by omega);by_cases o2:(gx c.dO)[m].op=17;simp[hN,fq,s6,kJ,nR,JF,ID.cells,o2,hw];exact ih (k+1) ⟨by omega,by rw[hp,tg];simp[o2]⟩ (by omega);by_cases o3:(gx c.dO)[m].op=18;simp[hN,fq,s6,kJ,nR,JF,ID.cells,o3,hw];exact ih (k+1) ⟨by omega,by rw[hp,tg];simp[o3]⟩ (by omega);have hf:iT x=false:=by
   have h2:Yd x (bP x.codes) 0=false:=(by rw[hp,tg];simp[o1,o2,o3]);simp[iT,h2]
  simp[hN,fq,s6,kJ,nR,JF,ID.cells,o1,o2,o3,hf];have cL:k=(bP x.codes).length:=by omega
  rw[cL,abp]at hp;have t4:Yd x (bP x.codes) 0=true:=hp;simp[hs,hl,aQ];by_cases g0:0<=x.main;cases hg:gh (bP x.codes) x.main with
  |none=>
   rcases iq hg with h0|⟨h0,h1⟩;omega;have iM:¬x.main<((bP x.codes).length:Int):=(by omega);have hf:iT x=false:=(by simp[iT,hg]);simp[hs,hl,g0,iM,hf]
  |some m=>
   obtain⟨mk,X8,JF,hq⟩:=ij hg;have hff:iT x=(decide (m.params=0) && !m.bg):=(by simp[iT,hg,a1,a2,a3,a4,a5,q2,t1,t2,t3,t4]);rw[X8]at g0;have asC:(mk:Int)<((bP x.codes).length:Int):=(by omega);by_cases p0:m.params=0;simp[hs,hl,hC,g0,X8,JF,hq,CD.cells,hff,p0];simp[hs,hl,hC,g0,X8,JF,hq,CD.cells,hff,p0]
  have hf:iT x=false:=by
   have:gh (bP x.codes) x.main=none:=by simp[gh,g0]
   simp[iT,this]
  simp[g0,hf]
end cr
namespace cr
open Ax Go aF cJ
theorem Mg(x:XD):∀(l:List CD)(f n:Int),oN x l f n=(yR x l n&&Yd x l f)
 |[],_,_=>rfl|c::l,f,n=>by
  have e1:uM x f=CG x f:=funext (step_eq x f);have e2:decide (¬((gx c.dO).length:Int)=0)=decide (¬gx c.dO=[]):=by simp
  simp only[oN,yR,Yd,zn,Mg x l,e1,e2]
  ac_rfl
theorem Xs(x:XD):lB x=iT x:=by
 simp only[lB,iT,Mg]
 ac_rfl
end cr
