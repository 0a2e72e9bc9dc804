/- Part of a proof. -/
import Derived.Test.YtachcambnjecnaaGreatQ
import Derived.KernelRfl

set_option maxRecDepth 100000
set_option maxHeartbeats 8000000
namespace fF
open Ax Go aT cA
def cF (x:XD)(f:Int)(c:CD)(i:ID)(a b d:T3):Bool:=
 if i.op=1 then fq a ⟨1,0,0⟩||fq a ⟨2,0,0⟩&&(decide (i.n=0)||decide (i.n=1)) else
 if i.op=2 then !fq a ⟨0,0,0⟩&&kX a else
 if i.op=3 then !fq a ⟨0,0,0⟩&&fq a b else
 if i.op=4 then jM i.n a b d else
 if i.op=5 then decide (i.n=12)&&fq a ⟨1,0,0⟩&&fq b ⟨1,0,0⟩||decide (i.n=13)&&fq a ⟨2,0,0⟩&&fq b ⟨2,0,0⟩ else
 if i.op=6 then !fq a ⟨0,0,0⟩&&fq a (Ns (oJ x.aQ) b i.c) else
 if i.op=7 then !fq b ⟨0,0,0⟩&&fq b (Ns (oJ x.aQ) a i.c) else
 if i.op=8 then !fq a ⟨0,0,0⟩&&decide (0<b.d)&&fq d ⟨1,0,0⟩&&fq a ⟨b.b,b.r,b.d-1⟩ else
 if i.op=9 then !fq d ⟨0,0,0⟩&&decide (0<a.d)&&fq b ⟨1,0,0⟩&&fq d ⟨a.b,a.r,a.d-1⟩ else
 if i.op=10 then fq a ⟨1,0,0⟩&&decide (0<b.d) else
 if i.op=11 then !fq a ⟨0,0,0⟩&&decide (a.b=3)&&decide (a.d=0)&&Nr (vm x.sites) f i.n a else
 if i.op=12 then decide (0<a.d)&&fq b ⟨1,0,0⟩&&Nr (vm x.sites) f i.n a else
 if i.op=13 then Ka (jL x.aR) (dg c.vars) i else
 if i.op=14\/i.op=15 then fq a ⟨1,0,0⟩ else
 if i.op=16 then decide (0<=i.n)&&decide (i.n<((mF c.ins).length:Int)) else
 if i.op=17 then fq a ⟨2,0,0⟩&&decide (0<=i.n)&&decide (i.n<((mF c.ins).length:Int))&&decide (0<=i.c)&&decide (i.c<((mF c.ins).length:Int)) else
 if i.op=18 then (if c.has then !fq a ⟨0,0,0⟩&&fq a c.res else decide (i.a = -1)) else
 if i.op=19\/i.op=20 then !fq a ⟨0,0,0⟩&&(match gH (dg x.globals) i.n with|some t=>fq a t|none=>false) else false
def zB (x:XD)(f:Int)(i:ID):Bool:=match gH (jL x.aR) f with
 |none=>false
 |some c=>cy i&&cF x f c i (iy (dg c.vars) i.a) (iy (dg c.vars) i.b) (iy (dg c.vars) i.c)
theorem Vu (cs:List CD)(vs:List T3)(i:ID)(p:Int):Ka cs vs ⟨p,i.a,i.b,i.c,i.n,i.args⟩=Ka cs vs i:=rfl
theorem R6 (wl aa:Nat){x:XD}(f:Int){i:ID}(st:an)(hx:x.ok)(hi:th i.args=true)(iY:gp i.args=true)(hb:∀g∈jL x.aR,(dg g.vars).length<1000000000) :
  (aU S).call wl aa 35 [fU x,.int .i64 f,dx i] st=some (.bool (zB x f i),st):=by
 have hs:=hx.sl
 have hG:=hx.aR
 have Vs:=hx.globals
 have h1:=qA hi
 have h2:=iL iY h1
 have ZK:=ru 0 0 i [] hi iY
 have lR:∀p n,p=i.op->n=i.n->(aU S).call 0 0 57 [.agg [.int .i64 p,.int .i64 i.a,.int .i64 i.b,.int .i64 i.c,.int .i64 n,i.args]] []=some (.bool (cy i),[]):=by
  intro p n hp hn;subst hp;subst hn;exact ZK
 simp only[dx]at ZK
 refine bf (sf:=k6) rfl rfl (by simp[hx.pure,R1 hi]) rfl (by simp) ?_
 unfold zB
 cases hg:gH (jL x.aR) f with
 |none=>
  rcases lG hg with h0|⟨h0,jE⟩
  ·simp[k6,fU,dx,hs,h1,h0]
  ·have F8:¬f<0:=by omega
   simp[k6,fU,dx,hs,h1,F8,jE,hG,bh hG]
 |some c=>
  obtain⟨k,hk,de,jY⟩:=lF hg
  have wv:=uA hG c (jY ▸ List.getElem_mem de)
  have kO:=mQ wv.1
  have kS:=nt wv.1
  have hN:=wv.2
  have jS:=uz wv.2
  have iV:=sP wv.2
  have lH:=FR 0 0 (c:=c) i.a [] wv.1 hN
  have lI:=FR 0 0 (c:=c) i.b [] wv.1 hN
  have lJ:=FR 0 0 (c:=c) i.c [] wv.1 hN
  have gi:=Ea wv.1 i.a
  have hrb:=Ea wv.1 i.b
  simp only[IS,T3.cells]at lH lI lJ
  have h0:¬(k:Int)<0:=by omega
  have jE:¬((jL x.aR).length:Int)<=(k:Int):=by omega
  simp only
  have hCl:=λp=>R5 0 0 (x:=x) (c:=c) (i:=⟨p,i.a,i.b,i.c,i.n,i.args⟩) [] hx wv.1 hN hi iY hb
  simp only[Vu,fU,IS,dx]at hCl
  generalize iy (dg c.vars) i.a=a at *
  generalize iy (dg c.vars) i.b=b at *
  generalize iy (dg c.vars) i.c=d at *
  have aiG:=λn=>Nq 0 0 n a b d []
  have hFa:=λk=>Eb 0 0 (x:=x) a k [] hx
  have hFb:=λk=>Eb 0 0 (x:=x) b k [] hx
  have hLa:=λh:decide (0<a.d)=true=>LI 0 0 a [] (of_decide_eq_true h) gi
  have hLb:=λh:decide (0<b.d)=true=>LI 0 0 b [] (of_decide_eq_true h) hrb
  have hAl:=λf n=>R4 0 0 (x:=x) f n a [] hx
  simp only[fU,T3.cells]at hFa hFb hAl
  cases en:cy i with
  |false=>simp[k6,fU,dx,hs,h1,h2,h0,jE,hk,hG,bh hG,ZK,en]
  |true=>
   rw[en]at lR
   simp only[hk,Bool.true_and]
   by_cases q1:i.op=1
   ·skip
    cases c0:fq a ⟨1,0,0⟩ with
    |true=>
     simp[k6,fU,dx,hs,h1,h2,h0,jE,de,hG,bh hG,CD.cells,aB,aI,cL.aF,cP,lR,kO,kS,jS,iV,jY,lH,lI,lJ,cI,cF,q1,c0]
    |false=>
     cases c1:fq a ⟨2,0,0⟩ with
     |true=>
      cases c2:decide (i.n=0) with
      |true=>
       simp[k6,fU,dx,hs,h1,h2,h0,jE,de,hG,bh hG,CD.cells,aB,aI,cL.aF,cP,lR,kO,kS,jS,iV,jY,lH,lI,lJ,cI,cT,cF,q1,c0,c1,c2]
      |false=>
       simp[k6,fU,dx,hs,h1,h2,h0,jE,de,hG,bh hG,CD.cells,aB,aI,cL.aF,cP,lR,kO,kS,jS,iV,jY,lH,lI,lJ,cI,cT,cF,q1,c0,c1,c2]
     |false=>
      simp[k6,fU,dx,hs,h1,h2,h0,jE,de,hG,bh hG,CD.cells,aB,aI,cL.aF,cP,lR,kO,kS,jS,iV,jY,lH,lI,lJ,cI,cT,cF,q1,c0,c1]
   ·skip
    by_cases q2:i.op=2
    ·skip
     cases z0:fq a ⟨0,0,0⟩ with
     |true=>
      simp[k6,fU,dx,hs,h1,h2,h0,jE,de,hG,bh hG,CD.cells,aB,aI,cL.aF,cP,lR,kO,kS,jS,iV,jY,lH,lI,lJ,cF,q2,z0]
     |false=>
      simp[k6,fU,dx,hs,h1,h2,h0,jE,de,hG,bh hG,CD.cells,aB,aI,cL.aF,cP,lR,kO,kS,jS,iV,jY,lH,lI,lJ,cF,LH,q2,z0]
    ·skip
     by_cases q3:i.op=3
     ·skip
      cases z0:fq a ⟨0,0,0⟩ with
      |true=>
       simp[k6,fU,dx,hs,h1,h2,h0,jE,de,hG,bh hG,CD.cells,aB,aI,cL.aF,cP,lR,kO,kS,jS,iV,jY,lH,lI,lJ,cF,q3,z0]
      |false=>
       simp[k6,fU,dx,hs,h1,h2,h0,jE,de,hG,bh hG,CD.cells,aB,aI,cL.aF,cP,lR,kO,kS,jS,iV,jY,lH,lI,lJ,cF,q3,z0]
     ·skip
      by_cases q4:i.op=4
      ·skip
       simp[k6,fU,dx,hs,h1,h2,h0,jE,de,hG,bh hG,CD.cells,aB,aI,cL.aF,cP,lR,kO,kS,jS,iV,jY,lH,lI,lJ,cF,aiG,q4]
      ·skip
       by_cases q5:i.op=5
       ·skip
        by_cases m12:i.n=12
        ·skip
         cases c0:fq a ⟨1,0,0⟩ with
         |true=>
          cases c1:fq b ⟨1,0,0⟩ with
          |true=>
           simp[k6,fU,dx,hs,h1,h2,h0,jE,de,hG,bh hG,CD.cells,aB,aI,cL.aF,cP,lR,kO,kS,jS,iV,jY,lH,lI,lJ,cI,cF,q5,m12,c0,c1]
          |false=>
           simp[k6,fU,dx,hs,h1,h2,h0,jE,de,hG,bh hG,CD.cells,aB,aI,cL.aF,cP,lR,kO,kS,jS,iV,jY,lH,lI,lJ,cI,cF,q5,m12,c0,c1]
         |false=>
          simp[k6,fU,dx,hs,h1,h2,h0,jE,de,hG,bh hG,CD.cells,aB,aI,cL.aF,cP,lR,kO,kS,jS,iV,jY,lH,lI,lJ,cI,cF,q5,m12,c0]
        ·skip
         by_cases m13:i.n=13
         ·skip
          cases c0:fq a ⟨2,0,0⟩ with
          |true=>
           simp[k6,fU,dx,hs,h1,h2,h0,jE,de,hG,bh hG,CD.cells,aB,aI,cL.aF,cP,lR,kO,kS,jS,iV,jY,lH,lI,lJ,cT,cF,q5,m13,c0]
          |false=>
           simp[k6,fU,dx,hs,h1,h2,h0,jE,de,hG,bh hG,CD.cells,aB,aI,cL.aF,cP,lR,kO,kS,jS,iV,jY,lH,lI,lJ,cT,cF,q5,m13,c0]
         ·skip
          simp[k6,fU,dx,hs,h1,h2,h0,jE,de,hG,bh hG,CD.cells,aB,aI,cL.aF,cP,lR,kO,kS,jS,iV,jY,lH,lI,lJ,cF,q5,m12,m13]
       ·skip
        by_cases q6:i.op=6
        ·skip
         cases z0:fq a ⟨0,0,0⟩ with
         |true=>
          simp[k6,fU,dx,hs,h1,h2,h0,jE,de,hG,bh hG,CD.cells,aB,aI,cL.aF,cP,lR,kO,kS,jS,iV,jY,lH,lI,lJ,cF,q6,z0]
         |false=>
          simp[k6,fU,dx,hs,h1,h2,h0,jE,de,hG,bh hG,CD.cells,aB,aI,cL.aF,cP,lR,kO,kS,jS,iV,jY,lH,lI,lJ,cF,hFb,q6,z0]
        ·skip
         by_cases q7:i.op=7
         ·skip
          cases z0:fq b ⟨0,0,0⟩ with
          |true=>
           simp[k6,fU,dx,hs,h1,h2,h0,jE,de,hG,bh hG,CD.cells,aB,aI,cL.aF,cP,lR,kO,kS,jS,iV,jY,lH,lI,lJ,cF,q7,z0]
          |false=>
           simp[k6,fU,dx,hs,h1,h2,h0,jE,de,hG,bh hG,CD.cells,aB,aI,cL.aF,cP,lR,kO,kS,jS,iV,jY,lH,lI,lJ,cF,hFa,q7,z0]
         ·skip
          by_cases q8:i.op=8
          ·skip
           cases z0:fq a ⟨0,0,0⟩ with
           |true=>
            simp[k6,fU,dx,hs,h1,h2,h0,jE,de,hG,bh hG,CD.cells,aB,aI,cL.aF,cP,lR,kO,kS,jS,iV,jY,lH,lI,lJ,cF,q8,z0]
           |false=>
            cases c0:decide (0<b.d) with
            |true=>
             replace hLb:=hLb c0
             cases c1:fq d ⟨1,0,0⟩ with
             |true=>
              simp[k6,fU,dx,hs,h1,h2,h0,jE,de,hG,bh hG,CD.cells,aB,aI,cL.aF,cP,lR,kO,kS,jS,iV,jY,lH,lI,lJ,cI,cF,hLb,q8,z0,c0,c1]
             |false=>
              simp[k6,fU,dx,hs,h1,h2,h0,jE,de,hG,bh hG,CD.cells,aB,aI,cL.aF,cP,lR,kO,kS,jS,iV,jY,lH,lI,lJ,cI,cF,q8,z0,c0,c1]
            |false=>
             simp[k6,fU,dx,hs,h1,h2,h0,jE,de,hG,bh hG,CD.cells,aB,aI,cL.aF,cP,lR,kO,kS,jS,iV,jY,lH,lI,lJ,cF,q8,z0,c0]
          ·skip
           by_cases q9:i.op=9
           ·skip
            cases z0:fq d ⟨0,0,0⟩ with
            |true=>
             simp[k6,fU,dx,hs,h1,h2,h0,jE,de,hG,bh hG,CD.cells,aB,aI,cL.aF,cP,lR,kO,kS,jS,iV,jY,lH,lI,lJ,cF,q9,z0]
            |false=>
             cases c0:decide (0<a.d) with
             |true=>
              replace hLa:=hLa c0
              cases c1:fq b ⟨1,0,0⟩ with
              |true=>
               simp[k6,fU,dx,hs,h1,h2,h0,jE,de,hG,bh hG,CD.cells,aB,aI,cL.aF,cP,lR,kO,kS,jS,iV,jY,lH,lI,lJ,cI,cF,hLa,q9,z0,c0,c1]
              |false=>
               simp[k6,fU,dx,hs,h1,h2,h0,jE,de,hG,bh hG,CD.cells,aB,aI,cL.aF,cP,lR,kO,kS,jS,iV,jY,lH,lI,lJ,cI,cF,q9,z0,c0,c1]
             |false=>
              simp[k6,fU,dx,hs,h1,h2,h0,jE,de,hG,bh hG,CD.cells,aB,aI,cL.aF,cP,lR,kO,kS,jS,iV,jY,lH,lI,lJ,cF,q9,z0,c0]
           ·skip
            by_cases q10:i.op=10
            ·skip
             cases c0:fq a ⟨1,0,0⟩ with
             |true=>
              simp[k6,fU,dx,hs,h1,h2,h0,jE,de,hG,bh hG,CD.cells,aB,aI,cL.aF,cP,lR,kO,kS,jS,iV,jY,lH,lI,lJ,cI,cF,q10,c0]
             |false=>
              simp[k6,fU,dx,hs,h1,h2,h0,jE,de,hG,bh hG,CD.cells,aB,aI,cL.aF,cP,lR,kO,kS,jS,iV,jY,lH,lI,lJ,cI,cF,q10,c0]
            ·skip
             by_cases q11:i.op=11
             ·skip
              cases z0:fq a ⟨0,0,0⟩ with
              |true=>
               simp[k6,fU,dx,hs,h1,h2,h0,jE,de,hG,bh hG,CD.cells,aB,aI,cL.aF,cP,lR,kO,kS,jS,iV,jY,lH,lI,lJ,cF,q11,z0]
              |false=>
               cases c0:decide (a.b=3) with
               |true=>
                cases c1:decide (a.d=0) with
                |true=>
                 simp[k6,fU,dx,hs,h1,h2,h0,jE,de,hG,bh hG,CD.cells,aB,aI,cL.aF,cP,lR,kO,kS,jS,iV,jY,lH,lI,lJ,cF,hAl,q11,z0,c0,c1]
                |false=>
                 simp[k6,fU,dx,hs,h1,h2,h0,jE,de,hG,bh hG,CD.cells,aB,aI,cL.aF,cP,lR,kO,kS,jS,iV,jY,lH,lI,lJ,cF,q11,z0,c0,c1]
               |false=>
                simp[k6,fU,dx,hs,h1,h2,h0,jE,de,hG,bh hG,CD.cells,aB,aI,cL.aF,cP,lR,kO,kS,jS,iV,jY,lH,lI,lJ,cF,q11,z0,c0]
             ·skip
              by_cases q12:i.op=12
              ·skip
               cases c0:decide (0<a.d) with
               |true=>
                cases c1:fq b ⟨1,0,0⟩ with
                |true=>
                 simp[k6,fU,dx,hs,h1,h2,h0,jE,de,hG,bh hG,CD.cells,aB,aI,cL.aF,cP,lR,kO,kS,jS,iV,jY,lH,lI,lJ,cI,cF,hAl,q12,c0,c1]
                |false=>
                 simp[k6,fU,dx,hs,h1,h2,h0,jE,de,hG,bh hG,CD.cells,aB,aI,cL.aF,cP,lR,kO,kS,jS,iV,jY,lH,lI,lJ,cI,cF,q12,c0,c1]
               |false=>
                simp[k6,fU,dx,hs,h1,h2,h0,jE,de,hG,bh hG,CD.cells,aB,aI,cL.aF,cP,lR,kO,kS,jS,iV,jY,lH,lI,lJ,cF,q12,c0]
              ·skip
               by_cases q13:i.op=13
               ·skip
                simp[k6,fU,dx,hs,h1,h2,h0,jE,de,hG,bh hG,CD.cells,aB,aI,cL.aF,cP,lR,kO,kS,jS,iV,jY,lH,lI,lJ,cF,hCl,q13]
               ·skip
                by_cases q14:i.op=14
                ·skip
                 simp[k6,fU,dx,hs,h1,h2,h0,jE,de,hG,bh hG,CD.cells,aB,aI,cL.aF,cP,lR,kO,kS,jS,iV,jY,lH,lI,lJ,cI,cF,q14]
                ·skip
                 by_cases q15:i.op=15
                 ·skip
                  simp[k6,fU,dx,hs,h1,h2,h0,jE,de,hG,bh hG,CD.cells,aB,aI,cL.aF,cP,lR,kO,kS,jS,iV,jY,lH,lI,lJ,cI,cF,q15]
                 ·skip
                  by_cases q16:i.op=16
                  ·skip
                   cases c0:decide (0<=i.n) with
                   |true=>
                    simp[k6,fU,dx,hs,h1,h2,h0,jE,de,hG,bh hG,CD.cells,aB,aI,cL.aF,cP,lR,kO,kS,iV,jY,lH,lI,lJ,cF,hN,vk hN,q16,c0]
                   |false=>
                    simp[k6,fU,dx,hs,h1,h2,h0,jE,de,hG,bh hG,CD.cells,aB,aI,cL.aF,cP,lR,kO,kS,iV,jY,lH,lI,lJ,cF,hN,q16,c0]
                  ·skip
                   by_cases q17:i.op=17
                   ·skip
                    cases c0:fq a ⟨2,0,0⟩ with
                    |true=>
                     cases c1:decide (0<=i.n) with
                     |true=>
                      cases c2:decide (i.n<((mF c.ins).length:Int)) with
                      |true=>
                       cases c3:decide (0<=i.c) with
                       |true=>
                        simp[k6,fU,dx,hs,h1,h2,h0,jE,de,hG,bh hG,CD.cells,aB,aI,cL.aF,cP,lR,kO,kS,iV,jY,lH,lI,lJ,cT,cF,hN,vk hN,q17,c0,c1,c2,c3]
                       |false=>
                        simp[k6,fU,dx,hs,h1,h2,h0,jE,de,hG,bh hG,CD.cells,aB,aI,cL.aF,cP,lR,kO,kS,iV,jY,lH,lI,lJ,cT,cF,hN,vk hN,q17,c0,c1,c2,c3]
                      |false=>
                       simp[k6,fU,dx,hs,h1,h2,h0,jE,de,hG,bh hG,CD.cells,aB,aI,cL.aF,cP,lR,kO,kS,iV,jY,lH,lI,lJ,cT,cF,hN,vk hN,q17,c0,c1,c2]
                     |false=>
                      simp[k6,fU,dx,hs,h1,h2,h0,jE,de,hG,bh hG,CD.cells,aB,aI,cL.aF,cP,lR,kO,kS,iV,jY,lH,lI,lJ,cT,cF,hN,q17,c0,c1]
                    |false=>
                     simp[k6,fU,dx,hs,h1,h2,h0,jE,de,hG,bh hG,CD.cells,aB,aI,cL.aF,cP,lR,kO,kS,iV,jY,lH,lI,lJ,cT,cF,hN,q17,c0]
                   ·skip
                    by_cases q18:i.op=18
                    ·skip
                     cases eh:c.has with
                     |true=>
                      simp only[eh]at lH lI lJ
                      cases z0:fq a ⟨0,0,0⟩ with
                      |true=>
                       simp[k6,fU,dx,hs,h1,h2,h0,jE,de,hG,bh hG,CD.cells,aB,aI,cL.aF,cP,lR,kO,kS,jS,iV,jY,lH,lI,lJ,cF,q18,eh,z0]
                      |false=>
                       simp[k6,fU,dx,hs,h1,h2,h0,jE,de,hG,bh hG,CD.cells,aB,aI,cL.aF,cP,lR,kO,kS,jS,iV,jY,lH,lI,lJ,cF,q18,eh,z0]
                     |false=>
                      simp only[eh]at lH lI lJ
                      cases z0:fq a ⟨0,0,0⟩ with
                      |true=>
                       simp[k6,fU,dx,hs,h1,h2,h0,jE,de,hG,bh hG,CD.cells,aB,aI,cL.aF,cP,lR,kO,kS,jS,iV,jY,lH,lI,lJ,cF,q18,eh]
                      |false=>
                       simp[k6,fU,dx,hs,h1,h2,h0,jE,de,hG,bh hG,CD.cells,aB,aI,cL.aF,cP,lR,kO,kS,jS,iV,jY,lH,lI,lJ,cF,q18,eh]
                    ·skip
                     by_cases q19:i.op=19
                     ·skip
                      cases z0:fq a ⟨0,0,0⟩ with
                      |true=>simp[k6,fU,dx,hs,h1,h2,h0,jE,de,hG,bh hG,CD.cells,aB,aI,cL.aF,cP,lR,kO,kS,jS,iV,jY,lH,lI,lJ,cF,q19,z0]
                      |false=>
                       cases A4:gH (dg x.globals) i.n with
                       |none=>
                        rcases lG A4 with g0|⟨g0,g1⟩
                        ·have g0':¬0<=i.n:=by omega
                         simp[k6,fU,dx,hs,h1,h2,h0,jE,de,hG,bh hG,CD.cells,aB,aI,cL.aF,cP,lR,kO,kS,jS,iV,jY,lH,lI,lJ,cF,q19,z0,g0',A4]
                        ·have g1':¬i.n<((dg x.globals).length:Int):=by omega
                         simp[k6,fU,dx,hs,h1,h2,h0,jE,de,hG,bh hG,CD.cells,aB,aI,cL.aF,cP,lR,kO,kS,jS,iV,jY,lH,lI,lJ,cF,q19,z0,g0,g1',A4,Vs,iM Vs]
                       |some tt=>
                        obtain⟨gk,gkk,gkl,gq⟩:=lF A4
                        have ZL:gH (dg x.globals) (gk:Int)=some tt:=gkk ▸ A4
                        simp[k6,fU,dx,hs,h1,h2,h0,jE,de,hG,bh hG,CD.cells,aB,aI,cL.aF,cP,lR,kO,kS,jS,iV,jY,lH,lI,lJ,cF,q19,z0,gkk,gkl,gq,ZL,Vs,iM Vs]
                     ·skip
                      by_cases q20:i.op=20
                      ·skip
                       cases z0:fq a ⟨0,0,0⟩ with
                       |true=>simp[k6,fU,dx,hs,h1,h2,h0,jE,de,hG,bh hG,CD.cells,aB,aI,cL.aF,cP,lR,kO,kS,jS,iV,jY,lH,lI,lJ,cF,q20,z0]
                       |false=>
                        cases A4:gH (dg x.globals) i.n with
                        |none=>
                         rcases lG A4 with g0|⟨g0,g1⟩
                         ·have g0':¬0<=i.n:=by omega
                          simp[k6,fU,dx,hs,h1,h2,h0,jE,de,hG,bh hG,CD.cells,aB,aI,cL.aF,cP,lR,kO,kS,jS,iV,jY,lH,lI,lJ,cF,q20,z0,g0',A4]
                         ·have g1':¬i.n<((dg x.globals).length:Int):=by omega
                          simp[k6,fU,dx,hs,h1,h2,h0,jE,de,hG,bh hG,CD.cells,aB,aI,cL.aF,cP,lR,kO,kS,jS,iV,jY,lH,lI,lJ,cF,q20,z0,g0,g1',A4,Vs,iM Vs]
                        |some tt=>
                         obtain⟨gk,gkk,gkl,gq⟩:=lF A4
                         have ZL:gH (dg x.globals) (gk:Int)=some tt:=gkk ▸ A4
                         simp[k6,fU,dx,hs,h1,h2,h0,jE,de,hG,bh hG,CD.cells,aB,aI,cL.aF,cP,lR,kO,kS,jS,iV,jY,lH,lI,lJ,cF,q20,z0,gkk,gkl,gq,ZL,Vs,iM Vs]
                      ·skip
                       simp[k6,fU,dx,hs,h1,h2,h0,jE,de,hG,bh hG,CD.cells,aB,aI,cL.aF,cP,lR,kO,kS,jS,iV,jY,lH,lI,lJ,cF,q1,q2,q3,q4,q5,q6,q7,q8,q9,q10,q11,q12,q13,q14,q15,q16,q17,q18,q19,q20]
end fF
namespace fF
open Ax Go aT cA
def zS {α:Type}(p:α->Bool)(l:List α)(k:Nat):Prop:=∀j (h:j<l.length),j<k->p l[j]=false
theorem uU {α:Type}{p:α->Bool}{l:List α}:zS p l 0:=λ_ _ h=>absurd h (by omega)
theorem uV {α:Type}{p:α->Bool}{l:List α}{k:Nat}(h:zS p l k)(h1:k<l.length)(hp:p l[k]=false):zS p l (k+1):=by
 intro j j1 hj
 rcases Nat.lt_or_ge j k with tg|tg
 ·exact h j j1 tg
 ·have:j=k:=by omega
  subst this;exact hp
def gR (r:RD):Bool:=decide (20<(x0 r.fields).length)
end fF
namespace fF
open Ax Go aT cA
theorem Kd (i:ID)(h:1<=i.op/\i.op<=20):CB i=cy i:=by
 have hh:i.op=1\/i.op=2\/i.op=3\/i.op=4\/i.op=5\/i.op=6\/i.op=7\/i.op=8\/i.op=9\/i.op=10\/i.op=11\/i.op=12\/i.op=13\/i.op=14\/i.op=15\/i.op=16\/i.op=17\/i.op=18\/i.op=19\/i.op=20:=by omega
 rcases hh with h|h|h|h|h|h|h|h|h|h|h|h|h|h|h|h|h|h|h|h<;>simp[CB,cy,rB,oK,h]
theorem R7 (i:ID)(h:¬(1<=i.op/\i.op<=20)):CB i=false:=by
 unfold CB
 repeat' rw[if_neg (by omega)]
theorem R8 (x:XD)(f:Int)(c:CD)(i:ID)(a b d:T3)(h:¬(1<=i.op/\i.op<=20)):cF x f c i a b d=false:=by
 unfold cF
 repeat' rw[if_neg (by omega)]
theorem ku (vs:List T3)(t:T3)(a:Int):kT vs t [a]=(!fq (iy vs a) ⟨0,0,0⟩&&fq (iy vs a) t):=by
 simp only[kT,qI,List.all_cons,List.all_nil,Bool.and_true]
 by_cases h:iy vs a=t
 ·simp[h]
 ·simp[h]
theorem WG (t u:T3)(hu:fq u ⟨0,0,0⟩=false):(!fq t ⟨0,0,0⟩&&fq t u)=fq t u:=by
 cases e:fq t u with
 |false=>simp
 |true=>
  rw[qI]at e
  have:=of_decide_eq_true e
  subst this
  simp[hu]
theorem ZM (vs:List T3)(a:Int):kT vs De [a]=fq (iy vs a) ⟨1,0,0⟩:=by
 rw[ku]
 exact WG _ _ rfl
theorem Vv (vs:List T3)(a:Int):kT vs CA [a]=fq (iy vs a) ⟨2,0,0⟩:=by
 rw[ku]
 exact WG _ _ rfl
theorem AA (vs:List T3)(t:T3)(a b:Int)(l:List Int):kT vs t (a::b::l)=(kT vs t [a]&&kT vs t (b::l)):=by
 simp only[kT,List.all_cons,List.all_nil,Bool.and_true]
 cases decide (iy vs a=t)<;>cases decide (t≠T0)<;>simp
theorem JQ (vs:List T3)(i:ID):ue vs i=jM i.n (iy vs i.a) (iy vs i.b) (iy vs i.c):=by
 unfold ue jM
 split
 ·simp only[AA,ZM,Bool.and_assoc]
 split
 ·simp only[AA,ZM,Vv,Bool.and_assoc]
 split
 ·rw[Vv,ku]
  simp only[qI]
  by_cases h:iy vs i.c=iy vs i.b
  ·simp[h]
  ·have h':¬iy vs i.b=iy vs i.c:=λe=>h e.symm
   simp[h,h']
 split
 ·simp only[AA,Vv,Bool.and_assoc]
 rfl
theorem ZN (rs:List RD)(vs:List T3)(a k v:Int):Iw rs vs a k v=(!fq (iy vs v) ⟨0,0,0⟩&&fq (iy vs v) (Ns rs (iy vs a) k)):=by
 unfold Iw Ns
 have hz:∀t:T3,(!fq t ⟨0,0,0⟩&&fq t T0)=false:=by intro t;simp
 by_cases hb:(iy vs a).b=3
 ·by_cases hd:(iy vs a).d=0
  ·simp only[hb,hd,decide_true,Bool.true_and,and_self,if_true]
   cases gH rs (iy vs a).r with
   |none=>
    dsimp only
    exact(hz _).symm
   |some r=>
    dsimp only
    cases gH (x0 r.fields) k with
    |none=>exact(hz _).symm
    |some fd=>exact ku _ _ _
  ·simp[hb,hd,hz]
 ·simp[hb,hz]
theorem ZO (vs:List T3)(a item:Int):Iu vs a item=(decide (0<(iy vs a).d)&&(!fq (iy vs item) ⟨0,0,0⟩&&fq (iy vs item) ⟨(iy vs a).b,(iy vs a).r,(iy vs a).d-1⟩)):=by
 unfold Iu
 rw[ku]
theorem all_eq (ss:List SD)(f:Int)(vs:List T3)(n a:Int):Iv ss f vs n a=(!fq (iy vs a) ⟨0,0,0⟩&&Nr ss f n (iy vs a)):=by
 unfold Iv Nr
 cases gH ss n with
 |none=>simp
 |some s=>
  simp only[ku,qI]
  by_cases h:iy vs a=s.t
  ·simp[h,Bool.and_comm]
  ·have h':¬s.t=iy vs a:=λe=>h e.symm
   simp[h,h']
theorem ZP (cs:List CD)(vs:List T3)(i:ID):Nm cs vs i=Ka cs vs i:=by
 unfold Nm Ka
 cases gH cs i.c with
 |none=>rfl
 |some g=>
  simp only[Vt,ZJ,ku]
  have e:(λp:Int×T3=>!fq (iy vs p.1) ⟨0,0,0⟩&&fq (iy vs p.1) p.2)=λp=>zZ vs p.1 p.2:=rfl
  rw[e]
  have e2:(!fq (iy vs i.a) ⟨0,0,0⟩&&fq (iy vs i.a) g.res)=zZ vs i.a g.res:=rfl
  rw[e2]
  by_cases hp:((dI i.args).length:Int)=g.params
  ·have h0:¬g.params<0:=by omega
   simp[hp,h0]
  ·simp[hp]
theorem ZQ (gs vs:List T3)(n a:Int):J9 gs vs n a=(!fq (iy vs a) ⟨0,0,0⟩&&(match gH gs n with|some t=>fq (iy vs a) t|none=>false)):=by
 unfold J9
 cases gH gs n with
 |none=>simp
 |some t=>simp only[ku]
theorem Nt (x:XD)(f:Int)(c:CD)(i:ID)(h:1<=i.op/\i.op<=20) :
  Ix x f c i=cF x f c i (iy (dg c.vars) i.a) (iy (dg c.vars) i.b) (iy (dg c.vars) i.c):=by
 have hh:i.op=1\/i.op=2\/i.op=3\/i.op=4\/i.op=5\/i.op=6\/i.op=7\/i.op=8\/i.op=9\/i.op=10\/i.op=11\/i.op=12\/i.op=13\/i.op=14\/i.op=15\/i.op=16\/i.op=17\/i.op=18\/i.op=19\/i.op=20:=by omega
 unfold Ix cF RZ
 rcases hh with h|h|h|h|h|h|h|h|h|h|h|h|h|h|h|h|h|h|h|h<;>simp[h]
 all_goals try simp only[AA,ZM,Vv,JQ,ZN,ZO,all_eq,ZP,ZQ,FQ]
 ·intro hr
  cases e:fq (iy (dg c.vars) i.a) ⟨0,0,0⟩ with
  |false=>rfl
  |true=>
   rw[qI]at e
   rw[of_decide_eq_true e]at hr
   exact absurd hr (by decide)
 ·rw[ku,qI,qI,qI,qI]
  by_cases e:iy (dg c.vars) i.a=iy (dg c.vars) i.b
  ·simp[e]
  ·have e':¬iy (dg c.vars) i.b=iy (dg c.vars) i.a:=λq=>e q.symm
   simp[e,e']
 ·simp only[Bool.and_assoc]
 ·ac_rfl
 ·ac_rfl
 ·ac_rfl
 ·by_cases e:0<(iy (dg c.vars) i.a).d
  ·have e1:fq (iy (dg c.vars) i.a) ⟨0,0,0⟩=false:=by
    rw[qI]
    refine decide_eq_false λq=>?_
    rw[q]at e
    exact absurd e (by decide)
   simp[e,e1,Bool.and_comm]
  ·simp[e]
 ·simp only[Bool.and_assoc]
 ·split
  ·exact ku _ _ _
  ·rfl
 all_goals rfl
theorem step_eq (x:XD)(f:Int)(i:ID):stepT x f i=zB x f i:=by
 unfold stepT zB
 cases gH (jL x.aR) f with
 |none=>rfl
 |some c=>
  dsimp only
  by_cases h:1<=i.op/\i.op<=20
  ·rw[Kd i h,Nt x f c i h]
  ·rw[R7 i h,R8 x f c i _ _ _ h]
   simp
end fF
namespace fF
open Ax Go aT cA
end fF
namespace fF
open Ax Go aT cA
def upto {α:Type}(p:α->Bool)(l:List α)(k:Nat):Prop:=∀j (h:j<l.length),j<k->p l[j]=true
theorem oT {α:Type}{p:α->Bool}{l:List α}:upto p l 0:=λ_ _ h=>absurd h (by omega)
theorem oU {α:Type}{p:α->Bool}{l:List α}{k:Nat}(h:upto p l k)(h1:k<l.length)(hp:p l[k]=true):upto p l (k+1):=by
 intro j j1 hj
 rcases Nat.lt_or_ge j k with tg|tg
 ·exact h j j1 tg
 ·have:j=k:=by omega
  subst this;exact hp
theorem rC {α:Type}{p:α->Bool}{l:List α}(h:upto p l l.length):l.all p=true:=by
 rw[List.all_eq_true]
 intro q hq
 obtain⟨j,hj,rfl⟩:=List.mem_iff_getElem.1 hq
 exact h j hj hj
theorem uB {α:Type}{p:α->Bool}{l:List α}{k:Nat}(h1:k<l.length)(hp:p l[k]=false):l.all p=false:=
 List.all_eq_false.2 ⟨_,List.getElem_mem h1,by simp[hp]⟩
def oL (n:Nat)(t:T3):Bool:=decide (¬t.d<0)&&decide (¬3<t.d)&&if t.b=1\/t.b=2 then decide (t.r=0) else decide (t.b=3)&&decide (0<=t.r)&&decide (t.r<n)
end fF
namespace fF
open Ax Go aT cA
abbrev nr (x:XD):Nat:=(oJ x.aQ).length
def Df (n:Nat)(r:RD):Bool:=decide (¬8<(x0 r.fields).length)&&(x0 r.fields).all (λf=>oL n f.t)
def vY (n nc:Nat)(s:SD):Bool:=oL n s.t&&kX s.t&&decide (¬s.fn<0)&&decide (s.fn<nc)
end fF
namespace fF
open Ax Go aT cA
def Iy (l:List ID):Bool:=match l.getLast? with
 |some i=>decide (i.op=16)||decide (i.op=17)||decide (i.op=18)
 |none=>false
theorem R9 {l:List ID}{m:Nat}(h:l.length=m+1):Iy l=(decide ((l[m]'(by omega)).op=16)||decide ((l[m]'(by omega)).op=17)||decide ((l[m]'(by omega)).op=18)):=by
 have e:l.getLast? = some (l[m]'(by omega)):=by
  rw[List.getLast?_eq_getElem?]
  have:l.length-1=m:=by omega
  rw[this]
  exact List.getElem?_eq_getElem _
 unfold Iy
 rw[e]
def Iz (x:XD)(f:Int)(c:CD):Bool:=decide (¬c.params<0)&&decide (¬6<c.params)&&decide (¬((dg c.vars).length:Int)<c.params)&&decide (¬4000<((dg c.vars).length:Int)) &&
 decide (¬((mF c.ins).length:Int)=0)&&(dg c.vars).all (oL (nr x))&&(if c.has then oL (nr x) c.res else fq c.res ⟨0,0,0⟩)&&(mF c.ins).all (stepT x f)&&Iy (mF c.ins)
end fF
namespace fF
open Ax Go aT cA
def yN (x:XD):List CD->Int->Int->Bool
 |[],_,_=>true
 |c::l,f,n=>decide (¬2500<n+(mF c.ins).length)&&Iz x f c&&yN x l (f+1) (n+(mF c.ins).length)
def FU (x:XD):Bool:=decide (¬12<((oJ x.aQ).length:Int))&&decide (¬8<((dg x.globals).length:Int))&&decide (¬jL x.aR=[])&&decide (¬16<((jL x.aR).length:Int)) &&
 decide (¬60<((vm x.sites).length:Int))&&(match gH (jL x.aR) x.main with
  |none=>false
  |some m=>decide (m.params=0) && !m.has)&&(oJ x.aQ).all (Df (nr x))&&(dg x.globals).all (oL (nr x))&&(vm x.sites).all (vY (nr x) (jL x.aR).length)&&yN x (jL x.aR) 0 0
end fF
namespace fF
open Ax Go aT cA
theorem LJ (wl aa:Nat){x:XD}(t:T3)(st:an)(hx:x.ok) :
  (aU S).call wl aa 33 [fU x,.agg [.int .i64 t.b,.int .i64 t.r,.int .i64 t.d]] st=some (.bool (oL (oJ x.aQ).length t),st):=by
 have hs:=hx.sl
 have hl:=vh hx.aQ
 refine bf (sf:=Uj) rfl rfl (by simp[hx.pure]) rfl (by simp) ?_
 unfold oL
 by_cases d0:t.d<0
 ·simp[Uj,fU,hs,d0]
 by_cases d3:3<t.d
 ·simp[Uj,fU,hs,d0,d3]
 by_cases b1:t.b=1
 ·simp[Uj,fU,hs,d0,d3,b1]
 by_cases b2:t.b=2
 ·simp[Uj,fU,hs,d0,d3,b2]
 by_cases b3:t.b=3
 ·by_cases r0:0<=t.r
  ·simp[Uj,fU,hs,hl,d0,d3,b3,r0]
  ·simp[Uj,fU,hs,d0,d3,b3,r0]
 ·simp[Uj,fU,hs,d0,d3,b1,b2,b3]
theorem Ec (wl aa:Nat){x:XD}(l:AV)(st:an)(hx:x.ok)(hT:qZ l=true)(hn:(dg l).length<1000000000) :
  (aU S).call wl aa 32 [fU x,l] st=some (.bool ((dg l).all (oL (oJ x.aQ).length)),st):=by
 have hs:=hx.sl
 have LM:=mQ hT
 have HV:=nt hT
 have hm:=λt=>LJ 0 0 (x:=x) t [] hx
 simp only[fU]at hm
 refine bf (sf:=s32) rfl rfl (by simp[hx.pure,bC LM]) rfl (by simp) ?_
 simp[s32,fU,hs]
 refine bu PI.eq_1 (λk:Nat=>⟨[(1,.val l),(2,.fp 0 0),(5,.val (.int .i64 k))],[[x.aQ,x.globals,x.aR,x.sites,.int .i64 x.main]],[]⟩)
  (λk=>k<=(dg l).length/\upto (oL (oJ x.aQ).length) (dg l) k) (λk=>(dg l).length-k) 0 (by simp) ⟨by simp,oT⟩ ?_
 intro k ⟨hk,hp⟩ ih
 by_cases aV:k<(dg l).length
 ·have hw:IntKind.i64.wrap ((k:Int)+1)=((k+1:Nat):Int):=by rw[wrap64]<;>omega
  have hc:=hm (dg l)[k]
  cases e:oL (oJ x.aQ).length (dg l)[k] with
  |true=>
   simp[hs,HV,hT,iM hT,aV,hc,e,hw,aA,az]
   exact ih (k+1) ⟨by omega,oU hp aV e⟩ (by omega)
  |false=>
   have hf:=uB aV e
   simp[hs,HV,hT,iM hT,aV,hc,e,hf,aA,az]
 ·have de:k=(dg l).length:=by omega
  have hf:=rC (de ▸ hp)
  simp[LM,HV,iM hT,aV,hf]
def Vw (x:XD):List CD->Int->Bool
 |[],_=>true
 |c::l,n=>decide (¬4000<((dg c.vars).length:Int))&&decide (¬c.params<0)&&decide (¬6<c.params)&&decide (¬((dg c.vars).length:Int)<c.params)&&(dg c.vars).all (oL (nr x)) &&
  decide (¬mF c.ins=[])&&decide (¬2500<n+(mF c.ins).length)&&(if c.has then oL (nr x) c.res else fq c.res ⟨0,0,0⟩)&&Vw x l (n+(mF c.ins).length)
def Sz (x:XD):List CD->Int->Bool
 |[],_=>true
 |c::l,f=>(mF c.ins).all (zB x f)&&Iy (mF c.ins)&&Sz x l (f+1)
def gh (x:XD):Bool:=decide (¬12<((oJ x.aQ).length:Int))&&decide (¬8<((dg x.globals).length:Int))&&decide (¬jL x.aR=[])&&decide (¬16<((jL x.aR).length:Int)) &&
 decide (¬60<((vm x.sites).length:Int))&&(dg x.globals).all (oL (nr x))&&(oJ x.aQ).all (Df (nr x))&&(vm x.sites).all (vY (nr x) (jL x.aR).length)&&Vw x (jL x.aR) 0&&Sz x (jL x.aR) 0 &&
 (match gH (jL x.aR) x.main with
  |none=>false
  |some m=>decide (m.params=0) && !m.has)
end fF
namespace fF
open Ax Go aT cA
theorem Ed (wl aa:Nat){x:XD}(st:an)(hx:x.ok)(hb:∀g∈jL x.aR,(dg g.vars).length<1000000000)(NA:∀g∈jL x.aR,(mF g.ins).length<1000000000)(yJ:∀r∈oJ x.aQ,(x0 r.fields).length<1000000000) :
  (aU S).call wl aa 10 [fU x] st=some (.bool (gh x),st):=by
 have hs:=hx.sl
 have hR:=hx.aQ
 have hC:=hx.aR
 have hS:=hx.sites
 have hl:aP x.aQ=(oJ x.aQ).map RD.cells/\aP x.globals=(dg x.globals).map T3.cells/\aP x.aR=(jL x.aR).map CD.cells/\aP x.sites=(vm x.sites).map SD.cells:=
  ⟨vh hx.aQ,iM hx.globals,bh hx.aR,Az hx.sites⟩
 have hm:=λt=>LJ 0 0 (x:=x) t [] hx
 simp only[fU]at hm
 refine bf (sf:=Ui) rfl rfl (by simp[hx.pure]) rfl (by simp) ?_
 by_cases a1:12<((oJ x.aQ).length:Int)
 ·simp[gh,Ui,fU,hs,hl,a1]
 by_cases a2:8<((dg x.globals).length:Int)
 ·simp[gh,Ui,fU,hs,hl,a1,a2]
 by_cases a3:jL x.aR=[]
 ·simp[gh,Ui,fU,hs,hl,a1,a2,a3]
 have a3':¬((jL x.aR).length:Int)<1:=by have:=List.length_pos_iff.2 a3;omega
 by_cases a4:16<((jL x.aR).length:Int)
 ·simp[gh,Ui,fU,hs,hl,a1,a2,a3',a4]
 by_cases a5:60<((vm x.sites).length:Int)
 ·simp[gh,Ui,fU,hs,hl,a1,a2,a3',a4,a5]
 have e2:=Ec 0 0 (x:=x) x.globals [] hx hx.globals (by omega)
 simp only[fU]at e2
 cases q2:(dg x.globals).all (oL (nr x)) with
 |false=>simp[gh,Ui,fU,hs,hl,a1,a2,a3',a4,a5,e2,q2]
 |true=>
  simp[Ui,fU,hs,hl,a1,a2,a3',a4,a5,e2,q2]
  refine bu Pk.eq_1 (λk:Nat=>⟨[(1,.fp 0 0),(3,.val (.int .i64 k))],[[x.aQ,x.globals,x.aR,x.sites,.int .i64 x.main],[],[]],[]⟩)
   (λk=>k<=(oJ x.aQ).length/\upto (Df (nr x)) (oJ x.aQ) k) (λk=>(oJ x.aQ).length-k) 0 (by simp) ⟨by simp,oT⟩ ?_
  intro k ⟨hk,hp⟩ ih
  by_cases aV:k<(oJ x.aQ).length
  ·have hw:IntKind.i64.wrap ((k:Int)+1)=((k+1:Nat):Int):=by rw[wrap64]<;>omega
   have hF:=It hR _ (List.getElem_mem aV)
   have IP:=RL hF
   have D2:=Lw hF
   have Vi:=FK hF
   have hFn:=yJ _ (List.getElem_mem aV)
   have fin:Df (nr x) (oJ x.aQ)[k]=false->gh x=false:=λh=>by
    have h2:=uB (p:=Df (nr x)) aV h
    simp[gh,h2]
   by_cases g:8<(x0 (oJ x.aQ)[k].fields).length
   ·have g':(8:Int)<((x0 (oJ x.aQ)[k].fields).length:Int):=by omega
    have hf:=fin (by simp[Df,g])
    simp[hs,hl,aV,hR,RD.cells,IP,D2,Vi,g',hf]
   ·have g':¬(8:Int)<((x0 (oJ x.aQ)[k].fields).length:Int):=by omega
    simp[hs,hl,aV,hR,RD.cells,IP,D2,Vi,g']
    refine bu Pj.eq_1 (λj:Nat=>⟨[(1,.fp 0 0),(3,.val (.int .i64 k)),(4,.val (oJ x.aQ)[k].fields),(5,.val (.int .i64 j))],[[x.aQ,x.globals,x.aR,x.sites,.int .i64 x.main],[],[]],[]⟩)
     (λj=>j<=(x0 (oJ x.aQ)[k].fields).length/\upto (λf=>oL (nr x) f.t) (x0 (oJ x.aQ)[k].fields) j) (λj=>(x0 (oJ x.aQ)[k].fields).length-j) 0 (by simp) ⟨by simp,oT⟩ ?_
    intro j ⟨hj,W8⟩ ihj
    by_cases uP:j<(x0 (oJ x.aQ)[k].fields).length
    ·have hwj:IntKind.i64.wrap ((j:Int)+1)=((j+1:Nat):Int):=by rw[wrap64]<;>omega
     have hc:=hm (x0 (oJ x.aQ)[k].fields)[j].t
     cases e:oL (nr x) (x0 (oJ x.aQ)[k].fields)[j].t with
     |true=>
      simp[hs,hF,D2,Vi,uP,FD.cells,hc,e,hwj,aA,az]
      exact ihj (j+1) ⟨by omega,oU W8 uP e⟩ (by omega)
     |false=>
      have ZR:=uB (p:=λf:FD=>oL (nr x) f.t) uP e
      have hf:=fin (by simp only[Df,ZR,Bool.and_false])
      simp[hs,hF,D2,Vi,uP,FD.cells,hc,e,hf,aA,az]
    ·have tg:j=(x0 (oJ x.aQ)[k].fields).length:=by omega
     have ZR:=rC (tg ▸ W8)
     simp[IP,D2,Vi,uP,hw]
     exact ih (k+1) ⟨by omega,oU hp aV (by simp only[Df,ZR];simp;omega)⟩ (by omega)
  have de:k=(oJ x.aQ).length:=by omega
  have t1:=rC (de ▸ hp)
  clear hp ih
  simp[hs,hl,aV]
  refine bu Pm.eq_1 (λq:Nat×List AV=>⟨[(1,.fp 0 0),(6,.val (.int .i64 q.1))],[[x.aQ,x.globals,x.aR,x.sites,.int .i64 x.main],q.2,[]],[]⟩)
   (λq=>q.1<=(vm x.sites).length/\upto (vY (nr x) (jL x.aR).length) (vm x.sites) q.1) (λq=>(vm x.sites).length-q.1) (0,[]) (by simp) ⟨by simp,oT⟩ ?_
  rintro⟨k,bb⟩ ⟨hk,hp⟩ ih
  simp only at hk hp ih
  by_cases aV:k<(vm x.sites).length
  ·have hw:IntKind.i64.wrap ((k:Int)+1)=((k+1:Nat):Int):=by rw[wrap64]<;>omega
   have hc:=hm (vm x.sites)[k].t
   have hr:=λa b c=>LH 0 0 a b c []
   have fin:vY (nr x) (jL x.aR).length (vm x.sites)[k]=false->gh x=false:=λh=>by
    have h2:=uB (p:=vY (nr x) (jL x.aR).length) aV h
    simp[gh,h2]
   by_cases f0:(vm x.sites)[k].fn<0
   ·have hf:=fin (by simp[vY,f0])
    simp[hs,hS,hl,aV,SD.cells,f0,hf]
   by_cases f1:((jL x.aR).length:Int)<=(vm x.sites)[k].fn
   ·have hf:=fin (by simp[vY];omega)
    simp[hs,hS,hl,aV,SD.cells,f0,f1,hf]
   have f1':(vm x.sites)[k].fn<((jL x.aR).length:Int):=by omega
   cases e:oL (nr x) (vm x.sites)[k].t with
   |false=>
    have hf:=fin (by simp[vY,e])
    simp[hs,hS,hl,aV,SD.cells,f0,f1,hc,e,hf]
   |true=>
    cases e2:kX (vm x.sites)[k].t with
    |false=>
     have hf:=fin (by simp[vY,e2])
     simp[hs,hS,hl,aV,SD.cells,f0,f1,hc,hr,e,e2,hf]
    |true=>
     simp[hs,hS,hl,aV,SD.cells,f0,f1,hc,hr,e,e2,hw]
     exact ih (k+1,_) ⟨by simp;omega,oU hp aV (by simp[vY,e,e2,f1'];omega)⟩ (by simp;omega)
  have de:k=(vm x.sites).length:=by omega
  have t2:=rC (de ▸ hp)
  clear hp ih
  generalize bb=bA
  simp[hs,hl,aV]
  refine bu Pn.eq_1 (λq:Nat×Int×List AV=>⟨[(1,.fp 0 0),(8,.val (.int .i64 q.2.1)),(9,.val (.int .i64 q.1))],[[x.aQ,x.globals,x.aR,x.sites,.int .i64 x.main],bA,q.2.2],[]⟩)
   (λq=>q.1<=(jL x.aR).length/\0<=q.2.1/\q.2.1<=2500/\Vw x (jL x.aR) 0=Vw x ((jL x.aR).drop q.1) q.2.1/\upto (λc=>decide (¬mF c.ins=[])) (jL x.aR) q.1) (λq=>(jL x.aR).length-q.1) (0,0,[]) (by simp) ⟨by simp,by simp,by simp,by simp,oT⟩ ?_
  rintro⟨k,n,bb⟩ ⟨hk,CW,hn1,hp,iQ⟩ ih
  simp only at hk CW hn1 hp iQ ih
  by_cases aV:k<(jL x.aR).length
  ·have hw:IntKind.i64.wrap ((k:Int)+1)=((k+1:Nat):Int):=by rw[wrap64]<;>omega
   have wv:=uA hC _ (List.getElem_mem aV)
   have hbn:=NA _ (List.getElem_mem aV)
   have hbv:=hb _ (List.getElem_mem aV)
   have aed:∀h:decide (¬mF (jL x.aR)[k].ins=[])=true,upto (λc:CD=>decide (¬mF c.ins=[])) (jL x.aR) (k+1):=λh=>oU iQ aV h
   rw[List.drop_eq_getElem_cons aV]at hp
   simp only[Vw]at hp
   have LM:=mQ wv.1
   have HV:=nt wv.1
   have Ld:=iM wv.1
   have jS:=uz wv.2
   have iV:=sP wv.2
   have F9:=vk wv.2
   generalize jY:(jL x.aR)[k]=c at *
   have BR:IntKind.i64.wrap (n+((mF c.ins).length:Int))=n+((mF c.ins).length:Int):=by rw[wrap64]<;>omega
   have uq:=Ec 0 0 (x:=x) c.vars [] hx wv.1 hbv
   simp only[fU]at uq
   have hmr:=hm c.res
   have fin:Vw x (jL x.aR) 0=false->gh x=false:=λh=>by simp[gh,h]
   by_cases v4:4000<((dg c.vars).length:Int)
   ·have hf:=fin (by rw[hp];simp[v4])
    simp[hs,hl,hC,aV,jY,CD.cells,LM,HV,Ld,jS,iV,F9,BR,v4,hf]
   by_cases p0:c.params<0
   ·have hf:=fin (by rw[hp];simp[p0])
    simp[hs,hl,hC,aV,jY,CD.cells,LM,HV,Ld,jS,iV,F9,BR,v4,p0,hf]
   by_cases p6:6<c.params
   ·have hf:=fin (by rw[hp];simp[p6])
    simp[hs,hl,hC,aV,jY,CD.cells,LM,HV,Ld,jS,iV,F9,BR,v4,p0,p6,hf]
   by_cases pv:((dg c.vars).length:Int)<c.params
   ·have hf:=fin (by rw[hp];simp[pv])
    simp[hs,hl,hC,aV,jY,CD.cells,LM,HV,Ld,jS,iV,F9,BR,v4,p0,p6,pv,hf]
   cases SA:(dg c.vars).all (oL (nr x)) with
   |false=>
    have hf:=fin (by rw[hp];simp[SA])
    simp[hs,hl,hC,aV,jY,CD.cells,LM,HV,Ld,jS,iV,F9,BR,v4,p0,p6,pv,uq,SA,hf]
   |true=>
    by_cases i0:mF c.ins=[]
    ·have hf:=fin (by rw[hp];simp[i0])
     simp[hs,hl,hC,aV,jY,CD.cells,LM,HV,Ld,jS,iV,F9,v4,p0,p6,pv,uq,SA,i0,hf]
    have i1:¬((mF c.ins).length:Int)<1:=by have:=List.length_pos_iff.2 i0;omega
    by_cases n2:2500<n+((mF c.ins).length:Int)
    ·have hf:=fin (by rw[hp];simp[n2])
     simp[hs,hl,hC,aV,jY,CD.cells,LM,HV,Ld,jS,iV,F9,BR,v4,p0,p6,pv,uq,SA,i1,n2,hf]
    cases hh:c.has with
    |true=>
     cases e:oL (nr x) c.res with
     |false=>
      have hf:=fin (by rw[hp];simp[hh,e])
      simp[hs,hl,hC,aV,jY,CD.cells,LM,HV,Ld,jS,iV,F9,BR,v4,p0,p6,pv,uq,SA,i1,n2,hh,hmr,e,hf]
     |true=>
      simp[hs,hl,hC,aV,jY,CD.cells,LM,HV,Ld,jS,iV,F9,BR,v4,p0,p6,pv,uq,SA,i1,n2,hh,hmr,e,hw]
      exact ih (k+1,n+((mF c.ins).length:Int),_) ⟨by simp;omega,by simp;omega,by simp;omega,by rw[hp];simp[v4,p0,p6,pv,SA,i0,n2,hh,e],aed (by simp[i0])⟩ (by simp;omega)
    |false=>
     cases e:fq c.res ⟨0,0,0⟩ with
     |false=>
      have hf:=fin (by rw[hp];simp[hh,e])
      simp[hs,hl,hC,aV,jY,CD.cells,LM,HV,Ld,jS,iV,F9,BR,v4,p0,p6,pv,uq,SA,i1,n2,hh,e,hf]
     |true=>
      simp[hs,hl,hC,aV,jY,CD.cells,LM,HV,Ld,jS,iV,F9,BR,v4,p0,p6,pv,uq,SA,i1,n2,hh,e,hw]
      exact ih (k+1,n+((mF c.ins).length:Int),_) ⟨by simp;omega,by simp;omega,by simp;omega,by rw[hp];simp[v4,p0,p6,pv,SA,i0,n2,hh,e],aed (by simp[i0])⟩ (by simp;omega)
  have de:k=(jL x.aR).length:=by omega
  rw[de,List.drop_length]at hp
  have t3:Vw x (jL x.aR) 0=true:=hp
  have cne:∀c∈jL x.aR,¬mF c.ins=[]:=λc hc=>by
   have:=List.all_eq_true.1 (rC (de ▸ iQ)) c hc
   simpa using this
  clear hp iQ ih
  generalize bb=bB
  simp[hs,hl,aV]
  refine bu Pp.eq_1 (λq:Nat=>⟨[(1,.fp 0 0),(11,.val (.int .i64 q))],[[x.aQ,x.globals,x.aR,x.sites,.int .i64 x.main],bA,bB],[]⟩)
   (λq=>q<=(jL x.aR).length/\Sz x (jL x.aR) 0=Sz x ((jL x.aR).drop q) q) (λq=>(jL x.aR).length-q) 0 (by simp) ⟨by simp,by simp⟩ ?_
  intro k ⟨hk,hp⟩ ih
  by_cases aV:k<(jL x.aR).length
  ·have hw:IntKind.i64.wrap ((k:Int)+1)=((k+1:Nat):Int):=by rw[wrap64]<;>omega
   have wv:=uA hC _ (List.getElem_mem aV)
   have hbn:=NA _ (List.getElem_mem aV)
   rw[List.drop_eq_getElem_cons aV]at hp
   simp only[Sz]at hp
   have iQ:=cne _ (List.getElem_mem aV)
   have hN:=wv.2
   have jS:=uz wv.2
   have iV:=sP wv.2
   have F9:=vk wv.2
   generalize jY:(jL x.aR)[k]=c at *
   simp[hs,hl,hC,aV,jY,CD.cells,iV]
   refine bu Po.eq_1 (λj:Nat=>⟨[(1,.fp 0 0),(11,.val (.int .i64 k)),(12,.val c.ins),(13,.val (.int .i64 j))],[[x.aQ,x.globals,x.aR,x.sites,.int .i64 x.main],bA,bB],[]⟩)
    (λj=>j<=(mF c.ins).length/\upto (zB x k) (mF c.ins) j) (λj=>(mF c.ins).length-j) 0 (by simp) ⟨by simp,oT⟩ ?_
   intro j ⟨hj,W8⟩ ihj
   by_cases uP:j<(mF c.ins).length
   ·have hwj:IntKind.i64.wrap ((j:Int)+1)=((j+1:Nat):Int):=by rw[wrap64]<;>omega
    have hgi:=RO hN _ (List.getElem_mem uP)
    have fm:=R6 0 0 (x:=x) (k:Int) (i:=(mF c.ins)[j]) [] hx hgi.2 hgi.1 hb
    have hgs:=qA hgi.2
    have Zc:=iL hgi.1 hgs
    simp only[fU,dx]at fm
    cases e:zB x k (mF c.ins)[j] with
    |true=>
     simp[hs,hN,iV,F9,uP,ID.cells,Zc,fm,e,hwj,aA,az]
     exact ihj (j+1) ⟨by omega,oU W8 uP e⟩ (by omega)
    |false=>
     have ZR:=uB uP e
     have hf:gh x=false:=by
      have h2:Sz x (jL x.aR) 0=false:=by rw[hp,ZR];rfl
      simp[gh,h2]
     simp[hs,hN,iV,F9,uP,ID.cells,Zc,fm,e,hf,aA,az]
   ·have tg:j=(mF c.ins).length:=by omega
    have ZR:=rC (tg ▸ W8)
    obtain⟨m,Xi⟩:∃m,(mF c.ins).length=m+1:=⟨(mF c.ins).length-1,by have:=List.length_pos_iff.2 iQ;omega⟩
    have ZS:m<(mF c.ins).length:=by omega
    have BR:IntKind.i64.wrap (((mF c.ins).length:Int)-1)=(m:Int):=by rw[wrap64]<;>omega
    have qJ:=R9 Xi
    rw[ZR]at hp
    by_cases o1:(mF c.ins)[m].op=16
    ·simp[hN,iV,F9,uP,BR,ZS,ID.cells,o1,hw]
     exact ih (k+1) ⟨by omega,by rw[hp,qJ];simp[o1]⟩ (by omega)
    ·by_cases o2:(mF c.ins)[m].op=17
     ·simp[hN,iV,F9,uP,BR,ZS,ID.cells,o2,hw]
      exact ih (k+1) ⟨by omega,by rw[hp,qJ];simp[o2]⟩ (by omega)
     ·by_cases o3:(mF c.ins)[m].op=18
      ·simp[hN,iV,F9,uP,BR,ZS,ID.cells,o3,hw]
       exact ih (k+1) ⟨by omega,by rw[hp,qJ];simp[o3]⟩ (by omega)
      ·have hf:gh x=false:=by
        have h2:Sz x (jL x.aR) 0=false:=by rw[hp,qJ];simp[o1,o2,o3]
        simp[gh,h2]
       simp[hN,iV,F9,uP,BR,ZS,ID.cells,o1,o2,o3,hf]
  have de:k=(jL x.aR).length:=by omega
  rw[de,List.drop_length]at hp
  have t4:Sz x (jL x.aR) 0=true:=hp
  simp[hs,hl,aV]
  by_cases g0:0<=x.main
  ·cases hg:gH (jL x.aR) x.main with
   |none=>
    rcases lG hg with h0|⟨h0,h1⟩
    ·omega
    ·have jE:¬x.main<((jL x.aR).length:Int):=by omega
     have hf:gh x=false:=by simp[gh,hg]
     simp[hs,hl,g0,jE,hf]
   |some m=>
    obtain⟨mk,hmk,ZS,hq⟩:=lF hg
    have hff:gh x=(decide (m.params=0) && !m.has):=by simp[gh,hg,a1,a2,a3,a4,a5,q2,t1,t2,t3,t4]
    rw[hmk]at g0
    have al5:(mk:Int)<((jL x.aR).length:Int):=by omega
    by_cases p0:m.params=0
    ·simp[hs,hl,hC,g0,hmk,ZS,hq,CD.cells,hff,p0]
    ·simp[hs,hl,hC,g0,hmk,ZS,hq,CD.cells,hff,p0]
  ·have hf:gh x=false:=by
    have:gH (jL x.aR) x.main=none:=by simp[gH,g0]
    simp[gh,this]
   simp[g0,hf]
end fF
namespace fF
open Ax Go aT cA
theorem IA (x:XD):∀(l:List CD)(f n:Int),yN x l f n=(Vw x l n&&Sz x l f)
 |[],_,_=>rfl
 |c::l,f,n=>by
  have e1:stepT x f=zB x f:=funext (step_eq x f)
  have e2:decide (¬((mF c.ins).length:Int)=0)=decide (¬mF c.ins=[]):=by simp
  simp only[yN,Vw,Sz,Iz,IA x l,e1,e2]
  ac_rfl
theorem Sa (x:XD):FU x=gh x:=by
 simp only[FU,gh,IA]
 ac_rfl
end fF
