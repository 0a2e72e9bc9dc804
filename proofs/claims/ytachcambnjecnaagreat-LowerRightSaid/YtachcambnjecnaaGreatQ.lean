/- Part of a proof. -/
import Derived.Test.YtachcambnjecnaaGreatCode2
import Derived.Test.YtachcambnjecnaaGreatI

set_option maxRecDepth 100000
set_option maxHeartbeats 4000000
namespace fF
open Ax Go aT cA
def vw (x:XD)(f:Int)(c:CD)(i:ID):AV:=.agg [x.aQ,x.globals,x.aR,x.sites,.int .i64 x.main,.int .i64 f,
 .int .i64 c.params,c.vars,.bool c.has,.int .i64 c.res.b,.int .i64 c.res.r,.int .i64 c.res.d,c.ins,
 .int .i64 i.op,.int .i64 i.a,.int .i64 i.b,.int .i64 i.c,.int .i64 i.n,i.args]
structure VW (x:XD)(c:CD)(i:ID):Prop where
 x:x.ok
 vars:qZ c.vars=true
 ins:zY c.ins=true
 args:th i.args=true
 WE:gp i.args=true
theorem VW.pure {x:XD}{f:Int}{c:CD}{i:ID}(h:VW x c i):(vw x f c i).au=true:=by
 have h1:=bC (FL h.x.aQ)
 have h2:=bC (mQ h.x.globals)
 have h3:=bC (FM h.x.aR)
 have h4:=bC (FO h.x.sites)
 have h5:=bC (mQ h.vars)
 have h6:=bC (uz h.ins)
 have h7:=bC (qA h.args)
 simp[vw, *]
theorem VW.sl {x:XD}{c:CD}{i:ID}(h:VW x c i):(aG x.aQ=true/\aG x.globals=true/\aG x.aR=true/\aG x.sites=true/\aG c.vars=true/\aG c.ins=true/\aG i.args=true)/\
  x.aQ.view=x.aQ/\x.globals.view=x.globals/\x.aR.view=x.aR/\x.sites.view=x.sites/\c.vars.view=c.vars/\c.ins.view=c.ins/\i.args.view=i.args:=
 ⟨⟨FL h.x.aQ,mQ h.x.globals,FM h.x.aR,FO h.x.sites,mQ h.vars,uz h.ins,qA h.args⟩,
  Ly h.x.aQ,nt h.x.globals,LD h.x.aR,LF h.x.sites,nt h.vars,sP h.ins,iL h.WE (qA h.args)⟩
end fF
namespace fF
open Ax Go aT cA
def Iu (vars:List T3)(a item:Int):Bool:=decide (0<(iy vars a).d)&&kT vars ⟨(iy vars a).b,(iy vars a).r,(iy vars a).d-1⟩ [item]
theorem Ea {v:AV}(h:qZ v=true)(n:Int):nG (iy (dg v) n).d=true:=by
 unfold iy
 split
 ·rw[List.getD_eq_getElem?_getD]
  by_cases hk:n.toNat<(dg v).length
  ·rw[List.getElem?_eq_getElem hk]
   exact(ad5 h _ (List.getElem_mem hk)).2.2
  ·rw[List.getElem?_eq_none (by omega)];rfl
 ·rfl
def gH {α:Type}(l:List α)(n:Int):Option α:=if 0<=n then l[n.toNat]? else none
theorem lF {α:Type}{l:List α}{n:Int}{y:α}(h:gH l n=some y):∃k:Nat,n=k/\∃hk:k<l.length,l[k]=y:=by
 unfold gH at h
 split at h
 ·obtain⟨hk,hy⟩:=List.getElem?_eq_some_iff.1 h
  exact⟨n.toNat,by omega,hk,hy⟩
 ·cases h
theorem lG {α:Type}{l:List α}{n:Int}(h:gH l n=none):n<0\/(0<=n/\(l.length:Int)<=n):=by
 unfold gH at h
 split at h
 ·have:=List.getElem?_eq_none_iff.1 h
  exact .inr ⟨by omega,by omega⟩
 ·exact .inl (by omega)
def J9 (gs vars:List T3)(n a:Int):Bool:=match gH gs n with|some t=>kT vars t [a]|none=>false
def Iv (ss:List SD)(f:Int)(vars:List T3)(n a:Int):Bool:=match gH ss n with|some s=>decide (s.fn=f)&&kT vars s.t [a]|none=>false
def Iw (rs:List RD)(vars:List T3)(a k v:Int):Bool:=decide ((iy vars a).b=3)&&decide ((iy vars a).d=0)&&match gH rs (iy vars a).r with
 |some r=>(match gH (x0 r.fields) k with|some fd=>kT vars fd.t [v]|none=>false)
 |none=>false
end fF
namespace fF
open Ax Go aT cA
def rB (a b c n:Bool)(i:ID):Bool:=(a||decide (i.a=0))&&(b||decide (i.b=0))&&(c||decide (i.c=0))&&(n||decide (i.n=0))&&(decide (i.op=13)||decide ((dI i.args).length=0))
def dx (i:ID):AV:=.agg [.int .i64 i.op,.int .i64 i.a,.int .i64 i.b,.int .i64 i.c,.int .i64 i.n,i.args]
end fF
namespace fF
open Ax Go aT cA
def CB (i:ID):Bool:=
 if i.op=1\/i.op=11\/i.op=19\/i.op=20 then rB true false false true i else
 if i.op=2\/i.op=14\/i.op=15\/i.op=18 then rB true false false false i else
 if i.op=3\/i.op=10 then rB true true false false i else
 if i.op=5\/i.op=12 then rB true true false true i else
 if i.op=6\/i.op=7\/i.op=8\/i.op=9 then rB true true true false i else
 if i.op=4 then rB true true true true i else
 if i.op=13 then rB true false true false i else
 if i.op=16 then rB false false false true i else
 if i.op=17 then rB true false true true i else
 false
end fF
namespace fF
open Ax Go aT cA
theorem VW.any {x:XD}{c:CD}{i:ID}(h:VW x c i)(p q r s t:Int):VW x c ⟨p,q,r,s,t,i.args⟩:=⟨h.x,h.vars,h.ins,h.args,h.WE⟩
def ue (vs:List T3)(i:ID):Bool:=
 if i.n=14\/i.n=15\/i.n=16\/i.n=17\/i.n=18 then kT vs De [i.a,i.b,i.c] else
 if i.n=19\/i.n=20 then kT vs CA [i.a]&&kT vs De [i.b,i.c] else
 if i.n=21\/i.n=22 then kT vs CA [i.a]&&kT vs (iy vs i.b) [i.c] else
 if i.n=23\/i.n=24 then kT vs CA [i.a,i.b,i.c] else false
end fF
namespace fF
open Ax Go aT cA
def Vt (vs:List T3)(i:ID)(g:CD):Bool:=decide (((dI i.args).length:Int)=g.params)&&decide (g.params<=(dg g.vars).length) &&
  ((dI i.args).zip (dg g.vars)).all (λp=>kT vs p.2 [p.1])&&(decide (i.a = -1)||g.has&&kT vs g.res [i.a])
def Nm (cs:List CD)(vs:List T3)(i:ID):Bool:=match gH cs i.c with
 |none=>false
 |some g=>Vt vs i g
def RX {α β:Type}(p:α->β->Bool)(l:List α)(m:List β)(k:Nat):Prop:=∀j (h1:j<l.length)(h2:j<m.length),j<k->p l[j] m[j]=true
theorem Nn {α β:Type}{p:α->β->Bool}{l:List α}{m:List β}:RX p l m 0:=λ_ _ _ h=>absurd h (by omega)
theorem No {α β:Type}{p:α->β->Bool}{l:List α}{m:List β}{k:Nat}(h:RX p l m k)(h1:k<l.length)(h2:k<m.length)(hp:p l[k] m[k]=true):RX p l m (k+1):=by
 intro j j1 j2 hj
 rcases Nat.lt_or_ge j k with tg|tg
 ·exact h j j1 j2 tg
 ·have:j=k:=by omega
  subst this;exact hp
theorem RY {α β:Type}{p:α->β->Bool}{l:List α}{m:List β}(h:RX p l m l.length):(l.zip m).all (λq=>p q.1 q.2)=true:=by
 rw[List.all_eq_true]
 intro q hq
 obtain⟨j,hj,rfl⟩:=List.mem_iff_getElem.1 hq
 have h1:j<l.length:=by simp at hj;omega
 have h2:j<m.length:=by simp at hj;omega
 simpa using h j h1 h2 h1
theorem CC {α β:Type}{p:α->β->Bool}{l:List α}{m:List β}{k:Nat}(h1:k<l.length)(h2:k<m.length)(hp:p l[k] m[k]=false):(l.zip m).all (λq=>p q.1 q.2)=false:=by
 rw[List.all_eq_false]
 refine⟨(l[k],m[k]),?_,by simp[hp]⟩
 rw[List.mem_iff_getElem]
 exact⟨k,by simp;omega,by simp⟩
end fF
namespace fF
open Ax Go aT cA
def FQ (c:CD)(n:Int):Bool:=decide (0<=n)&&decide (n<(mF c.ins).length)
def RZ (x:XD)(c:CD)(i:ID):Bool:=
 if i.op=13 then Nm (jL x.aR) (dg c.vars) i else
 if i.op=14\/i.op=15 then kT (dg c.vars) De [i.a] else
 if i.op=16 then FQ c i.n else
 if i.op=17 then kT (dg c.vars) CA [i.a]&&FQ c i.n&&FQ c i.c else
 if i.op=18 then (if c.has then kT (dg c.vars) c.res [i.a] else decide (i.a = -1)) else
 J9 (dg x.globals) (dg c.vars) i.n i.a
end fF
namespace fF
open Ax Go aT cA
def kX (t:T3):Bool:=decide (t.b=3)||decide (0<t.d)
theorem Fa (wl aa:Nat)(a b c:Int)(st:an) :
  (aU S).call wl aa 46 [.agg [.int .i64 a,.int .i64 b,.int .i64 c]] st=some (.bool (kX ⟨a,b,c⟩),st):=by
 refine bf (sf:=Sx) rfl rfl (by simp) rfl (by simp) ?_
 unfold kX
 by_cases h:a=3
 ·simp[Sx,h]
 ·simp[Sx,h]
def Ix (x:XD)(f:Int)(c:CD)(i:ID):Bool:=
 if i.op=1 then kT (dg c.vars) De [i.a]||kT (dg c.vars) CA [i.a]&&(decide (i.n=0)||decide (i.n=1)) else
 if i.op=2 then kX (iy (dg c.vars) i.a) else
 if i.op=3 then kT (dg c.vars) (iy (dg c.vars) i.a) [i.b] else
 if i.op=4 then ue (dg c.vars) i else
 if i.op=5 then decide (i.n=12)&&kT (dg c.vars) De [i.a,i.b]||decide (i.n=13)&&kT (dg c.vars) CA [i.a,i.b] else
 if i.op=6 then Iw (oJ x.aQ) (dg c.vars) i.b i.c i.a else
 if i.op=7 then Iw (oJ x.aQ) (dg c.vars) i.a i.c i.b else
 if i.op=8 then Iu (dg c.vars) i.b i.a&&kT (dg c.vars) De [i.c] else
 if i.op=9 then Iu (dg c.vars) i.a i.c&&kT (dg c.vars) De [i.b] else
 if i.op=10 then kT (dg c.vars) De [i.a]&&decide (0<(iy (dg c.vars) i.b).d) else
 if i.op=11 then decide ((iy (dg c.vars) i.a).b=3)&&decide ((iy (dg c.vars) i.a).d=0)&&Iv (vm x.sites) f (dg c.vars) i.n i.a else
 if i.op=12 then decide (0<(iy (dg c.vars) i.a).d)&&Iv (vm x.sites) f (dg c.vars) i.n i.a&&kT (dg c.vars) De [i.b] else
 RZ x c i
end fF
namespace fF
open Ax Go aT cA
def fU (x:XD):AV:=.agg [x.aQ,x.globals,x.aR,x.sites,.int .i64 x.main]
theorem _root_.cA.XD.ok.sl {x:XD}(h:x.ok):(aG x.aQ=true/\aG x.globals=true/\aG x.aR=true/\aG x.sites=true)/\
  x.aQ.view=x.aQ/\x.globals.view=x.globals/\x.aR.view=x.aR/\x.sites.view=x.sites:=
 ⟨⟨FL h.aQ,mQ h.globals,FM h.aR,FO h.sites⟩,Ly h.aQ,nt h.globals,LD h.aR,LF h.sites⟩
theorem _root_.cA.XD.ok.pure {x:XD}(h:x.ok):(fU x).au=true:=by
 have h1:=bC (FL h.aQ)
 have h2:=bC (mQ h.globals)
 have h3:=bC (FM h.aR)
 have h4:=bC (FO h.sites)
 simp[fU, *]
theorem R1 {i:ID}(hi:th i.args=true):(dx i).au=true:=by
 have h1:=bC (qA hi)
 simp[dx, *]
def stepT (x:XD)(f:Int)(i:ID):Bool:=match gH (jL x.aR) f with
 |none=>false
 |some c=>CB i&&Ix x f c i
end fF
namespace fF
open Ax Go aT cA
def fq (s t:T3):Bool:=decide (s.b=t.b)&&(decide (s.r=t.r)&&decide (s.d=t.d))
theorem qI (s t:T3):fq s t=decide (s=t):=by
 cases s;cases t
 simp[fq]
@[simp] theorem T3.eta (t:T3):(⟨t.b,t.r,t.d⟩:T3)=t:=rfl
@[simp high] theorem alZ (a b c a' b' c':Int):Ef (.flat [.int,.int,.int]) (.agg [.int .i64 a,.int .i64 b,.int .i64 c]) (.agg [.int .i64 a',.int .i64 b',.int .i64 c'])=some (fq ⟨a,b,c⟩ ⟨a',b',c'⟩):=by
 simp[fq]
def oK (b c n a:Bool)(i:ID):Bool:=(b||decide (i.b=0))&&(c||decide (i.c=0))&&(n||decide (i.n=0))&&(a||decide (((dI i.args).length:Int)=0))
def cy (i:ID):Bool:=
 if i.op=1\/i.op=11\/i.op=19\/i.op=20 then oK false false true false i else
 if i.op=3\/i.op=10 then oK true false false false i else
 if i.op=4 then oK true true true false i else
 if i.op=5\/i.op=12 then oK true false true false i else
 if i.op=6\/i.op=7\/i.op=8\/i.op=9 then oK true true false false i else
 if i.op=13 then oK false true false true i else
 if i.op=17 then oK false true true false i else
 if i.op=16 then decide (i.a=0)&&decide (i.b=0)&&decide (i.c=0)&&decide (((dI i.args).length:Int)=0) else
 oK false false false false i
theorem ru (wl aa:Nat)(i:ID)(st:an)(hi:th i.args=true)(iY:gp i.args=true) :
  (aU S).call wl aa 57 [dx i] st=some (.bool (cy i),st):=by
 have hs:=qA hi
 have hv:=iL iY hs
 have hl:=l5 hi
 refine bf (sf:=pT) rfl rfl (by simp[dx,hs]) rfl (by simp) ?_
 unfold dx
 by_cases h1:i.op=1
 ·skip
  cases c0:decide (i.b=0) with
  |true=>
   cases c1:decide (i.c=0) with
   |true=>
    simp[pT,hs,hv,hl,cy,oK,h1,c0,c1]
   |false=>
    simp[pT,hs,cy,oK,h1,c0,c1]
  |false=>
   simp[pT,hs,cy,oK,h1,c0]
 ·skip
  by_cases vV:i.op=11
  ·skip
   cases c0:decide (i.b=0) with
   |true=>
    cases c1:decide (i.c=0) with
    |true=>
     simp[pT,hs,hv,hl,cy,oK,vV,c0,c1]
    |false=>
     simp[pT,hs,cy,oK,vV,c0,c1]
   |false=>
    simp[pT,hs,cy,oK,vV,c0]
  ·skip
   by_cases NM:i.op=19
   ·skip
    cases c0:decide (i.b=0) with
    |true=>
     cases c1:decide (i.c=0) with
     |true=>
      simp[pT,hs,hv,hl,cy,oK,NM,c0,c1]
     |false=>
      simp[pT,hs,cy,oK,NM,c0,c1]
    |false=>
     simp[pT,hs,cy,oK,NM,c0]
   ·skip
    by_cases NN:i.op=20
    ·skip
     cases c0:decide (i.b=0) with
     |true=>
      cases c1:decide (i.c=0) with
      |true=>
       simp[pT,hs,hv,hl,cy,oK,NN,c0,c1]
      |false=>
       simp[pT,hs,cy,oK,NN,c0,c1]
     |false=>
      simp[pT,hs,cy,oK,NN,c0]
    ·skip
     by_cases h3:i.op=3
     ·skip
      cases c0:decide (i.c=0) with
      |true=>
       cases c1:decide (i.n=0) with
       |true=>
        simp[pT,hs,hv,hl,cy,oK,h3,c0,c1]
       |false=>
        simp[pT,hs,cy,oK,h3,c0,c1]
      |false=>
       simp[pT,hs,cy,oK,h3,c0]
     ·skip
      by_cases wW:i.op=10
      ·skip
       cases c0:decide (i.c=0) with
       |true=>
        cases c1:decide (i.n=0) with
        |true=>
         simp[pT,hs,hv,hl,cy,oK,wW,c0,c1]
        |false=>
         simp[pT,hs,cy,oK,wW,c0,c1]
       |false=>
        simp[pT,hs,cy,oK,wW,c0]
      ·skip
       by_cases h4:i.op=4
       ·skip
        simp[pT,hs,hv,hl,cy,oK,h4]
       ·skip
        by_cases h5:i.op=5
        ·skip
         cases c0:decide (i.c=0) with
         |true=>
          simp[pT,hs,hv,hl,cy,oK,h5,c0]
         |false=>
          simp[pT,hs,cy,oK,h5,c0]
        ·skip
         by_cases CO:i.op=12
         ·skip
          cases c0:decide (i.c=0) with
          |true=>
           simp[pT,hs,hv,hl,cy,oK,CO,c0]
          |false=>
           simp[pT,hs,cy,oK,CO,c0]
         ·skip
          by_cases h6:i.op=6
          ·skip
           cases c0:decide (i.n=0) with
           |true=>
            simp[pT,hs,hv,hl,cy,oK,h6,c0]
           |false=>
            simp[pT,hs,cy,oK,h6,c0]
          ·skip
           by_cases h7:i.op=7
           ·skip
            cases c0:decide (i.n=0) with
            |true=>
             simp[pT,hs,hv,hl,cy,oK,h7,c0]
            |false=>
             simp[pT,hs,cy,oK,h7,c0]
           ·skip
            by_cases h8:i.op=8
            ·skip
             cases c0:decide (i.n=0) with
             |true=>
              simp[pT,hs,hv,hl,cy,oK,h8,c0]
             |false=>
              simp[pT,hs,cy,oK,h8,c0]
            ·skip
             by_cases h9:i.op=9
             ·skip
              cases c0:decide (i.n=0) with
              |true=>
               simp[pT,hs,hv,hl,cy,oK,h9,c0]
              |false=>
               simp[pT,hs,cy,oK,h9,c0]
             ·skip
              by_cases Ap:i.op=13
              ·skip
               cases c0:decide (i.b=0) with
               |true=>
                cases c1:decide (i.n=0) with
                |true=>
                 simp[pT,hs,cy,oK,Ap,c0,c1]
                |false=>
                 simp[pT,hs,cy,oK,Ap,c0,c1]
               |false=>
                simp[pT,hs,cy,oK,Ap,c0]
              ·skip
               by_cases R3:i.op=17
               ·skip
                cases c0:decide (i.b=0) with
                |true=>
                 simp[pT,hs,hv,hl,cy,oK,R3,c0]
                |false=>
                 simp[pT,hs,cy,oK,R3,c0]
               ·skip
                by_cases Np:i.op=16
                ·skip
                 cases c0:decide (i.a=0) with
                 |true=>
                  cases c1:decide (i.b=0) with
                  |true=>
                   cases c2:decide (i.c=0) with
                   |true=>
                    simp[pT,hs,hv,hl,cy,Np,c0,c1,c2]
                   |false=>
                    simp[pT,hs,cy,Np,c0,c1,c2]
                  |false=>
                   simp[pT,hs,cy,Np,c0,c1]
                 |false=>
                  simp[pT,hs,cy,Np,c0]
                ·skip
                 cases c0:decide (i.b=0) with
                 |true=>
                  cases c1:decide (i.c=0) with
                  |true=>
                   cases c2:decide (i.n=0) with
                   |true=>
                    simp[pT,hs,hv,hl,cy,oK,h1,vV,NM,NN,h3,wW,h4,h5,CO,h6,h7,h8,h9,Ap,R3,Np,c0,c1,c2]
                   |false=>
                    simp[pT,hs,cy,oK,h1,vV,NM,NN,h3,wW,h4,h5,CO,h6,h7,h8,h9,Ap,R3,Np,c0,c1,c2]
                  |false=>
                   simp[pT,hs,cy,oK,h1,vV,NM,NN,h3,wW,h4,h5,CO,h6,h7,h8,h9,Ap,R3,Np,c0,c1]
                 |false=>
                  simp[pT,hs,cy,oK,h1,vV,NM,NN,h3,wW,h4,h5,CO,h6,h7,h8,h9,Ap,R3,Np,c0]
theorem cI (wl aa:Nat)(st:an):(aU S).call wl aa 59 [] st=some (.agg [.int .i64 1,.int .i64 0,.int .i64 0],st):=by
 refine bf (sf:=s59) rfl rfl rfl rfl rfl ?_
 simp[s59]
theorem cT (wl aa:Nat)(st:an):(aU S).call wl aa 60 [] st=some (.agg [.int .i64 2,.int .i64 0,.int .i64 0],st):=by
 refine bf (sf:=s60) rfl rfl rfl rfl rfl ?_
 simp[s60]
def jM (n:Int)(a b d:T3):Bool:=
 if n=14\/n=15\/n=16\/n=17\/n=18 then fq a ⟨1,0,0⟩&&fq b ⟨1,0,0⟩&&fq d ⟨1,0,0⟩ else
 if n=19\/n=20 then fq a ⟨2,0,0⟩&&fq b ⟨1,0,0⟩&&fq d ⟨1,0,0⟩ else
 if n=21\/n=22 then fq a ⟨2,0,0⟩ && !fq b ⟨0,0,0⟩&&fq b d else
 if n=23\/n=24 then fq a ⟨2,0,0⟩&&fq b ⟨2,0,0⟩&&fq d ⟨2,0,0⟩ else false
theorem Nq (wl aa:Nat)(n:Int)(a b d:T3)(st:an) :
  (aU S).call wl aa 61 [.int .i64 n,.agg [.int .i64 a.b,.int .i64 a.r,.int .i64 a.d],.agg [.int .i64 b.b,.int .i64 b.r,.int .i64 b.d],.agg [.int .i64 d.b,.int .i64 d.r,.int .i64 d.d]] st=some (.bool (jM n a b d),st):=by
 refine bf (sf:=tj) rfl rfl (by simp) rfl (by simp) ?_
 by_cases h14:n=14
 ·skip
  cases c0:fq a ⟨1,0,0⟩ with
  |true=>
   cases c1:fq b ⟨1,0,0⟩ with
   |true=>
    simp[tj,aA,az,cI,jM,h14,c0,c1]
   |false=>
    simp[tj,aA,az,cI,jM,h14,c0,c1]
  |false=>
   simp[tj,aA,az,cI,jM,h14,c0]
 ·skip
  by_cases h15:n=15
  ·skip
   cases c0:fq a ⟨1,0,0⟩ with
   |true=>
    cases c1:fq b ⟨1,0,0⟩ with
    |true=>
     simp[tj,aA,az,cI,jM,h15,c0,c1]
    |false=>
     simp[tj,aA,az,cI,jM,h15,c0,c1]
   |false=>
    simp[tj,aA,az,cI,jM,h15,c0]
  ·skip
   by_cases Np:n=16
   ·skip
    cases c0:fq a ⟨1,0,0⟩ with
    |true=>
     cases c1:fq b ⟨1,0,0⟩ with
     |true=>
      simp[tj,aA,az,cI,jM,Np,c0,c1]
     |false=>
      simp[tj,aA,az,cI,jM,Np,c0,c1]
    |false=>
     simp[tj,aA,az,cI,jM,Np,c0]
   ·skip
    by_cases R3:n=17
    ·skip
     cases c0:fq a ⟨1,0,0⟩ with
     |true=>
      cases c1:fq b ⟨1,0,0⟩ with
      |true=>
       simp[tj,aA,az,cI,jM,R3,c0,c1]
      |false=>
       simp[tj,aA,az,cI,jM,R3,c0,c1]
     |false=>
      simp[tj,aA,az,cI,jM,R3,c0]
    ·skip
     by_cases h18:n=18
     ·skip
      cases c0:fq a ⟨1,0,0⟩ with
      |true=>
       cases c1:fq b ⟨1,0,0⟩ with
       |true=>
        simp[tj,aA,az,cI,jM,h18,c0,c1]
       |false=>
        simp[tj,aA,az,cI,jM,h18,c0,c1]
      |false=>
       simp[tj,aA,az,cI,jM,h18,c0]
     ·skip
      by_cases NM:n=19
      ·skip
       cases c0:fq a ⟨2,0,0⟩ with
       |true=>
        cases c1:fq b ⟨1,0,0⟩ with
        |true=>
         simp[tj,aA,az,cI,cT,jM,NM,c0,c1]
        |false=>
         simp[tj,aA,az,cI,cT,jM,NM,c0,c1]
       |false=>
        simp[tj,aA,az,cT,jM,NM,c0]
      ·skip
       by_cases NN:n=20
       ·skip
        cases c0:fq a ⟨2,0,0⟩ with
        |true=>
         cases c1:fq b ⟨1,0,0⟩ with
         |true=>
          simp[tj,aA,az,cI,cT,jM,NN,c0,c1]
         |false=>
          simp[tj,aA,az,cI,cT,jM,NN,c0,c1]
        |false=>
         simp[tj,aA,az,cT,jM,NN,c0]
       ·skip
        by_cases h21:n=21
        ·skip
         cases e1:fq a ⟨2,0,0⟩ with
         |true=>
          cases e2:fq b ⟨0,0,0⟩ with
          |true=>
           simp[tj,aA,az,cT,jM,h21,e1,e2]
          |false=>
           simp[tj,aA,az,cT,jM,h21,e1,e2]
         |false=>
          simp[tj,aA,az,cT,jM,h21,e1]
        ·skip
         by_cases h22:n=22
         ·skip
          cases e1:fq a ⟨2,0,0⟩ with
          |true=>
           cases e2:fq b ⟨0,0,0⟩ with
           |true=>
            simp[tj,aA,az,cT,jM,h22,e1,e2]
           |false=>
            simp[tj,aA,az,cT,jM,h22,e1,e2]
          |false=>
           simp[tj,aA,az,cT,jM,h22,e1]
         ·skip
          by_cases NK:n=23
          ·skip
           cases c0:fq a ⟨2,0,0⟩ with
           |true=>
            cases c1:fq b ⟨2,0,0⟩ with
            |true=>
             simp[tj,aA,az,cT,jM,NK,c0,c1]
            |false=>
             simp[tj,aA,az,cT,jM,NK,c0,c1]
           |false=>
            simp[tj,aA,az,cT,jM,NK,c0]
          ·skip
           by_cases h24:n=24
           ·skip
            cases c0:fq a ⟨2,0,0⟩ with
            |true=>
             cases c1:fq b ⟨2,0,0⟩ with
             |true=>
              simp[tj,aA,az,cT,jM,h24,c0,c1]
             |false=>
              simp[tj,aA,az,cT,jM,h24,c0,c1]
            |false=>
             simp[tj,aA,az,cT,jM,h24,c0]
           ·skip
            simp[tj,jM,h14,h15,Np,R3,h18,NM,NN,h21,h22,NK,h24]
end fF
namespace fF
open Ax Go aT cA
theorem LH (wl aa:Nat)(a b c:Int)(st:an) :
  (aU S).call wl aa 34 [.agg [.int .i64 a,.int .i64 b,.int .i64 c]] st=some (.bool (kX ⟨a,b,c⟩),st):=by
 refine bf (sf:=s34) rfl rfl (by simp) rfl (by simp) ?_
 unfold kX
 by_cases h:a=3
 ·simp[s34,h]
 ·simp[s34,h]
theorem LI (wl aa:Nat)(t:T3)(st:an)(h0:0<t.d)(hr:nG t.d=true) :
  (aU S).call wl aa 63 [.agg [.int .i64 t.b,.int .i64 t.r,.int .i64 t.d]] st=some (.agg [.int .i64 t.b,.int .i64 t.r,.int .i64 (t.d-1)],st):=by
 have hw:IntKind.i64.wrap (t.d-1)=t.d-1:=by
  simp only[nG,Bool.and_eq_true,decide_eq_true_eq]at hr
  rw[wrap64]<;>omega
 refine bf (sf:=s63) rfl rfl (by simp) rfl (by simp) ?_
 simp[s63,hw]
def IS (c:CD):AV:=.agg [.int .i64 c.params,c.vars,.bool c.has,.int .i64 c.res.b,.int .i64 c.res.r,.int .i64 c.res.d,c.ins]
theorem FR (wl aa:Nat){c:CD}(n:Int)(st:an)(hV:qZ c.vars=true)(hN:zY c.ins=true) :
  (aU S).call wl aa 58 [IS c,.int .i64 n] st=some (.agg (iy (dg c.vars) n).cells,st):=by
 have kO:=mQ hV
 have kS:=nt hV
 have jS:=uz hN
 have iV:=sP hN
 have p1:=bC kO
 have p2:=bC jS
 refine bf (sf:=s58) rfl rfl (by simp[IS,p1,p2]) rfl (by simp) ?_
 by_cases h0:n<0
 ·have e:iy (dg c.vars) n=T0:=by unfold iy;rw[if_neg (by omega)]
  simp[s58,IS,kO,jS,h0,e]
 ·obtain⟨k,rfl⟩:∃k:Nat,n=k:=⟨n.toNat,by omega⟩
  by_cases hk:k<(dg c.vars).length
  ·have e:iy (dg c.vars) k=(dg c.vars)[k]:=by simp[iy,List.getD_eq_getElem?_getD,hk]
   have qL:¬((dg c.vars).length:Int)<=(k:Int):=by omega
   simp[s58,IS,kS,jS,h0,hV,iM hV,e,hk,qL]
  ·have e:iy (dg c.vars) k=T0:=by simp[iy,List.getD_eq_getElem?_getD,List.getElem?_eq_none (Nat.le_of_not_lt hk)]
   have qL:((dg c.vars).length:Int)<=(k:Int):=by omega
   simp[s58,IS,kS,jS,h0,hV,iM hV,e,qL]
def Nr (ss:List SD)(f n:Int)(t:T3):Bool:=match gH ss n with|some s=>decide (s.fn=f)&&fq s.t t|none=>false
theorem R4 (wl aa:Nat){x:XD}(f n:Int)(t:T3)(st:an)(hx:x.ok) :
  (aU S).call wl aa 64 [fU x,.int .i64 f,.int .i64 n,.agg [.int .i64 t.b,.int .i64 t.r,.int .i64 t.d]] st=some (.bool (Nr (vm x.sites) f n t),st):=by
 have hs:=hx.sl
 have hG:=hx.sites
 refine bf (sf:=s64) rfl rfl (by simp[hx.pure]) rfl (by simp) ?_
 unfold Nr
 cases hg:gH (vm x.sites) n with
 |none=>
  rcases lG hg with h0|⟨h0,h1⟩
  ·have F8:¬0<=n:=by omega
   simp[s64,fU,hs,F8,aA,az]
  ·have jE:¬n<((vm x.sites).length:Int):=by omega
   simp[s64,fU,hs,h0,jE,hG,Az hG,aA,az]
 |some s=>
  obtain⟨k,rfl,hk,hq⟩:=lF hg
  cases hf:decide (s.fn=f) with
  |true=>simp[s64,fU,hs,hk,hG,Az hG,aA,az,SD.cells,hq,hf]
  |false=>simp[s64,fU,hs,hk,hG,Az hG,aA,az,SD.cells,hq,hf]
def Ns (rs:List RD)(t:T3)(k:Int):T3:=if t.b=3/\t.d=0 then
 match gH rs t.r with
 |some r=>(match gH (x0 r.fields) k with|some fd=>fd.t|none=>T0)
 |none=>T0 else T0
theorem Eb (wl aa:Nat){x:XD}(t:T3)(k:Int)(st:an)(hx:x.ok) :
  (aU S).call wl aa 62 [fU x,.agg [.int .i64 t.b,.int .i64 t.r,.int .i64 t.d],.int .i64 k] st=some (.agg (Ns (oJ x.aQ) t k).cells,st):=by
 have hs:=hx.sl
 have hR:=hx.aQ
 refine bf (sf:=Uk) rfl rfl (by simp[hx.pure]) rfl (by simp) ?_
 unfold Ns
 by_cases hb:t.b=3
 ·by_cases hd:t.d=0
  ·cases hr:gH (oJ x.aQ) t.r with
   |none=>
    rcases lG hr with h0|⟨h0,h1⟩
    ·simp[Uk,fU,hs,hb,hd,h0]
    ·have F8:¬t.r<0:=by omega
     simp[Uk,fU,hs,hb,hd,F8,h1,vh hR]
   |some r=>
    obtain⟨j,hj,uP,hq⟩:=lF hr
    have F8:¬t.r<0:=by omega
    have jE:¬((oJ x.aQ).length:Int)<=t.r:=by omega
    have hF:=It hR r (hq ▸ List.getElem_mem uP)
    have IP:=RL hF
    have D2:=Lw hF
    rw[hj]at F8 jE
    simp only
    cases hk:gH (x0 r.fields) k with
    |none=>
     rcases lG hk with k0|⟨k0,k1⟩
     ·simp[Uk,fU,hs,hb,hd,F8,jE,vh hR,k0,hj]
     ·have k0':¬k<0:=by omega
      simp[Uk,fU,hs,hb,hd,F8,jE,hR,vh hR,uP,RD.cells,k0',k1,D2,hF,FK hF,hj,hq]
    |some fd=>
     obtain⟨q,hqk,OH,hfd⟩:=lF hk
     have k0':¬k<0:=by omega
     have RI:¬((x0 r.fields).length:Int)<=k:=by omega
     rw[hqk]at k0' RI
     simp[Uk,fU,hs,hb,hd,F8,jE,hR,vh hR,uP,RD.cells,k0',RI,D2,hF,FK hF,FD.cells,hj,hq,hqk,OH,hfd]
  ·simp[Uk,fU,hs,hb,hd]
 ·simp[Uk,fU,hs,hb]
end fF
namespace fF
open Ax Go aT cA
def zZ (vs:List T3)(a:Int)(t:T3):Bool:=!fq (iy vs a) ⟨0,0,0⟩&&fq (iy vs a) t
def ZJ (vs:List T3)(i:ID)(g:CD):Bool:=decide (¬g.params<0)&&decide (g.params<=(dg g.vars).length)&&decide (((dI i.args).length:Int)=g.params) &&
  ((dI i.args).zip (dg g.vars)).all (λp=>zZ vs p.1 p.2)&&(decide (i.a = -1)||g.has&&zZ vs i.a g.res)
def Ka (cs:List CD)(vs:List T3)(i:ID):Bool:=match gH cs i.c with
 |none=>false
 |some g=>ZJ vs i g
theorem R5 (wl aa:Nat){x:XD}{c:CD}{i:ID}(st:an)(hx:x.ok)(hV:qZ c.vars=true)(hN:zY c.ins=true)(hA:th i.args=true)(iY:gp i.args=true)
  (hb:∀g∈jL x.aR,(dg g.vars).length<1000000000) :
  (aU S).call wl aa 65 [fU x,IS c,dx i] st=some (.bool (Ka (jL x.aR) (dg c.vars) i),st):=by
 have hs:=hx.sl
 have hG:=hx.aR
 have wo:=mQ hV
 have Kb:=nt hV
 have CJ:=uz hN
 have Kc:=sP hN
 have hAs:=qA hA
 have hAv:=iL iY hAs
 have p1:=bC wo
 have p2:=bC CJ
 have hO:=λn=>FR 0 0 (c:=c) n [] hV hN
 simp only[IS,T3.cells]at hO
 refine bf (sf:=We) rfl rfl (by simp[hx.pure,IS,p1,p2,R1 hA]) rfl (by simp) ?_
 unfold Ka
 cases hg:gH (jL x.aR) i.c with
 |none=>
  rcases lG hg with h0|⟨h0,h1⟩
  ·simp[We,fU,IS,dx,hs,wo,CJ,hAs,h0]
  ·have F8:¬i.c<0:=by omega
   simp[We,fU,IS,dx,hs,wo,CJ,hAs,F8,h1,hG,bh hG]
 |some g=>
  obtain⟨k,hk,de,hgq⟩:=lF hg
  have F8:¬i.c<0:=by omega
  have jE:¬((jL x.aR).length:Int)<=i.c:=by omega
  have hgm:g∈jL x.aR:=hgq ▸ List.getElem_mem de
  have hV:=(uA hG _ hgm).1
  have kO:=mQ hV
  have kS:=nt hV
  have hN:=(uA hG _ hgm).2
  have jS:=uz hN
  have iV:=sP hN
  have A4:=hb _ hgm
  rw[hk]at F8 jE
  simp only
  unfold ZJ
  by_cases Ks:g.params<0
  ·simp[We,fU,IS,dx,hs,wo,CJ,F8,jE,hk,de,hG,bh hG,CD.cells,hA,kS,jS,iV,hV,hgq,Ks]
  ·by_cases hq:g.params<=(dg g.vars).length
   ·have hq':¬((dg g.vars).length:Int)<g.params:=by omega
    by_cases hp:((dI i.args).length:Int)=g.params
    ·simp[We,fU,IS,dx,hs,wo,CJ,hAv,F8,jE,hk,de,hG,bh hG,CD.cells,hA,l5 hA,kS,jS,iV,hV,iM hV,hgq,Ks,hq,hq',hp]
     refine bu PT.eq_1 (λq:Nat×List AV=>⟨[(4,.fp 1 0),(5,.fp 2 0),(7,.fp 3 0),(8,.val (.int .i64 q.1))],
      [[x.aQ,x.globals,x.aR,x.sites,.int .i64 x.main],
       [.int .i64 c.params,c.vars,.bool c.has,.int .i64 c.res.b,.int .i64 c.res.r,.int .i64 c.res.d,c.ins],
       [.int .i64 i.op,.int .i64 i.a,.int .i64 i.b,.int .i64 k,.int .i64 i.n,i.args],
       [.int .i64 g.params,g.vars,.bool g.has,.int .i64 g.res.b,.int .i64 g.res.r,.int .i64 g.res.d,g.ins],q.2,[]],[]⟩)
      (λq=>q.1<=(dI i.args).length/\RX (zZ (dg c.vars)) (dI i.args) (dg g.vars) q.1) (λq=>(dI i.args).length-q.1) (0,[]) (by simp) ⟨by simp,Nn⟩ ?_
     rintro⟨m,bb⟩ ⟨JN,hz⟩ ih
     simp only at JN hz ih
     have hlen:(dI i.args).length<=(dg g.vars).length:=by omega
     by_cases aV:m<(dI i.args).length
     ·have pV:m<(dg g.vars).length:=by omega
      have hw:IntKind.i64.wrap ((m:Int)+1)=((m+1:Nat):Int):=by rw[wrap64]<;>omega
      have hc:=hO (dI i.args)[m]
      cases e1:fq (iy (dg c.vars) (dI i.args)[m]) ⟨0,0,0⟩ with
      |true=>
       have hf:=CC (p:=zZ (dg c.vars)) (l:=dI i.args) (m:=dg g.vars) aV pV (by simp[zZ,e1])
       simp[Kb,Kc,hAv,aV,hA,l5 hA,aB,aI,cL.aF,cP,hc,e1,hf]
      |false=>
       cases e2:fq (iy (dg c.vars) (dI i.args)[m]) (dg g.vars)[m] with
       |true=>
        simp[Kb,Kc,hAv,aV,pV,hA,l5 hA,hV,iM hV,aB,aI,cL.aF,cP,hc,e1,e2,hw]
        exact ih (m+1,_) ⟨by simp;omega,No hz aV pV (by simp[zZ,e1,e2])⟩ (by simp;omega)
       |false=>
        have hf:=CC (p:=zZ (dg c.vars)) (l:=dI i.args) (m:=dg g.vars) aV pV (by simp[zZ,e1,e2])
        simp[Kb,Kc,hAv,aV,pV,hA,l5 hA,hV,iM hV,aB,aI,cL.aF,cP,hc,e1,e2,hf]
     ·have de:m=(dI i.args).length:=by omega
      have hf:=RY (p:=zZ (dg c.vars)) (de ▸ hz)
      have Z0:=hO i.a
      have hr:zZ (dg c.vars) i.a g.res=(!fq (iy (dg c.vars) i.a) ⟨0,0,0⟩&&fq (iy (dg c.vars) i.a) g.res):=rfl
      cases e0:decide (i.a = -1) with
      |true=>simp[hA,l5 hA,aV,hf,of_decide_eq_true e0]
      |false=>
       have e0':=of_decide_eq_false e0
       cases e1:fq (iy (dg c.vars) i.a) ⟨0,0,0⟩ with
       |true=>
        cases e2:g.has with
        |true=>simp[Kb,Kc,hA,l5 hA,aV,hf,e0',e1,Z0,hr]
        |false=>simp[Kb,Kc,hA,l5 hA,aV,hf,e0',e1,Z0,hr]
       |false=>
        cases e2:g.has with
        |true=>simp[Kb,Kc,hA,l5 hA,aV,hf,e0',e1,Z0,hr]
        |false=>simp[Kb,Kc,hA,l5 hA,aV,hf,e0',e1,Z0,hr]
    ·simp[We,fU,IS,dx,hs,wo,CJ,hAv,F8,jE,hk,de,hG,bh hG,CD.cells,hA,l5 hA,kS,jS,iV,hV,iM hV,hgq,Ks,hq,hq',hp]
   ·have hq':((dg g.vars).length:Int)<g.params:=by omega
    simp[We,fU,IS,dx,hs,wo,CJ,F8,jE,hk,de,hG,bh hG,CD.cells,hA,kS,jS,iV,hV,iM hV,hgq,Ks,hq,hq']
end fF
