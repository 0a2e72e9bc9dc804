/- Part of a proof. -/
import Derived.Test.YtpnadocbfbbboaaGreatJ
import Derived.Test.YtpnadocbfbbboaaGreatK

set_option maxRecDepth 100000
set_option maxHeartbeats 4000000
namespace CL
open Ax Go bY V7 kN lZ tj K9 S9 N7 U7
theorem VB{p:Pg}(h:QT p){mZ:AV}(hi:tP mZ=true)(iI:iQ mZ=true)(fuel:Int)(YD:fuel<1000000)(wl li:Nat)(st:ay) :
  (aZ S).call wl li 13 [.agg p.aF,mZ,.int .i64 fuel] st=some (oU (Da p (Ax.dI mZ) fuel.toNat),st):=
 DI.EW p hi iI fuel YD (ZU h.YM) (ZV h.YM) (Pf h) (λbs hR b hb=>by have:=zU h bs hR b hb;omega) (λbs hS hR=>by
  obtain⟨K,h1,h2⟩:=Lw (fuel:=fuel.toNat) h (by omega) hS hR;exact⟨⟨K.fuel,K.fu,K.bs,K.bJ,K.ng,K.gl,K.nr,K.rs,K.ps,K.pv,K.wb,K.nb⟩,h1,h2⟩) wl li st
theorem VC(s:List UInt8){mZ:AV}(hi:tP mZ=true)(iI:iQ mZ=true)(n:Int):∃st',(aZ S).call 0 0 3 [.str s,mZ,.int .i64 n] []=some (.bool true,st'):=by
 refine⟨[],?_⟩;have hs:=og hi;have hv:=jt iI hs;have hl:=Av hi;have hpi:=cI hs;have kn:=λwl li st=>SZ (sf:=s14) rfl rfl rfl adh wl li st;have pk:=λwl li st=>X6 wl li s st;have hfi:=NB s;have R8:=λn hn wl li st=>Vh hfi hi iI n hn wl li st;have adv:=λn hn wl li st=>VB hfi hi iI n hn wl li st;refine bT (sf:=s3) rfl rfl (by simp[AV.ax,AV.aB,hpi]) rfl rfl ?_;generalize hP:qu s=P at *;obtain⟨p,fe,fa⟩:=P;simp only at pk hfi R8 adv;have r1:aN (aJ 3 (p.bJ.map Rc.aF))=true:=bI;have r2:(aJ 3 (p.bJ.map Rc.aF)).ai=aJ 3 (p.bJ.map Rc.aF):=bU;have f1:aN (aJ 7 (p.funcs.map Fc.aF))=true:=bI;have f2:(aJ 7 (p.funcs.map Fc.aF)).ai=aJ 7 (p.funcs.map Fc.aF):=bU;have g1:aN (aJ 4 (p.aI.map PD.cells))=true:=bI;have g2:(aJ 4 (p.aI.map PD.cells)).ai=aJ 4 (p.aI.map PD.cells):=bU;unfold Pg.aF at pk R8 adv;generalize aJ 3 (p.bJ.map Rc.aF)=PR,aJ 7 (p.funcs.map Fc.aF)=PF,aJ 4 (p.aI.map PD.cells)=PG at *;by_cases c0:(4000:Int)<(s.length:Int);simp[s3,pk,r1,r2,f1,f2,g1,g2,au,AV.ai,c0];by_cases ce:¬fe=0;simp[s3,pk,r1,r2,f1,f2,g1,g2,au,AV.ai,c0,ce];have ce:fe=0:=Decidable.byContradiction ce;subst ce;by_cases c1:(100:Int)<((Ax.dI mZ).length:Int);simp[s3,pk,r1,r2,f1,f2,g1,g2,au,AV.ai,c0,hs,hv,hl,c1];by_cases c2:20000<n;simp[s3,pk,r1,r2,f1,f2,g1,g2,au,AV.ai,c0,hs,hv,hl,c1,c2];have r3:=R8 n (by omega);have r4:=adv n (by omega);have o1:=YR p (Ax.dI mZ) n.toNat;have va:∀l,(jJ l).ai=jJ l:=λl=>by unfold jJ;split<;>rfl
 have ca:∀l,(jJ l).dj=true:=λl=>by unfold jJ;split<;>rfl
 have sm:=λwl li st=>YO wl li (Da p (Ax.dI mZ) n.toNat) (Da p (Ax.dI mZ) n.toNat) rfl rfl rfl rfl (by omega) st;unfold oU at r3 r4 sm;generalize Da p (Ax.dI mZ) n.toNat=A at *;simp[s3,pk,r1,r2,f1,f2,g1,g2,au,AV.ai,AV.cW,c0,hs,hv,hl,c1,c2,r3,r4,sm,kn,cm,cut,aD,aC]
end CL
