/-
  SemPrinted.
-/
import Derived.Test.YtpnadocbfbbboaaGreatJ
import Derived.Test.YtpnadocbfbbboaaGreatZ
import Derived.Test.YtpnadocbfbbboaaGreatK

set_option maxRecDepth 100000
set_option maxHeartbeats 8000000
namespace Bp
open Ax Go bX V7 lf mG wU K9 S9 N7 U7 Sb Lx RJ P6 aiR
open zj hiding vU
theorem Mf(s:List UInt8){qG:AV}(hi:u7 qG=true)(iz:jy qG=true)(n:Int):∃st',(aT S).call 0 0 6 [.str s,qG,.int .i64 n] []=some (.bool true,st'):=by
 refine⟨[],?_⟩;have hs:=tL hi;have hv:=nq iz hs;have hl:=C3 hi;have hpi:=cm hs;have kn:=λwl li st=>Tz (sf:=s14) rfl rfl rfl aed wl li st;have pk:=λwl li st=>Pb wl li s st;have hfi:=E8 s;have hgx:=Z2 s;have HZ:=Ch s;have SN:=λhn wl li st=>LQ hfi hi iz n hn wl li st;refine bn (sf:=s6) rfl rfl (by simp[AV.af,AV.au,hpi]) rfl rfl ?_;generalize hP:lQ s=P at *;obtain⟨p,fe,fa⟩:=P;simp only at pk hfi SN hgx HZ;have pr:=λwl li st=>Wo wl li p hgx (λf hf=>by have:=HZ f hf;omega) st;have pk2:=λwl li st=>Pb wl li (RL p) st;have anT:=E8 (RL p);have Wq:=λhn wl li st=>LQ anT hi iz n hn wl li st;have gY:=λq e a (h:lQ (RL p)=(q,e,a)) (he:e=0)=>NV hgx h he;generalize hQ:lQ (RL p)=Q at *;obtain⟨q,ge,ga⟩:=Q;simp only at pk2 Wq;have r1:aR (aK 3 (p.bz.map Rc.aG))=true:=bL;have r2:(aK 3 (p.bz.map Rc.aG)).aa=aK 3 (p.bz.map Rc.aG):=bO;have f1:aR (aK 7 (p.funcs.map Fc.aG))=true:=bL;have f2:(aK 7 (p.funcs.map Fc.aG)).aa=aK 7 (p.funcs.map Fc.aG):=bO;have g1:aR (aK 4 (p.aH.map PD.cells))=true:=bL;have g2:(aK 4 (p.aH.map PD.cells)).aa=aK 4 (p.aH.map PD.cells):=bO;have r3:aR (aK 3 (q.bz.map Rc.aG))=true:=bL;have r4:(aK 3 (q.bz.map Rc.aG)).aa=aK 3 (q.bz.map Rc.aG):=bO;have f3:aR (aK 7 (q.funcs.map Fc.aG))=true:=bL;have f4:(aK 7 (q.funcs.map Fc.aG)).aa=aK 7 (q.funcs.map Fc.aG):=bO;have g3:aR (aK 4 (q.aH.map PD.cells))=true:=bL;have g4:(aK 4 (q.aH.map PD.cells)).aa=aK 4 (q.aH.map PD.cells):=bO;unfold Pg.aG at pk SN pr pk2 Wq;generalize aK 3 (p.bz.map Rc.aG)=PR at *;generalize aK 7 (p.funcs.map Fc.aG)=PF at *;generalize aK 4 (p.aH.map PD.cells)=PG at *;generalize aK 3 (q.bz.map Rc.aG)=QR at *;generalize aK 7 (q.funcs.map Fc.aG)=QF at *;generalize aK 4 (q.aH.map PD.cells)=QG at *;by_cases c0:(3000:Int)<(s.length:Int);simp[s6,pk,r1,r2,f1,f2,g1,g2,ah,AV.aa,c0];by_cases ce:¬fe=0;simp[s6,pk,r1,r2,f1,f2,g1,g2,ah,AV.aa,c0,ce];have ce:fe=0:=Decidable.byContradiction ce;subst ce;by_cases c1:(100:Int)<((Ax.dI qG).length:Int);simp[s6,pk,r1,r2,f1,f2,g1,g2,ah,AV.aa,c0,hs,hv,hl,c1];by_cases c2:8000<n;simp[s6,pk,r1,r2,f1,f2,g1,g2,ah,AV.aa,c0,hs,hv,hl,c1,c2];by_cases cg:¬ge=0;simp[s6,pk,r1,r2,f1,f2,g1,g2,ah,AV.aa,c0,hs,hv,hl,c1,c2,pr,pk2,r3,r4,f3,f4,g3,g4,cg,kn];have cg:ge=0:=Decidable.byContradiction cg;subst cg;have h3:=SN (by omega);have h4:=Wq (by omega);have hq:=gY q 0 ga rfl rfl;rw[Wj hq]at h4;have o1:=ZB p (Ax.dI qG) n.toNat;have va:∀l,(nc l).aa=nc l:=λl=>by unfold nc;split<;>rfl
 have ca:∀l,(nc l).cL=true:=λl=>by unfold nc;split<;>rfl
 have sm:=λwl li st=>Zy wl li (E7 p (Ax.dI qG) n.toNat) (E7 p (Ax.dI qG) n.toNat) rfl rfl rfl rfl (by omega) st;unfold vW at h3 h4 sm;generalize E7 p (Ax.dI qG) n.toNat=A at *;simp[s6,pk,r1,r2,f1,f2,g1,g2,ah,AV.aa,c0,hs,hv,hl,c1,c2,pr,pk2,r3,r4,f3,f4,g3,g4,h3,h4,sm,kn,ck,cut,aF,aC]
end Bp
