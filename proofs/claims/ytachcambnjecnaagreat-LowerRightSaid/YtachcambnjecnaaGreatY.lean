/-
  LowerRight: what the law answers.
-/
import Derived.Test.YtachcambnjecnaaGreatX
import Derived.Test.YtachcambnjecnaaGreatK
import Derived.Test.YtachcambnjecnaaGreatF
import Derived.Test.YtachcambnjecnaaGreatU
import Derived.Test.YtachcambnjecnaaGreatR

set_option maxRecDepth 100000
set_option maxHeartbeats 1000000
namespace yb
open Ax Go aT V7 lP mV vC
open K9 (sK mz fA zX)
open N7 U7
open S9 (Cn Dd)
theorem VA {p:Pg}(hF:kj (jZ p)=none)(hg:jn p=false){bs:List Bd}(hR:qk (aS p) (aS p).sigs p.funcs=.ok bs){cs:List Cd}{ss:List Sd}(h:wL [] [] 0 (aS p).sigs bs=.ok (cs,ss)) :
  Hd.Ct (aS p)/\∃all,Made (aS p) cs ss all/\cs.length=(aS p).sigs.length:=by
 have sZ:=Lt hF (J6 hg)
 obtain⟨all,h1,h2⟩:=Im sZ (by simp[aS]) hR rfl (cs:=[]) (ss:=[]) (all:=0) ⟨λj c h=>by simp at h,λs h=>by simp at h,by simp,rfl,by simp⟩ h
 exact⟨sZ,all,h1,h2⟩
theorem Sj:(⟨.U,.U,.U,.U,0⟩:cA.XD).ok:=⟨rfl,rfl,rfl,rfl⟩
theorem Nv (wl aa:Nat)(st:an):(aU S).call wl aa 10 [ZX] st=some (.bool false,st):=by
 have h:=fF.Ed wl aa st Sj (λg hg=>by simp[cA.jL,aP]at hg) (λg hg=>by simp[cA.jL,aP]at hg) (λg hg=>by simp[cA.oJ,aP]at hg)
 have e:fF.gh ⟨.U,.U,.U,.U,0⟩=false:=rfl
 rw[e]at h
 exact h
theorem Ki (p:Pg)(wl aa:Nat)(st:an):∃x e a,qq p=.fz [.agg x,.agg [.int .i64 e,.int .i64 a]]/\(aU S).call wl aa 10 [.agg x] st=some (.bool (decide (e=0)),st)/\∃r g c s m,x=[r,g,c,s,.int .i64 m]/\aG r=true/\aG g=true/\aG c=true/\aG s=true/\r.view=r/\g.view=g/\c.view=c/\s.view=s:=by
 have no:∀(e a:Int),e≠0->qq p=.fz [ZX,.agg [.int .i64 e,.int .i64 a]]->∃x e a,qq p=.fz [.agg x,.agg [.int .i64 e,.int .i64 a]]/\(aU S).call wl aa 10 [.agg x] st=some (.bool (decide (e=0)),st)/\∃r g c s m,x=[r,g,c,s,.int .i64 m]/\aG r=true/\aG g=true/\aG c=true/\aG s=true/\r.view=r/\g.view=g/\c.view=c/\s.view=s:=λe a he h=>by
  refine⟨_,e,a,h,?_,_,_,_,_,_,rfl,rfl,rfl,rfl,rfl,rfl,rfl,rfl,rfl⟩
  rw[decide_eq_false he];exact Nv wl aa st
 cases hF:kj (jZ p) with
 |some a=>exact no 3 a (by decide) (by unfold qq;rw[hF])
 |none=>
  cases hR:qk (aS p) (aS p).sigs p.funcs with
  |error a=>exact no 3 a (by decide) (by unfold qq;rw[hF];simp only[hR])
  |ok bs=>
   cases hS:Cn p with
   |some a=>exact no 3 a (by decide) (by unfold qq;rw[hF];simp only[hR,hS])
   |none=>
    cases hg:jn p with
    |true=>exact no 4 0 (by decide) (by unfold qq;rw[hF];simp only[hR,hS,hg,if_true])
    |false=>
     cases hm:wL [] [] 0 (aS p).sigs bs with
     |error a=>exact no 4 a (by decide) (by unfold qq ZB;rw[hF];simp only[hR,hS,hg,hm];rfl)
     |ok y=>
      obtain⟨cs,ss⟩:=y
      obtain⟨sZ,all,hM,hl⟩:=VA hF hg hR hm
      obtain⟨k,hk,s,hs,hp,hh⟩:=Vj hF
      have hr:=IB.Kh sZ hM hl hk hs hp hh
      have hx:=IB.aiP (main:=fA p) sZ hM hl
      obtain⟨b1,b2⟩:=IB.Vz (H:=aS p) (main:=fA p) hM
      have wT:=fF.Ed wl aa st hx b1 b2 (λg hg=>by
       have r1:cA.oJ (IB.Dg (aS p) (fA p) cs ss).aQ=(aS p).bQ.map λs=>⟨s.1,bT s.2⟩:=IB.CE _
       rw[r1]at hg
       obtain⟨s,hs,rfl⟩:=List.mem_map.1 hg
       show (cA.x0 (bT s.2)).length<_
       rw[IB.AD,List.length_map]
       have:=sZ.bQ s hs;omega)
      rw[<-fF.Sa,hr]at wT
      refine⟨vg (aS p) (fA p) cs ss,0,0,by unfold qq ZB;rw[hF];simp only[hR,hS,hg,hm];rfl,?_,_,_,_,_,_,rfl,bq,bq,bq,bq,br,br,br,br⟩
      have e:(.agg (vg (aS p) (fA p) cs ss):AV)=fF.fU (IB.Dg (aS p) (fA p) cs ss):=by
       unfold vg
       show _=AV.agg [_,_,_,_,_]
       simp only[IB.Dg,IB.ZU,IB.SB,IB.ZT,IB.bz,List.map_map]
       rfl
      rw[e];exact wT
theorem Nw (s:List UInt8):(aU S).call 0 0 4 [.str s] []=some (.bool true,[]):=by
 have kn:=λwl li st=>O6 (sf:=s9) rfl rfl rfl ZD wl li st
 have pk:=λwl li st=>UU wl li s st
 have VL:=J1 s
 have mk:=λwl li st=>Fi wl li (mw s).1 st (adr VL.inn) (ads VL.inn) (Vl VL) (Nd VL)
 have mr:=λwl li st=>Ki (mw s).1 wl li st
 refine bf (sf:=s4) rfl rfl (by simp[AV.ai,AV.au]) rfl rfl ?_
 generalize mw s=P at *
 obtain⟨p,fe,fa⟩:=P
 simp only at pk mk mr
 have r1:aG (aD 3 (p.aQ.map Rc.row))=true:=bq
 have r2:(aD 3 (p.aQ.map Rc.row)).view=aD 3 (p.aQ.map Rc.row):=br
 have f1:aG (aD 7 (p.funcs.map Fc.row))=true:=bq
 have f2:(aD 7 (p.funcs.map Fc.row)).view=aD 7 (p.funcs.map Fc.row):=br
 have g1:aG (aD 4 (p.globals.map PD.cells))=true:=bq
 have g2:(aD 4 (p.globals.map PD.cells)).view=aD 4 (p.globals.map PD.cells):=br
 unfold Pg.row at pk mk
 generalize aD 3 (p.aQ.map Rc.row)=PR at *
 generalize aD 7 (p.funcs.map Fc.row)=PF at *
 generalize aD 4 (p.globals.map PD.cells)=PG at *
 by_cases c0:(7000:Int)<(s.length:Int)
 ·simp[s4,pk,r1,r2,f1,f2,g1,g2,af,AV.view,c0]
 by_cases ce:¬fe=0
 ·simp[s4,pk,r1,r2,f1,f2,g1,g2,af,AV.view,c0,ce]
 have ce:fe=0:=Decidable.byContradiction ce
 subst ce
 have mr':∃x e a,qq p=.fz [.agg x,.agg [.int .i64 e,.int .i64 a]]/\(∀wl aa st,(aU S).call wl aa 10 [.agg x] st=some (.bool (decide (e=0)),st))/\∃r g c s m,x=[r,g,c,s,.int .i64 m]/\aG r=true/\aG g=true/\aG c=true/\aG s=true/\r.view=r/\g.view=g/\c.view=c/\s.view=s:=by
  obtain⟨x,e,a,h1,h2,h3⟩:=mr 0 0 []
  refine⟨x,e,a,h1,λwl aa st=>?_,h3⟩
  obtain⟨x2,e2,a2,i1,i2,_⟩:=mr wl aa st
  rw[h1]at i1
  cases i1
  exact i2
 obtain⟨x,e,a,h1,h2,r,g,c,t,m,rfl,y1,y2,y3,y4,z1,z2,z3,z4⟩:=mr'
 rw[h1]at mk
 by_cases c1:e=0
 ·subst c1
  simp[s4,pk,mk,h2,r1,r2,f1,f2,g1,g2,y1,y2,y3,y4,z1,z2,z3,z4,af,AV.view,c0,kn,aA,az]
 ·simp[s4,pk,mk,h2,r1,r2,f1,f2,g1,g2,y1,y2,y3,y4,z1,z2,z3,z4,af,AV.view,c0,c1,kn,aA,az]
end yb
