/-
  SemMore, SemInput.
-/
import Derived.Test.YtpnadocbfbbboaaGreatG
import Derived.Test.YtpnadocbfbbboaaGreatK

set_option maxRecDepth 100000
set_option maxHeartbeats 8000000
namespace E11
open Ax Go Code11 V7 Par Chk Run K9 S9 N7 U7
theorem endR_st (r:Rs):(endR r).steps=r.steps/\(endR r).out=r.out:=by unfold endR;split<;>exact⟨rfl,rfl⟩
theorem run_gdR (C:Cx)(main:Int)(inp:List Int):(run C main inp).out.length<=C.fuel:=by
 have G0:Gd C 0 (r0 C inp):=⟨by simp[r0],by simp[r0],by simp[r0],by simp[r0],by simp[r0]⟩
 have:=(call_gd (ev_gd C.fuel).2 main [] (r0 C inp) G0).1
 unfold run
 rw[(endR_st _).2]
 have h1:=this.o
 have h2:=this.st
 omega
theorem few_out (p:Pg)(l:List Int)(n:Nat):(semR p l n).out.length<=n:=by
 unfold semR
 split
 ·simp[zeroR]
 split
 ·simp[zeroR]
 ·exact run_gdR _ _ _
theorem sem_more (p:Pg)(l:List Int)(n k:Nat) :
  ((semR p l n).e=3/\(semR p l n).steps=n/\n<=(semR p l (n+k)).steps/\∃r,(semR p l (n+k)).out=(semR p l n).out++r)\/
  ((semR p l n).e≠3/\semR p l (n+k)=semR p l n/\(semR p l n).steps<=n):=by
 unfold semR
 split
 ·exact .inr ⟨by simp[zeroR],rfl,by simp[zeroR]⟩
 split
 ·exact .inr ⟨by simp[zeroR],rfl,by simp[zeroR]⟩
 ·rename_i bs _
  rcases run_more (cxOf (hdOf p) bs n) k (mainP p) l with⟨h1,h2,h3,h4⟩|h
  ·exact .inl ⟨h1,h2,by rw[h2]at h4;exact h4,h3⟩
  ·exact .inr h
theorem law_more (s:List UInt8){inp:AV}(hi:isI inp=true)(hno:notOwn inp=true)(n k:Int):∃st',(orcL S).call 0 0 4 [.str s,inp,.int .i64 n,.int .i64 k] []=some (.bool true,st'):=by
 refine⟨[],?_⟩
 have hs:=isSl_I hi
 have hv:=view_notOwn hno hs
 have hl:=rowsL_I hi
 have hpi:=pure_sl hs
 have kn:=fun wl li st=>call_any (sf:=s14) rfl rfl rfl known0 wl li st
 have pk:=fun wl li st=>prog_ok wl li s st
 have hfi:=fine_progS s
 have hrun:=fun n hn wl li st=>run_fine hfi hi hno n hn wl li st
 refine call_pure (sf:=s4) rfl rfl (by simp[AV.allPure,AV.isPure,hpi]) rfl rfl ?_
 generalize hP:progS s=P at *
 obtain⟨p,fe,fa⟩:=P
 simp only at pk hfi hrun
 have r1:isSl (lstV 3 (p.recs.map Rc.row))=true:=isSl_lstV
 have r2:(lstV 3 (p.recs.map Rc.row)).view=lstV 3 (p.recs.map Rc.row):=view_lstV
 have f1:isSl (lstV 7 (p.funcs.map Fc.row))=true:=isSl_lstV
 have f2:(lstV 7 (p.funcs.map Fc.row)).view=lstV 7 (p.funcs.map Fc.row):=view_lstV
 have g1:isSl (lstV 4 (p.globals.map PD.cells))=true:=isSl_lstV
 have g2:(lstV 4 (p.globals.map PD.cells)).view=lstV 4 (p.globals.map PD.cells):=view_lstV
 unfold Pg.row at pk hrun
 generalize lstV 3 (p.recs.map Rc.row)=PR at *
 generalize lstV 7 (p.funcs.map Fc.row)=PF at *
 generalize lstV 4 (p.globals.map PD.cells)=PG at *
 by_cases c0:(4000:Int)<(s.length:Int)
 ·simp[s4,pk,r1,r2,f1,f2,g1,g2,paste,AV.view,c0]
 by_cases ce:¬fe=0
 ·simp[s4,pk,r1,r2,f1,f2,g1,g2,paste,AV.view,c0,ce]
 have ce:fe=0:=Decidable.byContradiction ce
 subst ce
 by_cases c1:(100:Int)<((Ax.dI inp).length:Int)
 ·simp[s4,pk,r1,r2,f1,f2,g1,g2,paste,AV.view,c0,hs,hv,hl,c1]
 by_cases c2:n<0
 ·simp[s4,pk,r1,r2,f1,f2,g1,g2,paste,AV.view,c0,hs,hv,hl,c1,c2]
 by_cases c3:8000<n
 ·simp[s4,pk,r1,r2,f1,f2,g1,g2,paste,AV.view,c0,hs,hv,hl,c1,c2,c3]
 by_cases c4:k<0
 ·simp[s4,pk,r1,r2,f1,f2,g1,g2,paste,AV.view,c0,hs,hv,hl,c1,c2,c3,c4]
 by_cases c5:8000<k
 ·simp[s4,pk,r1,r2,f1,f2,g1,g2,paste,AV.view,c0,hs,hv,hl,c1,c2,c3,c4,c5]
 obtain⟨a,rfl⟩:∃a:Nat,n=a:=⟨n.toNat,by omega⟩
 obtain⟨b,rfl⟩:∃b:Nat,k=b:=⟨k.toNat,by omega⟩
 have hw:IntKind.i64.wrap ((a:Int)+(b:Int))=(a:Int)+(b:Int):=by rw[wrap64]<;>omega
 have r3:=hrun a (by omega)
 have r4:=hrun ((a:Int)+(b:Int)) (by omega)
 rw[Int.toNat_natCast]at r3
 rw[show ((a:Int)+(b:Int)).toNat=a+b by omega]at r4
 have o1:=few_out p (Ax.dI inp) a
 have va:∀l,(outL l).view=outL l:=fun l=>by unfold outL;split<;>rfl
 have ca:∀l,(outL l).isCell=true:=fun l=>by unfold outL;split<;>rfl
 rcases sem_more p (Ax.dI inp) a b with⟨e1,e2,e3,r,e4⟩|⟨e1,e2,e3⟩
 ·have bg:=fun wl li st=>begins_ok wl li (semR p (Ax.dI inp) a).out (semR p (Ax.dI inp) (a+b)).out (by omega) st
  have hb:(decide ((semR p (Ax.dI inp) a).out.length<=(semR p (Ax.dI inp) (a+b)).out.length)&&decide ((semR p (Ax.dI inp) a).out=(semR p (Ax.dI inp) (a+b)).out.take (semR p (Ax.dI inp) a).out.length))=true:=by
   rw[e4];simp
  rw[hb]at bg
  have e3':(a:Int)<=((semR p (Ax.dI inp) (a+b)).steps:Int):=by omega
  unfold behV at r3 r4
  rw[e1,e2]at r3
  generalize semR p (Ax.dI inp) a=A at *
  generalize semR p (Ax.dI inp) (a+b)=B at *
  simp[s4,pk,r1,r2,f1,f2,g1,g2,paste,AV.view,c0,hs,hv,hl,c1,c2,c3,c4,c5,r3,r4,hw,va,ca,bg,kn,e3',oneOrAgg,cut]
 ·rw[e2]at r4
  have sm:=fun wl li st=>same_ok wl li (semR p (Ax.dI inp) a) (semR p (Ax.dI inp) a) rfl rfl rfl rfl (by omega) st
  have e3':((semR p (Ax.dI inp) a).steps:Int)<=(a:Int):=by omega
  unfold behV at r3 r4 sm
  generalize semR p (Ax.dI inp) a=A at *
  simp[s4,pk,r1,r2,f1,f2,g1,g2,paste,AV.view,c0,hs,hv,hl,c1,c2,c3,c4,c5,r3,r4,hw,va,ca,sm,kn,e1,e3',oneOrAgg,cut]
end E11
