/-
  SemInput.
-/
import Derived.Test.YtpnadocbfbbboaaGreatH

set_option maxRecDepth 100000
set_option maxHeartbeats 8000000
namespace E11
open Ax Go Code11 V7 Par Chk Run K9 S9 N7 U7
theorem isI_lstV {l:List Int}:isI (lstV 1 (ints l))=true:=by
 cases l with
 |nil=>rfl
 |cons a b=>simp[lstV,mkL,ints,isI,fits,AV.view]
theorem no_lstV {l:List Int}:notOwn (lstV 1 (ints l))=true:=by cases l<;>rfl
theorem dI_lstV {l:List Int}:Ax.dI (lstV 1 (ints l))=l:=by
 unfold Ax.dI
 rw[rowsL_lstV]
 exact dI_ints l
theorem law_input (s:List UInt8){inp more:AV}(hi:isI inp=true)(hno:notOwn inp=true)(hj:isI more=true)(hmo:notOwn more=true)(n:Int):∃st',(orcL S).call 0 0 5 [.str s,inp,more,.int .i64 n] []=some (.bool true,st'):=by
 refine⟨[],?_⟩
 have hs:=isSl_I hi
 have hv:=view_notOwn hno hs
 have hl:=rowsL_I hi
 have hpi:=pure_sl hs
 have js:=isSl_I hj
 have jv:=view_notOwn hmo js
 have jl:=rowsL_I hj
 have jpi:=pure_sl js
 have kn:=fun wl li st=>call_any (sf:=s14) rfl rfl rfl known0 wl li st
 have pk:=fun wl li st=>prog_ok wl li s st
 have hfi:=fine_progS s
 have hrun:=fun n hn wl li st=>run_fine hfi hi hno n hn wl li st
 have hrun2:=fun n hn wl li st=>run_fine hfi (inp:=lstV 1 (ints (Ax.dI inp++Ax.dI more))) isI_lstV no_lstV n hn wl li st
 rw[dI_lstV]at hrun2
 refine call_pure (sf:=s5) rfl rfl (by simp[AV.allPure,AV.isPure,hpi,jpi]) rfl rfl ?_
 generalize hP:progS s=P at *
 obtain⟨p,fe,fa⟩:=P
 simp only at pk hfi hrun hrun2
 have r1:isSl (lstV 3 (p.recs.map Rc.row))=true:=isSl_lstV
 have r2:(lstV 3 (p.recs.map Rc.row)).view=lstV 3 (p.recs.map Rc.row):=view_lstV
 have f1:isSl (lstV 7 (p.funcs.map Fc.row))=true:=isSl_lstV
 have f2:(lstV 7 (p.funcs.map Fc.row)).view=lstV 7 (p.funcs.map Fc.row):=view_lstV
 have g1:isSl (lstV 4 (p.globals.map PD.cells))=true:=isSl_lstV
 have g2:(lstV 4 (p.globals.map PD.cells)).view=lstV 4 (p.globals.map PD.cells):=view_lstV
 unfold Pg.row at pk hrun hrun2
 generalize lstV 3 (p.recs.map Rc.row)=PR at *
 generalize lstV 7 (p.funcs.map Fc.row)=PF at *
 generalize lstV 4 (p.globals.map PD.cells)=PG at *
 by_cases c0:(4000:Int)<(s.length:Int)
 ·simp[s5,pk,r1,r2,f1,f2,g1,g2,paste,AV.view,c0]
 by_cases ce:¬fe=0
 ·simp[s5,pk,r1,r2,f1,f2,g1,g2,paste,AV.view,c0,ce]
 have ce:fe=0:=Decidable.byContradiction ce
 subst ce
 by_cases c1:(100:Int)<((Ax.dI inp).length:Int)
 ·simp[s5,pk,r1,r2,f1,f2,g1,g2,paste,AV.view,c0,hs,hv,hl,c1]
 by_cases c2:(100:Int)<((Ax.dI more).length:Int)
 ·simp[s5,pk,r1,r2,f1,f2,g1,g2,paste,AV.view,c0,hs,hv,hl,js,jv,jl,c1,c2]
 by_cases c3:8000<n
 ·simp[s5,pk,r1,r2,f1,f2,g1,g2,paste,AV.view,c0,hs,hv,hl,js,jv,jl,c1,c2,c3]
 have r3:=hrun n (by omega)
 have r4:=hrun2 n (by omega)
 have o1:=few_out p (Ax.dI inp) n.toNat
 have va:∀l,(outL l).view=outL l:=fun l=>by unfold outL;split<;>rfl
 have ca:∀l,(outL l).isCell=true:=fun l=>by unfold outL;split<;>rfl
 have ap1:appV 1 8 .nilSl (ints (Ax.dI inp))=some (mkL 1 (ints (Ax.dI inp))):=by
  have:=appV_mk (sz:=1) (bytes:=8) (r:=[]) (new:=ints (Ax.dI inp)) (by simp[fits,ints]) (by simp[room];omega)
  simpa [mkL] using this
 have ap2:appV 1 8 (mkL 1 (ints (Ax.dI inp))) (ints (Ax.dI more))=some (mkL 1 (ints (Ax.dI inp++Ax.dI more))):=by
  rw[appV_mk (by simp[fits,ints]) (by simp[room];omega)]
  simp[ints]
 have q1:isSl (mkL 1 (ints (Ax.dI inp)))=true:=isSl_mk
 have q2:isSl (mkL 1 (ints (Ax.dI inp++Ax.dI more)))=true:=isSl_mk
 have q3:(mkL 1 (ints (Ax.dI inp++Ax.dI more))).view=lstV 1 (ints (Ax.dI inp++Ax.dI more)):=rfl
 generalize mkL 1 (ints (Ax.dI inp++Ax.dI more))=M2 at *
 generalize mkL 1 (ints (Ax.dI inp))=M1 at *
 generalize lstV 1 (ints (Ax.dI inp++Ax.dI more))=L2 at *
 have hsi:=sem_input p (Ax.dI inp) (Ax.dI more) n.toNat
 by_cases hx:(semR p (Ax.dI inp) n.toNat).e=2/\(semR p (Ax.dI inp) n.toNat).code=5
 ·obtain⟨e3,r,e4⟩:(semR p (Ax.dI inp) n.toNat).steps<=(semR p (Ax.dI inp++Ax.dI more) n.toNat).steps/\∃r,(semR p (Ax.dI inp++Ax.dI more) n.toNat).out=(semR p (Ax.dI inp) n.toNat).out++r:=by
   rcases hsi with⟨_,_,a,b⟩|⟨_,_,a,b⟩
   ·exact⟨a,b⟩
   ·exact⟨by omega,[],by rw[a];simp⟩
  obtain⟨e1,e2⟩:=hx
  have bg:=fun wl li st=>begins_ok wl li (semR p (Ax.dI inp) n.toNat).out (semR p (Ax.dI inp++Ax.dI more) n.toNat).out (by omega) st
  have hb:(decide ((semR p (Ax.dI inp) n.toNat).out.length<=(semR p (Ax.dI inp++Ax.dI more) n.toNat).out.length)&&decide ((semR p (Ax.dI inp) n.toNat).out=(semR p (Ax.dI inp++Ax.dI more) n.toNat).out.take (semR p (Ax.dI inp) n.toNat).out.length))=true:=by
   rw[e4];simp
  rw[hb]at bg
  have e3':((semR p (Ax.dI inp) n.toNat).steps:Int)<=((semR p (Ax.dI inp++Ax.dI more) n.toNat).steps:Int):=by omega
  unfold behV at r3 r4
  rw[e1,e2]at r3
  clear hsi
  generalize semR p (Ax.dI inp) n.toNat=A at *
  generalize semR p (Ax.dI inp++Ax.dI more) n.toNat=B at *
  simp[s5,pk,r1,r2,f1,f2,g1,g2,paste,AV.view,c0,hs,hv,hl,js,jv,jl,c1,c2,c3,r3,va,ca,W_drawB,boxOk,ap1,ap2,q3,r4,bg,kn,e3',oneOrAgg,cut]
 ·have sm:=fun wl li st=>same_ok wl li (semR p (Ax.dI inp) n.toNat) (semR p (Ax.dI inp++Ax.dI more) n.toNat) (by rcases hsi with⟨a,b,_⟩|⟨a,_⟩;exact absurd ⟨a,b⟩ hx;exact a) (by rcases hsi with⟨a,b,_⟩|⟨_,a,_⟩;exact absurd ⟨a,b⟩ hx;exact a)
   (by rcases hsi with⟨a,b,_⟩|⟨_,_,a,_⟩;exact absurd ⟨a,b⟩ hx;exact a) (by rcases hsi with⟨a,b,_⟩|⟨_,_,_,a⟩;exact absurd ⟨a,b⟩ hx;exact a) (by omega) st
  unfold behV at r3 r4 sm
  clear hsi
  generalize semR p (Ax.dI inp) n.toNat=A at *
  generalize semR p (Ax.dI inp++Ax.dI more) n.toNat=B at *
  by_cases x1:A.e=2
  ·have x2:¬A.code=5:=fun q=>hx ⟨x1,q⟩
   have x1:=eq_true x1
   simp[s5,pk,r1,r2,f1,f2,g1,g2,paste,AV.view,c0,hs,hv,hl,js,jv,jl,c1,c2,c3,r3,va,ca,W_drawB,boxOk,ap1,ap2,q3,r4,sm,kn,x1,x2,oneOrAgg,cut]
  ·simp[s5,pk,r1,r2,f1,f2,g1,g2,paste,AV.view,c0,hs,hv,hl,js,jv,jl,c1,c2,c3,r3,va,ca,W_drawB,boxOk,ap1,ap2,q3,r4,sm,kn,x1,oneOrAgg,cut]
end E11
