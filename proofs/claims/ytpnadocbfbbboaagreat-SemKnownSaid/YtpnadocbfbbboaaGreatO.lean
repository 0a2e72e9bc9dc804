/-
  SemKnown.
-/
import Derived.Test.YtpnadocbfbbboaaGreatI
import Derived.Test.YtpnadocbfbbboaaGreatJ

set_option maxRecDepth 100000
set_option maxHeartbeats 8000000
namespace E11
open Ax Go Code11 V7 Par Chk Run K9 S9 N7 U7
theorem ok_of {s:List UInt8}{o:List Int}{e:Int}(h:okK1 s o e=true):(progS s).2.1=0/\(semR (progS s).1 [6] (fuelK e)).out=o/\
  (e<0->(semR (progS s).1 [6] (fuelK e)).e=3)/\(0<e->(semR (progS s).1 [6] (fuelK e)).e=2/\(semR (progS s).1 [6] (fuelK e)).code=e)/\(e=0->(semR (progS s).1 [6] (fuelK e)).e=1/\(semR (progS s).1 [6] (fuelK e)).code=0):=by
 unfold okK1 at h
 rw[Bool.and_eq_true,decide_eq_true_eq]at h
 obtain⟨h1,h2⟩:=h
 simp only[Bool.and_eq_true,decide_eq_true_eq]at h2
 obtain⟨h2,h3⟩:=h2
 refine⟨h1,h2,fun q=>?_,fun q=>?_,fun q=>?_⟩
 ·rw[if_pos q]at h3;simpa using h3
 ·rw[if_neg (by omega),if_pos q]at h3;simpa using h3
 ·rw[if_neg (by omega),if_neg (by omega)]at h3;simpa using h3
theorem ints_lst (wl li:Nat)(a b:List Int)(ha:a.length<1000000000)(st:Store):(orcL S).call wl li 17 [outL a,lstV 1 (ints b)] st=some (.bool (decide (a=b)),st):=by
 obtain⟨ia,da⟩:=outL_I a
 have:=ints_ok wl li ia (isI_lstV (l:=b)) (by rw[da];exact ha) st
 rw[da,dI_lstV]at this
 exact this
theorem ints_emp (wl li:Nat)(a:List Int)(ha:a.length<1000000000)(st:Store):(orcL S).call wl li 17 [outL a,.emp] st=some (.bool (decide (a=[])),st):=by
 obtain⟨ia,da⟩:=outL_I a
 have:=ints_ok wl li ia (b:=.emp) rfl (by rw[da];exact ha) st
 rw[da,show Ax.dI .emp=[] from rfl]at this
 exact this
theorem law_k0:∃st',(orcL S).call 0 0 7 [.int .i64 0] []=some (.bool true,st'):=by
 refine⟨[],?_⟩
 have kn:=fun wl li st=>call_any (sf:=s14) rfl rfl rfl known0 wl li st
 have pk:=fun wl li st=>prog_ok wl li t0 st
 have hfi:=fine_progS t0
 obtain⟨h1,h2,h3,h4,h5⟩:=ok_of kn0
 have hrun:=fun wl li st=>run_fine hfi (inp:=.lst 1 [[.int .i64 6]]) rfl rfl 5000 (by omega) wl li st
 rw[show Ax.dI (.lst 1 [[.int .i64 6]])=[6] from rfl,show (5000:Int).toNat=fuelK (0) from rfl]at hrun
 refine call_pure (sf:=s7) rfl rfl rfl rfl rfl ?_
 obtain⟨e1,e2⟩:=h5 rfl
 clear h3 h4 h5
 have io:=fun wl li st=>ints_lst wl li (semR (progS t0).1 [6] (fuelK (0))).out [7] (by rw[h2];decide) st
 rw[h2,show lstV 1 (ints [7])=.lst 1 [[.int .i64 7]] from rfl,show decide (([7]:List Int)=[7])=true from rfl]at io
 unfold behV at hrun
 rw[h2,e1,e2]at hrun
 rw[show outL [7]=.lst 1 [[.int .i64 7]] from rfl]at io hrun
 clear h2 e1 e2
 unfold t0 at pk hrun h1
 generalize hP:progS _=P at *
 obtain⟨p,fe,fa⟩:=P
 simp only at pk hrun h1
 subst h1
 clear hP hfi
 have r1:isSl (lstV 3 (p.recs.map Rc.row))=true:=isSl_lstV
 have r2:(lstV 3 (p.recs.map Rc.row)).view=lstV 3 (p.recs.map Rc.row):=view_lstV
 have f1:isSl (lstV 7 (p.funcs.map Fc.row))=true:=isSl_lstV
 have f2:(lstV 7 (p.funcs.map Fc.row)).view=lstV 7 (p.funcs.map Fc.row):=view_lstV
 have g1:isSl (lstV 4 (p.globals.map PD.cells))=true:=isSl_lstV
 have g2:(lstV 4 (p.globals.map PD.cells)).view=lstV 4 (p.globals.map PD.cells):=view_lstV
 unfold Pg.row at pk hrun
 generalize lstV 3 (p.recs.map Rc.row)=PR at *
 generalize lstV 7 (p.funcs.map Fc.row)=PF at *
 generalize lstV 4 (p.globals.map PD.cells)=PG at *
 simp[s7,pk,r1,r2,f1,f2,g1,g2,paste,AV.view,hrun,W_draw0,noBoxes,io,kn,oneOrAgg,cut]
theorem law_k1:∃st',(orcL S).call 0 0 7 [.int .i64 1] []=some (.bool true,st'):=by
 refine⟨[],?_⟩
 have kn:=fun wl li st=>call_any (sf:=s14) rfl rfl rfl known0 wl li st
 have pk:=fun wl li st=>prog_ok wl li t1 st
 have hfi:=fine_progS t1
 obtain⟨h1,h2,h3,h4,h5⟩:=ok_of kn1
 have hrun:=fun wl li st=>run_fine hfi (inp:=.lst 1 [[.int .i64 6]]) rfl rfl 5000 (by omega) wl li st
 rw[show Ax.dI (.lst 1 [[.int .i64 6]])=[6] from rfl,show (5000:Int).toNat=fuelK (0) from rfl]at hrun
 refine call_pure (sf:=s7) rfl rfl rfl rfl rfl ?_
 obtain⟨e1,e2⟩:=h5 rfl
 clear h3 h4 h5
 have io:=fun wl li st=>ints_lst wl li (semR (progS t1).1 [6] (fuelK (0))).out [120] (by rw[h2];decide) st
 rw[h2,show lstV 1 (ints [120])=.lst 1 [[.int .i64 120]] from rfl,show decide (([120]:List Int)=[120])=true from rfl]at io
 unfold behV at hrun
 rw[h2,e1,e2]at hrun
 rw[show outL [120]=.lst 1 [[.int .i64 120]] from rfl]at io hrun
 clear h2 e1 e2
 unfold t1 at pk hrun h1
 generalize hP:progS _=P at *
 obtain⟨p,fe,fa⟩:=P
 simp only at pk hrun h1
 subst h1
 clear hP hfi
 have r1:isSl (lstV 3 (p.recs.map Rc.row))=true:=isSl_lstV
 have r2:(lstV 3 (p.recs.map Rc.row)).view=lstV 3 (p.recs.map Rc.row):=view_lstV
 have f1:isSl (lstV 7 (p.funcs.map Fc.row))=true:=isSl_lstV
 have f2:(lstV 7 (p.funcs.map Fc.row)).view=lstV 7 (p.funcs.map Fc.row):=view_lstV
 have g1:isSl (lstV 4 (p.globals.map PD.cells))=true:=isSl_lstV
 have g2:(lstV 4 (p.globals.map PD.cells)).view=lstV 4 (p.globals.map PD.cells):=view_lstV
 unfold Pg.row at pk hrun
 generalize lstV 3 (p.recs.map Rc.row)=PR at *
 generalize lstV 7 (p.funcs.map Fc.row)=PF at *
 generalize lstV 4 (p.globals.map PD.cells)=PG at *
 simp[s7,pk,r1,r2,f1,f2,g1,g2,paste,AV.view,hrun,W_draw0,noBoxes,io,kn,oneOrAgg,cut]
theorem law_k2:∃st',(orcL S).call 0 0 7 [.int .i64 2] []=some (.bool true,st'):=by
 refine⟨[],?_⟩
 have kn:=fun wl li st=>call_any (sf:=s14) rfl rfl rfl known0 wl li st
 have pk:=fun wl li st=>prog_ok wl li t2 st
 have hfi:=fine_progS t2
 obtain⟨h1,h2,h3,h4,h5⟩:=ok_of kn2
 have hrun:=fun wl li st=>run_fine hfi (inp:=.lst 1 [[.int .i64 6]]) rfl rfl 5000 (by omega) wl li st
 rw[show Ax.dI (.lst 1 [[.int .i64 6]])=[6] from rfl,show (5000:Int).toNat=fuelK (0) from rfl]at hrun
 refine call_pure (sf:=s7) rfl rfl rfl rfl rfl ?_
 obtain⟨e1,e2⟩:=h5 rfl
 clear h3 h4 h5
 have io:=fun wl li st=>ints_lst wl li (semR (progS t2).1 [6] (fuelK (0))).out [4] (by rw[h2];decide) st
 rw[h2,show lstV 1 (ints [4])=.lst 1 [[.int .i64 4]] from rfl,show decide (([4]:List Int)=[4])=true from rfl]at io
 unfold behV at hrun
 rw[h2,e1,e2]at hrun
 rw[show outL [4]=.lst 1 [[.int .i64 4]] from rfl]at io hrun
 clear h2 e1 e2
 unfold t2 at pk hrun h1
 generalize hP:progS _=P at *
 obtain⟨p,fe,fa⟩:=P
 simp only at pk hrun h1
 subst h1
 clear hP hfi
 have r1:isSl (lstV 3 (p.recs.map Rc.row))=true:=isSl_lstV
 have r2:(lstV 3 (p.recs.map Rc.row)).view=lstV 3 (p.recs.map Rc.row):=view_lstV
 have f1:isSl (lstV 7 (p.funcs.map Fc.row))=true:=isSl_lstV
 have f2:(lstV 7 (p.funcs.map Fc.row)).view=lstV 7 (p.funcs.map Fc.row):=view_lstV
 have g1:isSl (lstV 4 (p.globals.map PD.cells))=true:=isSl_lstV
 have g2:(lstV 4 (p.globals.map PD.cells)).view=lstV 4 (p.globals.map PD.cells):=view_lstV
 unfold Pg.row at pk hrun
 generalize lstV 3 (p.recs.map Rc.row)=PR at *
 generalize lstV 7 (p.funcs.map Fc.row)=PF at *
 generalize lstV 4 (p.globals.map PD.cells)=PG at *
 simp[s7,pk,r1,r2,f1,f2,g1,g2,paste,AV.view,hrun,W_draw0,noBoxes,io,kn,oneOrAgg,cut]
theorem law_k3:∃st',(orcL S).call 0 0 7 [.int .i64 3] []=some (.bool true,st'):=by
 refine⟨[],?_⟩
 have kn:=fun wl li st=>call_any (sf:=s14) rfl rfl rfl known0 wl li st
 have pk:=fun wl li st=>prog_ok wl li t3 st
 have hfi:=fine_progS t3
 obtain⟨h1,h2,h3,h4,h5⟩:=ok_of kn3
 have hrun:=fun wl li st=>run_fine hfi (inp:=.lst 1 [[.int .i64 6]]) rfl rfl 5000 (by omega) wl li st
 rw[show Ax.dI (.lst 1 [[.int .i64 6]])=[6] from rfl,show (5000:Int).toNat=fuelK (0) from rfl]at hrun
 refine call_pure (sf:=s7) rfl rfl rfl rfl rfl ?_
 obtain⟨e1,e2⟩:=h5 rfl
 clear h3 h4 h5
 have io:=fun wl li st=>ints_lst wl li (semR (progS t3).1 [6] (fuelK (0))).out [-1] (by rw[h2];decide) st
 rw[h2,show lstV 1 (ints [-1])=.lst 1 [[.int .i64 (-1)]] from rfl,show decide (([-1]:List Int)=[-1])=true from rfl]at io
 unfold behV at hrun
 rw[h2,e1,e2]at hrun
 rw[show outL [-1]=.lst 1 [[.int .i64 (-1)]] from rfl]at io hrun
 clear h2 e1 e2
 unfold t3 at pk hrun h1
 generalize hP:progS _=P at *
 obtain⟨p,fe,fa⟩:=P
 simp only at pk hrun h1
 subst h1
 clear hP hfi
 have r1:isSl (lstV 3 (p.recs.map Rc.row))=true:=isSl_lstV
 have r2:(lstV 3 (p.recs.map Rc.row)).view=lstV 3 (p.recs.map Rc.row):=view_lstV
 have f1:isSl (lstV 7 (p.funcs.map Fc.row))=true:=isSl_lstV
 have f2:(lstV 7 (p.funcs.map Fc.row)).view=lstV 7 (p.funcs.map Fc.row):=view_lstV
 have g1:isSl (lstV 4 (p.globals.map PD.cells))=true:=isSl_lstV
 have g2:(lstV 4 (p.globals.map PD.cells)).view=lstV 4 (p.globals.map PD.cells):=view_lstV
 unfold Pg.row at pk hrun
 generalize lstV 3 (p.recs.map Rc.row)=PR at *
 generalize lstV 7 (p.funcs.map Fc.row)=PF at *
 generalize lstV 4 (p.globals.map PD.cells)=PG at *
 simp[s7,pk,r1,r2,f1,f2,g1,g2,paste,AV.view,hrun,W_draw0,noBoxes,io,kn,oneOrAgg,cut]
theorem law_k4:∃st',(orcL S).call 0 0 7 [.int .i64 4] []=some (.bool true,st'):=by
 refine⟨[],?_⟩
 have kn:=fun wl li st=>call_any (sf:=s14) rfl rfl rfl known0 wl li st
 have pk:=fun wl li st=>prog_ok wl li t4 st
 have hfi:=fine_progS t4
 obtain⟨h1,h2,h3,h4,h5⟩:=ok_of kn4
 have hrun:=fun wl li st=>run_fine hfi (inp:=.lst 1 [[.int .i64 6]]) rfl rfl 5000 (by omega) wl li st
 rw[show Ax.dI (.lst 1 [[.int .i64 6]])=[6] from rfl,show (5000:Int).toNat=fuelK (0) from rfl]at hrun
 refine call_pure (sf:=s7) rfl rfl rfl rfl rfl ?_
 obtain⟨e1,e2⟩:=h5 rfl
 clear h3 h4 h5
 have io:=fun wl li st=>ints_lst wl li (semR (progS t4).1 [6] (fuelK (0))).out [8] (by rw[h2];decide) st
 rw[h2,show lstV 1 (ints [8])=.lst 1 [[.int .i64 8]] from rfl,show decide (([8]:List Int)=[8])=true from rfl]at io
 unfold behV at hrun
 rw[h2,e1,e2]at hrun
 rw[show outL [8]=.lst 1 [[.int .i64 8]] from rfl]at io hrun
 clear h2 e1 e2
 unfold t4 at pk hrun h1
 generalize hP:progS _=P at *
 obtain⟨p,fe,fa⟩:=P
 simp only at pk hrun h1
 subst h1
 clear hP hfi
 have r1:isSl (lstV 3 (p.recs.map Rc.row))=true:=isSl_lstV
 have r2:(lstV 3 (p.recs.map Rc.row)).view=lstV 3 (p.recs.map Rc.row):=view_lstV
 have f1:isSl (lstV 7 (p.funcs.map Fc.row))=true:=isSl_lstV
 have f2:(lstV 7 (p.funcs.map Fc.row)).view=lstV 7 (p.funcs.map Fc.row):=view_lstV
 have g1:isSl (lstV 4 (p.globals.map PD.cells))=true:=isSl_lstV
 have g2:(lstV 4 (p.globals.map PD.cells)).view=lstV 4 (p.globals.map PD.cells):=view_lstV
 unfold Pg.row at pk hrun
 generalize lstV 3 (p.recs.map Rc.row)=PR at *
 generalize lstV 7 (p.funcs.map Fc.row)=PF at *
 generalize lstV 4 (p.globals.map PD.cells)=PG at *
 simp[s7,pk,r1,r2,f1,f2,g1,g2,paste,AV.view,hrun,W_draw0,noBoxes,io,kn,oneOrAgg,cut]
theorem law_k5:∃st',(orcL S).call 0 0 7 [.int .i64 5] []=some (.bool true,st'):=by
 refine⟨[],?_⟩
 have kn:=fun wl li st=>call_any (sf:=s14) rfl rfl rfl known0 wl li st
 have pk:=fun wl li st=>prog_ok wl li t5 st
 have hfi:=fine_progS t5
 obtain⟨h1,h2,h3,h4,h5⟩:=ok_of kn5
 have hrun:=fun wl li st=>run_fine hfi (inp:=.lst 1 [[.int .i64 6]]) rfl rfl 5000 (by omega) wl li st
 rw[show Ax.dI (.lst 1 [[.int .i64 6]])=[6] from rfl,show (5000:Int).toNat=fuelK (0) from rfl]at hrun
 refine call_pure (sf:=s7) rfl rfl rfl rfl rfl ?_
 obtain⟨e1,e2⟩:=h5 rfl
 clear h3 h4 h5
 have io:=fun wl li st=>ints_lst wl li (semR (progS t5).1 [6] (fuelK (0))).out [0] (by rw[h2];decide) st
 rw[h2,show lstV 1 (ints [0])=.lst 1 [[.int .i64 0]] from rfl,show decide (([0]:List Int)=[0])=true from rfl]at io
 unfold behV at hrun
 rw[h2,e1,e2]at hrun
 rw[show outL [0]=.lst 1 [[.int .i64 0]] from rfl]at io hrun
 clear h2 e1 e2
 unfold t5 at pk hrun h1
 generalize hP:progS _=P at *
 obtain⟨p,fe,fa⟩:=P
 simp only at pk hrun h1
 subst h1
 clear hP hfi
 have r1:isSl (lstV 3 (p.recs.map Rc.row))=true:=isSl_lstV
 have r2:(lstV 3 (p.recs.map Rc.row)).view=lstV 3 (p.recs.map Rc.row):=view_lstV
 have f1:isSl (lstV 7 (p.funcs.map Fc.row))=true:=isSl_lstV
 have f2:(lstV 7 (p.funcs.map Fc.row)).view=lstV 7 (p.funcs.map Fc.row):=view_lstV
 have g1:isSl (lstV 4 (p.globals.map PD.cells))=true:=isSl_lstV
 have g2:(lstV 4 (p.globals.map PD.cells)).view=lstV 4 (p.globals.map PD.cells):=view_lstV
 unfold Pg.row at pk hrun
 generalize lstV 3 (p.recs.map Rc.row)=PR at *
 generalize lstV 7 (p.funcs.map Fc.row)=PF at *
 generalize lstV 4 (p.globals.map PD.cells)=PG at *
 simp[s7,pk,r1,r2,f1,f2,g1,g2,paste,AV.view,hrun,W_draw0,noBoxes,io,kn,oneOrAgg,cut]
theorem law_k6:∃st',(orcL S).call 0 0 7 [.int .i64 6] []=some (.bool true,st'):=by
 refine⟨[],?_⟩
 have kn:=fun wl li st=>call_any (sf:=s14) rfl rfl rfl known0 wl li st
 have pk:=fun wl li st=>prog_ok wl li t6 st
 have hfi:=fine_progS t6
 obtain⟨h1,h2,h3,h4,h5⟩:=ok_of kn6
 have hrun:=fun wl li st=>run_fine hfi (inp:=.lst 1 [[.int .i64 6]]) rfl rfl 5000 (by omega) wl li st
 rw[show Ax.dI (.lst 1 [[.int .i64 6]])=[6] from rfl,show (5000:Int).toNat=fuelK (3) from rfl]at hrun
 refine call_pure (sf:=s7) rfl rfl rfl rfl rfl ?_
 obtain⟨e1,e2⟩:=h4 (by decide)
 clear h3 h4 h5
 have io:=fun wl li st=>ints_emp wl li (semR (progS t6).1 [6] (fuelK (3))).out (by rw[h2];decide) st
 rw[h2,show decide (([]:List Int)=[])=true from rfl]at io
 unfold behV at hrun
 rw[h2,e1,e2]at hrun
 rw[show outL []=.nilSl from rfl]at io hrun
 clear h2 e1 e2
 unfold t6 at pk hrun h1
 generalize hP:progS _=P at *
 obtain⟨p,fe,fa⟩:=P
 simp only at pk hrun h1
 subst h1
 clear hP hfi
 have r1:isSl (lstV 3 (p.recs.map Rc.row))=true:=isSl_lstV
 have r2:(lstV 3 (p.recs.map Rc.row)).view=lstV 3 (p.recs.map Rc.row):=view_lstV
 have f1:isSl (lstV 7 (p.funcs.map Fc.row))=true:=isSl_lstV
 have f2:(lstV 7 (p.funcs.map Fc.row)).view=lstV 7 (p.funcs.map Fc.row):=view_lstV
 have g1:isSl (lstV 4 (p.globals.map PD.cells))=true:=isSl_lstV
 have g2:(lstV 4 (p.globals.map PD.cells)).view=lstV 4 (p.globals.map PD.cells):=view_lstV
 unfold Pg.row at pk hrun
 generalize lstV 3 (p.recs.map Rc.row)=PR at *
 generalize lstV 7 (p.funcs.map Fc.row)=PF at *
 generalize lstV 4 (p.globals.map PD.cells)=PG at *
 simp[s7,pk,r1,r2,f1,f2,g1,g2,paste,AV.view,hrun,W_draw0,noBoxes,io,kn,oneOrAgg,cut]
theorem law_k7:∃st',(orcL S).call 0 0 7 [.int .i64 7] []=some (.bool true,st'):=by
 refine⟨[],?_⟩
 have kn:=fun wl li st=>call_any (sf:=s14) rfl rfl rfl known0 wl li st
 have pk:=fun wl li st=>prog_ok wl li t7 st
 have hfi:=fine_progS t7
 obtain⟨h1,h2,h3,h4,h5⟩:=ok_of kn7
 have hrun:=fun wl li st=>run_fine hfi (inp:=.lst 1 [[.int .i64 6]]) rfl rfl 5000 (by omega) wl li st
 rw[show Ax.dI (.lst 1 [[.int .i64 6]])=[6] from rfl,show (5000:Int).toNat=fuelK (1) from rfl]at hrun
 refine call_pure (sf:=s7) rfl rfl rfl rfl rfl ?_
 obtain⟨e1,e2⟩:=h4 (by decide)
 clear h3 h4 h5
 have io:=fun wl li st=>ints_lst wl li (semR (progS t7).1 [6] (fuelK (1))).out [1] (by rw[h2];decide) st
 rw[h2,show lstV 1 (ints [1])=.lst 1 [[.int .i64 1]] from rfl,show decide (([1]:List Int)=[1])=true from rfl]at io
 unfold behV at hrun
 rw[h2,e1,e2]at hrun
 rw[show outL [1]=.lst 1 [[.int .i64 1]] from rfl]at io hrun
 clear h2 e1 e2
 unfold t7 at pk hrun h1
 generalize hP:progS _=P at *
 obtain⟨p,fe,fa⟩:=P
 simp only at pk hrun h1
 subst h1
 clear hP hfi
 have r1:isSl (lstV 3 (p.recs.map Rc.row))=true:=isSl_lstV
 have r2:(lstV 3 (p.recs.map Rc.row)).view=lstV 3 (p.recs.map Rc.row):=view_lstV
 have f1:isSl (lstV 7 (p.funcs.map Fc.row))=true:=isSl_lstV
 have f2:(lstV 7 (p.funcs.map Fc.row)).view=lstV 7 (p.funcs.map Fc.row):=view_lstV
 have g1:isSl (lstV 4 (p.globals.map PD.cells))=true:=isSl_lstV
 have g2:(lstV 4 (p.globals.map PD.cells)).view=lstV 4 (p.globals.map PD.cells):=view_lstV
 unfold Pg.row at pk hrun
 generalize lstV 3 (p.recs.map Rc.row)=PR at *
 generalize lstV 7 (p.funcs.map Fc.row)=PF at *
 generalize lstV 4 (p.globals.map PD.cells)=PG at *
 simp[s7,pk,r1,r2,f1,f2,g1,g2,paste,AV.view,hrun,W_draw0,noBoxes,io,kn,oneOrAgg,cut]
theorem law_k8:∃st',(orcL S).call 0 0 7 [.int .i64 8] []=some (.bool true,st'):=by
 refine⟨[],?_⟩
 have kn:=fun wl li st=>call_any (sf:=s14) rfl rfl rfl known0 wl li st
 have pk:=fun wl li st=>prog_ok wl li t8 st
 have hfi:=fine_progS t8
 obtain⟨h1,h2,h3,h4,h5⟩:=ok_of kn8
 have hrun:=fun wl li st=>run_fine hfi (inp:=.lst 1 [[.int .i64 6]]) rfl rfl 5000 (by omega) wl li st
 rw[show Ax.dI (.lst 1 [[.int .i64 6]])=[6] from rfl,show (5000:Int).toNat=fuelK (2) from rfl]at hrun
 refine call_pure (sf:=s7) rfl rfl rfl rfl rfl ?_
 obtain⟨e1,e2⟩:=h4 (by decide)
 clear h3 h4 h5
 have io:=fun wl li st=>ints_emp wl li (semR (progS t8).1 [6] (fuelK (2))).out (by rw[h2];decide) st
 rw[h2,show decide (([]:List Int)=[])=true from rfl]at io
 unfold behV at hrun
 rw[h2,e1,e2]at hrun
 rw[show outL []=.nilSl from rfl]at io hrun
 clear h2 e1 e2
 unfold t8 at pk hrun h1
 generalize hP:progS _=P at *
 obtain⟨p,fe,fa⟩:=P
 simp only at pk hrun h1
 subst h1
 clear hP hfi
 have r1:isSl (lstV 3 (p.recs.map Rc.row))=true:=isSl_lstV
 have r2:(lstV 3 (p.recs.map Rc.row)).view=lstV 3 (p.recs.map Rc.row):=view_lstV
 have f1:isSl (lstV 7 (p.funcs.map Fc.row))=true:=isSl_lstV
 have f2:(lstV 7 (p.funcs.map Fc.row)).view=lstV 7 (p.funcs.map Fc.row):=view_lstV
 have g1:isSl (lstV 4 (p.globals.map PD.cells))=true:=isSl_lstV
 have g2:(lstV 4 (p.globals.map PD.cells)).view=lstV 4 (p.globals.map PD.cells):=view_lstV
 unfold Pg.row at pk hrun
 generalize lstV 3 (p.recs.map Rc.row)=PR at *
 generalize lstV 7 (p.funcs.map Fc.row)=PF at *
 generalize lstV 4 (p.globals.map PD.cells)=PG at *
 simp[s7,pk,r1,r2,f1,f2,g1,g2,paste,AV.view,hrun,W_draw0,noBoxes,io,kn,oneOrAgg,cut]
theorem law_k9:∃st',(orcL S).call 0 0 7 [.int .i64 9] []=some (.bool true,st'):=by
 refine⟨[],?_⟩
 have kn:=fun wl li st=>call_any (sf:=s14) rfl rfl rfl known0 wl li st
 have pk:=fun wl li st=>prog_ok wl li t9 st
 have hfi:=fine_progS t9
 obtain⟨h1,h2,h3,h4,h5⟩:=ok_of kn9
 have hrun:=fun wl li st=>run_fine hfi (inp:=.lst 1 [[.int .i64 6]]) rfl rfl 5000 (by omega) wl li st
 rw[show Ax.dI (.lst 1 [[.int .i64 6]])=[6] from rfl,show (5000:Int).toNat=fuelK (5) from rfl]at hrun
 refine call_pure (sf:=s7) rfl rfl rfl rfl rfl ?_
 obtain⟨e1,e2⟩:=h4 (by decide)
 clear h3 h4 h5
 have io:=fun wl li st=>ints_lst wl li (semR (progS t9).1 [6] (fuelK (5))).out [6] (by rw[h2];decide) st
 rw[h2,show lstV 1 (ints [6])=.lst 1 [[.int .i64 6]] from rfl,show decide (([6]:List Int)=[6])=true from rfl]at io
 unfold behV at hrun
 rw[h2,e1,e2]at hrun
 rw[show outL [6]=.lst 1 [[.int .i64 6]] from rfl]at io hrun
 clear h2 e1 e2
 unfold t9 at pk hrun h1
 generalize hP:progS _=P at *
 obtain⟨p,fe,fa⟩:=P
 simp only at pk hrun h1
 subst h1
 clear hP hfi
 have r1:isSl (lstV 3 (p.recs.map Rc.row))=true:=isSl_lstV
 have r2:(lstV 3 (p.recs.map Rc.row)).view=lstV 3 (p.recs.map Rc.row):=view_lstV
 have f1:isSl (lstV 7 (p.funcs.map Fc.row))=true:=isSl_lstV
 have f2:(lstV 7 (p.funcs.map Fc.row)).view=lstV 7 (p.funcs.map Fc.row):=view_lstV
 have g1:isSl (lstV 4 (p.globals.map PD.cells))=true:=isSl_lstV
 have g2:(lstV 4 (p.globals.map PD.cells)).view=lstV 4 (p.globals.map PD.cells):=view_lstV
 unfold Pg.row at pk hrun
 generalize lstV 3 (p.recs.map Rc.row)=PR at *
 generalize lstV 7 (p.funcs.map Fc.row)=PF at *
 generalize lstV 4 (p.globals.map PD.cells)=PG at *
 simp[s7,pk,r1,r2,f1,f2,g1,g2,paste,AV.view,hrun,W_draw0,noBoxes,io,kn,oneOrAgg,cut]
theorem law_k10:∃st',(orcL S).call 0 0 7 [.int .i64 10] []=some (.bool true,st'):=by
 refine⟨[],?_⟩
 have kn:=fun wl li st=>call_any (sf:=s14) rfl rfl rfl known0 wl li st
 have pk:=fun wl li st=>prog_ok wl li t10 st
 have hfi:=fine_progS t10
 obtain⟨h1,h2,h3,h4,h5⟩:=ok_of kn10
 have hrun:=fun wl li st=>run_fine hfi (inp:=.lst 1 [[.int .i64 6]]) rfl rfl 5000 (by omega) wl li st
 rw[show Ax.dI (.lst 1 [[.int .i64 6]])=[6] from rfl,show (5000:Int).toNat=fuelK (6) from rfl]at hrun
 refine call_pure (sf:=s7) rfl rfl rfl rfl rfl ?_
 obtain⟨e1,e2⟩:=h4 (by decide)
 clear h3 h4 h5
 have io:=fun wl li st=>ints_lst wl li (semR (progS t10).1 [6] (fuelK (6))).out [3] (by rw[h2];decide) st
 rw[h2,show lstV 1 (ints [3])=.lst 1 [[.int .i64 3]] from rfl,show decide (([3]:List Int)=[3])=true from rfl]at io
 unfold behV at hrun
 rw[h2,e1,e2]at hrun
 rw[show outL [3]=.lst 1 [[.int .i64 3]] from rfl]at io hrun
 clear h2 e1 e2
 unfold t10 at pk hrun h1
 generalize hP:progS _=P at *
 obtain⟨p,fe,fa⟩:=P
 simp only at pk hrun h1
 subst h1
 clear hP hfi
 have r1:isSl (lstV 3 (p.recs.map Rc.row))=true:=isSl_lstV
 have r2:(lstV 3 (p.recs.map Rc.row)).view=lstV 3 (p.recs.map Rc.row):=view_lstV
 have f1:isSl (lstV 7 (p.funcs.map Fc.row))=true:=isSl_lstV
 have f2:(lstV 7 (p.funcs.map Fc.row)).view=lstV 7 (p.funcs.map Fc.row):=view_lstV
 have g1:isSl (lstV 4 (p.globals.map PD.cells))=true:=isSl_lstV
 have g2:(lstV 4 (p.globals.map PD.cells)).view=lstV 4 (p.globals.map PD.cells):=view_lstV
 unfold Pg.row at pk hrun
 generalize lstV 3 (p.recs.map Rc.row)=PR at *
 generalize lstV 7 (p.funcs.map Fc.row)=PF at *
 generalize lstV 4 (p.globals.map PD.cells)=PG at *
 simp[s7,pk,r1,r2,f1,f2,g1,g2,paste,AV.view,hrun,W_draw0,noBoxes,io,kn,oneOrAgg,cut]
theorem law_k11:∃st',(orcL S).call 0 0 7 [.int .i64 11] []=some (.bool true,st'):=by
 refine⟨[],?_⟩
 have kn:=fun wl li st=>call_any (sf:=s14) rfl rfl rfl known0 wl li st
 have pk:=fun wl li st=>prog_ok wl li t11 st
 have hfi:=fine_progS t11
 obtain⟨h1,h2,h3,h4,h5⟩:=ok_of kn11
 have hrun:=fun wl li st=>run_fine hfi (inp:=.lst 1 [[.int .i64 6]]) rfl rfl 5000 (by omega) wl li st
 rw[show Ax.dI (.lst 1 [[.int .i64 6]])=[6] from rfl,show (5000:Int).toNat=fuelK (4) from rfl]at hrun
 refine call_pure (sf:=s7) rfl rfl rfl rfl rfl ?_
 obtain⟨e1,e2⟩:=h4 (by decide)
 clear h3 h4 h5
 have io:=fun wl li st=>ints_emp wl li (semR (progS t11).1 [6] (fuelK (4))).out (by rw[h2];decide) st
 rw[h2,show decide (([]:List Int)=[])=true from rfl]at io
 unfold behV at hrun
 rw[h2,e1,e2]at hrun
 rw[show outL []=.nilSl from rfl]at io hrun
 clear h2 e1 e2
 unfold t11 at pk hrun h1
 generalize hP:progS _=P at *
 obtain⟨p,fe,fa⟩:=P
 simp only at pk hrun h1
 subst h1
 clear hP hfi
 have r1:isSl (lstV 3 (p.recs.map Rc.row))=true:=isSl_lstV
 have r2:(lstV 3 (p.recs.map Rc.row)).view=lstV 3 (p.recs.map Rc.row):=view_lstV
 have f1:isSl (lstV 7 (p.funcs.map Fc.row))=true:=isSl_lstV
 have f2:(lstV 7 (p.funcs.map Fc.row)).view=lstV 7 (p.funcs.map Fc.row):=view_lstV
 have g1:isSl (lstV 4 (p.globals.map PD.cells))=true:=isSl_lstV
 have g2:(lstV 4 (p.globals.map PD.cells)).view=lstV 4 (p.globals.map PD.cells):=view_lstV
 unfold Pg.row at pk hrun
 generalize lstV 3 (p.recs.map Rc.row)=PR at *
 generalize lstV 7 (p.funcs.map Fc.row)=PF at *
 generalize lstV 4 (p.globals.map PD.cells)=PG at *
 simp[s7,pk,r1,r2,f1,f2,g1,g2,paste,AV.view,hrun,W_draw0,noBoxes,io,kn,oneOrAgg,cut]
theorem law_k12:∃st',(orcL S).call 0 0 7 [.int .i64 12] []=some (.bool true,st'):=by
 refine⟨[],?_⟩
 have kn:=fun wl li st=>call_any (sf:=s14) rfl rfl rfl known0 wl li st
 have pk:=fun wl li st=>prog_ok wl li t12 st
 have hfi:=fine_progS t12
 obtain⟨h1,h2,h3,h4,h5⟩:=ok_of kn12
 have hrun:=fun wl li st=>run_fine hfi (inp:=.lst 1 [[.int .i64 6]]) rfl rfl 13 (by omega) wl li st
 rw[show Ax.dI (.lst 1 [[.int .i64 6]])=[6] from rfl,show (13:Int).toNat=fuelK (-1) from rfl]at hrun
 refine call_pure (sf:=s7) rfl rfl rfl rfl rfl ?_
 have e1:=h3 (by decide)
 clear h3 h4 h5
 have io:=fun wl li st=>ints_lst wl li (semR (progS t12).1 [6] (fuelK (-1))).out [1,1,1] (by rw[h2];decide) st
 rw[h2,show lstV 1 (ints [1,1,1])=.lst 1 [[.int .i64 1],[.int .i64 1],[.int .i64 1]] from rfl,show decide (([1,1,1]:List Int)=[1,1,1])=true from rfl]at io
 unfold behV at hrun
 rw[h2,e1]at hrun
 rw[show outL [1,1,1]=.lst 1 [[.int .i64 1],[.int .i64 1],[.int .i64 1]] from rfl]at io hrun
 clear h2 e1
 unfold t12 at pk hrun h1
 generalize hP:progS _=P at *
 obtain⟨p,fe,fa⟩:=P
 simp only at pk hrun h1
 subst h1
 clear hP hfi
 have r1:isSl (lstV 3 (p.recs.map Rc.row))=true:=isSl_lstV
 have r2:(lstV 3 (p.recs.map Rc.row)).view=lstV 3 (p.recs.map Rc.row):=view_lstV
 have f1:isSl (lstV 7 (p.funcs.map Fc.row))=true:=isSl_lstV
 have f2:(lstV 7 (p.funcs.map Fc.row)).view=lstV 7 (p.funcs.map Fc.row):=view_lstV
 have g1:isSl (lstV 4 (p.globals.map PD.cells))=true:=isSl_lstV
 have g2:(lstV 4 (p.globals.map PD.cells)).view=lstV 4 (p.globals.map PD.cells):=view_lstV
 unfold Pg.row at pk hrun
 generalize lstV 3 (p.recs.map Rc.row)=PR at *
 generalize lstV 7 (p.funcs.map Fc.row)=PF at *
 generalize lstV 4 (p.globals.map PD.cells)=PG at *
 simp[s7,pk,r1,r2,f1,f2,g1,g2,paste,AV.view,hrun,W_draw0,noBoxes,io,kn,oneOrAgg,cut]
theorem law_k13:∃st',(orcL S).call 0 0 7 [.int .i64 13] []=some (.bool true,st'):=by
 refine⟨[],?_⟩
 have kn:=fun wl li st=>call_any (sf:=s14) rfl rfl rfl known0 wl li st
 have pk:=fun wl li st=>prog_ok wl li t13 st
 have hfi:=fine_progS t13
 obtain⟨h1,h2,h3,h4,h5⟩:=ok_of kn13
 have hrun:=fun wl li st=>run_fine hfi (inp:=.lst 1 [[.int .i64 6]]) rfl rfl 5000 (by omega) wl li st
 rw[show Ax.dI (.lst 1 [[.int .i64 6]])=[6] from rfl,show (5000:Int).toNat=fuelK (0) from rfl]at hrun
 refine call_pure (sf:=s7) rfl rfl rfl rfl rfl ?_
 obtain⟨e1,e2⟩:=h5 rfl
 clear h3 h4 h5
 have io:=fun wl li st=>ints_lst wl li (semR (progS t13).1 [6] (fuelK (0))).out [8] (by rw[h2];decide) st
 rw[h2,show lstV 1 (ints [8])=.lst 1 [[.int .i64 8]] from rfl,show decide (([8]:List Int)=[8])=true from rfl]at io
 unfold behV at hrun
 rw[h2,e1,e2]at hrun
 rw[show outL [8]=.lst 1 [[.int .i64 8]] from rfl]at io hrun
 clear h2 e1 e2
 unfold t13 at pk hrun h1
 generalize hP:progS _=P at *
 obtain⟨p,fe,fa⟩:=P
 simp only at pk hrun h1
 subst h1
 clear hP hfi
 have r1:isSl (lstV 3 (p.recs.map Rc.row))=true:=isSl_lstV
 have r2:(lstV 3 (p.recs.map Rc.row)).view=lstV 3 (p.recs.map Rc.row):=view_lstV
 have f1:isSl (lstV 7 (p.funcs.map Fc.row))=true:=isSl_lstV
 have f2:(lstV 7 (p.funcs.map Fc.row)).view=lstV 7 (p.funcs.map Fc.row):=view_lstV
 have g1:isSl (lstV 4 (p.globals.map PD.cells))=true:=isSl_lstV
 have g2:(lstV 4 (p.globals.map PD.cells)).view=lstV 4 (p.globals.map PD.cells):=view_lstV
 unfold Pg.row at pk hrun
 generalize lstV 3 (p.recs.map Rc.row)=PR at *
 generalize lstV 7 (p.funcs.map Fc.row)=PF at *
 generalize lstV 4 (p.globals.map PD.cells)=PG at *
 simp[s7,pk,r1,r2,f1,f2,g1,g2,paste,AV.view,hrun,W_draw0,noBoxes,io,kn,oneOrAgg,cut]
theorem law_known (n:Int):∃st',(orcL S).call 0 0 7 [.int .i64 n] []=some (.bool true,st'):=by
 by_cases c1:n<0
 ·refine⟨[],?_⟩
  refine call_pure (sf:=s7) rfl rfl rfl rfl rfl ?_
  simp[s7,c1]
 by_cases c2:14<=n
 ·refine⟨[],?_⟩
  refine call_pure (sf:=s7) rfl rfl rfl rfl rfl ?_
  simp[s7,c1,c2]
 obtain⟨k,rfl⟩:∃k:Nat,n=k:=⟨n.toNat,by omega⟩
 have hk:k<14:=by omega
 match k,hk with
 |0,_=>exact law_k0
 |1,_=>exact law_k1
 |2,_=>exact law_k2
 |3,_=>exact law_k3
 |4,_=>exact law_k4
 |5,_=>exact law_k5
 |6,_=>exact law_k6
 |7,_=>exact law_k7
 |8,_=>exact law_k8
 |9,_=>exact law_k9
 |10,_=>exact law_k10
 |11,_=>exact law_k11
 |12,_=>exact law_k12
 |13,_=>exact law_k13
end E11
