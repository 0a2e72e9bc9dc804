/-
  SemOrder.
-/
import Derived.Test.YtpnadocbfbbboaaGreatI
import Derived.KernelRfl

set_option maxRecDepth 100000
set_option maxHeartbeats 8000000
namespace E11
open Ax Go Code11 V7 Par Chk Run K9 S9 N7 U7
def okO (s:List UInt8):Bool:=let r:=semR (progS s).1 [] 2000;decide (r.e=1)&&decide (r.out=[4,9,1,2,-1])
theorem okO_of {s:List UInt8}(h:okO s=true):(semR (progS s).1 [] 2000).e=1/\(semR (progS s).1 [] 2000).out=[4,9,1,2,-1]:=by
 unfold okO at h
 simpa only [Bool.and_eq_true,decide_eq_true_eq] using h
theorem ints_l5 (wl li:Nat)(a b:List Int)(ha:a.length<1000000000)(st:Store):(orcL S).call wl li 17 [outL a,lstV 1 (ints b)] st=some (.bool (decide (a=b)),st):=by
 obtain⟨ia,da⟩:=outL_I a
 have:=ints_ok wl li ia (isI_lstV (l:=b)) (by rw[da];exact ha) st
 rw[da,dI_lstV]at this
 exact this
def o0:List UInt8:=[102,117,110,99,32,102,40,110,58,32,105,110,116,41,58,32,105,110,116,32,123,32,112,114,105,110,116,32,110,59,32,114,101,116,117,114,110,32,110,59,32,125,32,102,117,110,99,32,103,40,110,58,32,105,110,116,41,58,32,98,111,111,108,32,123,32,112,114,105,110,116,32,110,59,32,114,101,116,117,114,110,32,110,32,60,32,53,59,32,125,32,102,117,110,99,32,104,40,97,58,32,105,110,116,44,32,98,58,32,105,110,116,41,32,123,32,112,114,105,110,116,32,97,32,45,32,98,59,32,125,32,102,117,110,99,32,109,97,105,110,40,41,32,123,32,108,101,116,32,120,58,32,105,110,116,32,61,32,102,40,52,41,32,43,32,102,40,57,41,59,32,104,40,102,40,49,41,44,32,102,40,50,41,41,59,32,125]
theorem ord0:okO o0=true:=by kernel_rfl
theorem law_o0:∃st',(orcL S).call 0 0 9 [.int .i64 0] []=some (.bool true,st'):=by
 refine⟨[],?_⟩
 have kn:=fun wl li st=>call_any (sf:=s14) rfl rfl rfl known0 wl li st
 have pk:=fun wl li st=>prog_ok wl li o0 st
 have hfi:=fine_progS o0
 obtain⟨h1,h2⟩:=okO_of ord0
 have hrun:=fun wl li st=>run_fine hfi (inp:=.nilSl) rfl rfl 2000 (by omega) wl li st
 rw[show Ax.dI .nilSl=[] from rfl,show (2000:Int).toNat=2000 from rfl]at hrun
 refine call_pure (sf:=s9) rfl rfl rfl rfl rfl ?_
 have io:=fun wl li st=>ints_l5 wl li (semR (progS o0).1 [] 2000).out [4,9,1,2,-1] (by rw[h2];decide) st
 rw[h2,show lstV 1 (ints [4,9,1,2,-1])=.lst 1 [[.int .i64 4],[.int .i64 9],[.int .i64 1],[.int .i64 2],[.int .i64 (-1)]] from rfl,show decide (([4,9,1,2,-1]:List Int)=[4,9,1,2,-1])=true from rfl]at io
 unfold behV at hrun
 rw[h2,h1]at hrun
 rw[show outL [4,9,1,2,-1]=.lst 1 [[.int .i64 4],[.int .i64 9],[.int .i64 1],[.int .i64 2],[.int .i64 (-1)]] from rfl]at io hrun
 clear h1 h2
 unfold o0 at pk hrun
 generalize hP:progS _=P at *
 obtain⟨p,fe,fa⟩:=P
 simp only at pk hrun
 clear hP hfi
 have r1:isSl (lstV 3 (p.recs.map Rc.row))=true:=isSl_lstV
 have r2:(lstV 3 (p.recs.map Rc.row)).view=lstV 3 (p.recs.map Rc.row):=view_lstV
 have f1:isSl (lstV 7 (p.funcs.map Fc.row))=true:=isSl_lstV
 have f2:(lstV 7 (p.funcs.map Fc.row)).view=lstV 7 (p.funcs.map Fc.row):=view_lstV
 have g1:isSl (lstV 4 (p.globals.map PD.cells))=true:=isSl_lstV
 have g2:(lstV 4 (p.globals.map PD.cells)).view=lstV 4 (p.globals.map PD.cells):=view_lstV
 unfold Pg.row at pk hrun
 generalize lstV 3 (p.recs.map Rc.row)=PR at *
 generalize lstV 7 (p.funcs.map Fc.row)=PF at *
 generalize lstV 4 (p.globals.map PD.cells)=PG at *
 simp[s9,pk,r1,r2,f1,f2,g1,g2,paste,AV.view,hrun,io,kn,oneOrAgg,cut]
def o1:List UInt8:=[102,117,110,99,32,102,40,110,58,32,105,110,116,41,58,32,105,110,116,32,123,32,112,114,105,110,116,32,110,59,32,114,101,116,117,114,110,32,110,59,32,125,32,102,117,110,99,32,103,40,110,58,32,105,110,116,41,58,32,98,111,111,108,32,123,32,112,114,105,110,116,32,110,59,32,114,101,116,117,114,110,32,110,32,60,32,53,59,32,125,32,102,117,110,99,32,104,40,97,58,32,105,110,116,44,32,98,58,32,105,110,116,41,32,123,32,112,114,105,110,116,32,97,32,45,32,98,59,32,125,32,102,117,110,99,32,109,97,105,110,40,41,32,123,32,108,101,116,32,120,58,32,105,110,116,32,61,32,102,40,52,41,32,45,32,102,40,57,41,59,32,104,40,102,40,49,41,44,32,102,40,50,41,41,59,32,125]
theorem ord1:okO o1=true:=by kernel_rfl
theorem law_o1:∃st',(orcL S).call 0 0 9 [.int .i64 1] []=some (.bool true,st'):=by
 refine⟨[],?_⟩
 have kn:=fun wl li st=>call_any (sf:=s14) rfl rfl rfl known0 wl li st
 have pk:=fun wl li st=>prog_ok wl li o1 st
 have hfi:=fine_progS o1
 obtain⟨h1,h2⟩:=okO_of ord1
 have hrun:=fun wl li st=>run_fine hfi (inp:=.nilSl) rfl rfl 2000 (by omega) wl li st
 rw[show Ax.dI .nilSl=[] from rfl,show (2000:Int).toNat=2000 from rfl]at hrun
 refine call_pure (sf:=s9) rfl rfl rfl rfl rfl ?_
 have io:=fun wl li st=>ints_l5 wl li (semR (progS o1).1 [] 2000).out [4,9,1,2,-1] (by rw[h2];decide) st
 rw[h2,show lstV 1 (ints [4,9,1,2,-1])=.lst 1 [[.int .i64 4],[.int .i64 9],[.int .i64 1],[.int .i64 2],[.int .i64 (-1)]] from rfl,show decide (([4,9,1,2,-1]:List Int)=[4,9,1,2,-1])=true from rfl]at io
 unfold behV at hrun
 rw[h2,h1]at hrun
 rw[show outL [4,9,1,2,-1]=.lst 1 [[.int .i64 4],[.int .i64 9],[.int .i64 1],[.int .i64 2],[.int .i64 (-1)]] from rfl]at io hrun
 clear h1 h2
 unfold o1 at pk hrun
 generalize hP:progS _=P at *
 obtain⟨p,fe,fa⟩:=P
 simp only at pk hrun
 clear hP hfi
 have r1:isSl (lstV 3 (p.recs.map Rc.row))=true:=isSl_lstV
 have r2:(lstV 3 (p.recs.map Rc.row)).view=lstV 3 (p.recs.map Rc.row):=view_lstV
 have f1:isSl (lstV 7 (p.funcs.map Fc.row))=true:=isSl_lstV
 have f2:(lstV 7 (p.funcs.map Fc.row)).view=lstV 7 (p.funcs.map Fc.row):=view_lstV
 have g1:isSl (lstV 4 (p.globals.map PD.cells))=true:=isSl_lstV
 have g2:(lstV 4 (p.globals.map PD.cells)).view=lstV 4 (p.globals.map PD.cells):=view_lstV
 unfold Pg.row at pk hrun
 generalize lstV 3 (p.recs.map Rc.row)=PR at *
 generalize lstV 7 (p.funcs.map Fc.row)=PF at *
 generalize lstV 4 (p.globals.map PD.cells)=PG at *
 simp[s9,pk,r1,r2,f1,f2,g1,g2,paste,AV.view,hrun,io,kn,oneOrAgg,cut]
def o2:List UInt8:=[102,117,110,99,32,102,40,110,58,32,105,110,116,41,58,32,105,110,116,32,123,32,112,114,105,110,116,32,110,59,32,114,101,116,117,114,110,32,110,59,32,125,32,102,117,110,99,32,103,40,110,58,32,105,110,116,41,58,32,98,111,111,108,32,123,32,112,114,105,110,116,32,110,59,32,114,101,116,117,114,110,32,110,32,60,32,53,59,32,125,32,102,117,110,99,32,104,40,97,58,32,105,110,116,44,32,98,58,32,105,110,116,41,32,123,32,112,114,105,110,116,32,97,32,45,32,98,59,32,125,32,102,117,110,99,32,109,97,105,110,40,41,32,123,32,108,101,116,32,120,58,32,105,110,116,32,61,32,102,40,52,41,32,42,32,102,40,57,41,59,32,104,40,102,40,49,41,44,32,102,40,50,41,41,59,32,125]
theorem ord2:okO o2=true:=by kernel_rfl
theorem law_o2:∃st',(orcL S).call 0 0 9 [.int .i64 2] []=some (.bool true,st'):=by
 refine⟨[],?_⟩
 have kn:=fun wl li st=>call_any (sf:=s14) rfl rfl rfl known0 wl li st
 have pk:=fun wl li st=>prog_ok wl li o2 st
 have hfi:=fine_progS o2
 obtain⟨h1,h2⟩:=okO_of ord2
 have hrun:=fun wl li st=>run_fine hfi (inp:=.nilSl) rfl rfl 2000 (by omega) wl li st
 rw[show Ax.dI .nilSl=[] from rfl,show (2000:Int).toNat=2000 from rfl]at hrun
 refine call_pure (sf:=s9) rfl rfl rfl rfl rfl ?_
 have io:=fun wl li st=>ints_l5 wl li (semR (progS o2).1 [] 2000).out [4,9,1,2,-1] (by rw[h2];decide) st
 rw[h2,show lstV 1 (ints [4,9,1,2,-1])=.lst 1 [[.int .i64 4],[.int .i64 9],[.int .i64 1],[.int .i64 2],[.int .i64 (-1)]] from rfl,show decide (([4,9,1,2,-1]:List Int)=[4,9,1,2,-1])=true from rfl]at io
 unfold behV at hrun
 rw[h2,h1]at hrun
 rw[show outL [4,9,1,2,-1]=.lst 1 [[.int .i64 4],[.int .i64 9],[.int .i64 1],[.int .i64 2],[.int .i64 (-1)]] from rfl]at io hrun
 clear h1 h2
 unfold o2 at pk hrun
 generalize hP:progS _=P at *
 obtain⟨p,fe,fa⟩:=P
 simp only at pk hrun
 clear hP hfi
 have r1:isSl (lstV 3 (p.recs.map Rc.row))=true:=isSl_lstV
 have r2:(lstV 3 (p.recs.map Rc.row)).view=lstV 3 (p.recs.map Rc.row):=view_lstV
 have f1:isSl (lstV 7 (p.funcs.map Fc.row))=true:=isSl_lstV
 have f2:(lstV 7 (p.funcs.map Fc.row)).view=lstV 7 (p.funcs.map Fc.row):=view_lstV
 have g1:isSl (lstV 4 (p.globals.map PD.cells))=true:=isSl_lstV
 have g2:(lstV 4 (p.globals.map PD.cells)).view=lstV 4 (p.globals.map PD.cells):=view_lstV
 unfold Pg.row at pk hrun
 generalize lstV 3 (p.recs.map Rc.row)=PR at *
 generalize lstV 7 (p.funcs.map Fc.row)=PF at *
 generalize lstV 4 (p.globals.map PD.cells)=PG at *
 simp[s9,pk,r1,r2,f1,f2,g1,g2,paste,AV.view,hrun,io,kn,oneOrAgg,cut]
def o3:List UInt8:=[102,117,110,99,32,102,40,110,58,32,105,110,116,41,58,32,105,110,116,32,123,32,112,114,105,110,116,32,110,59,32,114,101,116,117,114,110,32,110,59,32,125,32,102,117,110,99,32,103,40,110,58,32,105,110,116,41,58,32,98,111,111,108,32,123,32,112,114,105,110,116,32,110,59,32,114,101,116,117,114,110,32,110,32,60,32,53,59,32,125,32,102,117,110,99,32,104,40,97,58,32,105,110,116,44,32,98,58,32,105,110,116,41,32,123,32,112,114,105,110,116,32,97,32,45,32,98,59,32,125,32,102,117,110,99,32,109,97,105,110,40,41,32,123,32,108,101,116,32,120,58,32,105,110,116,32,61,32,102,40,52,41,32,47,32,102,40,57,41,59,32,104,40,102,40,49,41,44,32,102,40,50,41,41,59,32,125]
theorem ord3:okO o3=true:=by kernel_rfl
theorem law_o3:∃st',(orcL S).call 0 0 9 [.int .i64 3] []=some (.bool true,st'):=by
 refine⟨[],?_⟩
 have kn:=fun wl li st=>call_any (sf:=s14) rfl rfl rfl known0 wl li st
 have pk:=fun wl li st=>prog_ok wl li o3 st
 have hfi:=fine_progS o3
 obtain⟨h1,h2⟩:=okO_of ord3
 have hrun:=fun wl li st=>run_fine hfi (inp:=.nilSl) rfl rfl 2000 (by omega) wl li st
 rw[show Ax.dI .nilSl=[] from rfl,show (2000:Int).toNat=2000 from rfl]at hrun
 refine call_pure (sf:=s9) rfl rfl rfl rfl rfl ?_
 have io:=fun wl li st=>ints_l5 wl li (semR (progS o3).1 [] 2000).out [4,9,1,2,-1] (by rw[h2];decide) st
 rw[h2,show lstV 1 (ints [4,9,1,2,-1])=.lst 1 [[.int .i64 4],[.int .i64 9],[.int .i64 1],[.int .i64 2],[.int .i64 (-1)]] from rfl,show decide (([4,9,1,2,-1]:List Int)=[4,9,1,2,-1])=true from rfl]at io
 unfold behV at hrun
 rw[h2,h1]at hrun
 rw[show outL [4,9,1,2,-1]=.lst 1 [[.int .i64 4],[.int .i64 9],[.int .i64 1],[.int .i64 2],[.int .i64 (-1)]] from rfl]at io hrun
 clear h1 h2
 unfold o3 at pk hrun
 generalize hP:progS _=P at *
 obtain⟨p,fe,fa⟩:=P
 simp only at pk hrun
 clear hP hfi
 have r1:isSl (lstV 3 (p.recs.map Rc.row))=true:=isSl_lstV
 have r2:(lstV 3 (p.recs.map Rc.row)).view=lstV 3 (p.recs.map Rc.row):=view_lstV
 have f1:isSl (lstV 7 (p.funcs.map Fc.row))=true:=isSl_lstV
 have f2:(lstV 7 (p.funcs.map Fc.row)).view=lstV 7 (p.funcs.map Fc.row):=view_lstV
 have g1:isSl (lstV 4 (p.globals.map PD.cells))=true:=isSl_lstV
 have g2:(lstV 4 (p.globals.map PD.cells)).view=lstV 4 (p.globals.map PD.cells):=view_lstV
 unfold Pg.row at pk hrun
 generalize lstV 3 (p.recs.map Rc.row)=PR at *
 generalize lstV 7 (p.funcs.map Fc.row)=PF at *
 generalize lstV 4 (p.globals.map PD.cells)=PG at *
 simp[s9,pk,r1,r2,f1,f2,g1,g2,paste,AV.view,hrun,io,kn,oneOrAgg,cut]
def o4:List UInt8:=[102,117,110,99,32,102,40,110,58,32,105,110,116,41,58,32,105,110,116,32,123,32,112,114,105,110,116,32,110,59,32,114,101,116,117,114,110,32,110,59,32,125,32,102,117,110,99,32,103,40,110,58,32,105,110,116,41,58,32,98,111,111,108,32,123,32,112,114,105,110,116,32,110,59,32,114,101,116,117,114,110,32,110,32,60,32,53,59,32,125,32,102,117,110,99,32,104,40,97,58,32,105,110,116,44,32,98,58,32,105,110,116,41,32,123,32,112,114,105,110,116,32,97,32,45,32,98,59,32,125,32,102,117,110,99,32,109,97,105,110,40,41,32,123,32,108,101,116,32,120,58,32,105,110,116,32,61,32,102,40,52,41,32,37,32,102,40,57,41,59,32,104,40,102,40,49,41,44,32,102,40,50,41,41,59,32,125]
theorem ord4:okO o4=true:=by kernel_rfl
theorem law_o4:∃st',(orcL S).call 0 0 9 [.int .i64 4] []=some (.bool true,st'):=by
 refine⟨[],?_⟩
 have kn:=fun wl li st=>call_any (sf:=s14) rfl rfl rfl known0 wl li st
 have pk:=fun wl li st=>prog_ok wl li o4 st
 have hfi:=fine_progS o4
 obtain⟨h1,h2⟩:=okO_of ord4
 have hrun:=fun wl li st=>run_fine hfi (inp:=.nilSl) rfl rfl 2000 (by omega) wl li st
 rw[show Ax.dI .nilSl=[] from rfl,show (2000:Int).toNat=2000 from rfl]at hrun
 refine call_pure (sf:=s9) rfl rfl rfl rfl rfl ?_
 have io:=fun wl li st=>ints_l5 wl li (semR (progS o4).1 [] 2000).out [4,9,1,2,-1] (by rw[h2];decide) st
 rw[h2,show lstV 1 (ints [4,9,1,2,-1])=.lst 1 [[.int .i64 4],[.int .i64 9],[.int .i64 1],[.int .i64 2],[.int .i64 (-1)]] from rfl,show decide (([4,9,1,2,-1]:List Int)=[4,9,1,2,-1])=true from rfl]at io
 unfold behV at hrun
 rw[h2,h1]at hrun
 rw[show outL [4,9,1,2,-1]=.lst 1 [[.int .i64 4],[.int .i64 9],[.int .i64 1],[.int .i64 2],[.int .i64 (-1)]] from rfl]at io hrun
 clear h1 h2
 unfold o4 at pk hrun
 generalize hP:progS _=P at *
 obtain⟨p,fe,fa⟩:=P
 simp only at pk hrun
 clear hP hfi
 have r1:isSl (lstV 3 (p.recs.map Rc.row))=true:=isSl_lstV
 have r2:(lstV 3 (p.recs.map Rc.row)).view=lstV 3 (p.recs.map Rc.row):=view_lstV
 have f1:isSl (lstV 7 (p.funcs.map Fc.row))=true:=isSl_lstV
 have f2:(lstV 7 (p.funcs.map Fc.row)).view=lstV 7 (p.funcs.map Fc.row):=view_lstV
 have g1:isSl (lstV 4 (p.globals.map PD.cells))=true:=isSl_lstV
 have g2:(lstV 4 (p.globals.map PD.cells)).view=lstV 4 (p.globals.map PD.cells):=view_lstV
 unfold Pg.row at pk hrun
 generalize lstV 3 (p.recs.map Rc.row)=PR at *
 generalize lstV 7 (p.funcs.map Fc.row)=PF at *
 generalize lstV 4 (p.globals.map PD.cells)=PG at *
 simp[s9,pk,r1,r2,f1,f2,g1,g2,paste,AV.view,hrun,io,kn,oneOrAgg,cut]
def o5:List UInt8:=[102,117,110,99,32,102,40,110,58,32,105,110,116,41,58,32,105,110,116,32,123,32,112,114,105,110,116,32,110,59,32,114,101,116,117,114,110,32,110,59,32,125,32,102,117,110,99,32,103,40,110,58,32,105,110,116,41,58,32,98,111,111,108,32,123,32,112,114,105,110,116,32,110,59,32,114,101,116,117,114,110,32,110,32,60,32,53,59,32,125,32,102,117,110,99,32,104,40,97,58,32,105,110,116,44,32,98,58,32,105,110,116,41,32,123,32,112,114,105,110,116,32,97,32,45,32,98,59,32,125,32,102,117,110,99,32,109,97,105,110,40,41,32,123,32,108,101,116,32,120,58,32,98,111,111,108,32,61,32,102,40,52,41,32,60,32,102,40,57,41,59,32,104,40,102,40,49,41,44,32,102,40,50,41,41,59,32,125]
theorem ord5:okO o5=true:=by kernel_rfl
theorem law_o5:∃st',(orcL S).call 0 0 9 [.int .i64 5] []=some (.bool true,st'):=by
 refine⟨[],?_⟩
 have kn:=fun wl li st=>call_any (sf:=s14) rfl rfl rfl known0 wl li st
 have pk:=fun wl li st=>prog_ok wl li o5 st
 have hfi:=fine_progS o5
 obtain⟨h1,h2⟩:=okO_of ord5
 have hrun:=fun wl li st=>run_fine hfi (inp:=.nilSl) rfl rfl 2000 (by omega) wl li st
 rw[show Ax.dI .nilSl=[] from rfl,show (2000:Int).toNat=2000 from rfl]at hrun
 refine call_pure (sf:=s9) rfl rfl rfl rfl rfl ?_
 have io:=fun wl li st=>ints_l5 wl li (semR (progS o5).1 [] 2000).out [4,9,1,2,-1] (by rw[h2];decide) st
 rw[h2,show lstV 1 (ints [4,9,1,2,-1])=.lst 1 [[.int .i64 4],[.int .i64 9],[.int .i64 1],[.int .i64 2],[.int .i64 (-1)]] from rfl,show decide (([4,9,1,2,-1]:List Int)=[4,9,1,2,-1])=true from rfl]at io
 unfold behV at hrun
 rw[h2,h1]at hrun
 rw[show outL [4,9,1,2,-1]=.lst 1 [[.int .i64 4],[.int .i64 9],[.int .i64 1],[.int .i64 2],[.int .i64 (-1)]] from rfl]at io hrun
 clear h1 h2
 unfold o5 at pk hrun
 generalize hP:progS _=P at *
 obtain⟨p,fe,fa⟩:=P
 simp only at pk hrun
 clear hP hfi
 have r1:isSl (lstV 3 (p.recs.map Rc.row))=true:=isSl_lstV
 have r2:(lstV 3 (p.recs.map Rc.row)).view=lstV 3 (p.recs.map Rc.row):=view_lstV
 have f1:isSl (lstV 7 (p.funcs.map Fc.row))=true:=isSl_lstV
 have f2:(lstV 7 (p.funcs.map Fc.row)).view=lstV 7 (p.funcs.map Fc.row):=view_lstV
 have g1:isSl (lstV 4 (p.globals.map PD.cells))=true:=isSl_lstV
 have g2:(lstV 4 (p.globals.map PD.cells)).view=lstV 4 (p.globals.map PD.cells):=view_lstV
 unfold Pg.row at pk hrun
 generalize lstV 3 (p.recs.map Rc.row)=PR at *
 generalize lstV 7 (p.funcs.map Fc.row)=PF at *
 generalize lstV 4 (p.globals.map PD.cells)=PG at *
 simp[s9,pk,r1,r2,f1,f2,g1,g2,paste,AV.view,hrun,io,kn,oneOrAgg,cut]
def o6:List UInt8:=[102,117,110,99,32,102,40,110,58,32,105,110,116,41,58,32,105,110,116,32,123,32,112,114,105,110,116,32,110,59,32,114,101,116,117,114,110,32,110,59,32,125,32,102,117,110,99,32,103,40,110,58,32,105,110,116,41,58,32,98,111,111,108,32,123,32,112,114,105,110,116,32,110,59,32,114,101,116,117,114,110,32,110,32,60,32,53,59,32,125,32,102,117,110,99,32,104,40,97,58,32,105,110,116,44,32,98,58,32,105,110,116,41,32,123,32,112,114,105,110,116,32,97,32,45,32,98,59,32,125,32,102,117,110,99,32,109,97,105,110,40,41,32,123,32,108,101,116,32,120,58,32,98,111,111,108,32,61,32,102,40,52,41,32,60,61,32,102,40,57,41,59,32,104,40,102,40,49,41,44,32,102,40,50,41,41,59,32,125]
theorem ord6:okO o6=true:=by kernel_rfl
theorem law_o6:∃st',(orcL S).call 0 0 9 [.int .i64 6] []=some (.bool true,st'):=by
 refine⟨[],?_⟩
 have kn:=fun wl li st=>call_any (sf:=s14) rfl rfl rfl known0 wl li st
 have pk:=fun wl li st=>prog_ok wl li o6 st
 have hfi:=fine_progS o6
 obtain⟨h1,h2⟩:=okO_of ord6
 have hrun:=fun wl li st=>run_fine hfi (inp:=.nilSl) rfl rfl 2000 (by omega) wl li st
 rw[show Ax.dI .nilSl=[] from rfl,show (2000:Int).toNat=2000 from rfl]at hrun
 refine call_pure (sf:=s9) rfl rfl rfl rfl rfl ?_
 have io:=fun wl li st=>ints_l5 wl li (semR (progS o6).1 [] 2000).out [4,9,1,2,-1] (by rw[h2];decide) st
 rw[h2,show lstV 1 (ints [4,9,1,2,-1])=.lst 1 [[.int .i64 4],[.int .i64 9],[.int .i64 1],[.int .i64 2],[.int .i64 (-1)]] from rfl,show decide (([4,9,1,2,-1]:List Int)=[4,9,1,2,-1])=true from rfl]at io
 unfold behV at hrun
 rw[h2,h1]at hrun
 rw[show outL [4,9,1,2,-1]=.lst 1 [[.int .i64 4],[.int .i64 9],[.int .i64 1],[.int .i64 2],[.int .i64 (-1)]] from rfl]at io hrun
 clear h1 h2
 unfold o6 at pk hrun
 generalize hP:progS _=P at *
 obtain⟨p,fe,fa⟩:=P
 simp only at pk hrun
 clear hP hfi
 have r1:isSl (lstV 3 (p.recs.map Rc.row))=true:=isSl_lstV
 have r2:(lstV 3 (p.recs.map Rc.row)).view=lstV 3 (p.recs.map Rc.row):=view_lstV
 have f1:isSl (lstV 7 (p.funcs.map Fc.row))=true:=isSl_lstV
 have f2:(lstV 7 (p.funcs.map Fc.row)).view=lstV 7 (p.funcs.map Fc.row):=view_lstV
 have g1:isSl (lstV 4 (p.globals.map PD.cells))=true:=isSl_lstV
 have g2:(lstV 4 (p.globals.map PD.cells)).view=lstV 4 (p.globals.map PD.cells):=view_lstV
 unfold Pg.row at pk hrun
 generalize lstV 3 (p.recs.map Rc.row)=PR at *
 generalize lstV 7 (p.funcs.map Fc.row)=PF at *
 generalize lstV 4 (p.globals.map PD.cells)=PG at *
 simp[s9,pk,r1,r2,f1,f2,g1,g2,paste,AV.view,hrun,io,kn,oneOrAgg,cut]
def o7:List UInt8:=[102,117,110,99,32,102,40,110,58,32,105,110,116,41,58,32,105,110,116,32,123,32,112,114,105,110,116,32,110,59,32,114,101,116,117,114,110,32,110,59,32,125,32,102,117,110,99,32,103,40,110,58,32,105,110,116,41,58,32,98,111,111,108,32,123,32,112,114,105,110,116,32,110,59,32,114,101,116,117,114,110,32,110,32,60,32,53,59,32,125,32,102,117,110,99,32,104,40,97,58,32,105,110,116,44,32,98,58,32,105,110,116,41,32,123,32,112,114,105,110,116,32,97,32,45,32,98,59,32,125,32,102,117,110,99,32,109,97,105,110,40,41,32,123,32,108,101,116,32,120,58,32,98,111,111,108,32,61,32,102,40,52,41,32,61,61,32,102,40,57,41,59,32,104,40,102,40,49,41,44,32,102,40,50,41,41,59,32,125]
theorem ord7:okO o7=true:=by kernel_rfl
theorem law_o7:∃st',(orcL S).call 0 0 9 [.int .i64 7] []=some (.bool true,st'):=by
 refine⟨[],?_⟩
 have kn:=fun wl li st=>call_any (sf:=s14) rfl rfl rfl known0 wl li st
 have pk:=fun wl li st=>prog_ok wl li o7 st
 have hfi:=fine_progS o7
 obtain⟨h1,h2⟩:=okO_of ord7
 have hrun:=fun wl li st=>run_fine hfi (inp:=.nilSl) rfl rfl 2000 (by omega) wl li st
 rw[show Ax.dI .nilSl=[] from rfl,show (2000:Int).toNat=2000 from rfl]at hrun
 refine call_pure (sf:=s9) rfl rfl rfl rfl rfl ?_
 have io:=fun wl li st=>ints_l5 wl li (semR (progS o7).1 [] 2000).out [4,9,1,2,-1] (by rw[h2];decide) st
 rw[h2,show lstV 1 (ints [4,9,1,2,-1])=.lst 1 [[.int .i64 4],[.int .i64 9],[.int .i64 1],[.int .i64 2],[.int .i64 (-1)]] from rfl,show decide (([4,9,1,2,-1]:List Int)=[4,9,1,2,-1])=true from rfl]at io
 unfold behV at hrun
 rw[h2,h1]at hrun
 rw[show outL [4,9,1,2,-1]=.lst 1 [[.int .i64 4],[.int .i64 9],[.int .i64 1],[.int .i64 2],[.int .i64 (-1)]] from rfl]at io hrun
 clear h1 h2
 unfold o7 at pk hrun
 generalize hP:progS _=P at *
 obtain⟨p,fe,fa⟩:=P
 simp only at pk hrun
 clear hP hfi
 have r1:isSl (lstV 3 (p.recs.map Rc.row))=true:=isSl_lstV
 have r2:(lstV 3 (p.recs.map Rc.row)).view=lstV 3 (p.recs.map Rc.row):=view_lstV
 have f1:isSl (lstV 7 (p.funcs.map Fc.row))=true:=isSl_lstV
 have f2:(lstV 7 (p.funcs.map Fc.row)).view=lstV 7 (p.funcs.map Fc.row):=view_lstV
 have g1:isSl (lstV 4 (p.globals.map PD.cells))=true:=isSl_lstV
 have g2:(lstV 4 (p.globals.map PD.cells)).view=lstV 4 (p.globals.map PD.cells):=view_lstV
 unfold Pg.row at pk hrun
 generalize lstV 3 (p.recs.map Rc.row)=PR at *
 generalize lstV 7 (p.funcs.map Fc.row)=PF at *
 generalize lstV 4 (p.globals.map PD.cells)=PG at *
 simp[s9,pk,r1,r2,f1,f2,g1,g2,paste,AV.view,hrun,io,kn,oneOrAgg,cut]
def o8:List UInt8:=[102,117,110,99,32,102,40,110,58,32,105,110,116,41,58,32,105,110,116,32,123,32,112,114,105,110,116,32,110,59,32,114,101,116,117,114,110,32,110,59,32,125,32,102,117,110,99,32,103,40,110,58,32,105,110,116,41,58,32,98,111,111,108,32,123,32,112,114,105,110,116,32,110,59,32,114,101,116,117,114,110,32,110,32,60,32,53,59,32,125,32,102,117,110,99,32,104,40,97,58,32,105,110,116,44,32,98,58,32,105,110,116,41,32,123,32,112,114,105,110,116,32,97,32,45,32,98,59,32,125,32,102,117,110,99,32,109,97,105,110,40,41,32,123,32,108,101,116,32,120,58,32,98,111,111,108,32,61,32,102,40,52,41,32,33,61,32,102,40,57,41,59,32,104,40,102,40,49,41,44,32,102,40,50,41,41,59,32,125]
theorem ord8:okO o8=true:=by kernel_rfl
theorem law_o8:∃st',(orcL S).call 0 0 9 [.int .i64 8] []=some (.bool true,st'):=by
 refine⟨[],?_⟩
 have kn:=fun wl li st=>call_any (sf:=s14) rfl rfl rfl known0 wl li st
 have pk:=fun wl li st=>prog_ok wl li o8 st
 have hfi:=fine_progS o8
 obtain⟨h1,h2⟩:=okO_of ord8
 have hrun:=fun wl li st=>run_fine hfi (inp:=.nilSl) rfl rfl 2000 (by omega) wl li st
 rw[show Ax.dI .nilSl=[] from rfl,show (2000:Int).toNat=2000 from rfl]at hrun
 refine call_pure (sf:=s9) rfl rfl rfl rfl rfl ?_
 have io:=fun wl li st=>ints_l5 wl li (semR (progS o8).1 [] 2000).out [4,9,1,2,-1] (by rw[h2];decide) st
 rw[h2,show lstV 1 (ints [4,9,1,2,-1])=.lst 1 [[.int .i64 4],[.int .i64 9],[.int .i64 1],[.int .i64 2],[.int .i64 (-1)]] from rfl,show decide (([4,9,1,2,-1]:List Int)=[4,9,1,2,-1])=true from rfl]at io
 unfold behV at hrun
 rw[h2,h1]at hrun
 rw[show outL [4,9,1,2,-1]=.lst 1 [[.int .i64 4],[.int .i64 9],[.int .i64 1],[.int .i64 2],[.int .i64 (-1)]] from rfl]at io hrun
 clear h1 h2
 unfold o8 at pk hrun
 generalize hP:progS _=P at *
 obtain⟨p,fe,fa⟩:=P
 simp only at pk hrun
 clear hP hfi
 have r1:isSl (lstV 3 (p.recs.map Rc.row))=true:=isSl_lstV
 have r2:(lstV 3 (p.recs.map Rc.row)).view=lstV 3 (p.recs.map Rc.row):=view_lstV
 have f1:isSl (lstV 7 (p.funcs.map Fc.row))=true:=isSl_lstV
 have f2:(lstV 7 (p.funcs.map Fc.row)).view=lstV 7 (p.funcs.map Fc.row):=view_lstV
 have g1:isSl (lstV 4 (p.globals.map PD.cells))=true:=isSl_lstV
 have g2:(lstV 4 (p.globals.map PD.cells)).view=lstV 4 (p.globals.map PD.cells):=view_lstV
 unfold Pg.row at pk hrun
 generalize lstV 3 (p.recs.map Rc.row)=PR at *
 generalize lstV 7 (p.funcs.map Fc.row)=PF at *
 generalize lstV 4 (p.globals.map PD.cells)=PG at *
 simp[s9,pk,r1,r2,f1,f2,g1,g2,paste,AV.view,hrun,io,kn,oneOrAgg,cut]
def o9:List UInt8:=[102,117,110,99,32,102,40,110,58,32,105,110,116,41,58,32,105,110,116,32,123,32,112,114,105,110,116,32,110,59,32,114,101,116,117,114,110,32,110,59,32,125,32,102,117,110,99,32,103,40,110,58,32,105,110,116,41,58,32,98,111,111,108,32,123,32,112,114,105,110,116,32,110,59,32,114,101,116,117,114,110,32,110,32,60,32,53,59,32,125,32,102,117,110,99,32,104,40,97,58,32,105,110,116,44,32,98,58,32,105,110,116,41,32,123,32,112,114,105,110,116,32,97,32,45,32,98,59,32,125,32,102,117,110,99,32,109,97,105,110,40,41,32,123,32,108,101,116,32,120,58,32,98,111,111,108,32,61,32,103,40,52,41,32,38,38,32,103,40,57,41,59,32,104,40,102,40,49,41,44,32,102,40,50,41,41,59,32,125]
theorem ord9:okO o9=true:=by kernel_rfl
theorem law_o9:∃st',(orcL S).call 0 0 9 [.int .i64 9] []=some (.bool true,st'):=by
 refine⟨[],?_⟩
 have kn:=fun wl li st=>call_any (sf:=s14) rfl rfl rfl known0 wl li st
 have pk:=fun wl li st=>prog_ok wl li o9 st
 have hfi:=fine_progS o9
 obtain⟨h1,h2⟩:=okO_of ord9
 have hrun:=fun wl li st=>run_fine hfi (inp:=.nilSl) rfl rfl 2000 (by omega) wl li st
 rw[show Ax.dI .nilSl=[] from rfl,show (2000:Int).toNat=2000 from rfl]at hrun
 refine call_pure (sf:=s9) rfl rfl rfl rfl rfl ?_
 have io:=fun wl li st=>ints_l5 wl li (semR (progS o9).1 [] 2000).out [4,9,1,2,-1] (by rw[h2];decide) st
 rw[h2,show lstV 1 (ints [4,9,1,2,-1])=.lst 1 [[.int .i64 4],[.int .i64 9],[.int .i64 1],[.int .i64 2],[.int .i64 (-1)]] from rfl,show decide (([4,9,1,2,-1]:List Int)=[4,9,1,2,-1])=true from rfl]at io
 unfold behV at hrun
 rw[h2,h1]at hrun
 rw[show outL [4,9,1,2,-1]=.lst 1 [[.int .i64 4],[.int .i64 9],[.int .i64 1],[.int .i64 2],[.int .i64 (-1)]] from rfl]at io hrun
 clear h1 h2
 unfold o9 at pk hrun
 generalize hP:progS _=P at *
 obtain⟨p,fe,fa⟩:=P
 simp only at pk hrun
 clear hP hfi
 have r1:isSl (lstV 3 (p.recs.map Rc.row))=true:=isSl_lstV
 have r2:(lstV 3 (p.recs.map Rc.row)).view=lstV 3 (p.recs.map Rc.row):=view_lstV
 have f1:isSl (lstV 7 (p.funcs.map Fc.row))=true:=isSl_lstV
 have f2:(lstV 7 (p.funcs.map Fc.row)).view=lstV 7 (p.funcs.map Fc.row):=view_lstV
 have g1:isSl (lstV 4 (p.globals.map PD.cells))=true:=isSl_lstV
 have g2:(lstV 4 (p.globals.map PD.cells)).view=lstV 4 (p.globals.map PD.cells):=view_lstV
 unfold Pg.row at pk hrun
 generalize lstV 3 (p.recs.map Rc.row)=PR at *
 generalize lstV 7 (p.funcs.map Fc.row)=PF at *
 generalize lstV 4 (p.globals.map PD.cells)=PG at *
 simp[s9,pk,r1,r2,f1,f2,g1,g2,paste,AV.view,hrun,io,kn,oneOrAgg,cut]
def o10:List UInt8:=[102,117,110,99,32,102,40,110,58,32,105,110,116,41,58,32,105,110,116,32,123,32,112,114,105,110,116,32,110,59,32,114,101,116,117,114,110,32,110,59,32,125,32,102,117,110,99,32,103,40,110,58,32,105,110,116,41,58,32,98,111,111,108,32,123,32,112,114,105,110,116,32,110,59,32,114,101,116,117,114,110,32,110,32,60,32,53,59,32,125,32,102,117,110,99,32,104,40,97,58,32,105,110,116,44,32,98,58,32,105,110,116,41,32,123,32,112,114,105,110,116,32,97,32,45,32,98,59,32,125,32,102,117,110,99,32,109,97,105,110,40,41,32,123,32,108,101,116,32,120,58,32,98,111,111,108,32,61,32,103,40,52,41,32,124,124,32,103,40,57,41,59,32,104,40,102,40,49,41,44,32,102,40,50,41,41,59,32,125]
theorem ord10:okO o10=true:=by kernel_rfl
theorem law_o10:∃st',(orcL S).call 0 0 9 [.int .i64 10] []=some (.bool true,st'):=by
 refine⟨[],?_⟩
 have kn:=fun wl li st=>call_any (sf:=s14) rfl rfl rfl known0 wl li st
 have pk:=fun wl li st=>prog_ok wl li o10 st
 have hfi:=fine_progS o10
 obtain⟨h1,h2⟩:=okO_of ord10
 have hrun:=fun wl li st=>run_fine hfi (inp:=.nilSl) rfl rfl 2000 (by omega) wl li st
 rw[show Ax.dI .nilSl=[] from rfl,show (2000:Int).toNat=2000 from rfl]at hrun
 refine call_pure (sf:=s9) rfl rfl rfl rfl rfl ?_
 have io:=fun wl li st=>ints_l5 wl li (semR (progS o10).1 [] 2000).out [4,9,1,2,-1] (by rw[h2];decide) st
 rw[h2,show lstV 1 (ints [4,9,1,2,-1])=.lst 1 [[.int .i64 4],[.int .i64 9],[.int .i64 1],[.int .i64 2],[.int .i64 (-1)]] from rfl,show decide (([4,9,1,2,-1]:List Int)=[4,9,1,2,-1])=true from rfl]at io
 unfold behV at hrun
 rw[h2,h1]at hrun
 rw[show outL [4,9,1,2,-1]=.lst 1 [[.int .i64 4],[.int .i64 9],[.int .i64 1],[.int .i64 2],[.int .i64 (-1)]] from rfl]at io hrun
 clear h1 h2
 unfold o10 at pk hrun
 generalize hP:progS _=P at *
 obtain⟨p,fe,fa⟩:=P
 simp only at pk hrun
 clear hP hfi
 have r1:isSl (lstV 3 (p.recs.map Rc.row))=true:=isSl_lstV
 have r2:(lstV 3 (p.recs.map Rc.row)).view=lstV 3 (p.recs.map Rc.row):=view_lstV
 have f1:isSl (lstV 7 (p.funcs.map Fc.row))=true:=isSl_lstV
 have f2:(lstV 7 (p.funcs.map Fc.row)).view=lstV 7 (p.funcs.map Fc.row):=view_lstV
 have g1:isSl (lstV 4 (p.globals.map PD.cells))=true:=isSl_lstV
 have g2:(lstV 4 (p.globals.map PD.cells)).view=lstV 4 (p.globals.map PD.cells):=view_lstV
 unfold Pg.row at pk hrun
 generalize lstV 3 (p.recs.map Rc.row)=PR at *
 generalize lstV 7 (p.funcs.map Fc.row)=PF at *
 generalize lstV 4 (p.globals.map PD.cells)=PG at *
 simp[s9,pk,r1,r2,f1,f2,g1,g2,paste,AV.view,hrun,io,kn,oneOrAgg,cut]
theorem law_order (n:Int):∃st',(orcL S).call 0 0 9 [.int .i64 n] []=some (.bool true,st'):=by
 by_cases c1:n<0
 ·refine⟨[],?_⟩
  refine call_pure (sf:=s9) rfl rfl rfl rfl rfl ?_
  simp[s9,c1]
 by_cases c2:10<n
 ·refine⟨[],?_⟩
  refine call_pure (sf:=s9) rfl rfl rfl rfl rfl ?_
  simp[s9,c1,c2]
 obtain⟨k,rfl⟩:∃k:Nat,n=k:=⟨n.toNat,by omega⟩
 have hk:k<11:=by omega
 match k,hk with
 |0,_=>exact law_o0
 |1,_=>exact law_o1
 |2,_=>exact law_o2
 |3,_=>exact law_o3
 |4,_=>exact law_o4
 |5,_=>exact law_o5
 |6,_=>exact law_o6
 |7,_=>exact law_o7
 |8,_=>exact law_o8
 |9,_=>exact law_o9
 |10,_=>exact law_o10
end E11
