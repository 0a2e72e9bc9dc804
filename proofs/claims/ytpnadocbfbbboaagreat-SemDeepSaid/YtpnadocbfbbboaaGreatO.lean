/-
  SemDeep.
-/
import Derived.Test.YtpnadocbfbbboaaGreatH
import Derived.Test.YtpnadocbfbbboaaGreatJ

set_option maxRecDepth 100000
set_option maxHeartbeats 8000000
namespace E11
open Ax Go Code11 V7 Par Chk Run K9 S9 N7 U7
theorem deep_at {n:Nat}(h:n<=60):(n+1<=40->(semR (progS deepT).1 [(n:Int)] 5000).e=1/\(semR (progS deepT).1 [(n:Int)] 5000).out=[(n:Int)])/\
  (¬n+1<=40->(semR (progS deepT).1 [(n:Int)] 5000).e=2/\(semR (progS deepT).1 [(n:Int)] 5000).code=6/\(semR (progS deepT).1 [(n:Int)] 5000).out=[]):=by
 have h1:=List.all_eq_true.1 deep_all n (List.mem_range.2 (by omega))
 unfold okD at h1
 simp only at h1
 refine⟨fun h2=>?_,fun h2=>?_⟩
 ·rw[if_pos h2]at h1
  simpa only [Bool.and_eq_true,decide_eq_true_eq] using h1
 ·rw[if_neg h2]at h1
  simpa only [Bool.and_eq_true,decide_eq_true_eq,and_assoc] using h1
theorem law_deep (n:Int):∃st',(orcL S).call 0 0 8 [.int .i64 n] []=some (.bool true,st'):=by
 refine⟨[],?_⟩
 have kn:=fun wl li st=>call_any (sf:=s14) rfl rfl rfl known0 wl li st
 have pk:=fun wl li st=>prog_ok wl li deepT st
 have hfi:=fine_progS deepT
 refine call_pure (sf:=s8) rfl rfl rfl rfl rfl ?_
 by_cases c1:n<1
 ·simp[s8,c1]
 by_cases c2:60<n
 ·simp[s8,c1,c2]
 obtain⟨k,rfl⟩:∃k:Nat,n=k:=⟨n.toNat,by omega⟩
 have hd:=deep_at (n:=k) (by omega)
 have hrun:=fun wl li st=>run_fine hfi (inp:=lstV 1 (ints [(k:Int)])) rfl rfl 5000 (by omega) wl li st
 have hdi:Ax.dI (lstV 1 (ints [(k:Int)]))=[(k:Int)]:=rfl
 rw[hdi]at hrun
 unfold deepT at pk hrun hd
 generalize hP:progS _=P at *
 obtain⟨p,fe,fa⟩:=P
 simp only at pk hrun hd
 have r1:isSl (lstV 3 (p.recs.map Rc.row))=true:=isSl_lstV
 have r2:(lstV 3 (p.recs.map Rc.row)).view=lstV 3 (p.recs.map Rc.row):=view_lstV
 have f1:isSl (lstV 7 (p.funcs.map Fc.row))=true:=isSl_lstV
 have f2:(lstV 7 (p.funcs.map Fc.row)).view=lstV 7 (p.funcs.map Fc.row):=view_lstV
 have g1:isSl (lstV 4 (p.globals.map PD.cells))=true:=isSl_lstV
 have g2:(lstV 4 (p.globals.map PD.cells)).view=lstV 4 (p.globals.map PD.cells):=view_lstV
 unfold Pg.row at pk hrun
 generalize lstV 3 (p.recs.map Rc.row)=PR at *
 generalize lstV 7 (p.funcs.map Fc.row)=PF at *
 generalize lstV 4 (p.globals.map PD.cells)=PG at *
 have hl1:lstV 1 (ints [(k:Int)])=.lst 1 [[.int .i64 (k:Int)]]:=rfl
 rw[hl1]at hrun
 have va:∀l,(outL l).view=outL l:=fun l=>by unfold outL;split<;>rfl
 have ca:∀l,(outL l).isCell=true:=fun l=>by unfold outL;split<;>rfl
 have hw:IntKind.i64.wrap ((k:Int)+1)=(k:Int)+1:=by rw[wrap64]<;>omega
 by_cases h40:k+1<=40
 ·obtain⟨e1,e2⟩:=hd.1 h40
  have h40':(k:Int)+1<=40:=by omega
  unfold behV at hrun
  have e5:(5000:Int).toNat=5000:=rfl
  rw[e5,e1,e2]at hrun
  have ho:outL [(k:Int)]=.lst 1 [[.int .i64 (k:Int)]]:=rfl
  rw[ho]at hrun
  simp[s8,c1,c2,pk,r1,r2,f1,f2,g1,g2,paste,AV.view,hrun,hw,h40',kn,oneOrAgg,cut]
  done
 ·obtain⟨e1,e2,e3⟩:=hd.2 h40
  have h40':¬(k:Int)+1<=40:=by omega
  unfold behV at hrun
  have e5:(5000:Int).toNat=5000:=rfl
  rw[e5,e1,e2,e3]at hrun
  have ho:outL []=.nilSl:=rfl
  rw[ho]at hrun
  simp[s8,c1,c2,pk,r1,r2,f1,f2,g1,g2,paste,AV.view,hrun,hw,h40',kn,oneOrAgg,cut]
  done
end E11
