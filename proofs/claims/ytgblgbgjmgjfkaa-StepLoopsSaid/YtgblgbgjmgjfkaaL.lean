/-
  StepMore.
-/
import Derived.Test.YtgblgbgjmgjfkaaH
import Derived.Test.YtgblgbgjmgjfkaaP
import Derived.Test.YtgblgbgjmgjfkaaK

set_option maxRecDepth 100000
set_option maxHeartbeats 4000000
namespace E14
open Ax Go Code14 IrV Mach U12
variable {x:XD}
def cvT (x:XD)(k:Nat):AV:=cellsT x k
def zeroM:Ms:=⟨[],[],[],[],0,0,[],0⟩
def runX (x:XD)(l:List Int)(n:Nat):Ms:=if rightT x=true then runM (mpOf x (cvT x)) n (m0 (mpOf x (cvT x)) x.main.toNat l) else zeroM
theorem main_in (hr:rightT x=true):∃k:Nat,x.main=k/\k<(dCs x.codes).length:=by
 simp only[rightT,Bool.and_eq_true]at hr
 have h:=hr.1.1.1.1.2
 split at h
 ·cases h
 ·rename_i m hg
  obtain⟨k,hk,hkl,_⟩:=getZ_some hg
  exact⟨k,hk,hkl⟩
theorem runX_ok (hx:x.ok)(hg:greatT x=false){inp:AV}(hi:isI inp=true)(hno:notOwn inp=true)(n:Int)(hn:n<=1000000)(wl li:Nat)(st:Store) :
  (orcL S).call wl li 6 [xA x,inp,.int .i64 n] st=some (behV (runX x (dI inp) n.toNat),st):=by
 obtain⟨f1,f2,f3,f4,f5⟩:=great_few hg
 have hR:=fun wl li st=>right_ok wl li st hx (fun g h=>by have:=f4 g h;omega) (fun g h=>by have:=f5 g h;omega)
 have hp:(xA x).isPure=true:=hx.pure
 unfold runX
 cases hr:rightT x with
 |false=>
  rw[if_neg (by simp)]
  rw[hr]at hR
  exact run_no hx hp hi hno n hR wl li st
 |true=>
  rw[if_pos rfl]
  rw[hr]at hR
  obtain⟨k,hk,hkl⟩:=main_in hr
  rw[hk,Int.toNat_natCast]
  exact run_ok hx hp hi hno n hR (cvl:=cvT x) (fun wl li j st _=>cells_ok hx (fun g h=>by have:=f4 g h;omega) (fun g h=>by have:=f5 g h;omega) wl li j st) (fun j=>by
   obtain⟨l,h,_⟩:=cellsT_l x j
   exact isSl_sz h) (by omega) hk hkl (by have:=f4 _ (List.getElem_mem hkl);omega) (by omega) (x_ok hr) (fun c h=>by have:=f4 c h;omega) (fun c h=>by have:=f5 c h;omega) hn wl li st
theorem more_ok (l:List Int)(n k:Nat) :
  ((runX x l n).e=3/\(runX x l n).steps=n/\n<=(runX x l (n+k)).steps/\∃r,(runX x l (n+k)).out=(runX x l n).out++r)\/
  ((runX x l n).e≠3/\runX x l (n+k)=runX x l n/\(runX x l n).steps<=n):=by
 unfold runX
 by_cases hr:rightT x=true
 ·simp only[if_pos hr]
  exact run_more n k _ rfl rfl
 ·simp only[if_neg hr]
  exact .inr ⟨by simp[zeroM],trivial,by simp[zeroM]⟩
theorem runR_ok {X:MP}(hX:XOk X):∀(n:Nat)(m:Ms),MsOk X m->MsOk X (runR X n m)
 |0,_,h=>h
 |n+1,m,h=>by
  unfold runR
  by_cases he:m.e=0
  ·rw[if_pos he];exact runR_ok hX n _ (step_ok hX h he)
  ·rw[if_neg he];exact h
theorem few_out (l:List Int)(n:Nat):(runX x l n).out.length<=n:=by
 unfold runX
 by_cases hr:rightT x=true
 ·simp only[if_pos hr]
  obtain⟨k,hk,hkl⟩:=main_in hr
  have hX:=x_ok (cvl:=cvT x) hr
  rw[hk,Int.toNat_natCast]
  have h1:=(runR_ok hX n _ (m0_ok hX hkl l)).o
  have h2:=(runR_on (X:=mpOf x (cvT x)) n (m0 (mpOf x (cvT x)) k l) rfl).2.2.1
  have h3:(m0 (mpOf x (cvT x)) k l).steps=0:=rfl
  have hm:∀q:Ms,(Mach.mark q).out=q.out:=fun q=>by unfold Mach.mark;split<;>rfl
  rw[Mach.run_mark,hm]
  omega
 ·simp only[if_neg hr];simp[zeroM]
theorem law_more (hx:x.ok){inp:AV}(hi:isI inp=true)(hno:notOwn inp=true)(n k:Int):∃st',(orcL S).call 0 0 3 [xA x,inp,.int .i64 n,.int .i64 k] []=some (.bool true,st'):=by
 refine⟨[],?_⟩
 have hs:=isSl_I hi
 have hv:=view_notOwn hno hs
 have hl:=rowsL_I hi
 have hpi:=pure_sl hs
 have hp:(xA x).isPure=true:=hx.pure
 have gr:=fun wl li st=>great_ok wl li (x:=x) st hx
 have rs:=isSl_R hx.recs
 have rv:=isRs_vw hx.recs
 have gs:=isSl_T hx.globals
 have gv:=isTs_vw hx.globals
 have cs:=isSl_C hx.codes
 have cv:=isCs_vw hx.codes
 have ss:=isSl_S hx.sites
 have sv:=isSs_vw hx.sites
 have kn:=fun wl li st=>call_any (sf:=s8) rfl rfl rfl known0 wl li st
 refine call_pure (sf:=s3) rfl rfl (by rw[AV.allPure,hp,AV.allPure,hpi];rfl) rfl rfl ?_
 cases hg:greatT x with
 |true=>
  unfold xAV at gr
  rw[hg]at gr
  simp[s3,xA,rs,rv,gs,gv,cs,cv,ss,sv,gr]
 |false=>
  have hrun:=fun n hn wl li st=>runX_ok hx hg hi hno n hn wl li st
  unfold xAV at gr
  unfold xA at hrun
  rw[hg]at gr
  by_cases c1:(100:Int)<((dI inp).length:Int)
  ·simp[s3,xA,rs,rv,gs,gv,cs,cv,ss,sv,gr,hs,hv,hl,c1]
  by_cases c2:n<0
  ·simp[s3,xA,rs,rv,gs,gv,cs,cv,ss,sv,gr,hs,hv,hl,c1,c2]
  by_cases c3:8000<n
  ·simp[s3,xA,rs,rv,gs,gv,cs,cv,ss,sv,gr,hs,hv,hl,c1,c2,c3]
  by_cases c4:k<0
  ·simp[s3,xA,rs,rv,gs,gv,cs,cv,ss,sv,gr,hs,hv,hl,c1,c2,c3,c4]
  by_cases c5:8000<k
  ·simp[s3,xA,rs,rv,gs,gv,cs,cv,ss,sv,gr,hs,hv,hl,c1,c2,c3,c4,c5]
  obtain⟨a,rfl⟩:∃a:Nat,n=a:=⟨n.toNat,by omega⟩
  obtain⟨b,rfl⟩:∃b:Nat,k=b:=⟨k.toNat,by omega⟩
  have hw:IntKind.i64.wrap ((a:Int)+(b:Int))=(a:Int)+(b:Int):=by rw[wrap64]<;>omega
  have r1:=hrun a (by omega)
  have r2:=hrun ((a:Int)+(b:Int)) (by omega)
  rw[Int.toNat_natCast]at r1
  rw[show ((a:Int)+(b:Int)).toNat=a+b by omega]at r2
  have o1:=few_out (x:=x) (dI inp) a
  have va:∀l,(outV l).view=outV l:=fun l=>by unfold outV;split<;>rfl
  have ca:∀l,(outV l).isCell=true:=fun l=>by unfold outV;split<;>rfl
  rcases more_ok (x:=x) (dI inp) a b with⟨e1,e2,e3,r,e4⟩|⟨e1,e2,e3⟩
  ·have bg:=fun wl li st=>begins_ok wl li (runX x (dI inp) a).out (runX x (dI inp) (a+b)).out (by omega) st
   have hb:(decide ((runX x (dI inp) a).out.length<=(runX x (dI inp) (a+b)).out.length)&&decide ((runX x (dI inp) a).out=(runX x (dI inp) (a+b)).out.take (runX x (dI inp) a).out.length))=true:=by
    rw[e4];simp
   rw[hb]at bg
   have e3':(a:Int)<=((runX x (dI inp) (a+b)).steps:Int):=by omega
   unfold behV at r1 r2
   rw[e1,e2]at r1
   generalize runX x (dI inp) a=A at *
   generalize runX x (dI inp) (a+b)=B at *
   simp[s3,xA,rs,rv,gs,gv,cs,cv,ss,sv,gr,hs,hv,hl,c1,c2,c3,c4,c5,r1,r2,hw,va,ca,bg,kn,e3',paste,oneOrAgg,cut]
  ·rw[e2]at r2
   have sm:=fun wl li st=>same_ok wl li (runX x (dI inp) a) (by omega) st
   have e3':((runX x (dI inp) a).steps:Int)<=(a:Int):=by omega
   unfold behV at r1 r2 sm
   generalize runX x (dI inp) a=A at *
   simp[s3,xA,rs,rv,gs,gv,cs,cv,ss,sv,gr,hs,hv,hl,c1,c2,c3,c4,c5,r1,r2,hw,va,ca,sm,kn,e1,e3',paste,oneOrAgg,cut]
end E14
