/- Part of a proof. -/
import Derived.Test.YtegibojgmandmaaGreatX
import Derived.Test.YtegibojgmandmaaGreatP

set_option maxRecDepth 100000
set_option maxHeartbeats 8000000
namespace S9
open Ax Go Code9z V7 Par Chk K9 N7 U7
def bareN (x:FN):FN:=⟨x.name,x.params,x.has,x.on,x.od,.nilSl,x.at_⟩
def bare (f:Fc):Fc:={ f with body:=[] }
theorem firstB_map {α β:Type}{bad:List α->α->Option Int}{bad2:List β->β->Option Int}{f:α->β}(h:∀b x,bad2 (b.map f) (f x)=bad b x)(l:List α):∀k,firstB bad2 (l.map f) k=firstB bad l k
 |0=>rfl
 |k+1=>by
  unfold firstB
  rw[firstB_map h l k,List.getElem?_map]
  cases e:l[k]? with
  |none=>rfl
  |some x=>simp only[Option.map_some,<-List.map_take,h]
theorem badS_bare (rs:List (List UInt8))(b:List FN)(x:FN):badS rs (b.map bareN) (bareN x)=badS rs b x:=by
 unfold badS badD badT
 rw[List.any_map]
 rfl
theorem mainI_bare (l:List FN):mainI (l.map bareN)=mainI l:=by
 unfold mainI
 rw[List.findIdx?_map]
 rfl
structure Alike (p q:Pg):Prop where
 recs:q.recs=p.recs
 globals:q.globals=p.globals
 funcs:q.funcs.map bare=p.funcs.map bare
theorem bare_fn (l:List Fc):(l.map fnOf).map bareN=(l.map bare).map (fun f=>bareN (fnOf f)):=by
 rw[List.map_map,List.map_map]
 rfl
theorem Alike.fn {p q:Pg}(h:Alike p q):(q.funcs.map fnOf).map bareN=(p.funcs.map fnOf).map bareN:=by rw[bare_fn,bare_fn,h.funcs]
theorem Alike.len {p q:Pg}(h:Alike p q):q.funcs.length=p.funcs.length:=by simpa using congrArg List.length h.funcs
theorem fault_same {p q:Pg}(h:Alike p q):faultH (gdOf q)=faultH (gdOf p):=by
 have hs:=h.fn
 have hl:=h.len
 have e1:mainI (dFNs (gdOf q).funcs)=mainI (dFNs (gdOf p).funcs):=by
  rw[dFNs_gd,dFNs_gd,<-mainI_bare,<-mainI_bare (p.funcs.map fnOf),hs]
 have e2:∀rs,firstB (badS rs) (dFNs (gdOf q).funcs) (dFNs (gdOf q).funcs).length=firstB (badS rs) (dFNs (gdOf p).funcs) (dFNs (gdOf p).funcs).length:=fun rs=>by
  rw[dFNs_gd,dFNs_gd,<-firstB_map (badS_bare rs),<-firstB_map (badS_bare rs) (p.funcs.map fnOf),List.length_map,List.length_map,hs,hl]
 have a1:dCRs (gdOf q).recs=dCRs (gdOf p).recs:=by rw[dCRs_gd,dCRs_gd,h.recs]
 have a2:dPs (gdOf q).globals=dPs (gdOf p).globals:=by rw[dPs_gd,dPs_gd,h.globals]
 have e3:fault3 (gdOf q)=fault3 (gdOf p):=by
  unfold fault3
  rw[a1,a2,e2]
 unfold faultH
 rw[e1,e3]
theorem hd_same {p q:Pg}(h:Alike p q):hdOf q=hdOf p:=by
 have e:namesOf q=namesOf p:=by unfold namesOf;rw[h.recs]
 have e2:∀(rs:List (List UInt8)) (l:List Fc),l.map (sgOf rs)=(l.map bare).map (sgOf rs):=fun rs l=>by rw[List.map_map];rfl
 unfold hdOf
 rw[e,h.recs,h.globals,e2,h.funcs,<-e2]
end S9
namespace S9
open Ax Go Code9z V7 Par Chk K9 N7 U7
theorem decB_drop {l:List Sm}{k:Nat}(h:k<l.length):decB (l.drop k)=(decS l[k]||decB (l.drop (k+1))):=by
 rw[List.drop_eq_getElem_cons h]
 (conv=>lhs;unfold decB)<;>rfl
def OkD (l:List Sm):Prop:=∀wl lim st,(orcL S).call wl lim 25 [ssV l] st=some (.bool (decB l),st)
theorem decl_loop (l:List Sm)(hn:l.length<1000000000)(hp:∀s∈l,OkD s.bd/\OkD s.el):OkD l:=by
 intro wl lim st
 have hz:isSz 9 (ssV l)=true:=isSz_Sm
 have hs:isSl (ssV l)=true:=isSl_ssV
 have hv:(ssV l).view=ssV l:=view_ssV
 have hr:rowsL (ssV l)=Sm.rows l:=rowsL_lstV
 have hl:(Sm.rows l).length=l.length:=by simp
 refine call_pure (sf:=s25) rfl rfl (by simp[AV.allPure]) rfl (by simp) ?_
 generalize ssV l=lv at *
 simp[s25]
 refine W_loopI s25_l0.eq_1 (fun k:Nat=>⟨[(0,.val lv),(3,.val (.int .i64 k))],[],[]⟩) (fun k=>k<=l.length/\decB l=decB (l.drop k)) (fun k=>l.length-k) 0 (by simp) ⟨by simp,by simp⟩ ?_
 rintro k ⟨hk,hd⟩ ih
 by_cases hlt:k<l.length
 ·have hw:IntKind.i64.wrap ((k:Int)+1)=((k+1:Nat):Int):=by rw[wrap64]<;>omega
  obtain⟨p1,p2⟩:=hp l[k] (List.getElem_mem hlt)
  have gE:=Sm_get hlt
  have hlt':k<(Sm.rows l).length:=by simpa using hlt
  have gE':=Sm_get' hlt hlt'
  rw[decB_drop hlt,decS_eq]at hd
  obtain⟨e1,b1,l1⟩:isSl (esV l[k].es)=true/\isSl (ssV l[k].bd)=true/\isSl (ssV l[k].el)=true:=⟨isSl_esV,isSl_ssV,isSl_ssV⟩
  have b2:(ssV l[k].bd).view=ssV l[k].bd:=view_ssV
  have l2:(ssV l[k].el).view=ssV l[k].el:=view_ssV
  rw[Sm.row_eq]at gE gE'
  unfold OkD at p1 p2
  have ih':=ih (k+1)
  generalize decB (l.drop (k+1))=dr at *
  generalize l[k]=x at *
  generalize esV x.es=xe at *
  generalize ssV x.bd=xb at *
  generalize ssV x.el=xl at *
  by_cases k1:x.k=1
  ·simp[hlt,hz,hs,hv,hr,gE',k1,AV.view]
   simp[hd,k1]
  by_cases k2:x.k=2
  ·simp[hlt,hz,hs,hv,hr,gE',k2,AV.view]
   simp[hd,k2]
  cases d1:decB x.bd with
  |true=>
   simp[hlt,hz,hs,hv,hr,gE',k1,k2,b2,p1,d1,AV.view]
   simp[hd,d1]
  |false=>
  cases d2:decB x.el with
  |true=>
   simp[hlt,hz,hs,hv,hr,gE',k1,k2,b2,l2,p1,p2,d1,d2,AV.view]
   simp[hd,d2]
  |false=>
   simp[hlt,hw,hz,hs,hv,hr,gE',k1,k2,b2,l2,p1,p2,d1,d2,AV.view]
   refine ih' ⟨by omega,by simp[hd,k1,k2,d1,d2]⟩ (by omega)
 ·have hkl:k=l.length:=by omega
  have:decB l=false:=by rw[hd,hkl,List.drop_length];rfl
  rw[this]
  simp[hlt,hs,hv,hr,hl]
theorem decl_sm (s:Sm):Sm.sz s<1000000000->OkD s.bd/\OkD s.el:=by
 induction s using Sm.ind with
 |_ s ih1 ih2=>
  intro h
  have hsz:Sm.sz s=1+E.szs s.es+Sm.szs s.bd+Sm.szs s.el:=by
   obtain⟨k,nm,on,od,es,bd,el,a,ref⟩:=s
   rw[szMk];rfl
  refine⟨decl_loop _ ?_ fun x hx=>ih1 x hx ?_,decl_loop _ ?_ fun x hx=>ih2 x hx ?_⟩
  ·have:=Sm.szs_len s.bd;omega
  ·have:=Sm.szs_mem hx;omega
  ·have:=Sm.szs_len s.el;omega
  ·have:=Sm.szs_mem hx;omega
def straightB (l:List Sm):Bool:=l.all fun s=>!decB s.bd && !decB s.el
theorem strB_drop {l:List Sm}{k:Nat}(h:k<l.length):straightB (l.drop k)=((!decB l[k].bd && !decB l[k].el)&&straightB (l.drop (k+1))):=by
 rw[List.drop_eq_getElem_cons h]
 rfl
theorem straight_ok (l:List Sm)(hn:Sm.szs l<1000000000)(wl lim:Nat)(st:Store):(orcL S).call wl lim 10 [ssV l] st=some (.bool (straightB l),st):=by
 have hp:∀s∈l,OkD s.bd/\OkD s.el:=fun s hs=>decl_sm s (by have:=Sm.szs_mem hs;omega)
 have hn2:=Sm.szs_len l
 have hz:isSz 9 (ssV l)=true:=isSz_Sm
 have hs:isSl (ssV l)=true:=isSl_ssV
 have hv:(ssV l).view=ssV l:=view_ssV
 have hr:rowsL (ssV l)=Sm.rows l:=rowsL_lstV
 have hl:(Sm.rows l).length=l.length:=by simp
 refine call_pure (sf:=s10) rfl rfl (by simp[AV.allPure]) rfl (by simp) ?_
 generalize ssV l=lv at *
 simp[s10]
 refine W_loopI s10_l0.eq_1 (fun k:Nat=>⟨[(0,.val lv),(3,.val (.int .i64 k))],[],[]⟩) (fun k=>k<=l.length/\straightB l=straightB (l.drop k)) (fun k=>l.length-k) 0 (by simp) ⟨by simp,by simp⟩ ?_
 rintro k ⟨hk,hd⟩ ih
 by_cases hlt:k<l.length
 ·have hw:IntKind.i64.wrap ((k:Int)+1)=((k+1:Nat):Int):=by rw[wrap64]<;>omega
  obtain⟨p1,p2⟩:=hp l[k] (List.getElem_mem hlt)
  have hlt':k<(Sm.rows l).length:=by simpa using hlt
  have gE':=Sm_get' hlt hlt'
  rw[strB_drop hlt]at hd
  obtain⟨b1,l1⟩:isSl (ssV l[k].bd)=true/\isSl (ssV l[k].el)=true:=⟨isSl_ssV,isSl_ssV⟩
  have b2:(ssV l[k].bd).view=ssV l[k].bd:=view_ssV
  have l2:(ssV l[k].el).view=ssV l[k].el:=view_ssV
  rw[Sm.row_eq]at gE'
  unfold OkD at p1 p2
  have ih':=ih (k+1)
  generalize straightB (l.drop (k+1))=dr at *
  generalize l[k]=x at *
  generalize esV x.es=xe at *
  generalize ssV x.bd=xb at *
  generalize ssV x.el=xl at *
  cases d1:decB x.bd with
  |true=>
   simp[hlt,hz,hs,hv,hr,gE',b2,p1,d1,AV.view]
   simp[hd,d1]
  |false=>
  cases d2:decB x.el with
  |true=>
   simp[hlt,hz,hs,hv,hr,gE',b2,l2,p1,p2,d1,d2,AV.view]
   simp[hd,d2]
  |false=>
   simp[hlt,hw,hz,hs,hv,hr,gE',b2,l2,p1,p2,d1,d2,AV.view]
   refine ih' ⟨by omega,by simp[hd,d1,d2]⟩ (by omega)
 ·have hkl:k=l.length:=by omega
  have:straightB l=true:=by rw[hd,hkl,List.drop_length];rfl
  rw[this]
  simp[hlt,hs,hv,hr,hl]
end S9
namespace S9
open Ax Go Code9z V7 Par Chk K9 N7 U7
def OkLd (l:List Sm):Prop:=∀wl lim st,(orcL S).call wl lim 11 [ssV l] st=some (mkL 9 (Sm.rows (laidB l)),st)
theorem laidB_take {l:List Sm}{k:Nat}(h:k<l.length):Sm.rows (laidB (l.take (k+1)))=Sm.rows (laidB (l.take k))++[(laidS l[k]).row]:=by
 rw[laidB_map,laidB_map,Smrows_map,Smrows_map,List.take_succ_eq_append_getElem h,List.map_append,List.map_append]
 rfl
theorem laid_loop (l:List Sm)(hn:l.length<1000000)(hp:∀s∈l,OkLd s.bd/\OkLd s.el):OkLd l:=by
 intro wl lim st
 have hz:isSz 9 (ssV l)=true:=isSz_Sm
 have hs:isSl (ssV l)=true:=isSl_ssV
 have hv:(ssV l).view=ssV l:=view_ssV
 have hr:rowsL (ssV l)=Sm.rows l:=rowsL_lstV
 have hl:(Sm.rows l).length=l.length:=by simp
 refine call_pure (sf:=s11) rfl rfl (by simp[AV.allPure]) rfl (by simp) ?_
 generalize ssV l=lv at *
 simp[s11]
 refine W_loopI s11_l0.eq_1 (fun q:Nat×List AV×List AV=>⟨[(0,.val lv),(3,.val (mkL 9 (Sm.rows (laidB (l.take q.1))))),(4,.val (.int .i64 q.1))],[q.2.1,q.2.2],[]⟩) (fun q=>q.1<=l.length) (fun q=>l.length-q.1) (0,[],[]) (by simp[mkL,laidB,Sm.rows]) (by simp) ?_
 rintro⟨k,b1,b2⟩ hk ih
 simp only at hk ih
 by_cases hlt:k<l.length
 ·have hw:IntKind.i64.wrap ((k:Int)+1)=((k+1:Nat):Int):=by rw[wrap64]<;>omega
  obtain⟨p1,p2⟩:=hp l[k] (List.getElem_mem hlt)
  have hlt':k<(Sm.rows l).length:=by simpa using hlt
  have gE':=Sm_get' hlt hlt'
  have ha:appV 9 136 (mkL 9 (Sm.rows (laidB (l.take k)))) [(laidS l[k]).row]=some (mkL 9 (Sm.rows (laidB (l.take (k+1))))):=by
   rw[appV_mk (by simp[fits,Sm.row_eq]) (by simp[laidB_map];unfold room;omega),laidB_take hlt]
  have ih':=fun b1 b2=>ih (k+1,b1,b2)
  simp only at ih'
  rw[Sm.row_eq]at gE'
  obtain⟨e1,c1,l1⟩:isSl (esV l[k].es)=true/\isSl (ssV l[k].bd)=true/\isSl (ssV l[k].el)=true:=⟨isSl_esV,isSl_ssV,isSl_ssV⟩
  have e2:(esV l[k].es).view=esV l[k].es:=view_esV
  have c2:(ssV l[k].bd).view=ssV l[k].bd:=view_ssV
  have l2:(ssV l[k].el).view=ssV l[k].el:=view_ssV
  unfold OkLd at p1 p2
  obtain⟨m1,m2⟩:isSl (mkL 9 (Sm.rows (laidB l[k].bd)))=true/\isSl (mkL 9 (Sm.rows (laidB l[k].el)))=true:=⟨isSl_mk,isSl_mk⟩
  have m3:(mkL 9 (Sm.rows (laidB l[k].bd))).view=ssV (laidB l[k].bd):=rfl
  have m4:(mkL 9 (Sm.rows (laidB l[k].el))).view=ssV (laidB l[k].el):=rfl
  have m5:isSl (mkL 9 (Sm.rows (laidB (l.take k))))=true:=isSl_mk
  by_cases k1:l[k].k=1
  ·have hrow:(laidS l[k]).row=[.int .i64 2,.str l[k].nm,.str l[k].on,.int .i64 l[k].od,esV [laidE l[k].on l[k].od],ssV (laidB l[k].bd),ssV (laidB l[k].el),.int .i64 l[k].a,.int .i64 l[k].ref]:=by
    rw[laidS_eq,if_pos k1];rfl
   rw[hrow]at ha
   generalize mkL 9 (Sm.rows (laidB (l.take k)))=acc at *
   generalize mkL 9 (Sm.rows (laidB (l.take (k+1))))=acc2 at *
   generalize l[k]=x at *
   generalize esV x.es=xe at *
   generalize ssV x.bd=xb at *
   generalize ssV x.el=xl at *
   by_cases d0:x.od=0
   ·by_cases n1:x.on=nInt
    ·have n2:¬x.on=nBool:=by rw[n1];decide
     have he:esV [laidE x.on x.od]=.lst 11 [[.int .i64 1,.int .i64 0,.str [],.str [],.int .i64 0,.nilSl,.int .i64 0,.int .i64 0,.int .i64 0,.int .i64 0,.int .i64 0]]:=by
      unfold laidE;rw[if_neg fun c=>n2 c.2,if_pos ⟨d0,n1⟩];rfl
     rw[he,d0,n1]at ha
     unfold nInt at ha
     unfold nInt at n1;unfold nBool at n2
     simp[hlt,hw,hz,hs,hv,hr,gE',k1,d0,n1,c1,c2,l1,l2,e1,e2,p1,p2,m1,m2,m3,m4,ha,paste,AV.view,AV.viewL]
     exact ih' _ _ (by omega) (by omega)
    ·by_cases n2:x.on=nBool
     ·have he:esV [laidE x.on x.od]=.lst 11 [[.int .i64 2,.int .i64 0,.str [],.str [],.int .i64 0,.nilSl,.int .i64 0,.int .i64 0,.int .i64 0,.int .i64 0,.int .i64 0]]:=by
       unfold laidE;rw[if_pos ⟨d0,n2⟩];rfl
      rw[he,d0,n2]at ha
      unfold nBool at ha
      unfold nInt at n1;unfold nBool at n2
      simp[hlt,hw,hz,hs,hv,hr,gE',k1,d0,n2,c1,c2,l1,l2,e1,e2,p1,p2,m1,m2,m3,m4,ha,paste,AV.view,AV.viewL]
      exact ih' _ _ (by omega) (by omega)
     ·have he:esV [laidE x.on x.od]=.lst 11 [[.int .i64 3,.int .i64 0,.str [],.str x.on,.int .i64 x.od,.nilSl,.int .i64 0,.int .i64 0,.int .i64 0,.int .i64 0,.int .i64 0]]:=by
       unfold laidE;rw[if_neg fun c=>n2 c.2,if_neg fun c=>n1 c.2];rfl
      rw[he,d0]at ha
      unfold nInt at n1;unfold nBool at n2
      simp[hlt,hw,hz,hs,hv,hr,gE',k1,d0,n1,n2,c1,c2,l1,l2,e1,e2,p1,p2,m1,m2,m3,m4,ha,paste,AV.view,AV.viewL]
      exact ih' _ _ (by omega) (by omega)
   ·have he:esV [laidE x.on x.od]=.lst 11 [[.int .i64 3,.int .i64 0,.str [],.str x.on,.int .i64 x.od,.nilSl,.int .i64 0,.int .i64 0,.int .i64 0,.int .i64 0,.int .i64 0]]:=by
     unfold laidE;rw[if_neg fun c=>d0 c.1,if_neg fun c=>d0 c.1];rfl
    rw[he]at ha
    simp[hlt,hw,hz,hs,hv,hr,gE',k1,d0,c1,c2,l1,l2,e1,e2,p1,p2,m1,m2,m3,m4,ha,paste,AV.view,AV.viewL]
    exact ih' _ _ (by omega) (by omega)
  ·have hrow:(laidS l[k]).row=[.int .i64 l[k].k,.str l[k].nm,.str l[k].on,.int .i64 l[k].od,esV l[k].es,ssV (laidB l[k].bd),ssV (laidB l[k].el),.int .i64 l[k].a,.int .i64 l[k].ref]:=by
    rw[laidS_eq,if_neg k1];rfl
   rw[hrow]at ha
   generalize mkL 9 (Sm.rows (laidB (l.take k)))=acc at *
   generalize mkL 9 (Sm.rows (laidB (l.take (k+1))))=acc2 at *
   generalize l[k]=x at *
   generalize esV x.es=xe at *
   generalize ssV x.bd=xb at *
   generalize ssV x.el=xl at *
   simp[hlt,hw,hz,hs,hv,hr,gE',k1,c1,c2,l1,l2,e1,e2,p1,p2,m1,m2,m3,m4,ha,paste,AV.view,AV.viewL]
   exact ih' _ _ (by omega) (by omega)
 ·have hkl:k=l.length:=by omega
  subst hkl
  have h5:isSl (mkL 9 (Sm.rows (laidB l)))=true:=isSl_mk
  rw[List.take_length]at *
  simp[hs,hv,hr,hl]
theorem laid_sm (s:Sm):Sm.sz s<1000000->OkLd s.bd/\OkLd s.el:=by
 induction s using Sm.ind with
 |_ s ih1 ih2=>
  intro h
  have hsz:Sm.sz s=1+E.szs s.es+Sm.szs s.bd+Sm.szs s.el:=by
   obtain⟨k,nm,on,od,es,bd,el,a,ref⟩:=s
   rw[szMk];rfl
  refine⟨laid_loop _ ?_ fun x hx=>ih1 x hx ?_,laid_loop _ ?_ fun x hx=>ih2 x hx ?_⟩
  ·have:=Sm.szs_len s.bd;omega
  ·have:=Sm.szs_mem hx;omega
  ·have:=Sm.szs_len s.el;omega
  ·have:=Sm.szs_mem hx;omega
theorem laid_ok (l:List Sm)(hn:Sm.szs l<1000000):OkLd l:=by
 have:=Sm.szs_len l
 exact laid_loop l (by omega) fun s hs=>laid_sm s (by have:=Sm.szs_mem hs;omega)
theorem laid_szS (s:Sm):Sm.sz (laidS s)<=2*Sm.sz s:=by
 induction s using Sm.ind with
 |_ s ih1 ih2=>
  have hb:∀l:List Sm,(∀x∈l,Sm.sz (laidS x)<=2*Sm.sz x)->Sm.szs (laidB l)<=2*Sm.szs l:=fun l=>by
   induction l with
   |nil=>intro _;exact Nat.le_refl _
   |cons x l ih=>
    intro h
    have h1:=h x List.mem_cons_self
    have h2:=ih fun y hy=>h y (List.mem_cons_of_mem _ hy)
    unfold laidB
    simp only[Sm.szs]
    omega
  have h1:=hb _ ih1
  have h2:=hb _ ih2
  have hsz:Sm.sz s=1+E.szs s.es+Sm.szs s.bd+Sm.szs s.el:=by
   obtain⟨k,nm,on,od,es,bd,el,a,ref⟩:=s
   rw[szMk];rfl
  rw[laidS_eq]
  split
  ·rw[szMk]
   have:E.szs [laidE s.on s.od]=1:=by
    rw[szs_one];unfold laidE
    split
    ·rfl
    ·split<;>rfl
   omega
  ·rw[szMk];omega
theorem laid_szs:∀l:List Sm,Sm.szs (laidB l)<=2*Sm.szs l
 |[]=>Nat.le_refl _
 |s::l=>by
  have h1:=laid_szS s
  have h2:=laid_szs l
  unfold laidB
  simp only[Sm.szs]
  omega
end S9
namespace S9
open Ax Go Code9z V7 Par Chk K9 N7 U7
def laidP (p:Pg):Pg:={ p with funcs:=p.funcs.map laidF }
theorem progS_var (s:List UInt8):∀f∈(progS s).1.funcs,VarOk f.body:=by
 unfold progS
 split
 ·generalize htp:U2.tokP s=z
  obtain⟨rows,e⟩:=z
  cases e with
  |some e=>intro f hf;cases hf
  |none=>
   obtain⟨x,hx⟩:=some_progOf (tksOf rows)
   simp only
   rw[hx,Option.getD_some]
   unfold progOf at hx
   obtain⟨⟨y1,y2⟩,h1,h2⟩:=Option.bind_eq_some_iff.1 hx
   have:=prog_var h1 fun g hg=>by cases hg
   dsimp only at h2
   split at h2
   ·cases h2;exact this
   ·cases h2;intro f hf;cases hf
 ·intro f hf;cases hf
theorem alike_laid (p:Pg):Alike p (laidP p):=by
 refine⟨rfl,rfl,?_⟩
 show (p.funcs.map laidF).map bare=_
 rw[List.map_map]
 exact List.map_congr_left fun f _=>rfl
theorem straight_of {l:List Sm}(h:straightB l=true)(hv:VarOk l):Straight l:=fun s hs=>by
 unfold straightB at h
 rw[List.all_eq_true]at h
 have:=h s hs
 simp only[Bool.and_eq_true,Bool.not_eq_true']at this
 exact⟨this.1,this.2,hv s hs⟩
theorem surO_laid {p:Pg}(h:∀f∈p.funcs,straightB f.body=true)(hv:∀f∈p.funcs,VarOk f.body) :
  (cE (sureO (laidP p))=0↔∃bs,faultH (gdOf p)=none/\ckF (hdOf p) (hdOf p).sigs p.funcs=.ok bs):=by
 have ha:=alike_laid p
 have hs:∀f∈p.funcs,Straight f.body:=fun f hf=>straight_of (h f hf) (hv f hf)
 obtain⟨h1,h2⟩:=funs_ok (H:=hdOf p) (ss:=(hdOf p).sigs) hs
 unfold sureO
 rw[fault_same ha,hd_same ha]
 cases hf:faultH (gdOf p) with
 |some a=>simp[cE]
 |none=>
  simp only
  have e:(laidP p).funcs=p.funcs.map laidF:=rfl
  rw[e]
  cases hc:ckF (hdOf p) (hdOf p).sigs p.funcs with
  |error x=>
   obtain⟨x',e'⟩:=h2 x hc
   rw[e']
   simp[cE]
  |ok bs=>
   obtain⟨bs',e1,e2⟩:=h1 bs hc
   rw[e1]
   simp[cE,e2]
theorem fine_laid {p:Pg}(h:Fine p)(hb:∀f∈p.funcs,Sm.szs f.body<=6001):Fine (laidP p):=by
 refine⟨⟨h.inn.r,h.inn.g,⟨by simpa [laidP] using h.inn.f.1,fun g hg=>?_⟩⟩,fun g hg=>?_⟩
 ·obtain⟨f,hf,rfl⟩:=List.mem_map.1 hg
  have:=h.inn.f.2 f hf
  exact⟨this.a,this.len,this.f,this.od⟩
 ·obtain⟨f,hf,rfl⟩:=List.mem_map.1 hg
  have h1:=hb f hf
  have h2:=laid_szs f.body
  show Sm.szs (laidB f.body)<=_
  omega
theorem typedV_two (p:Pg):(∃a,(¬∃bs,faultH (gdOf p)=none/\ckF (hdOf p) (hdOf p).sigs p.funcs=.ok bs)/\typedV p=.tup [Z5,.agg [.int .i64 3,.int .i64 a]])\/
  (∃bs,faultH (gdOf p)=none/\ckF (hdOf p) (hdOf p).sigs p.funcs=.ok bs/\typedV p=.tup [.agg (hdCells (hdOf p) (mainP p)++[lstV 3 (bs.map Bd.row)]),.agg [.int .i64 0,.int .i64 0]]):=by
 unfold typedV
 split
 ·rename_i a h1;exact Or.inl ⟨a,(by rintro⟨bs,h2,_⟩;rw[h1]at h2;cases h2),rfl⟩
 ·rename_i hf
  cases hc:ckF (hdOf p) (hdOf p).sigs p.funcs with
  |error a=>exact Or.inl ⟨a,(by rintro⟨bs,_,h2⟩;cases h2),rfl⟩
  |ok bs=>exact Or.inr ⟨bs,hf,rfl,rfl⟩
theorem law_laid (s:List UInt8):(orcL S).call 0 0 4 [.str s] []=some (.bool true,[]):=by
 have hF:=fine_progS s
 have hB:=progS_small s
 have hV:=progS_var s
 have ep:=fun wl lim st=>prog_ok wl lim s st
 have ek:=fun wl lim st=>call_any (S:=S) (f:=9) (sf:=s9) rfl rfl (args:=[]) rfl known0 wl lim st
 generalize progS s=P at *
 obtain⟨p,fe,fa⟩:=P
 simp only at ep hF hB hV
 have ec:=fun wl lim st=>R9.check_ok wl lim p st (gd_ok hF.inn) (gd_sm hF.inn) (fine_sz hF)
 have hFl:=fine_laid hF hB
 have e1:=fun wl lim st=>sure_fine hFl wl lim st
 have hpr:p.row=[lstV 3 (p.recs.map Rc.row),lstV 4 (p.globals.map PD.cells),lstV 7 (p.funcs.map Fc.row)]:=rfl
 have hql:(laidP p).row=[lstV 3 (p.recs.map Rc.row),lstV 4 (p.globals.map PD.cells),lstV 7 ((p.funcs.map laidF).map Fc.row)]:=rfl
 have f1:isSl (lstV 7 (p.funcs.map Fc.row))=true:=isSl_lstV
 have f2:(lstV 7 (p.funcs.map Fc.row)).view=lstV 7 (p.funcs.map Fc.row):=view_lstV
 have r1:isSl (lstV 3 (p.recs.map Rc.row))=true:=isSl_lstV
 have r2:(lstV 3 (p.recs.map Rc.row)).view=lstV 3 (p.recs.map Rc.row):=view_lstV
 have g1:isSl (lstV 4 (p.globals.map PD.cells))=true:=isSl_lstV
 have g2:(lstV 4 (p.globals.map PD.cells)).view=lstV 4 (p.globals.map PD.cells):=view_lstV
 have f3:rowsL (lstV 7 (p.funcs.map Fc.row))=p.funcs.map Fc.row:=rowsL_lstV
 have hz7:isSz 7 (lstV 7 (p.funcs.map Fc.row))=true:=isSz_lst (by simp[fits,Fc.row])
 have hn16:=hF.inn.f.1
 rw[hpr]at ep ec
 rw[hql]at e1
 refine call_pure (sf:=s4) rfl rfl (by simp) rfl (by simp) ?_
 by_cases hl:(4000:Int)<(s.length:Int)
 ·simp[s4,ep,hl,f1,f2,r1,r2,g1,g2,paste]
 by_cases hfe:fe=0
 rotate_left
 ·simp[s4,ep,hl,hfe,f1,f2,r1,r2,g1,g2,paste]
 simp[s4,ep,hl,hfe,f1,f2,r1,r2,g1,g2,paste]
 refine W_loopI s4_l0.eq_1 (fun q:Nat×List AV=>⟨[(3,.fp 0 0),(5,.fp 2 0),(6,.val (.int .i64 q.1))],
  [[lstV 3 (p.recs.map Rc.row),lstV 4 (p.globals.map PD.cells),lstV 7 (p.funcs.map Fc.row)],[.int .i64 0,.int .i64 fa],
   [lstV 3 (p.recs.map Rc.row),lstV 4 (p.globals.map PD.cells),mkL 7 (((p.funcs.take q.1).map laidF).map Fc.row)],q.2,[],[]],[]⟩)
  (fun q=>q.1<=p.funcs.length/\∀f∈p.funcs.take q.1,straightB f.body=true) (fun q=>p.funcs.length-q.1) (0,[]) (by simp[mkL]) ⟨by simp,by simp⟩ ?_
 rintro⟨k,b3⟩ ⟨hk,hst⟩ ih
 simp only at hk hst ih
 have hsl:isSl (mkL 7 (((p.funcs.take k).map laidF).map Fc.row))=true:=isSl_mk
 by_cases hlt:k<p.funcs.length
 ·have hw:IntKind.i64.wrap ((k:Int)+1)=((k+1:Nat):Int):=by rw[wrap64]<;>omega
  obtain⟨x,hx⟩:∃x,p.funcs[k]?=some x:=⟨_,List.getElem?_eq_getElem hlt⟩
  have hx2:∀h:k<p.funcs.length,p.funcs[k]=x:=fun h=>by
   rw[List.getElem?_eq_getElem h]at hx
   exact Option.some.inj hx
  have hm:x∈p.funcs:=List.mem_of_getElem? hx
  have hsz:=hB _ hm
  have es:=fun wl lim st=>straight_ok x.body (by omega) wl lim st
  have el:=laid_ok x.body (by omega)
  unfold OkLd at el
  have hfr:∀h:k<p.funcs.length,p.funcs[k].row=[.str x.name,lstV 4 (x.params.map PD.cells),.bool x.has,.str x.on,.int .i64 x.od,ssV x.body,.int .i64 x.a]:=fun h=>by
   rw[hx2 h];rfl
  have ha:appV 7 104 (mkL 7 (((p.funcs.take k).map laidF).map Fc.row)) [(laidF x).row]=some (mkL 7 (((p.funcs.take (k+1)).map laidF).map Fc.row)):=by
   rw[appV_mk (by simp[fits,Fc.row]) (by simp;unfold room;omega),List.take_succ_eq_append_getElem hlt,hx2,List.map_append,List.map_append]
   rfl
  have hlr:(laidF x).row=[.str x.name,lstV 4 (x.params.map PD.cells),.bool x.has,.str x.on,.int .i64 x.od,ssV (laidB x.body),.int .i64 x.a]:=rfl
  rw[hlr]at ha
  have hst':straightB x.body=true->∀f∈p.funcs.take (k+1),straightB f.body=true:=fun h f hf=>by
   rw[List.take_succ_eq_append_getElem hlt,hx2]at hf
   rcases List.mem_append.1 hf with h1|h1
   ·exact hst f h1
   ·rw[List.mem_singleton.1 h1];exact h
  have hsl2:isSl (mkL 7 (((p.funcs.take (k+1)).map laidF).map Fc.row))=true:=isSl_mk
  have ih':=fun b h=>ih (k+1,b) ⟨by simp only;omega,hst' h⟩ (by simp only;omega)
  simp only at ih'
  obtain⟨p1,c1,m1⟩:isSl (lstV 4 (x.params.map PD.cells))=true/\isSl (ssV x.body)=true/\isSl (mkL 9 (Sm.rows (laidB x.body)))=true:=⟨isSl_lstV,isSl_ssV,isSl_mk⟩
  have p2:(lstV 4 (x.params.map PD.cells)).view=lstV 4 (x.params.map PD.cells):=view_lstV
  have c2:(ssV x.body).view=ssV x.body:=view_ssV
  have m3:(mkL 9 (Sm.rows (laidB x.body))).view=ssV (laidB x.body):=rfl
  clear hsz hst ih hlr
  generalize mkL 7 (((p.funcs.take k).map laidF).map Fc.row)=acc at *
  generalize mkL 7 (((p.funcs.take (k+1)).map laidF).map Fc.row)=acc2 at *
  generalize lstV 4 (x.params.map PD.cells)=xp at *
  generalize ssV x.body=xb at *
  cases hs:straightB x.body with
  |false=>
   simp[hlt,hz7,f1,f2,f3,hfr,p1,p2,c1,c2,es,hs,ek,paste,AV.view,AV.viewL]
  |true=>
   simp[hlt,hw,hz7,f1,f2,f3,hfr,p1,p2,c1,c2,es,hs,el,m1,m3,ha,hsl2,paste,AV.view,AV.viewL]
   exact ih' _ hs
 ·have hkl:k=p.funcs.length:=by omega
  subst hkl
  rw[List.take_length]at hst hsl ⊢
  have hso:=surO_laid hst hV
  have hv:(mkL 7 ((p.funcs.map laidF).map Fc.row)).view=lstV 7 ((p.funcs.map laidF).map Fc.row):=rfl
  have q1:isSl (lstV 7 ((p.funcs.map laidF).map Fc.row))=true:=isSl_lstV
  generalize lstV 7 ((p.funcs.map laidF).map Fc.row)=QF at *
  generalize mkL 7 ((p.funcs.map laidF).map Fc.row)=QL at *
  rcases typedV_two p with⟨a,hno,ht⟩|⟨bs,hf,hc,ht⟩
  ·have hne:¬cE (sureO (laidP p))=0:=by
    rw[hso];exact hno
   rw[ht]at ec
   simp only[Z5]at ec
   unfold fltV at e1
   simp[f1,f2,f3,r2,g2,hv,ec,e1,hne,ek,paste,AV.view,AV.viewL,W_draw0,noBoxes]
  ·have he:cE (sureO (laidP p))=0:=hso.2 ⟨bs,hf,hc⟩
   have he2:cX (sureO (laidP p))=0:=by
    cases hx:sureO (laidP p) with
    |none=>rfl
    |some x=>rw[hx]at he;cases he
   rw[ht]at ec
   simp only[hdCells,List.cons_append,List.nil_append]at ec
   unfold fltV at e1
   rw[he,he2]at e1
   simp[f1,f2,f3,r2,g2,hv,ec,e1,ek,paste,AV.view,AV.viewL,W_draw0,noBoxes]
end S9
