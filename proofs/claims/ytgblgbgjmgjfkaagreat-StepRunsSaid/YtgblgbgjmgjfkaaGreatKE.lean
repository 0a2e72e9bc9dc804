/-
  runrigref13's machine: any instruction of a right program.
-/
import Derived.Test.YtgblgbgjmgjfkaaGreatKD
import Derived.Test.YtgblgbgjmgjfkaaGreatUD
import Derived.Test.YtgblgbgjmgjfkaaGreatR
import Derived.Test.YtgblgbgjmgjfkaaGreatJ

set_option maxRecDepth 100000
set_option maxHeartbeats 8000000
namespace E13
open Ax Go Code14z IrV Mach U12
variable {T:XD}{lim:Nat}{L:List Fr}{r:Ms}{I:Ids}{st st':Store}{f g:Fr}{i:ID}{a:Nat×Nat}{b:List (Nat×Nat)}{R:List (List AV)}{c:CD}{k:Nat}
abbrev XT(T:XD):MP:=E14.mpOf T (E14.cvT T)
theorem XT_cells(hr:rightT T=true){n:Int}(h0:0<=n)(h1:n<((XT T).cells.length:Int)):n<(dSs T.sites).length/\(XT T).cells.getD n.toNat 0=(rowsL (cellsV T n.toNat)).length:=by
 have e:(XT T).cells.length=(dSs T.sites).length:=by simp[XT,E14.mpOf]
 rw[e]at h1
 refine⟨h1,?_⟩
 have hk:n.toNat<(dSs T.sites).length:=by omega
 simp only[XT,E14.mpOf,E14.cvT]
 rw[List.getD_eq_getElem?_getD,List.getElem?_map,List.getElem?_range hk]
 have hc:cellsT T (n.toNat:Int)=cellsV T n.toNat:=by
  unfold cellsT
  rw[if_pos ⟨hr,by omega,by omega⟩,Int.toNat_natCast]
 show (rowsL (cellsT T (n.toNat:Int))).length=_
 rw[hc]
theorem do_did(h:At T lim L r I st f i a b R c k){ni:Nat}(fit:Fit (XT T) f.vs.length ni i)(hr:rightT T=true)(hvs:∀c∈dCs T.codes,(dTs c.vars).length<1000000)(hL:L.length<1000)
  (hS:r.s.length<1000000)(hO:r.out.length<1000000)(hg:r.g.length=(XT T).ng)(hto:f.to = -1\/∀g l',L=g::l'->inV g.vs.length f.to):Did T lim (doI (XT T) { r with l:=nx f::L } f.vs i) I st:=by
 have hop:=fit.op
 have fa:=fit.a
 have fb:=fit.b
 have fc:=fit.c
 have hc:i.op=1\/i.op=2\/i.op=3\/i.op=4\/i.op=5\/i.op=6\/i.op=7\/i.op=8\/i.op=9\/i.op=10\/i.op=11\/i.op=12\/i.op=13\/i.op=14\/i.op=15\/i.op=16\/i.op=17\/i.op=18\/i.op=19\/i.op=20:=by omega
 rcases hc with o|o|o|o|o|o|o|o|o|o|o|o|o|o|o|o|o|o|o|o
 ·exact op1 h o (fa (by omega) (by omega) (by omega))
 ·exact op2 h o (fa (by omega) (by omega) (by omega))
 ·exact op3 h o (fa (by omega) (by omega) (by omega)) (fb (by omega))
 ·exact op4 h o (fa (by omega) (by omega) (by omega)) (fb (by omega)) (fc (by omega))
 ·exact op5 h o (fa (by omega) (by omega) (by omega)) (fb (by omega))
 ·exact op6 h o (fa (by omega) (by omega) (by omega)) hS (fb (by omega))
 ·exact op7 h o (fa (by omega) (by omega) (by omega)) hS (fb (by omega))
 ·exact op8 h o (fa (by omega) (by omega) (by omega)) hS (fb (by omega)) (fc (by omega))
 ·exact op9 h o (fa (by omega) (by omega) (by omega)) hS (fb (by omega)) (fc (by omega))
 ·exact op10 h o (fa (by omega) (by omega) (by omega)) hS (fb (by omega))
 ·obtain⟨b1,b2⟩:=fit.site o
  obtain⟨b3,b4⟩:=XT_cells hr b1 b2
  exact op11 h o (fa (by omega) (by omega) (by omega)) hS hr b1 b3 rfl b4
 ·have ha:=fa (by omega) (by omega) (by omega)
  have hb:=fb (by omega)
  by_cases q:vAt f.vs i.b<0\/50<vAt f.vs i.b
  ·exact op12_no h o ha hb q
  ·exact op12_ok h o ha hS hb (q:=(vAt f.vs i.b).toNat) (by omega) (by omega)
 ·obtain⟨c1,c2,c3,c4⟩:=fit.call o
  have hcl:i.c.toNat<(dCs T.codes).length:=by
   have:(XT T).codes.length=(dCs T.codes).length:=rfl
   omega
  have hnv:nvOf (XT T) i.c.toNat=(dTs (dCs T.codes)[i.c.toNat].vars).length:=by
   unfold nvOf
   show (dTs ((dCs T.codes).getD i.c.toNat C0).vars).length=_
   rw[List.getD_eq_getElem?_getD,List.getElem?_eq_getElem hcl];rfl
  exact op13 h o hL (cc:=i.c.toNat) (by omega) hcl (hvs _ (List.getElem_mem hcl)) c4 (by rw[<-hnv];exact c3) hnv
 ·exact op14 h o (fa (by omega) (by omega) (by omega))
 ·exact op15 h o (fa (by omega) (by omega) (by omega)) hO
 ·exact op16 h o
 ·exact op17 h o (fa (by omega) (by omega) (by omega))
 ·exact op18 h o (fit.a2 (.inr o)) hto
 ·have q:=fit.glob (.inl o)
  exact op19 h o (fa (by omega) (by omega) (by omega)) (by rw[hg];exact q)
 ·have q:=fit.glob (.inr o)
  exact op20 h o (fa (by omega) (by omega) (by omega)) (by rw[hg];exact q)
end E13
namespace E13
open Ax Go Code14z IrV Mach U12
variable {T:XD}
structure Pre (T:XD)(p:Nat)(r m:Ms)(I:Ids)(st:Store):Prop where
 rep:Rep T 0 r.l r I st
 p:I.p=p
 ok:MsOk (XT T) m
 eqv:Eqv r m
def Ends(r m:Ms):Prop:=r.e=m.e/\r.code=m.code/\r.out=m.out/\r.steps=m.steps
theorem loop_ok{rs:List SRes}{Q:Ex->St->Prop}{K:List Todo}(hx:T.ok)(hr:rightT T=true)(hvs:∀c∈dCs T.codes,(dTs c.vars).length<1000000)(hins:∀c∈dCs T.codes,(dNs c.ins).length<1000000){fuel:Int}(hfu:fuel<=900000){p:Nat}{bx:Boxes}{fin:Ms}
  (hK:∀r' I' st',Rep T 0 r'.l r' I' st'->I'.p=p->Ends r' fin->W S 0 0 rs Q K .normal ⟨[(6,.fp 1 0),(7,.val (.ptr p 0 0 0))],bx,st'⟩)
  {r m:Ms} {I:Ids} {st:Store} (h:Pre T p r m I st) (hs:(m.steps:Int)<=max fuel 0) (hfin:runM (XT T) (fuel.toNat-m.steps) m=fin) :
  W S 0 0 rs Q (.code (.loop s9_l0)::.blk 0::K) .normal ⟨[(2,.val (.int .i64 fuel)),(6,.fp 1 0),(7,.val (.ptr p 0 0 0))],bx,st⟩:=by
 have hX:XOk (XT T):=E14.x_ok hr
 refine W_loopI s9_l0.eq_1 (fun q:Ms×Ms×Ids×Store=>⟨[(2,.val (.int .i64 fuel)),(6,.fp 1 0),(7,.val (.ptr p 0 0 0))],bx,q.2.2.2⟩)
  (fun q=>Pre T p q.1 q.2.1 q.2.2.1 q.2.2.2/\(q.2.1.steps:Int)<=max fuel 0/\runM (XT T) (fuel.toNat-q.2.1.steps) q.2.1=fin) (fun q=>fuel.toNat-q.2.1.steps) (r,m,I,st) rfl ⟨h,hs,hfin⟩ ?_
 clear h hs hfin r m I st
 rintro⟨r,m,I,st⟩ ⟨h,hs,hfin⟩ ih
 simp only at h hs hfin ih ⊢
 obtain⟨q1,q2,q3,q4,q5⟩:=h.eqv
 by_cases he:m.e=0
 ·obtain rfl:=q5 he
  have hR:=h.rep
  have hP:=hR.P
  have hpp:=h.p
  subst hpp
  by_cases hst:(r.steps:Int)<max fuel 0
  ·have hlt:¬((if fuel<0 then 0 else fuel)<=(r.steps:Int)):=by split<;>omega
   obtain⟨n,hn⟩:∃n,fuel.toNat-r.steps=n+1:=⟨fuel.toNat-r.steps-1,by omega⟩
   rw[hn]at hfin
   simp only[runM,if_pos he]at hfin
   cases hl:r.l with
   |nil=>exact absurd hl (h.ok.e he)
   |cons f l=>
   have hok:=step_ok hX h.ok he
   have hfl:=h.ok.l
   rw[hl,frs_cons]at hfl
   obtain⟨hf,htt⟩:=hfl
   obtain⟨k,hk,hka,hi⟩:=ins_get hf
   obtain⟨fit,_⟩:=hX.fit f.f hf.fo k hk
   rw[<-hi]at fit
   have fo:f.f<(dCs T.codes).length:=hf.fo
   have hcg:(XT T).codes.getD f.f C0=(dCs T.codes)[f.f]:=by
    show (dCs T.codes).getD f.f C0=_
    rw[List.getD_eq_getElem?_getD,List.getElem?_eq_getElem fo];rfl
   have hin:=hins _ (List.getElem_mem fo)
   have hk':k<(dNs (dCs T.codes)[f.f].ins).length:=by rw[<-hcg];exact hk
   have hik:(dNs (dCs T.codes)[f.f].ins)[k]?=some (insAt (XT T) f):=by rw[List.getElem?_eq_getElem hk',hi];simp only[hcg]
   have hdp:=h.ok.d
   have hso:=h.ok.s
   have hoo:=h.ok.o
   obtain⟨s1,hs1⟩:∃s,s=st.set I.p (.rows 0 13 [theRow T { r with steps:=r.steps+1 } I]):=⟨_,rfl⟩
   have R1:Rep T 0 (f::l) { r with steps:=r.steps+1 } I s1:=by rw[hs1,<-hl];exact hR.row { r with steps:=r.steps+1 } I.iv rfl rfl rfl hR.iv
   rw[hl]at hdp
   obtain⟨a,b,R,A⟩:=at_of R1 (by simp at hdp;omega) hx (List.getElem?_eq_getElem fo) hka hik hin
   have hto:f.to = -1\/∀g l',l=g::l'->inV g.vs.length f.to:=by
    by_cases q:f.to = -1
    ·exact .inl q
    ·refine .inr fun g l' e=>?_
     subst e
     obtain⟨q1,q2⟩:=htt
     rw[frs_cons]at q2
     rcases q1 with q1|q1
     ·exact absurd q1 q
     ·rw[q2.1.vo];exact q1
   obtain⟨s3,I3,r3,l3,c3,p3,R3,e3⟩:=do_did A (by rw[hf.vo];exact fit) hr hvs (by simp at hdp;omega) (by show r.s.length<_;omega) (by show r.out.length<_;omega) h.ok.g hto
   have es:stepM (XT T) { r with steps:=r.steps+1 }=doI (XT T) { r with steps:=r.steps+1,l:=nx f::l } f.vs (insAt (XT T) f):=by
    unfold stepM
    show (match r.l with|f'::l'=>doI (XT T) ({ r with steps:=r.steps+1,l:={ f' with at_:=f'.at_+1 }::l' }:Ms) f'.vs (insAt (XT T) f') | []=>{ r with steps:=r.steps+1 })=_
    rw[hl];rfl
   have hst3:(stepM (XT T) { r with steps:=r.steps+1 }).steps=r.steps+1:=step_on.st
   have e3':Eqv r3 (stepM (XT T) { r with steps:=r.steps+1 }):=by rw[es];exact e3
   have ih2:=ih (r3,stepM (XT T) { r with steps:=r.steps+1 },I3,s3) ⟨⟨R3,p3,hok,e3'⟩,by simp only[hst3];omega,by simp only[hst3];rw[show fuel.toNat-(r.steps+1)=n by omega];exact hfin⟩ (by simp only[hst3];omega)
   have hw1:IntKind.i64.wrap ((r.steps:Int)+1)=(r.steps:Int)+1:=by rw[wrap64]<;>omega
   have P1:=R1.P
   have hs1':st.set I.p (.rows 0 13 [[T.recs,T.globals,T.codes,T.sites,.int .i64 T.main,I.iv,lV r.s I.q I.v,.mu I.g 0,fV I,.int .i64 0,.int .i64 r.code,oV r.out I.o I.ov,.int .i64 ((r.steps:Int)+1)]])=s1:=by rw[hs1,<-he];rfl
   simp only[theRow,mRow]at hP
   rw[he]at hP
   simp[hP,cut,hlt,mayWrite,AV.allPure,AV.isPure,paste,hw1,hs1',c3]
   exact W_again.2 ih2
  ·have h0:fuel.toNat-r.steps=0:=by omega
   rw[h0]at hfin
   have hge:(if fuel<0 then 0 else fuel)<=(r.steps:Int):=by split<;>omega
   have hf:fin={ r with e:=3 }:=by rw[<-hfin];simp only[runM,if_pos he]
   have hR3:=hR.row { r with e:=3 } I.iv rfl rfl rfl hR.iv
   subst hf
   have hk:=hK { r with e:=3 } _ _ hR3 rfl ⟨rfl,rfl,rfl,rfl⟩
   simp only[theRow,mRow]at hk hP
   rw[he]at hP
   simp[hP,cut,hge,mayWrite,AV.allPure,AV.isPure,paste]
   exact hk
 ·have hf:fin=m:=by
   rw[<-hfin]
   cases fuel.toNat-m.steps with
   |zero=>simp only[runM,if_neg he]
   |succ n=>simp only[runM,if_neg he]
  have hP:=h.rep.P
  have hpp:=h.p
  subst hpp
  simp only[theRow,mRow]at hP
  have he':¬r.e=0:=by rw[q1];exact he
  simp[hP,cut,he']
  subst hf
  exact hK r I st h.rep rfl ⟨q1,q2,q3,q4⟩
end E13
namespace E13
open Ax Go Code14z IrV Mach U12
variable {T:XD}
theorem freezeLL_ints{wl:Nat}:∀(l:List Int)(st:Store),freezeLL wl (ints l) st=some (ints l,st)
 |[],st=>rfl
 |n::l,st=>by
  have ih:=freezeLL_ints (wl:=wl) l st
  simp only[ints,List.map_cons]at *
  simp[freezeLL,freezeL,freezeC,AV.isPure,AV.view,ih]
theorem out_frz{lim:Nat}{L:List Fr}{r:Ms}{I:Ids}{st:Store}(h:Rep T lim L r I st):∃st',freezeH 0 (oV r.out I.o I.ov) st=some (E14.outV r.out,st')/\st'[I.p]?=st[I.p]?/\st'.length=st.length:=by
 unfold E14.outV oV
 by_cases q:r.out=[]
 ·rw[if_pos q,if_pos q]
  exact⟨st,rfl,rfl,rfl⟩
 ·rw[if_neg q,if_neg q]
  have hO:=h.O q
  have hne:(ints r.out).isEmpty=false:=by
   cases hq:r.out with
   |nil=>exact absurd hq q
   |cons a b=>rfl
  have hpo:I.o≠I.p:=fun e=>by
   have h1:=h.lo q
   rw[e,h.lp]at h1
   cases h1
  refine⟨st.set I.o (.rows (I.ov+1) 1 []),?_,List.getElem?_set_ne hpo,by simp⟩
  show freezeV 0 (.mu I.o I.ov) st=_
  simp only[freezeV,hO,hne,freezeLL_ints]
  simp
def lab0(j:Nat):Lb:=if j=0 then .p else if j=1 then .g else .no
theorem run_no(hx:T.ok)(hp:(E14.xA T).isPure=true){inp:AV}(hi:isI inp=true)(n:Int)(hR:∀wl li st,(orcL S).call wl li 16 [E14.xA T] st=some (.bool false,st))(wl li:Nat)(st:Store) :
  (orcL S).call wl li 9 [E14.xA T,inp,.int .i64 n] st=some (E14.behV E14.zeroM,st):=by
 have hs:=isSl_I hi
 have hpi:=pure_sl hs
 have rs:=isSl_R hx.recs
 have rv:=isRs_vw hx.recs
 have gs:=isSl_T hx.globals
 have gv:=isTs_vw hx.globals
 have cs:=isSl_C hx.codes
 have cv:=isCs_vw hx.codes
 have ss:=isSl_S hx.sites
 have sv:=isSs_vw hx.sites
 unfold E14.xA at hR hp ⊢
 refine call_pure (sf:=s9) rfl rfl (by rw[AV.allPure,hp,AV.allPure,hpi];rfl) rfl rfl ?_
 simp[s9,hR,rs,rv,cs,cv,gs,gv,ss,sv,E14.behV,E14.zeroM,E14.outV,paste,oneOrAgg,cut]
theorem run_ok(hx:T.ok)(hp:(E14.xA T).isPure=true){inp:AV}(hi:isI inp=true)(hno:notOwn inp=true)(fuel:Int)(hR:∀wl li st,(orcL S).call wl li 16 [E14.xA T] st=some (.bool true,st))(hr:rightT T=true)
  {mk:Nat}(hmain:T.main=mk)(hmk:mk<(dCs T.codes).length)(hng:(dTs T.globals).length<1000000)(hvs:∀c∈dCs T.codes,(dTs c.vars).length<1000000)(hins:∀c∈dCs T.codes,(dNs c.ins).length<1000000)(hfu:fuel<=900000)(wl li:Nat)(st:Store) :
  (orcL S).call wl li 9 [E14.xA T,inp,.int .i64 fuel] st=some (E14.behV (runM (XT T) fuel.toNat (m0 (XT T) mk (dI inp))),st):=by
 have hrp:(E14.behV (runM (XT T) fuel.toNat (m0 (XT T) mk (dI inp)))).isPure=true:=by
  simp only[E14.behV,AV.isPure,AV.allPure,E14.outV_pure,Bool.and_self]
 generalize hfin:runM (XT T) fuel.toNat (m0 (XT T) mk (dI inp))=fin at *
 have hs:=isSl_I hi
 have hv:=view_notOwn hno hs
 have gs:=isSl_T hx.globals
 have gv:=isTs_vw hx.globals
 have gl:=rowsL_T hx.globals
 have rs:=isSl_R hx.recs
 have rv:=isRs_vw hx.recs
 have cs:=isSl_C hx.codes
 have cv:=isCs_vw hx.codes
 have ss:=isSl_S hx.sites
 have sv:=isSs_vw hx.sites
 have hpi:=pure_sl hs
 have hrm:((dTs T.globals).length:Int)*8<=room:=by unfold room;omega
 have hrep:List.replicate (dTs T.globals).length [AV.int .i64 0]=ints (List.replicate (dTs T.globals).length 0):=by simp[ints]
 obtain⟨r0,hr0⟩:∃r:Ms,r=⟨dI inp,[],List.replicate (dTs T.globals).length 0,[],0,0,[],0⟩:=⟨_,rfl⟩
 obtain⟨t0,ht0⟩:∃t:Store,t=[.rows 0 13 [[T.recs,T.globals,T.codes,T.sites,.int .i64 T.main,inp,.nilSl,.mu 1 0,.nilSl,.int .i64 0,.int .i64 0,.nilSl,.int .i64 0]],.rows 0 1 (ints (List.replicate (dTs T.globals).length 0))]:=⟨_,rfl⟩
 have R0:Rep T 0 [] r0 ⟨0,0,0,1,0,0,[],true,0,0,[],lab0,inp⟩ t0:=by
  subst hr0 ht0
  exact⟨rfl,⟨hi,hno,rfl⟩,rfl,fun e=>absurd rfl e,fun k hk=>by simp at hk,rfl,trivial,fun e=>absurd rfl e,rfl,rfl,fun e=>absurd rfl e,fun e=>absurd rfl e,fun i hi=>by simp at hi,fun e=>absurd rfl e,by simp,fun i hi=>by simp[idsF]at hi,by simp[idsF],fun _ _=>Nat.zero_le _,fun e=>by simp at e,fun _=>rfl,fun e=>by simp at e⟩
 obtain⟨t1,I1,l1,c1,p1,R1⟩:=enter_ok R0 hx hmk (hvs _ (List.getElem_mem hmk)) (-1) [] (AL:=.nilSl) rfl (by simp) (by simp)
 have hnvo:nvOf (XT T) mk=(dTs (dCs T.codes)[mk].vars).length:=by
  unfold nvOf
  show (dTs ((dCs T.codes).getD mk C0).vars).length=_
  rw[List.getD_eq_getElem?_getD,List.getElem?_eq_getElem hmk];rfl
 have R2:=R1.anyl (m0 (XT T) mk (dI inp)).l
 have em:{ r0 with l:=(m0 (XT T) mk (dI inp)).l }=m0 (XT T) mk (dI inp):=by
  rw[hr0];rfl
 have el:(m0 (XT T) mk (dI inp)).l=[⟨mk,0,-1,[]++List.replicate ((dTs (dCs T.codes)[mk].vars).length-([]:List Int).length) 0⟩]:=by
  simp[m0,hnvo]
 rw[em,<-el]at R2
 unfold E14.xA at hR hp ⊢
 refine call_pure (sf:=s9) rfl rfl (by rw[AV.allPure,hp,AV.allPure,hpi];rfl) rfl hrp ?_
 simp[s9,hR,rs,rv,cs,cv,gs,gv,gl,ss,sv,hs,W_draw0,noBoxes,hrm,paste]
 rw[W_frzH]
 rw[hrep]
 refine⟨0,0,0,0,_,.mu 1 0,_,t0,rfl,rfl,rfl,by rw[ht0];rfl,?_⟩
 rw[hmain]
 simp[c1]
 refine loop_ok hx hr hvs hins hfu (p:=0) (fun r' I' st' hF hp2 hE=>?_) (r:=m0 (XT T) mk (dI inp)) ⟨R2,p1,m0_ok (E14.x_ok hr) hmk _,Eqv.refl _⟩ (by simp[m0];omega) (by simpa [m0] using hfin)
 have P':=hF.P
 obtain⟨s4,f1,f2,f3⟩:=out_frz hF
 rw[hp2]at P' f2
 have l2:0<s4.length:=by rw[f3];exact lt_of P'
 have P4:=f2.trans P'
 have ov:=E14.outV_pure r'.out
 have ow:(E14.outV r'.out).view=E14.outV r'.out:=by unfold E14.outV;split<;>rfl
 have oc:(E14.outV r'.out).isCell=true:=by unfold E14.outV;split<;>rfl
 obtain⟨s6,hs5⟩:∃s,s=s4.set 0 (.rows 0 13 [[T.recs,T.globals,T.codes,T.sites,.int .i64 T.main,I'.iv,lV r'.s I'.q I'.v,.mu I'.g 0,fV I',.int .i64 r'.e,.int .i64 r'.code,E14.outV r'.out,.int .i64 r'.steps]]):=⟨_,rfl⟩
 have P5:=List.getElem?_set_self (a:=AObj.rows 0 13 [[T.recs,T.globals,T.codes,T.sites,.int .i64 T.main,I'.iv,lV r'.s I'.q I'.v,.mu I'.g 0,fV I',.int .i64 r'.e,.int .i64 r'.code,E14.outV r'.out,.int .i64 r'.steps]]) l2
 rw[<-hs5]at P5
 simp only[theRow,mRow]at P' P4
 obtain⟨z1,z2,z3,z4⟩:=hE
 have hb:E14.behV fin=E14.behV r':=by unfold E14.behV;rw[z1,z2,z3,z4]
 rw[hb]
 simp
 rw[W_frzH]
 refine⟨0,0,0,0,_,_,s4,s6,rfl,?_,f1,?_,?_⟩
 ·simp[readP,P',cut]
 ·simp[writeP,P4,mayWrite,paste,hs5]
 ·simp[cut,P5,ow,oc,AV.viewL,oneOrAgg,paste,E14.behV]
theorem runX_ok(hx:T.ok)(hg:greatT T=false)(hR:∀wl li st,(orcL S).call wl li 16 [E14.xA T] st=some (.bool (rightT T),st)){inp:AV}(hi:isI inp=true)(hno:notOwn inp=true)(n:Int)(hn:n<=900000)(wl li:Nat)(st:Store) :
  (orcL S).call wl li 9 [E14.xA T,inp,.int .i64 n] st=some (E14.behV (E14.runX T (dI inp) n.toNat),st):=by
 obtain⟨f1,f2,f3,f4,f5⟩:=great_few hg
 have hp:(E14.xA T).isPure=true:=hx.pure
 unfold E14.runX
 cases hr:rightT T with
 |false=>
  rw[if_neg (by simp)]
  rw[hr]at hR
  exact run_no hx hp hi n hR wl li st
 |true=>
  rw[if_pos rfl]
  rw[hr]at hR
  obtain⟨k,hk,hkl⟩:=E14.main_in hr
  rw[hk,Int.toNat_natCast]
  exact run_ok hx hp hi hno n hR hr hk hkl (by omega) (fun c h=>by have:=f4 c h;omega) (fun c h=>by have:=f5 c h;omega) hn wl li st
end E13
namespace E13
open Ax Go Code14z IrV Mach U12
theorem law_runs{x:XD}(hx:x.ok){inp:AV}(hi:isI inp=true)(hno:notOwn inp=true)(n:Int):∃st',(orcL S).call 0 0 3 [E14.xA x,inp,.int .i64 n] []=some (.bool true,st'):=by
 refine⟨[],?_⟩
 have hs:=isSl_I hi
 have hv:=view_notOwn hno hs
 have hl:=rowsL_I hi
 have hpi:=pure_sl hs
 have hp:(E14.xA x).isPure=true:=hx.pure
 have gr:=fun wl li st=>great_ok wl li (x:=x) st hx
 have rs:=isSl_R hx.recs
 have rv:=isRs_vw hx.recs
 have gs:=isSl_T hx.globals
 have gv:=isTs_vw hx.globals
 have cs:=isSl_C hx.codes
 have cv:=isCs_vw hx.codes
 have ss:=isSl_S hx.sites
 have sv:=isSs_vw hx.sites
 have kn:=fun wl li st=>call_any (sf:=s10) rfl rfl rfl E14.known0 wl li st
 refine call_pure (sf:=s3) rfl rfl (by rw[AV.allPure,hp,AV.allPure,hpi];rfl) rfl rfl ?_
 cases hg:greatT x with
 |true=>
  unfold xAV at gr
  rw[hg]at gr
  simp[s3,E14.xA,rs,rv,gs,gv,cs,cv,ss,sv,gr]
 |false=>
  by_cases c1:(100:Int)<((dI inp).length:Int)
  ·unfold xAV at gr
   rw[hg]at gr
   simp[s3,E14.xA,rs,rv,gs,gv,cs,cv,ss,sv,gr,hs,hv,hl,c1]
  by_cases c2:20000<n
  ·unfold xAV at gr
   rw[hg]at gr
   simp[s3,E14.xA,rs,rv,gs,gv,cs,cv,ss,sv,gr,hs,hv,hl,c1,c2]
  obtain⟨_,_,_,f4,f5⟩:=great_few hg
  have hR:∀wl li st,(orcL S).call wl li 16 [E14.xA x] st=some (.bool (rightT x),st):=fun wl li st=>by
   rw[right_eq]
   exact rright_ok wl li st hx (fun g h=>by have:=f4 g h;omega) (fun g h=>by have:=f5 g h;omega)
  have r1:=fun wl li st=>E14.runX_ok hx hg hi hno n (by omega) wl li st
  have r2:=fun wl li st=>runX_ok hx hg hR hi hno n (by omega) wl li st
  have o1:=E14.few_out (x:=x) (dI inp) n.toNat
  have va:∀l,(E14.outV l).view=E14.outV l:=fun l=>by unfold E14.outV;split<;>rfl
  have ca:∀l,(E14.outV l).isCell=true:=fun l=>by unfold E14.outV;split<;>rfl
  have sm:=fun wl li st=>E14.same_ok wl li (E14.runX x (dI inp) n.toNat) (by omega) st
  unfold xAV at gr
  rw[hg]at gr
  unfold E14.xA at r1 r2
  unfold E14.behV at r1 r2 sm
  generalize E14.runX x (dI inp) n.toNat=A at *
  simp[s3,E14.xA,rs,rv,gs,gv,cs,cv,ss,sv,gr,hs,hv,hl,c1,c2,r1,r2,va,ca,sm,kn,paste,oneOrAgg,cut,W_draw0,noBoxes]
end E13
