/-
  The run: how it begins.
-/
import Derived.Test.YtgblgbgjmgjfkaaGreatUB

set_option maxRecDepth 100000
set_option maxHeartbeats 4000000
namespace E14
open Ax Go Code14z IrV Mach
variable {x:XD}{cl:AV}{lim:Nat}{m:Ms}{I:Ids}{st st':Store}{f:Fr}{l:List Fr}{i:ID}{X:MP}
theorem a_mapU{lim f:Nat}{k:Int}{es:List (AV×AV)}{st:Store}{bx:Boxes}:act0 0 lim (.mapUpdate .int) [.val (.map st.length),.val (.int .i64 k),.val (.fn f [] [])] (st++[.map es]) bx =
  match putV .int (.int .i64 k) (.fn f [] []) es with|some es'=>some (.none,st++[.map es'],bx)|none=>none:=by
 simp[act0,isKey,mayWrite,AV.allPure,AV.isPure,AV.view]
 cases putV SK.int (AV.int IntKind.i64 k) (AV.fn f [] []) es<;>rfl
theorem a_mkMap{wl lim:Nat}{st:Store}{bx:Boxes}:act0 wl lim .makeMap [] st bx=some (.val (.map st.length),st++[.map []],bx):=rfl
theorem table_ok(li:Nat)(st:Store):(orcL S).call 0 li 19 [] st=some (.map st.length,st++[.map opsT]):=by
 refine call_run (sf:=s19) rfl rfl rfl ?_
 simp[s19,opsT,a_mkMap,a_mapU,putV,eqS]
def xA(x:XD):AV:=.agg [x.recs,x.globals,x.codes,x.sites,.int .i64 x.main]
end E14
namespace E14
open Ax Go Code14z IrV Mach
variable {x:XD}{cl:AV}{lim:Nat}{m:Ms}{I:Ids}{st st':Store}{f:Fr}{l:List Fr}{i:ID}{X:MP}
structure Pre (x:XD)(cl:AV)(X:MP)(p:Nat)(m:Ms)(I:Ids)(st:Store):Prop where
 rep:Rep x cl 0 m I st
 ok:MsOk X m
 p:I.p=p
def xRow(x:XD):List AV:=[x.recs,x.globals,x.codes,x.sites,.int .i64 x.main]
def ebx(x:XD)(b1 b2:List AV):Boxes:=[xRow x,b1,b2]
theorem find_op(k:Nat)(h1:1<=k)(h2:k<=20):findV .int (.int .i64 (k:Nat)) opsT=some (some (.fn (49+k) [] [])):=by
 have:k=1\/k=2\/k=3\/k=4\/k=5\/k=6\/k=7\/k=8\/k=9\/k=10\/k=11\/k=12\/k=13\/k=14\/k=15\/k=16\/k=17\/k=18\/k=19\/k=20:=by omega
 rcases this with rfl|rfl|rfl|rfl|rfl|rfl|rfl|rfl|rfl|rfl|rfl|rfl|rfl|rfl|rfl|rfl|rfl|rfl|rfl|rfl<;>rfl
theorem loop_ok{rs:List SRes}{Q:Ex->St->Prop}{K:List Todo}(O:Of x cl X)(hX:XOk X)(hins:∀c∈dCs x.codes,(dNs c.ins).length<1000000){fuel:Int}(hfu:fuel<=1000000){p:Nat}{b1:List AV}{fin:Ms}
  (hK:∀I' st' b2,Rep x cl 0 fin I' st'->I'.p=p->W S 0 0 rs Q K .normal ⟨[(6,.fp 1 0),(7,.val (.ptr p 0 0 0))],ebx x b1 b2,st'⟩)
  (b2:List AV) (h:Pre x cl X p m I st) (hs:(m.steps:Int)<=max fuel 0) (hfin:runM X (fuel.toNat-m.steps) m=fin) :
  W S 0 0 rs Q (.code (.loop s8_l1)::.blk 2::K) .normal ⟨[(2,.val (.int .i64 fuel)),(3,.fp 0 0),(6,.fp 1 0),(7,.val (.ptr p 0 0 0))],ebx x b1 b2,st⟩:=by
 refine W_loopI s8_l1.eq_1 (fun q:Ms×Ids×Store×List AV=>⟨[(2,.val (.int .i64 fuel)),(3,.fp 0 0),(6,.fp 1 0),(7,.val (.ptr p 0 0 0))],ebx x b1 q.2.2.2,q.2.2.1⟩)
  (fun q=>Pre x cl X p q.1 q.2.1 q.2.2.1/\(q.1.steps:Int)<=max fuel 0/\runM X (fuel.toNat-q.1.steps) q.1=fin) (fun q=>fuel.toNat-q.1.steps) (m,I,st,b2) rfl ⟨h,hs,hfin⟩ ?_
 clear h hs hfin
 rintro⟨m,I,st,b2⟩ ⟨h,hs,hfin⟩ ih
 simp only at h hs hfin ih ⊢
 have hR:=h.rep
 have hP:=hR.P
 have hpp:=h.p
 subst hpp
 by_cases he:m.e=0
 ·by_cases hst:(m.steps:Int)<max fuel 0
  ·have hlt:¬((if fuel<0 then 0 else fuel)<=(m.steps:Int)):=by split<;>omega
   obtain⟨n,hn⟩:∃n,fuel.toNat-m.steps=n+1:=⟨fuel.toNat-m.steps-1,by omega⟩
   rw[hn]at hfin
   simp only[runM,if_pos he]at hfin
   cases hl:m.l with
   |nil=>exact absurd hl (h.ok.e he)
   |cons f l=>
   have hok:=step_ok hX h.ok he
   have hfl:=h.ok.l
   rw[hl,frs_cons]at hfl
   obtain⟨hf,htt⟩:=hfl
   obtain⟨k,hk,hka,hi⟩:=ins_get hf
   obtain⟨fit,_⟩:=hX.fit f.f hf.fo k hk
   rw[<-hi]at fit
   have hC:=O.ok.codes
   have fo:f.f<(dCs x.codes).length:=by rw[<-O.codes];exact hf.fo
   have hcg:X.codes.getD f.f C0=(dCs x.codes)[f.f]:=by rw[O.codes,List.getD_eq_getElem?_getD,List.getElem?_eq_getElem fo];rfl
   have hcm:=isCs_get hC _ (List.getElem_mem fo)
   have hin:=hins _ (List.getElem_mem fo)
   have hk':k<(dNs (dCs x.codes)[f.f].ins).length:=by rw[<-hcg];exact hk
   have hik:insAt X f=(dNs (dCs x.codes)[f.f].ins)[k]:=by rw[hi];simp only[hcg]
   obtain⟨hno,hiI⟩:=isNs_get hcm.2 _ (List.getElem_mem hk')
   rw[<-hik]at hno hiI
   have hdp:=h.ok.d
   obtain⟨s1,hs1⟩:∃s,s=st.set I.p (.rows 0 15 [mRow x cl I.s I.iv I.g (.mu I.fq I.fv) I.mp m.e m.code (if m.out=[] then .nilSl else .mu I.o I.ov) (m.steps+1)]):=⟨_,rfl⟩
   have R1:Rep x cl 0 { m with steps:=m.steps+1 } I s1:=by rw[hs1];exact hR.row { m with steps:=m.steps+1 } I.iv rfl rfl rfl rfl hR.iv
   have hl1:({ m with steps:=m.steps+1 }:Ms).l=f::l:=hl
   obtain⟨a,b,ha,t1,t2,_⟩:=R1.top hl1
   have ht:=fun wl li=>top_ok wl li R1 ha (show m.l.length<=1000 by omega)
   have P1:=R1.P
   obtain⟨s2,hs2⟩:∃s,s=s1.set a.1 (.rows 0 4 [fRow { f with at_:=f.at_+1 } a.2]):=⟨_,rfl⟩
   have R2:=R1.place hl1 (f.at_+1) ha
   rw[<-hs2]at R2
   have P2:=R2.P
   have M2:=R2.M
   have ej:jumpM { m with steps:=m.steps+1 } (f.at_+1)={ m with steps:=m.steps+1,l:={ f with at_:=f.at_+1 }::l }:=by
    unfold jumpM
    show (match m.l with|f'::l'=>({ m with steps:=m.steps+1,l:={ f' with at_:=f.at_+1 }::l' }:Ms) | []=>{ m with steps:=m.steps+1 })=_
    rw[hl]
   rw[ej]at R2 P2
   have es:stepM X { m with steps:=m.steps+1 }=doI X { m with steps:=m.steps+1,l:={ f with at_:=f.at_+1 }::l } f.vs (insAt X f):=by
    unfold stepM
    show (match m.l with|f'::l'=>doI X ({ m with steps:=m.steps+1,l:={ f' with at_:=f'.at_+1 }::l' }:Ms) f'.vs (insAt X f') | []=>{ m with steps:=m.steps+1 })=_
    rw[hl]
   have hso:=h.ok.s
   have hoo:=h.ok.o
   rw[hl]at hdp
   have D:=do_ok (f:={ f with at_:=f.at_+1 }) (l:=l) (i:=insAt X f) (ni:=niOf X f.f) O R2 rfl (by simpa using hdp) (by simp only;omega) (by simp only;omega) (by simp only;rw[hf.vo];exact fit) hiI hno h.ok.g ?_
   ·obtain⟨s3,I3,l3,c3,p3,r3⟩:=D
    have c4:=c3 0 (Nat.le_refl _)
    rw[<-es]at r3
    have hst3:(stepM X { m with steps:=m.steps+1 }).steps=m.steps+1:=step_on.st
    have ih2:=ih (stepM X { m with steps:=m.steps+1 },I3,s3,(insAt X f).cells) ⟨⟨r3,hok,p3⟩,by simp only[hst3];omega,by simp only[hst3];rw[show fuel.toNat-(m.steps+1)=n by omega];exact hfin⟩ (by simp only[hst3];omega)
    have cs:=isSl_C hC
    have cv:=isCs_vw hC
    have crl:=rowsL_C hC
    have nS:=isSl_N hcm.2
    have nV:=isNs_vw hcm.2
    have nL:=rowsL_N hcm.2
    have aS:=isSl_I hiI
    have aV:=view_notOwn hno aS
    have hw1:IntKind.i64.wrap ((m.steps:Int)+1)=((m.steps+1:Nat):Int):=by rw[wrap64]<;>omega
    have hw2:IntKind.i64.wrap (f.at_+1)=f.at_+1:=by rw[wrap64]<;>omega
    have hcell:(dNs (dCs x.codes)[f.f].ins)[k].cells=(insAt X f).cells:=by rw[hik]
    generalize insAt X f=ii at *
    simp only[mRow]at hs1 P1 P2
    have hs1':st.set I.p (.rows 0 15 [[x.recs,x.globals,x.codes,x.sites,.int .i64 x.main,cl,.ptr I.s 0 0 0,I.iv,.mu I.g 0,.mu I.fq I.fv,.map I.mp,.int .i64 0,.int .i64 m.code,(if m.out=[] then .nilSl else .mu I.o I.ov),.int .i64 ((m.steps:Int)+1)]])=s1:=by rw[hs1,he];rfl
    clear hs1
    simp[ebx,hP,mRow,cut,he,hlt,mayWrite,AV.allPure,AV.isPure,paste,hw1,hs1',ht]
    rw[W_drawB]
    refine⟨rfl,?_⟩
    simp[xRow,hC,hcm,cv,crl,fo,t1,fRow,cut,CD.cells,nV,nL,hka,hk',hcell]
    have hs2':s1.set a.1 (.rows 0 4 [[.int .i64 f.f,.int .i64 ((k:Int)+1),.mu a.2 0,.int .i64 f.to]])=s2:=by rw[hs2,<-hka];rfl
    have hw3:IntKind.i64.wrap ((k:Int)+1)=(k:Int)+1:=by rw[<-hka];exact hw2
    have hop:=fit.op
    have hok2:ii.op=((ii.op.toNat:Nat):Int):=by omega
    have hfo:=find_op ii.op.toNat (by omega) (by omega)
    rw[<-hok2]at hfo
    have hlk:∀bx,act0 0 0 (.lookup .int .nilFn false) [.val (.map I.mp),.val (.int .i64 ii.op)] s2 bx=some (.val (.fn (49+ii.op.toNat) [] []),s2,bx):=fun bx=>by
     simp only[act0,M2,isKey,if_true,hfo]
     rfl
    have hc0:ii.cells=[.int .i64 ii.op,.int .i64 ii.a,.int .i64 ii.b,.int .i64 ii.c,.int .i64 ii.n,ii.args]:=rfl
    rw[hc0]at c4 ih2
    simp[hc0,aS,aV,t1,fRow,cut,hka,hw3,mayWrite,AV.allPure,AV.isPure,paste,hs2',W_draw0,noBoxes,P2,hlk,c4]
    exact W_again.2 ih2
   ·simp only
    by_cases q:f.to = -1
    ·exact .inl q
    ·refine .inr fun g l' e=>?_
     subst e
     obtain⟨q1,q2⟩:=htt
     rw[frs_cons]at q2
     rcases q1 with q1|q1
     ·exact absurd q1 q
     ·rw[q2.1.vo];exact q1
  ·have h0:fuel.toNat-m.steps=0:=by omega
   rw[h0]at hfin
   have hge:(if fuel<0 then 0 else fuel)<=(m.steps:Int):=by split<;>omega
   have hf:fin={ m with e:=3 }:=by rw[<-hfin];simp only[runM,if_pos he]
   have hR3:=hR.row { m with e:=3 } I.iv rfl rfl rfl rfl hR.iv
   subst hf
   have hk:=hK _ _ b2 hR3 rfl
   simp only[mRow]at hk
   simp[ebx,hP,mRow,cut,he,hge,mayWrite,AV.allPure,AV.isPure,paste]
   exact hk
 ·have hf:fin=m:=by
   rw[<-hfin]
   cases fuel.toNat-m.steps with
   |zero=>simp only[runM,if_neg he]
   |succ n=>simp only[runM,if_neg he]
  simp[ebx,hP,mRow,cut,he]
  subst hf
  exact hK I st b2 hR rfl
end E14
namespace E14
open Ax Go Code14z IrV Mach
variable {x:XD}{cl:AV}{lim:Nat}{m:Ms}{I:Ids}{st st':Store}{f:Fr}{l:List Fr}{i:ID}{X:MP}
@[simp]theorem cells_raw(s:Nat)(r:List (List AV)):AV.cells (.raw s r)=[.raw s r]:=rfl
@[simp]theorem isCell_raw(s:Nat)(r:List (List AV)):AV.isCell (.raw s r)=true:=rfl
mutual
theorem same_self:∀a:AV,a.same a=true
 |.undef|.gone|.nilPtr|.nilSl|.nilMap|.nilFn|.nilIf|.emp=>rfl
 |.bool b=>by simp[AV.same]
 |.int k n=>by simp[AV.same]
 |.str l=>by simp[AV.same]
 |.agg l=>by simp only[AV.same];exact same_selfL l
 |.tup l=>by simp only[AV.same];exact same_selfL l
 |.lst s r=>by simp only[AV.same,beq_self_eq_true,Bool.true_and];exact same_selfLL r
 |.own s r=>by simp only[AV.same,beq_self_eq_true,Bool.true_and];exact same_selfLL r
 |.raw s r=>by simp only[AV.same,beq_self_eq_true,Bool.true_and];exact same_selfLL r
 |.mu i v=>by simp[AV.same]
 |.ptr a b c d=>by simp[AV.same]
 |.pel s a i k=>by simp only[AV.same,beq_self_eq_true,Bool.true_and,Bool.and_true];exact same_selfLL a
 |.map i=>by simp[AV.same]
 |.fn f a b=>by simp only[AV.same,beq_self_eq_true,Bool.true_and,Bool.and_eq_true];exact⟨same_selfL a,same_selfL b⟩
theorem same_selfL:∀l:List AV,AV.sameL l l=true
 |[]=>rfl
 |a::l=>by simp only[AV.sameL,same_self a,same_selfL l,Bool.and_self]
theorem same_selfLL:∀l:List (List AV),AV.sameLL l l=true
 |[]=>rfl
 |a::l=>by simp only[AV.sameLL,same_selfL a,same_selfLL l,Bool.and_self]
end
theorem a_takeC{o0 o1 o3:AObj}{a0 a1 a2 a3 a4 c a6 a7 a8 a9 b0 b1 b2 b3 b4:AV}{bx:Boxes} :
  act0 0 0 (.load false 1 true) [.val (.ptr 2 0 0 5)] [o0,o1,.rows 0 15 [[a0,a1,a2,a3,a4,c,a6,a7,a8,a9,b0,b1,b2,b3,b4]],o3] bx =
   some (.val c,[o0,o1,.rows 0 15 [[a0,a1,a2,a3,a4,c.took,a6,a7,a8,a9,b0,b1,b2,b3,b4]],o3],bx):=by
 simp[act0,readP,cut,oneOrAgg,writeP,mayWrite,paste]
theorem enter_ok0(li p:Nat)(hx:x.ok){c5 c6 c7 c8 c9 d0 d1 d2 d3 d4:AV}(hP:st[p]?=some (.rows 0 15 [[x.recs,x.globals,x.codes,x.sites,.int .i64 x.main,c5,c6,c7,c8,c9,d0,d1,d2,d3,d4]])){c:Nat}(hc:c<(dCs x.codes).length)(hv:(dTs (dCs x.codes)[c].vars).length<1000000)(to:Int) :
  (orcL S).call 0 li 21 [.ptr p 0 0 0,.int .i64 c,.int .i64 to] st =
   some (.ptr (st.length+1) 0 0 0,st++[.rows 0 1 (ints (List.replicate (dTs (dCs x.codes)[c].vars).length 0)),.rows 0 4 [fRow ⟨c,0,to,[]⟩ st.length]]):=by
 have hC:=hx.codes
 have hs:=isSl_C hC
 have hvw:=isCs_vw hC
 have hl:=rowsL_C hC
 have hcm:=isCs_get hC _ (List.getElem_mem hc)
 have hTs:=isSl_T hcm.1
 have hTv:=isTs_vw hcm.1
 have hTl:=rowsL_T hcm.1
 have hr:((dTs (dCs x.codes)[c].vars).length:Int)*8<=room:=by unfold room;omega
 have hint:List.replicate (dTs (dCs x.codes)[c].vars).length [AV.int .i64 0]=ints (List.replicate (dTs (dCs x.codes)[c].vars).length 0):=by simp[ints]
 refine call_run (sf:=s21) rfl rfl rfl ?_
 simp[s21,hP,cut,hC,hvw,hl,hc,CD.cells,hTs,hTv,hTl,hr,hint,fRow]
theorem a_appP0{lim a b:Nat}{st:Store}{bx:Boxes}(h:st[b]?=some (.rows 0 1 [[.ptr a 0 0 0]])) :
  act0 0 lim (.appendM 1 8) [.val .nilSl,.val (.mu b 0)] st bx=some (.val (.mu st.length 0),st++[.rows 0 1 [[.ptr a 0 0 0]]],bx):=by
 simp[act0,appM,bringsOf,rowsOf,h,fits,AV.viewL,AV.view,room]
theorem a_appP1{lim a:Nat}{o0 o1 o2 o3 o4 o5:AObj}{bx:Boxes} :
  act0 0 lim (.appendM 1 8) [.val .nilSl,.val (.mu 6 0)] [o0,o1,o2,o3,o4,o5,.rows 0 1 [[.ptr a 0 0 0]]] bx=some (.val (.mu 7 0),[o0,o1,o2,o3,o4,o5,.rows 0 1 [[.ptr a 0 0 0]],.rows 0 1 [[.ptr a 0 0 0]]],bx):=
 a_appP0 rfl
theorem freezeLL_ints{wl:Nat}:∀(l:List Int)(st:Store),freezeLL wl (ints l) st=some (ints l,st)
 |[],st=>rfl
 |n::l,st=>by
  have ih:=freezeLL_ints (wl:=wl) l st
  simp only[ints,List.map_cons]at *
  simp[freezeLL,freezeL,freezeC,AV.isPure,AV.view,ih]
def outV(l:List Int):AV:=if l=[] then .nilSl else .lst 1 (ints l)
theorem out_frz(h:Rep x cl lim m I st):∃st',freezeH 0 (if m.out=[] then .nilSl else .mu I.o I.ov) st=some (outV m.out,st')/\st'[I.p]?=st[I.p]?/\st'.length=st.length:=by
 unfold outV
 by_cases q:m.out=[]
 ·rw[if_pos q,if_pos q]
  exact⟨st,rfl,rfl,rfl⟩
 ·rw[if_neg q,if_neg q]
  have hO:=h.O q
  have hne:(ints m.out).isEmpty=false:=by
   cases hq:m.out with
   |nil=>exact absurd hq q
   |cons a b=>rfl
  have hpo:I.o≠I.p:=ne_lab (h.lo q) h.lp (by decide)
  refine⟨st.set I.o (.rows (I.ov+1) 1 []),?_,List.getElem?_set_ne hpo,by simp⟩
  show freezeV 0 (.mu I.o I.ov) st=_
  simp only[freezeV,hO,hne,freezeLL_ints]
  simp
theorem outV_pure(l:List Int):(outV l).isPure=true:=by
 unfold outV
 split<;>rfl
def mpOf(x:XD)(cvl:Nat->AV):MP:=⟨dCs x.codes,(List.range (dSs x.sites).length).map fun j=>(rowsL (cvl j)).length,(dTs x.globals).length⟩
def behV(m:Ms):AV:=.agg [.int .i64 m.e,.int .i64 m.code,outV m.out,.int .i64 m.steps]
def lab0(j:Nat):Lb:=if j=0 then .st else if j=1 then .mp else if j=2 then .p else if j=3 then .g else if j=4\/j=5 then .fr else if j=7 then .fs else .no
theorem run_ok(hx:x.ok)(hp:(xA x).isPure=true){inp:AV}(hi:isI inp=true)(hno:notOwn inp=true)(fuel:Int)(hR:∀wl li st,(orcL S).call wl li 17 [xA x] st=some (.bool true,st))
  {cvl:Nat->AV}(hC:∀wl li k st,k<(dSs x.sites).length->(orcL S).call wl li 20 [xA x,.int .i64 (k:Nat)] st=some (cvl k,st))(hCs:∀k,isSl (cvl k)=true)(hns:(dSs x.sites).length<1000000)
  {mk:Nat} (hmain:x.main=mk) (hmk:mk<(dCs x.codes).length) (hnv:(dTs (dCs x.codes)[mk].vars).length<1000000)
  (hng:(dTs x.globals).length<1000000) (hX:XOk (mpOf x cvl)) (hvs:∀c∈dCs x.codes,(dTs c.vars).length<1000000) (hins:∀c∈dCs x.codes,(dNs c.ins).length<1000000) (hfu:fuel<=1000000) (wl li:Nat) (st:Store) :
  (orcL S).call wl li 8 [xA x,inp,.int .i64 fuel] st=some (behV (runM (mpOf x cvl) fuel.toNat (m0 (mpOf x cvl) mk (dI inp))),st):=by
 have hr:(behV (runM (mpOf x cvl) fuel.toNat (m0 (mpOf x cvl) mk (dI inp)))).isPure=true:=by
  simp only[behV,AV.isPure,AV.allPure,outV_pure,Bool.and_self]
 generalize hfin:runM (mpOf x cvl) fuel.toNat (m0 (mpOf x cvl) mk (dI inp))=fin at *
 have hs:=isSl_I hi
 have hv:=view_notOwn hno hs
 have hT:=hx.globals
 have gs:=isSl_T hx.globals
 have gv:=isTs_vw hx.globals
 have gl:=rowsL_T hx.globals
 have rs:=isSl_R hx.recs
 have rv:=isRs_vw hx.recs
 have cs:=isSl_C hx.codes
 have cv:=isCs_vw hx.codes
 have ss:=isSl_S hx.sites
 have sv:=isSs_vw hx.sites
 have sl:=rowsL_S hx.sites
 have tb:=fun li st=>table_ok li st
 have nw:=fun wl li st=>U10.new_ok wl li st
 unfold xA at hR hp hC ⊢
 have hrm:((dTs x.globals).length:Int)*8<=room:=by unfold room;omega
 have hpi:=pure_sl hs
 refine call_pure (sf:=s8) rfl rfl (by rw[AV.allPure,hp,AV.allPure,hpi];rfl) rfl hr ?_
 simp[s8,hR,rs,rv,cs,cv,gs,gv,ss,sv]
 rw[W_drawP]
 simp[evalRec,pairOk,readsSame,boxOk,SOp.newBox,hs,rs,rv,cs,cv,gs,gv,gl,ss,sv,nw,tb,hrm,AV.allPure,AV.isPure,paste]
 refine⟨_,_,⟨rfl,rfl⟩,?_⟩
 simp[Ent.same,AV.same,gs]
 refine⟨by rw[gl];simp,?_⟩
 rw[W_frzH]
 have hrep:List.replicate (dTs x.globals).length [AV.int .i64 0]=ints (List.replicate (dTs x.globals).length 0):=by simp[ints]
 rw[hrep]
 refine⟨2,0,0,0,_,.mu 3 0,_,_,rfl,rfl,rfl,rfl,?_⟩
 simp[paste,ss,sv,sl]
 generalize hk2:Todo.code (SCode.seq (SCode.region _ (some [(4,8),(4,9)]) _) _)=K
 refine W_loopI s8_l0.eq_1 (fun k:Nat=>⟨[(2,.val (.int .i64 fuel)),(3,.fp 0 0),(6,.fp 1 0),(7,.val (.ptr 2 0 0 0)),(27,.val (.int .i64 (dSs x.sites).length)),(28,.val (.int .i64 k))],
   [[x.recs,x.globals,x.codes,x.sites,.int .i64 x.main],[.int .i64 0,.int .i64 0,.nilSl,.int .i64 0],[]],
   [.rows 0 1 [[.nilSl]],.map opsT,.rows 0 15 [[x.recs,x.globals,x.codes,x.sites,.int .i64 x.main,mkL 1 (ints ((List.range k).map fun j=>((rowsL (cvl j)).length:Int))),.ptr 0 0 0 0,inp,.mu 3 0,.nilSl,.map 1,.int .i64 0,.int .i64 0,.nilSl,.int .i64 0]],
    .rows 0 1 (ints (List.replicate (dTs x.globals).length 0))]⟩)
  (fun k=>k<=(dSs x.sites).length) (fun k=>(dSs x.sites).length-k) 0 (by simp[mkL,ints]) (by simp) ?_
 intro k hk ih
 by_cases hlt:k<(dSs x.sites).length
 ·have hw:IntKind.i64.wrap ((k:Int)+1)=((k+1:Nat):Int):=by rw[wrap64]<;>omega
  have c1:=fun wl li st=>hC wl li k st hlt
  have c2:=hCs k
  have hap:appV 1 8 (mkL 1 (ints ((List.range k).map fun j=>((rowsL (cvl j)).length:Int)))) [[.int .i64 ((rowsL (cvl k)).length:Int)]]=some (mkL 1 (ints ((List.range (k+1)).map fun j=>((rowsL (cvl j)).length:Int)))):=by
   rw[appV_mk (by rfl) (by simp[room];omega),List.range_succ]
   simp[ints]
  generalize hL:mkL 1 (ints ((List.range k).map fun j=>((rowsL (cvl j)).length:Int)))=L at *
  simp[hlt]
  rw[W_drawP]
  simp[-a_load,a_takeC,evalRec,pairOk,readsSame,mayWrite,boxOk,SOp.newBox,rv,cv,gv,sv,c1,c2,hap,cut,paste,AV.allPure,AV.isPure]
  refine⟨_,_,⟨rfl,rfl⟩,?_⟩
  simp[c1,c2,same_self,AV.view,Ent.same,AV.same,hw]
  exact ih (k+1) (by omega) (by omega)
 ·have hkl:k=(dSs x.sites).length:=by omega
  simp[hlt]
  rw[<-hk2]
  have hL:mkL 1 (ints ((List.range k).map fun j=>((rowsL (cvl j)).length:Int)))=mkL 1 (ints (((List.range (dSs x.sites).length).map fun j=>(rowsL (cvl j)).length).map fun n:Nat=>(n:Int))):=by rw[hkl,List.map_map];rfl
  rw[hL]
  have hOf:Of x (mkL 1 (ints (((List.range (dSs x.sites).length).map fun j=>(rowsL (cvl j)).length).map fun n:Nat=>(n:Int)))) (mpOf x cvl):=⟨hx,rfl,rfl,hvs⟩
  generalize mkL 1 (ints (((List.range (dSs x.sites).length).map fun j=>(rowsL (cvl j)).length).map fun n:Nat=>(n:Int)))=L at *
  have en:=fun li=>enter_ok0 (st:=[.rows 0 1 [[.nilSl]],.map opsT,.rows 0 15 [[x.recs,x.globals,x.codes,x.sites,.int .i64 x.main,L,.ptr 0 0 0 0,inp,.mu 3 0,.nilSl,.map 1,.int .i64 0,.int .i64 0,.nilSl,.int .i64 0]],
    .rows 0 1 (ints (List.replicate (dTs x.globals).length 0))]) li 2 hx rfl hmk hnv (-1)
  simp only[List.length_cons,List.length_nil,List.cons_append,List.nil_append]at en
  rw[hmain]at en ⊢
  simp
  rw[W_drawP]
  have la:=fun wl lim a st bx=>(a_litP (wl:=wl) (lim:=lim) (a:=a) (st:=st) (bx:=bx))
  simp[-a_appendM0,-a_appendM,evalRec,pairOk,readsSame,mayWrite,boxOk,SOp.newBox,cut,paste,en,la,a_appP1]
  refine⟨_,_,⟨rfl,rfl⟩,?_⟩
  simp[oneOrAgg,AV.viewL,AV.view,Ent.same,AV.same]
  have hnvo:nvOf (mpOf x cvl) mk=(dTs (dCs x.codes)[mk].vars).length:=hOf.nv hmk
  have R0:Rep x L 0 (m0 (mpOf x cvl) mk (dI inp)) ⟨2,0,0,0,3,7,0,0,0,1,[],[(5,4)],lab0,inp⟩ [.rows 0 1 [[.nilSl]],.map opsT,.rows 0 15 [[x.recs,x.globals,x.codes,x.sites,.int .i64 x.main,L,.ptr 0 0 0 0,inp,.mu 3 0,.mu 7 0,.map 1,.int .i64 0,.int .i64 0,.nilSl,.int .i64 0]],
    .rows 0 1 (ints (List.replicate (dTs x.globals).length 0)),.rows 0 1 (ints (List.replicate (dTs (dCs x.codes)[mk].vars).length 0)),.rows 0 4 [fRow ⟨mk,0,-1,[]⟩ 4],.rows 0 1 [[.ptr 5 0 0 0]],.rows 0 1 [[.ptr 5 0 0 0]]]:=by
   refine⟨by simp[mRow,m0],⟨hi,hno,rfl⟩,?_,by simp[m0,mpOf],by simp,⟨by simp[fRow],by simp[hnvo],trivial⟩,fun e=>absurd rfl e,by simp,rfl,rfl,rfl,fun e=>absurd rfl e,rfl,rfl,fun e=>absurd rfl e,by simp,?_,by simp[idsF],fun _ _=>Nat.zero_le _⟩
   ·exact⟨rfl,by simp[m0],fun e=>absurd rfl e,fun k hk=>by simp at hk,fun e=>absurd rfl e,by simp,fun e=>absurd rfl e,by simp⟩
   ·intro j hj
    simp[idsF]at hj
    rcases hj with rfl|rfl<;>rfl
  rw[<-hmain]
  refine loop_ok hOf hX hins hfu (p:=2) (b1:=[.int .i64 0,.int .i64 0,.nilSl,.int .i64 0]) (fun I' st' b2 hF hp2=>?_) [] ⟨R0,m0_ok hX hmk _,rfl⟩ (by simp[m0];omega) (by simpa [m0] using hfin)
  have P':=hF.P
  obtain⟨s4,f1,f2,f3⟩:=out_frz hF
  rw[hp2]at P' f2
  have l2:2<s4.length:=by rw[f3];exact lt_of P'
  have P4:=f2.trans P'
  have ov:=outV_pure fin.out
  simp[ebx]
  rw[W_frzH]
  obtain⟨s6,hs5⟩:∃s,s=s4.set 2 (.rows 0 15 [[x.recs,x.globals,x.codes,x.sites,.int .i64 x.main,L,.ptr I'.s 0 0 0,I'.iv,.mu I'.g 0,.mu I'.fq I'.fv,.map I'.mp,.int .i64 fin.e,.int .i64 fin.code,outV fin.out,.int .i64 fin.steps]]):=⟨_,rfl⟩
  have P5:=List.getElem?_set_self (a:=AObj.rows 0 15 [[x.recs,x.globals,x.codes,x.sites,.int .i64 x.main,L,.ptr I'.s 0 0 0,I'.iv,.mu I'.g 0,.mu I'.fq I'.fv,.map I'.mp,.int .i64 fin.e,.int .i64 fin.code,outV fin.out,.int .i64 fin.steps]]) l2
  rw[<-hs5]at P5
  have ow:(outV fin.out).view=outV fin.out:=by unfold outV;split<;>rfl
  have oc:(outV fin.out).isCell=true:=by unfold outV;split<;>rfl
  refine⟨2,0,0,0,_,_,s4,s6,rfl,?_,f1,?_,?_⟩
  ·simp[readP,P',mRow,cut]
  ·simp[writeP,P4,mRow,mayWrite,paste,hs5]
  ·simp[cut,P5,ow,oc,AV.viewL,oneOrAgg,paste,behV]
end E14
namespace E14
open Ax Go Code14z IrV Mach
def same(a b:List Int)(k:Nat):Prop:=∀j,j<k->a[j]?=b[j]?
theorem same_all{a b:List Int}(h:a.length=b.length)(hs:same a b a.length):a=b:=by
 apply List.ext_getElem?
 intro j
 by_cases hj:j<a.length
 ·exact hs j hj
 ·rw[List.getElem?_eq_none (by omega),List.getElem?_eq_none (by omega)]
theorem ints_ok(wl li:Nat){a b:AV}(ha:isI a=true)(hb:isI b=true)(hla:(dI a).length<1000000000)(st:Store):(orcL S).call wl li 15 [a,b] st=some (.bool (decide (dI a=dI b)),st):=by
 have sa:=isSl_I ha
 have sb:=isSl_I hb
 have za:=isSz_I ha
 have zb:=isSz_I hb
 have la:=rowsL_I ha
 have lb:=rowsL_I hb
 have pa:=pure_sl sa
 have pb:=pure_sl sb
 refine call_pure (sf:=s15) rfl rfl (by rw[AV.allPure,pa,AV.allPure,pb];rfl) rfl rfl ?_
 by_cases hl:(dI a).length=(dI b).length
 ·simp[s15,sa,sb,la,lb,hl]
  refine W_loopI s15_l0.eq_1 (fun k:Nat=>⟨[(0,.val a),(1,.val b),(5,.val (.int .i64 k))],[],[]⟩)
   (fun k=>k<=(dI a).length/\same (dI a) (dI b) k) (fun k=>(dI a).length-k) 0 (by simp) ⟨by omega,fun _ h=>by omega⟩ ?_
  intro k ⟨hk,hs⟩ ih
  by_cases hlt:k<(dI a).length
  ·have hlt2:k<(dI b).length:=by omega
   have hw:IntKind.i64.wrap ((k:Int)+1)=((k+1:Nat):Int):=by rw[wrap64]<;>omega
   by_cases hq:(dI a)[k]=(dI b)[k]
   ·simp[sa,za,zb,la,lb,hlt2,hl,hq,hw,W_draw0,noBoxes]
    exact ih (k+1) ⟨by omega,fun j hj=>by
     by_cases e:j=k
     ·subst e;rw[List.getElem?_eq_getElem hlt,List.getElem?_eq_getElem hlt2,hq]
     ·exact hs j (by omega)⟩ (by omega)
   ·have hne:¬dI a=dI b:=fun e=>hq (by simp only[e])
    simp[sa,za,zb,la,lb,hlt2,hl,hq,hne,W_draw0,noBoxes]
  ·have hkl:k=(dI a).length:=by omega
   have he:dI a=dI b:=same_all hl (hkl ▸ hs)
   rw[show decide (dI a=dI b)=true from decide_eq_true he]
   simp[sa,la,hlt]
 ·have hne:¬dI a=dI b:=fun e=>hl (by rw[e])
  simp[s15,sa,sb,la,lb,hl,hne]
theorem outV_I(l:List Int):isI (outV l)=true/\dI (outV l)=l:=by
 unfold outV
 by_cases h:l=[]
 ·rw[if_pos h,h];exact⟨rfl,rfl⟩
 ·rw[if_neg h]
  refine⟨?_,?_⟩
  ·simp[isI,ints,fits]
  ·simp only[dI,rowsL];exact dI_ints l
theorem same_ok(wl li:Nat)(m:Ms)(hl:m.out.length<1000000000)(st:Store):(orcL S).call wl li 7 [behV m,behV m] st=some (.bool true,st):=by
 obtain⟨ia,da⟩:=outV_I m.out
 have hi:=fun wl li st=>ints_ok wl li ia ia (by rw[da];exact hl) st
 rw[show decide (dI (outV m.out)=dI (outV m.out))=true from decide_eq_true rfl]at hi
 have pa:=pure_sl (isSl_I ia)
 have va:(outV m.out).view=outV m.out:=by unfold outV;split<;>rfl
 have ca:(outV m.out).isCell=true:=by unfold outV;split<;>rfl
 have hp:(behV m).isPure=true:=by simp only[behV,AV.isPure,AV.allPure,pa,Bool.and_self]
 refine call_pure (sf:=s7) rfl rfl (by rw[AV.allPure,hp,AV.allPure,hp];rfl) rfl rfl ?_
 unfold behV
 generalize outV m.out=A at *
 simp[s7,va,ca,hi]
theorem run_no{x:XD}(hx:x.ok)(hp:(xA x).isPure=true){inp:AV}(hi:isI inp=true)(hno:notOwn inp=true)(fuel:Int)(hR:∀wl li st,(orcL S).call wl li 17 [xA x] st=some (.bool false,st))(wl li:Nat)(st:Store) :
  (orcL S).call wl li 8 [xA x,inp,.int .i64 fuel] st=some (behV ⟨[],[],[],[],0,0,[],0⟩,st):=by
 have hs:=isSl_I hi
 have hv:=view_notOwn hno hs
 have rs:=isSl_R hx.recs
 have rv:=isRs_vw hx.recs
 have gs:=isSl_T hx.globals
 have gv:=isTs_vw hx.globals
 have cs:=isSl_C hx.codes
 have cv:=isCs_vw hx.codes
 have ss:=isSl_S hx.sites
 have sv:=isSs_vw hx.sites
 have hpi:=pure_sl hs
 unfold xA at hR hp ⊢
 refine call_pure (sf:=s8) rfl rfl (by rw[AV.allPure,hp,AV.allPure,hpi];rfl) rfl rfl ?_
 simp[s8,hR,rs,rv,cs,cv,gs,gv,ss,sv,behV,outV,paste,oneOrAgg,cut]
end E14
