/-
  A function, lowered.
-/
import Derived.Test.YtachcambnjecnaaW
import Derived.Test.YtachcambnjecnaaC
import Derived.Test.YtachcambnjecnaaS
import Derived.Test.YtachcambnjecnaaF

set_option maxRecDepth 100000
set_option maxHeartbeats 4000000
namespace U13
open Ax Go Code13 V7 Par Chk Low
def stX (b:Bl)(t0 t1 t2 t3 t4 t5 t6:AV)(r:Store):Store:=.rows 0 12 [[b.recs,ownV 3 (b.glo.map T3.cells),ownV 7 (b.codes.map Cd.row),ownV 4 (b.sites.map Sd.row),.int .i64 b.main,t0,t1,t2,t3,t4,t5,t6]]::r
def fnB (b:Bl)(g:Sg)(vs:List T3):Bl:={ b with params:=g.ps.length,vars:=vs,has:=g.has,res:=g.res,is:=[] }
theorem stB_fn (b:Bl)(g:Sg)(vs:List T3)(pre:Store):stB (fnB b g vs) pre=stX b (.int .i64 g.ps.length) (ownV 3 (vs.map T3.cells)) (.bool g.has) (.int .i64 g.res.b) (.int .i64 g.res.r) (.int .i64 g.res.d) .nilSl pre:=by
 simp[stB,Bl.cells,insA,insO,fnB,stX]
theorem freezeL_row (i:In)(wl:Nat)(st:Store):freezeL wl i.row st=some (i.row,st):=by
 have h1:=pure_arg i.args
 have h2:=cell_arg i.args
 have h3:=view_arg i.args
 generalize hv:argV i.args=v at *
 have h4:freezeC wl v st=some (v,st):=by
  unfold freezeC
  split
  ·simp[AV.isPure]at h1
  ·rw[h1,h2,h3];rfl
 have fi:∀(n:Int) (s:Store),freezeC wl (.int .i64 n) s=some (.int .i64 n,s):=fun _ _=>rfl
 simp only[In.row,hv,freezeL,h4,fi]
theorem freezeLL_rows:∀(l:List In)(wl:Nat)(st:Store),freezeLL wl (l.map In.row) st=some (l.map In.row,st)
 |[],_,_=>rfl
 |i::l,wl,st=>by
  simp only[List.map_cons,freezeLL,freezeL_row,freezeLL_rows l]
def doneB (b:Bl)(ns:Nat)(g:Sg)(bd:Bd):Bl:={ b with codes:=b.codes++[codeOf ns g bd],sites:=b.sites++(bodyO ns bd).ss.map (fun t=>⟨b.codes.length,t⟩) }
def endT (c:Cd)(b:Bl)(pre:Store):Store:=stX b (.int .i64 c.params) (ownV 3 (c.vars.map T3.cells)) (.bool c.has) (.int .i64 c.res.b) (.int .i64 c.res.r) (.int .i64 c.res.d) (.lst 6 (c.is.map In.row)) (pre++[.rows c.is.length 6 []])
theorem view_ownV (sz:Nat)(l:List (List AV)):(ownV sz l).view=lstV sz l:=by
 unfold ownV;cases l<;>simp[AV.view,lstV,mkL]
theorem pure_ownV (sz:Nat)(l:List (List AV)):(ownV sz l).isPure=true:=by
 unfold ownV;cases l<;>simp[AV.isPure]
theorem function_ok (b:Bl)(pre:Store)(g:Sg)(bd:Bd)(t0 t1 t2 t3 t4 t5 t6:AV)(hL:LB bd.code)(hn:bd.vars.length+2*Sm.szs bd.code+10<1000000000)(hs:b.sites.length+2*Sm.szs bd.code+10<1000000000)(hc:b.codes.length<1000000) :
  (orcL S).call 0 0 13 [pB,.agg g.row,.agg bd.row] (stX b t0 t1 t2 t3 t4 t5 t6 pre)=some (.tup [],endT (codeOf b.sites.length g bd) (doneB b b.sites.length g bd) pre):=by
 have hb1:Fb (fnB b g (bd.vars.map (·.ty))) (2*Sm.szs bd.code+3):=⟨by simp[fnB];omega,by simp[fnB];omega,by simp[fnB];omega⟩
 have hbk:=block_ok bd.code (fun s _=>stmt_ok s) (fnB b g (bd.vars.map (·.ty))) pre hL (hb1.le (by omega))
 have hlo:=Lo_cB hL bd.vars.length 0 b.sites.length
 have hf2:=hb1.plus hlo
 have e0:(fnB b g (bd.vars.map (·.ty))).vars.length=bd.vars.length:=by simp[fnB]
 have e0i:(fnB b g (bd.vars.map (·.ty))).is.length=0:=rfl
 have e0s:(fnB b g (bd.vars.map (·.ty))).sites.length=b.sites.length:=rfl
 rw[e0,e0i,e0s]at hbk
 obtain⟨bo,hbo⟩:∃o,o=cB bd.vars.length 0 b.sites.length bd.code:=⟨_,rfl⟩
 rw[<-hbo]at hbk hlo hf2
 have hbO:bodyO b.sites.length bd=bo:=hbo.symm
 obtain⟨b2,hb2⟩:∃b2,b2=(fnB b g (bd.vars.map (·.ty))).plus bo:=⟨_,rfl⟩
 rw[<-hb2]at hbk hf2
 have hv2:b2.vars.length=bd.vars.length+bo.vs.length:=by rw[hb2];simp[Bl.plus,fnB]
 obtain⟨b3,hb3⟩:∃b3:Bl,b3={ b2 with vars:=b2.vars++(if g.has then [g.res] else []),is:=b2.is++endI g (bd.vars.length+bo.vs.length) }:=⟨_,rfl⟩
 have c1:(codeOf b.sites.length g bd).vars=b3.vars:=by rw[hb3,hb2];simp[codeOf,hbO,Bl.plus,fnB]
 have c2:(codeOf b.sites.length g bd).is=b3.is:=by rw[hb3,hb2];simp[codeOf,hbO,Bl.plus,fnB]
 have c3:b3.sites=(doneB b b.sites.length g bd).sites:=by rw[hb3,hb2];simp[doneB,hbO,Bl.plus,fnB]
 have c4:b3.codes=b.codes:=by rw[hb3,hb2];rfl
 have c5:b3.recs=b.recs/\b3.glo=b.glo/\b3.main=b.main/\b3.params=g.ps.length/\b3.has=g.has/\b3.res=g.res:=by rw[hb3,hb2];exact⟨rfl,rfl,rfl,rfl,rfl,rfl⟩
 have hne:b3.is≠[]:=by
  intro q
  rw[hb3]at q
  have q:b2.is++endI g (bd.vars.length+bo.vs.length)=[]:=q
  have:=(List.append_eq_nil_iff.1 q).2
  unfold endI at this
  split at this<;>cases this
 have hex:=stB_ex b3 pre hne
 have h5:=freezeLL_rows b3.is 0
 have hls:¬b3.is.map In.row=[]:=by simpa using hne
 have hlen3:b3.is.length-1+1=b3.is.length:=by have:=List.length_pos_iff.2 hne;omega
 have hcd:Cd.row (codeOf b.sites.length g bd)=[.int .i64 g.ps.length,lstV 3 (b3.vars.map T3.cells),.bool g.has,.int .i64 g.res.b,.int .i64 g.res.r,.int .i64 g.res.d,.lst 6 (b3.is.map In.row)]:=by
  unfold Cd.row
  rw[c1,c2]
  have:lstV 6 (b3.is.map In.row)=.lst 6 (b3.is.map In.row):=by cases hh:b3.is.map In.row with|nil=>exact absurd hh hls|cons a l=>rfl
  rw[this];rfl
 have hfin:endT (codeOf b.sites.length g bd) (doneB b b.sites.length g bd) pre=.rows 0 12 [[b.recs,ownV 3 (b.glo.map T3.cells),.own 7 (b.codes.map Cd.row++[Cd.row (codeOf b.sites.length g bd)]),ownV 4 (b3.sites.map Sd.row),.int .i64 b.main,
   .int .i64 g.ps.length,ownV 3 (b3.vars.map T3.cells),.bool g.has,.int .i64 g.res.b,.int .i64 g.res.r,.int .i64 g.res.d,.lst 6 (b3.is.map In.row)]]::(pre++[.rows b3.is.length 6 []]):=by
  unfold endT stX
  rw[c1,c2,<-c3]
  have:ownV 7 ((doneB b b.sites.length g bd).codes.map Cd.row)=.own 7 (b.codes.map Cd.row++[Cd.row (codeOf b.sites.length g bd)]):=by simp[doneB,ownV]
  rw[this];rfl
 rw[hcd]at hfin
 have rf:=fun wl li st=>K9.ref_ok wl li g.res st
 have p1:isSl (fdsV g.ps)=true:=isSl_lstV
 have p2:(fdsV g.ps).view=fdsV g.ps:=view_lstV
 have p3:rowsL (fdsV g.ps)=g.ps.map Vd.row:=rowsL_lstV
 have v1:isSl (fdsV bd.vars)=true:=isSl_lstV
 have v2:(fdsV bd.vars).view=fdsV bd.vars:=view_lstV
 have v3:rowsL (fdsV bd.vars)=bd.vars.map Vd.row:=rowsL_lstV
 have v4:isSz 4 (fdsV bd.vars)=true:=zL (by simp[fits,Vd.row])
 have s1:isSl (ssV bd.code)=true:=isSl_ssV
 have s2:(ssV bd.code).view=ssV bd.code:=view_ssV
 rw[hfin]
 refine call_run (sf:=s13) rfl rfl rfl ?_
 simp only[Sg.row,Bd.row]
 generalize fdsV g.ps=PV at *
 generalize fdsV bd.vars=FV at *
 generalize ssV bd.code=SV at *
 simp[s13,p1,p2,p3,v1,v2,v3,s1,SOp.newBox,AV.view,pB,stX,cut,paste,mayWrite,AV.allPure,AV.isPure]
 obtain⟨Lf,hLf⟩:∃Lf:Nat->List (List AV),Lf=fun k=>(bd.vars.take k).map (fun v=>[.int .i64 v.ty.b,.int .i64 v.ty.r,.int .i64 v.ty.d]):=⟨_,rfl⟩
 have hLlen:∀k,k<=bd.vars.length->(Lf k).length=k:=fun k hk=>by rw[hLf];simp;omega
 have hLS:∀k (h:k<bd.vars.length),Lf (k+1)=Lf k++[[.int .i64 bd.vars[k].ty.b,.int .i64 bd.vars[k].ty.r,.int .i64 bd.vars[k].ty.d]]:=fun k h=>by
  rw[hLf];simp only;rw[List.take_succ_eq_append_getElem h,List.map_append];rfl
 have hOE:ownV 3 ((bd.vars.map (·.ty)).map T3.cells)=ownV 3 (Lf bd.vars.length):=by rw[hLf];simp only[List.take_length,List.map_map];rfl
 have hL0:ownV 3 (Lf 0)=.nilSl:=by rw[hLf];rfl
 clear hLf
 rw[stB_fn,hOE,stX]at hbk
 refine W_loopI s13_l0.eq_1 (fun x:Nat×List AV=>⟨[(0,.val (.ptr 0 0 0 0)),(4,.fp 0 0),(5,.fp 1 0),(22,.val FV),(23,.val (.int .i64 bd.vars.length)),(24,.val (.int .i64 x.1))],
   [[.str g.nm,PV,.bool g.has,.int .i64 g.res.b,.int .i64 g.res.r,.int .i64 g.res.d],[FV,SV,.int .i64 bd.a],x.2],
   .rows 0 12 [[b.recs,ownV 3 (b.glo.map T3.cells),ownV 7 (b.codes.map Cd.row),ownV 4 (b.sites.map Sd.row),.int .i64 b.main,.int .i64 g.ps.length,ownV 3 (Lf x.1),.bool g.has,.int .i64 g.res.b,.int .i64 g.res.r,.int .i64 g.res.d,.nilSl]]::pre⟩)
  (fun x=>x.1<=bd.vars.length) (fun x=>bd.vars.length-x.1) (0,[]) (by simp[hL0]) (by simp) ?_
 rintro⟨k,bx⟩ hk ih
 simp only at hk ih
 by_cases hlt:k<bd.vars.length
 ·have hwr:IntKind.i64.wrap ((k:Int)+1)=((k+1:Nat):Int):=by rw[wrap64]<;>omega
  have hg:(bd.vars.map Vd.row)[k]?=some (Vd.row bd.vars[k]):=by simp[hlt]
  have hlt':k<(bd.vars.map Vd.row).length:=by simpa using hlt
  have hg':(bd.vars.map Vd.row)[k]'hlt'=Vd.row bd.vars[k]:=by simp
  have ih':=fun b=>ih (k+1,b) (by simp only;omega) (by simp only;omega)
  simp only at ih'
  have hl:=hLlen k hk
  have ho:ownV 3 (Lf (k+1))=.own 3 (Lf k++[[.int .i64 bd.vars[k].ty.b,.int .i64 bd.vars[k].ty.r,.int .i64 bd.vars[k].ty.d]]):=by rw[hLS k hlt];unfold ownV;rw[if_neg (by simp)]
  rw[ho]at ih'
  have hroom:(k+1)*24<=room:=by unfold room;omega
  have hroom0:24<=room:=by decide
  simp only[Vd.row,T3.cells]at hg hg'
  by_cases k0:Lf k=[]
  ·rw[k0]at ih' ⊢
   have o1:ownV 3 ([]:List (List AV))=.nilSl:=rfl
   simp only[List.nil_append]at ih'
   simp[hlt,v4,v3,hg',o1,paste,AV.view,W_draw0,noBoxes,cut]
   simp[act0,readP,writeP,oneOrAgg,hwr,paste,AV.view,cut,fits,hroom0,mayWrite,AV.allPure,AV.isPure,AV.took]
   exact ih' _
  ·have o1:ownV 3 (Lf k)=.own 3 (Lf k):=by unfold ownV;rw[if_neg k0]
   rw[o1]
   simp[hlt,v4,v3,hg',paste,AV.view,W_draw0,noBoxes,cut]
   simp[act0,readP,writeP,oneOrAgg,hwr,hl,paste,AV.view,cut,fits,hroom,mayWrite,AV.allPure,AV.isPure,AV.took]
   exact ih' _
 ·have hkl:k=bd.vars.length:=by omega
  have hn18:argV []=.nilSl:=rfl
  have hne0:b2.is.length<1000000000-2:=by have:=hf2.2.1;omega
  have hz:b3.is.length-1+1=b3.is.length:=hlen3
  have hroom:(b.codes.length+1)*88<=room:=by unfold room;omega
  subst hkl
  have hroom0:88<=room:=by decide
  have hcl:(b.codes.map Cd.row).length=b.codes.length:=by simp
  have q1:=view_ownV 3 (b3.vars.map T3.cells)
  have q2:=pure_ownV 3 (b3.vars.map T3.cells)
  have q3:(lstV 3 (b3.vars.map T3.cells)).isPure=true:=pure_lstV
  have q4:(lstV 3 (b3.vars.map T3.cells)).isCell=true:=cell_lstV
  have q5:(lstV 3 (b3.vars.map T3.cells)).view=lstV 3 (b3.vars.map T3.cells):=view_lstV
  have hlst:(.rows 0 12 [[b.recs,ownV 3 (b.glo.map T3.cells),ownV 7 (b.codes.map Cd.row),ownV 4 (b3.sites.map Sd.row),.int .i64 b.main,.int .i64 g.ps.length,ownV 3 (b3.vars.map T3.cells),.bool g.has,.int .i64 g.res.b,.int .i64 g.res.r,.int .i64 g.res.d,
    .mu (pre.length+1) (b3.is.length-1)]]::(pre++[.rows (b3.is.length-1) 6 (b3.is.map In.row)])).length=pre.length+2:=by simp
  have fin:∀b0 b1 b2:List AV,W S 0 0 [] (RetQ [] Mode.opn (.rows 0 12 [[b.recs,ownV 3 (b.glo.map T3.cells),ownV 7 (b.codes.map Cd.row),ownV 4 (b.sites.map Sd.row),.int .i64 b.main,t0,t1,t2,t3,t4,t5,t6]]::pre)
    (.tup [],.rows 0 12 [[b.recs,ownV 3 (b.glo.map T3.cells),.own 7 (b.codes.map Cd.row++[[.int .i64 g.ps.length,lstV 3 (b3.vars.map T3.cells),.bool g.has,.int .i64 g.res.b,.int .i64 g.res.r,.int .i64 g.res.d,.lst 6 (b3.is.map In.row)]]),ownV 4 (b3.sites.map Sd.row),.int .i64 b.main,
     .int .i64 g.ps.length,ownV 3 (b3.vars.map T3.cells),.bool g.has,.int .i64 g.res.b,.int .i64 g.res.r,.int .i64 g.res.d,.lst 6 (b3.is.map In.row)]]::(pre++[.rows b3.is.length 6 []])))
    [Todo.code (SCode.frzH 0 11),Todo.code (.region [.o 64 .move [.t 0],.o 65 .move [.t 0],.o 66 .nilCheck [.t 65],
     .o 67 (.fieldAddr 0) [.T 66],.o 68 (.fieldAddr 2) [.T 67],.o 69 (.load false 1 true) [.T 68],.o 70 .move [.t 0],.o 71 .nilCheck [.t 70],
     .o 72 (.fieldAddr 5) [.T 71],.o 73 (.load true 7 false) [.T 72],
     .o 74 (.lit 7 1 [.int .i64 0,.nilSl,.bool false,.int .i64 0,.int .i64 0,.int .i64 0,.nilSl] [0]) [.T 73],.o 75 (.append 7 88) [.T 69,.T 74],
     .o 76 .nilCheck [.t 64],.o 77 (.fieldAddr 0) [.T 76],.o 78 (.fieldAddr 2) [.T 77],.n (.store 1) [.T 78,.T 75]] (some [(9,5)]) [0,64,65,70])]
    Ex.normal ⟨[(0,.val (.ptr 0 0 0 0))],[b0,b1,b2],.rows 0 12 [[b.recs,ownV 3 (b.glo.map T3.cells),ownV 7 (b.codes.map Cd.row),ownV 4 (b3.sites.map Sd.row),.int .i64 b.main,.int .i64 g.ps.length,ownV 3 (b3.vars.map T3.cells),.bool g.has,.int .i64 g.res.b,.int .i64 g.res.r,.int .i64 g.res.d,
    .mu (pre.length+1) (b3.is.length-1)]]::(pre++[.rows (b3.is.length-1) 6 (b3.is.map In.row)])⟩:=by
   intro b0 b1 b2
   rw[W_frzH]
   refine⟨0,0,0,0,.mu (pre.length+1) (b3.is.length-1),.lst 6 (b3.is.map In.row),.rows 0 12 [[b.recs,ownV 3 (b.glo.map T3.cells),ownV 7 (b.codes.map Cd.row),ownV 4 (b3.sites.map Sd.row),.int .i64 b.main,.int .i64 g.ps.length,ownV 3 (b3.vars.map T3.cells),.bool g.has,.int .i64 g.res.b,.int .i64 g.res.r,.int .i64 g.res.d,
    .mu (pre.length+1) (b3.is.length-1)]]::(pre++[.rows b3.is.length 6 []]),.rows 0 12 [[b.recs,ownV 3 (b.glo.map T3.cells),ownV 7 (b.codes.map Cd.row),ownV 4 (b3.sites.map Sd.row),.int .i64 b.main,.int .i64 g.ps.length,ownV 3 (b3.vars.map T3.cells),.bool g.has,.int .i64 g.res.b,.int .i64 g.res.r,.int .i64 g.res.d,
    .lst 6 (b3.is.map In.row)]]::(pre++[.rows b3.is.length 6 []]),rfl,by simp[readP,cut],?_,by simp[writeP,mayWrite,paste],?_⟩
   ·simp[freezeH,freezeV,h5,hz,hne]
   generalize hCR:b.codes.map Cd.row=CR at *
   generalize hMR:b3.is.map In.row=MR at *
   generalize lstV 3 (b3.vars.map T3.cells)=LV3 at *
   generalize ownV 3 (b3.vars.map T3.cells)=OV3 at *
   generalize ownV 4 (b3.sites.map Sd.row)=OS3 at *
   generalize ownV 3 (b.glo.map T3.cells)=OG at *
   by_cases hc0:CR=[]
   ·have e0:ownV 7 CR=.nilSl:=by rw[hc0];rfl
    rw[e0,hc0]
    rw[W_drawP]
    simp[evalRec,pairOk,readsSame,boxOk,SOp.newBox,act0,readP,writeP,oneOrAgg,paste,AV.view,AV.viewL,cut,fits,hroom0,mayWrite,AV.allPure,AV.isPure,AV.took,q1,q3,q4,q5]
    refine⟨_,_,⟨rfl,rfl⟩,?_⟩
    simp[Ent.same,AV.same,AV.sameL,same_self,same_selfLL,AV.viewL,AV.view,q1]
   ·have e0:ownV 7 CR=.own 7 CR:=by unfold ownV;rw[if_neg hc0]
    rw[e0]
    rw[W_drawP]
    simp[evalRec,pairOk,readsSame,boxOk,SOp.newBox,act0,readP,writeP,oneOrAgg,paste,AV.view,AV.viewL,cut,fits,hcl,hroom,mayWrite,AV.allPure,AV.isPure,AV.took,q1,q3,q4,q5]
    refine⟨_,_,⟨rfl,rfl⟩,?_⟩
    simp[Ent.same,AV.same,AV.sameL,same_self,same_selfLL,AV.viewL,AV.view,q1]
  cases hh:g.has with
  |false=>
   have ha:=add_ok b2 pre ⟨18,-1,0,0,0,[]⟩ (by omega)
   have e3:{ b2 with is:=b2.is++[⟨18,-1,0,0,0,[]⟩] }=b3:=by rw[hb3,hh];simp[endI,hh]
   rw[e3,hex]at ha
   simp only[In.row,hn18,pB,c4,c5.1,c5.2.1,c5.2.2.1,c5.2.2.2.1,c5.2.2.2.2.1,c5.2.2.2.2.2,hh]at ha
   simp only[hh,pB]at hbk
   rw[hh]at fin
   clear hex e3 hfin hcd
   generalize ownV 3 (Lf bd.vars.length)=OV at *
   generalize stB b2 pre=st2 at *
   simp[hbk,ha,s2,paste,AV.view,cut]
   exact fin _ _ _
  |true=>
   have ht:=fun li=>temp_ok li b2 pre g.res (by have:=hf2.1;omega)
   have ha1:=add_ok { b2 with vars:=b2.vars++[g.res] } pre ⟨if refT g.res then 2 else 1,(b2.vars.length:Int),0,0,0,[]⟩ (by show b2.is.length<_;omega)
   have ha2:=add_ok { b2 with vars:=b2.vars++[g.res],is:=b2.is++[⟨if refT g.res then 2 else 1,(b2.vars.length:Int),0,0,0,[]⟩] } pre ⟨18,(b2.vars.length:Int),0,0,0,[]⟩ (by show (b2.is++[_]).length<_;simp;omega)
   have e3:{ b2 with vars:=b2.vars++[g.res],is:=b2.is++[⟨if refT g.res then 2 else 1,(b2.vars.length:Int),0,0,0,[]⟩]++[⟨18,(b2.vars.length:Int),0,0,0,[]⟩] }=b3:=by rw[hb3,hh,<-hv2];simp[endI,hh]
   simp only[e3]at ha2
   rw[hex]at ha2
   simp only[In.row,hn18,pB,c4,c5.1,c5.2.1,c5.2.2.1,c5.2.2.2.1,c5.2.2.2.2.1,c5.2.2.2.2.2,hh]at ha1 ha2
   simp only[hh,pB]at hbk
   simp only[pB,T3.cells]at ht
   rw[hh]at fin
   clear hex e3 hfin hcd
   generalize ownV 3 (Lf bd.vars.length)=OV at *
   generalize stB { b2 with vars:=b2.vars++[g.res],is:=b2.is++[⟨if refT g.res then 2 else 1,(b2.vars.length:Int),0,0,0,[]⟩] } pre=st4 at *
   generalize stB { b2 with vars:=b2.vars++[g.res] } pre=st3 at *
   generalize stB b2 pre=st2 at *
   cases hr:refT g.res with
   |false=>
    simp only[hr,Bool.false_eq_true,if_false]at ha1
    simp[hbk,rf,hr,ht,ha1,ha2,s2,paste,AV.view,cut]
    exact fin _ _ _
   |true=>
    simp only[hr,if_true]at ha1
    simp[hbk,rf,hr,ht,ha1,ha2,s2,paste,AV.view,cut]
    exact fin _ _ _
end U13
namespace U13
open Ax Go Code13 V7 Par Chk Low
open K9 (typedV hdCells mainP bodV)
open N7 (gdOf)
def greatP (p:Pg):Bool:=decide (12<p.recs.length)||decide (8<p.globals.length)||decide (16<p.funcs.length)||p.recs.any (fun r=>decide (8<r.fields.length))||p.funcs.any (fun f=>decide (6<f.params.length))
theorem great_ok (wl lim:Nat)(p:Pg)(st:Store)(h1:p.recs.length<1000000000)(h3:p.funcs.length<1000000000) :
  (orcL S).call wl lim 12 [.agg p.row] st=some (.bool (greatP p),st):=by
 refine call_pure (sf:=s12) rfl rfl (by simp[Pg.row,AV.allPure,AV.isPure]) rfl rfl ?_
 have r1:isSl (lstV 3 (p.recs.map Rc.row))=true:=isSl_lstV
 have r2:(lstV 3 (p.recs.map Rc.row)).view=lstV 3 (p.recs.map Rc.row):=view_lstV
 have r3:rowsL (lstV 3 (p.recs.map Rc.row))=p.recs.map Rc.row:=rowsL_lstV
 have r4:isSz 3 (lstV 3 (p.recs.map Rc.row))=true:=zL (by simp[fits,Rc.row])
 have f1:isSl (lstV 7 (p.funcs.map Fc.row))=true:=isSl_lstV
 have f2:(lstV 7 (p.funcs.map Fc.row)).view=lstV 7 (p.funcs.map Fc.row):=view_lstV
 have f3:rowsL (lstV 7 (p.funcs.map Fc.row))=p.funcs.map Fc.row:=rowsL_lstV
 have f4:isSz 7 (lstV 7 (p.funcs.map Fc.row))=true:=zL (by simp[fits,Fc.row])
 have g1:isSl (lstV 4 (p.globals.map PD.cells))=true:=isSl_lstV
 have g2:(lstV 4 (p.globals.map PD.cells)).view=lstV 4 (p.globals.map PD.cells):=view_lstV
 have g3:rowsL (lstV 4 (p.globals.map PD.cells))=p.globals.map PD.cells:=rowsL_lstV
 simp only[Pg.row]
 generalize lstV 3 (p.recs.map Rc.row)=PR at *
 generalize lstV 7 (p.funcs.map Fc.row)=PF at *
 generalize lstV 4 (p.globals.map PD.cells)=PG at *
 by_cases q1:(12:Int)<(p.recs.length:Int)
 ·have:greatP p=true:=by unfold greatP;rw[decide_eq_true (by omega:12<p.recs.length)];rfl
  rw[this]
  simp[s12,r1,r2,r3,f1,g1,AV.view,q1]
 by_cases q2:(8:Int)<(p.globals.length:Int)
 ·have:greatP p=true:=by unfold greatP;rw[decide_eq_true (by omega:8<p.globals.length)];simp
  rw[this]
  simp[s12,r1,r2,r3,f1,g1,g2,g3,AV.view,q1,q2]
 by_cases q3:(16:Int)<(p.funcs.length:Int)
 ·have:greatP p=true:=by unfold greatP;rw[decide_eq_true (by omega:16<p.funcs.length)];simp
  rw[this]
  simp[s12,r1,r2,r3,f1,f2,f3,g1,g2,g3,AV.view,q1,q2,q3]
 have hG:greatP p=(p.recs.any (fun r=>decide (8<r.fields.length))||p.funcs.any (fun f=>decide (6<f.params.length))):=by
  unfold greatP
  rw[decide_eq_false (by omega:¬12<p.recs.length),decide_eq_false (by omega:¬8<p.globals.length),decide_eq_false (by omega:¬16<p.funcs.length)];rfl
 simp[s12,r1,r2,r3,f1,f2,f3,g1,g2,g3,AV.view,q1,q2,q3]
 refine W_loopI s12_l0.eq_1 (fun x:Nat×List AV=>⟨[(1,.fp 0 0),(24,.val PR),(25,.val (.int .i64 p.recs.length)),(26,.val (.int .i64 x.1))],[[PR,PG,PF],x.2,[]],[]⟩)
  (fun x=>x.1<=p.recs.length/\greatP p=((p.recs.drop x.1).any (fun r=>decide (8<r.fields.length))||p.funcs.any (fun f=>decide (6<f.params.length)))) (fun x=>p.recs.length-x.1) (0,[]) (by simp) ⟨by simp,by simpa using hG⟩ ?_
 rintro⟨k,bx⟩ ⟨hk,hp⟩ ih
 simp only at hk hp ih
 by_cases hlt:k<p.recs.length
 ·have hwr:IntKind.i64.wrap ((k:Int)+1)=((k+1:Nat):Int):=by rw[wrap64]<;>omega
  rw[List.drop_eq_getElem_cons hlt]at hp
  have hg:(p.recs.map Rc.row)[k]?=some (Rc.row p.recs[k]):=by simp[hlt]
  have hlt':k<(p.recs.map Rc.row).length:=by simpa using hlt
  have hg':(p.recs.map Rc.row)[k]'hlt'=Rc.row p.recs[k]:=by simp
  have x1:isSl (lstV 4 (p.recs[k].fields.map PD.cells))=true:=isSl_lstV
  have x2:(lstV 4 (p.recs[k].fields.map PD.cells)).view=lstV 4 (p.recs[k].fields.map PD.cells):=view_lstV
  have x3:rowsL (lstV 4 (p.recs[k].fields.map PD.cells))=p.recs[k].fields.map PD.cells:=rowsL_lstV
  simp only[Rc.row]at hg hg'
  by_cases c:(8:Int)<(p.recs[k].fields.length:Int)
  ·have:greatP p=true:=by rw[hp,List.any_cons,decide_eq_true (by omega:8<p.recs[k].fields.length)];rfl
   rw[this]
   generalize lstV 4 (p.recs[k].fields.map PD.cells)=XV at *
   simp[hlt,r4,r3,hg',x1,x2,x3,c,paste,AV.view]
  ·rw[List.any_cons,decide_eq_false (by omega:¬8<p.recs[k].fields.length),Bool.false_or]at hp
   have ih':=fun b=>ih (k+1,b) ⟨by simp only;omega,hp⟩ (by simp only;omega)
   simp only at ih'
   generalize lstV 4 (p.recs[k].fields.map PD.cells)=XV at *
   simp[hlt,hwr,r4,r3,hg',x1,x2,x3,c,paste,AV.view]
   exact ih' _
 ·have hkl:k=p.recs.length:=by omega
  rw[hkl,List.drop_length]at hp
  have hG:greatP p=p.funcs.any (fun f=>decide (6<f.params.length)):=by simpa using hp
  simp[hlt,f1,f2,f3,AV.view]
  refine W_loopI s12_l1.eq_1 (fun x:Nat×List AV×List AV=>⟨[(36,.val PF),(37,.val (.int .i64 p.funcs.length)),(38,.val (.int .i64 x.1))],[[PR,PG,PF],x.2.1,x.2.2],[]⟩)
   (fun x=>x.1<=p.funcs.length/\greatP p=(p.funcs.drop x.1).any (fun f=>decide (6<f.params.length))) (fun x=>p.funcs.length-x.1) (0,bx,[]) (by simp) ⟨by simp,by simpa using hG⟩ ?_
  rintro⟨k,bx1,bx⟩ ⟨hk,hp⟩ ih
  simp only at hk hp ih
  by_cases hlt:k<p.funcs.length
  ·have hwr:IntKind.i64.wrap ((k:Int)+1)=((k+1:Nat):Int):=by rw[wrap64]<;>omega
   rw[List.drop_eq_getElem_cons hlt]at hp
   have hg:(p.funcs.map Fc.row)[k]?=some (Fc.row p.funcs[k]):=by simp[hlt]
   have hlt':k<(p.funcs.map Fc.row).length:=by simpa using hlt
   have hg':(p.funcs.map Fc.row)[k]'hlt'=Fc.row p.funcs[k]:=by simp
   have x1:isSl (lstV 4 (p.funcs[k].params.map PD.cells))=true:=isSl_lstV
   have x2:(lstV 4 (p.funcs[k].params.map PD.cells)).view=lstV 4 (p.funcs[k].params.map PD.cells):=view_lstV
   have x3:rowsL (lstV 4 (p.funcs[k].params.map PD.cells))=p.funcs[k].params.map PD.cells:=rowsL_lstV
   have y1:isSl (ssV p.funcs[k].body)=true:=isSl_ssV
   have y2:(ssV p.funcs[k].body).view=ssV p.funcs[k].body:=view_ssV
   simp only[Fc.row]at hg hg'
   by_cases c:(6:Int)<(p.funcs[k].params.length:Int)
   ·have:greatP p=true:=by rw[hp,List.any_cons,decide_eq_true (by omega:6<p.funcs[k].params.length)];rfl
    rw[this]
    generalize lstV 4 (p.funcs[k].params.map PD.cells)=XV at *
    generalize ssV p.funcs[k].body=YV at *
    simp[hlt,f4,f3,hg',x1,x2,x3,y1,y2,c,paste,AV.view]
   ·rw[List.any_cons,decide_eq_false (by omega:¬6<p.funcs[k].params.length),Bool.false_or]at hp
    have ih':=fun a b=>ih (k+1,a,b) ⟨by simp only;omega,hp⟩ (by simp only;omega)
    simp only at ih'
    generalize lstV 4 (p.funcs[k].params.map PD.cells)=XV at *
    generalize ssV p.funcs[k].body=YV at *
    simp[hlt,hwr,f4,f3,hg',x1,x2,x3,y1,y2,c,paste,AV.view]
    exact ih' _ _
  ·have hkl:k=p.funcs.length:=by omega
   rw[hkl,List.drop_length]at hp
   rw[hp]
   simp[hlt]
end U13
namespace U13
open Ax Go Code13 V7 Par Chk Low
open K9 (typedV hdCells mainP bodV Z5)
open N7 U7
open S9 (sureO fltV)
abbrev ZX:AV:=.agg [.nilSl,.nilSl,.nilSl,.nilSl,.int .i64 0]
def irCells (H:Hd)(main:Int)(cs:List Cd)(ss:List Sd):List AV:=[lstV 2 (H.shapes.map shRow),lstV 3 (H.globals.map (fun v=>v.ty.cells)),lstV 7 (cs.map Cd.row),lstV 4 (ss.map Sd.row),.int .i64 main]
def mkV (H:Hd)(main:Int)(r:Except Int (List Cd×List Sd)):AV:=match r with
 |.error a=>.tup [ZX,.agg [.int .i64 4,.int .i64 a]]
 |.ok (cs,ss)=>.tup [.agg (irCells H main cs ss),.agg [.int .i64 0,.int .i64 0]]
def makeV (p:Pg):AV:=match faultH (gdOf p) with
 |some a=>.tup [ZX,.agg [.int .i64 3,.int .i64 a]]
 |none=>match ckF (hdOf p) (hdOf p).sigs p.funcs with
  |.error a=>.tup [ZX,.agg [.int .i64 3,.int .i64 a]]
  |.ok bs=>match sureO p with
   |some a=>.tup [ZX,.agg [.int .i64 3,.int .i64 a]]
   |none=>if greatP p then .tup [ZX,.agg [.int .i64 4,.int .i64 0]] else mkV (hdOf p) (mainP p) (mkCs [] [] 0 (hdOf p).sigs bs)
theorem isSl_ownV (sz:Nat)(l:List (List AV)):isSl (ownV sz l)=true:=by unfold ownV;split<;>rfl
theorem rowsL_ownV (sz:Nat)(l:List (List AV)):rowsL (ownV sz l)=l:=by
 unfold ownV
 split
 ·rename_i h;rw[h];rfl
 ·rfl
theorem few_of {p:Pg}(h:greatP p=false):Few p:=by
 unfold greatP at h
 simp only[Bool.or_eq_false_iff,decide_eq_false_iff_not,List.any_eq_false,decide_eq_true_eq]at h
 obtain⟨⟨⟨⟨h1,h2⟩,h3⟩,h4⟩,h5⟩:=h
 exact⟨by omega,by omega,by omega,fun x hx=>by have:=h4 x hx;omega,fun x hx=>by have:=h5 x hx;omega⟩
theorem mkCs_cons {cs:List Cd}{ss:List Sd}{all:Nat}{s:Sg}{sg:List Sg}{b:Bd}{bs:List Bd}:mkCs cs ss all (s::sg) (b::bs) =
  if 4000<(codeOf ss.length s b).vars.length\/2500<all+(codeOf ss.length s b).is.length\/60<ss.length+(bodyO ss.length b).ss.length then .error b.a
  else mkCs (cs++[codeOf ss.length s b]) (ss++(bodyO ss.length b).ss.map (fun t=>⟨cs.length,t⟩)) (all+(codeOf ss.length s b).is.length) sg bs:=by
 (conv=>lhs;unfold mkCs)<;>rfl
theorem mkCs_end {cs:List Cd}{ss:List Sd}{all:Nat}{sg:List Sg}:mkCs cs ss all sg []=.ok (cs,ss):=by cases sg<;>rfl
theorem codeOf_len (ns:Nat)(s:Sg)(b:Bd)(hL:LB b.code):(codeOf ns s b).vars.length<=b.vars.length+2*Sm.szs b.code+1/\(codeOf ns s b).is.length<=2*Sm.szs b.code+2/\(bodyO ns b).ss.length<=2*Sm.szs b.code:=by
 obtain⟨h1,h2,h3⟩:=Lo_cB hL b.vars.length 0 ns
 refine⟨?_,?_,h3⟩
 ·show (b.vars.map (·.ty)++(cB b.vars.length 0 ns b.code).vs++(if s.has then [s.res] else [])).length<=_
  cases s.has<;>simp<;>omega
 ·show ((cB b.vars.length 0 ns b.code).is++endI s _).length<=_
  unfold endI
  cases s.has<;>simp<;>omega
theorem make_ok (wl lim:Nat)(p:Pg)(st:Store)(hg:(gdOf p).ok)(hsm:GD.sm (gdOf p))(hsz:∀f∈p.funcs,f.params.length+Sm.szs f.body<1000000000)
  (hcode:∀bs,ckF (hdOf p) (hdOf p).sigs p.funcs=.ok bs->∀b∈bs,Sm.szs b.code<100000000/\b.vars.length<100000000) :
  (orcL S).call wl lim 7 [.agg p.row] st=some (makeV p,st):=by
 have ec:=fun wl lim st=>K9.check_ok wl lim p st hg hsm hsz
 have es:=fun wl lim st=>S9.sure_ok wl lim p st hg hsm hsz fun bs h b hb=>by have:=hcode bs h b hb;omega
 have hfn:p.funcs.length<1000000000:=by have:=hsm.funcs;rw[dFNs_gd,List.length_map]at this;exact this
 have hrn:p.recs.length<1000000000:=by have:=hsm.recs;rw[dCRs_gd,List.length_map]at this;exact this
 have eg:=fun wl lim st=>great_ok wl lim p st hrn hfn
 unfold typedV at ec
 have r1:isSl (lstV 3 (p.recs.map Rc.row))=true:=isSl_lstV
 have r2:(lstV 3 (p.recs.map Rc.row)).view=lstV 3 (p.recs.map Rc.row):=view_lstV
 have f1:isSl (lstV 7 (p.funcs.map Fc.row))=true:=isSl_lstV
 have f2:(lstV 7 (p.funcs.map Fc.row)).view=lstV 7 (p.funcs.map Fc.row):=view_lstV
 have g1:isSl (lstV 4 (p.globals.map PD.cells))=true:=isSl_lstV
 have g2:(lstV 4 (p.globals.map PD.cells)).view=lstV 4 (p.globals.map PD.cells):=view_lstV
 have hpv:(makeV p).isPure=true:=by
  unfold makeV mkV irCells
  repeat' split
  all_goals simp[AV.isPure,AV.allPure]
 refine call_pure (sf:=s7) rfl rfl (by simp[Pg.row,AV.allPure,AV.isPure]) rfl hpv ?_
 unfold makeV
 simp only[Pg.row]at ec es eg ⊢
 generalize lstV 3 (p.recs.map Rc.row)=PR at *
 generalize lstV 7 (p.funcs.map Fc.row)=PF at *
 generalize lstV 4 (p.globals.map PD.cells)=PG at *
 cases hF:faultH (gdOf p) with
 |some a=>
  rw[hF]at ec
  simp[s7,ec,r1,r2,f1,f2,g1,g2,paste,AV.view,W_draw0,noBoxes]
 |none=>
  rw[hF]at ec
  simp only at ec ⊢
  cases hR:ckF (hdOf p) (hdOf p).sigs p.funcs with
  |error a=>
   rw[hR]at ec
   simp only[bodV]at ec ⊢
   simp[s7,ec,r1,r2,f1,f2,g1,g2,paste,AV.view,W_draw0,noBoxes]
  |ok bs=>
   rw[hR]at ec
   simp only[bodV,hdCells,List.cons_append,List.nil_append]at ec ⊢
   have t1:isSl (lstV 2 ((hdOf p).shapes.map shRow))=true:=isSl_lstV
   have t2:(lstV 2 ((hdOf p).shapes.map shRow)).view=lstV 2 ((hdOf p).shapes.map shRow):=view_lstV
   have u1:isSl (fdsV (hdOf p).globals)=true:=isSl_lstV
   have u2:(fdsV (hdOf p).globals).view=fdsV (hdOf p).globals:=view_lstV
   have u3:rowsL (fdsV (hdOf p).globals)=(hdOf p).globals.map Vd.row:=rowsL_lstV
   have u4:isSz 4 (fdsV (hdOf p).globals)=true:=zL (by simp[fits,Vd.row])
   have v1:isSl (lstV 6 ((hdOf p).sigs.map Sg.row))=true:=isSl_lstV
   have v2:(lstV 6 ((hdOf p).sigs.map Sg.row)).view=lstV 6 ((hdOf p).sigs.map Sg.row):=view_lstV
   have v3:rowsL (lstV 6 ((hdOf p).sigs.map Sg.row))=(hdOf p).sigs.map Sg.row:=rowsL_lstV
   have v4:isSz 6 (lstV 6 ((hdOf p).sigs.map Sg.row))=true:=zL (by simp[fits,Sg.row])
   have w1:isSl (lstV 3 (bs.map Bd.row))=true:=isSl_lstV
   have w2:(lstV 3 (bs.map Bd.row)).view=lstV 3 (bs.map Bd.row):=view_lstV
   have w3:rowsL (lstV 3 (bs.map Bd.row))=bs.map Bd.row:=rowsL_lstV
   have w4:isSz 3 (lstV 3 (bs.map Bd.row))=true:=zL (by simp[fits,Bd.row])
   generalize hRV:lstV 2 ((hdOf p).shapes.map shRow)=RV at *
   generalize fdsV (hdOf p).globals=GV at *
   generalize lstV 6 ((hdOf p).sigs.map Sg.row)=SV at *
   generalize lstV 3 (bs.map Bd.row)=BV at *
   cases hS:sureO p with
   |some a=>
    rw[hS]at es
    simp only[fltV,S9.cE,S9.cX]at es
    simp[s7,ec,es,r1,r2,f1,f2,g1,g2,t1,t2,u1,u2,v1,v2,w1,w2,paste,AV.view,W_draw0,noBoxes]
   |none=>
    rw[hS]at es
    simp only[fltV,S9.cE,S9.cX]at es
    cases hgr:greatP p with
    |true=>
     rw[hgr]at eg
     simp[s7,ec,es,eg,r1,r2,f1,f2,g1,g2,t1,t2,u1,u2,v1,v2,w1,w2,paste,AV.view]
    |false=>
     rw[hgr]at eg
     have hfine:=fine_of hF (few_of hgr)
     simp[s7,ec,es,eg,r1,r2,f1,f2,g1,g2,t1,t2,u1,u2,u3,v1,v2,w1,w2,paste,AV.view,SOp.newBox]
     obtain⟨gl,hgl⟩:∃l,l=(hdOf p).globals.map (·.ty):=⟨_,rfl⟩
     have hgn:(hdOf p).globals.length=gl.length:=by rw[hgl];simp
     have hgll:gl.length<1000000:=by rw[<-hgn];have:=hfine.ng;omega
     have hirV:∀cs ss,mkV (hdOf p) (mainP p) (.ok (cs,ss))=.tup [.agg [RV,lstV 3 (gl.map T3.cells),lstV 7 (cs.map Cd.row),lstV 4 (ss.map Sd.row),.int .i64 (mainP p)],.agg [.int .i64 0,.int .i64 0]]:=fun cs ss=>by
      unfold mkV irCells
      rw[hRV,hgl,List.map_map];rfl
     have hGr:∀k (h:k<gl.length) (h2:k<((hdOf p).globals.map Vd.row).length),∃nm,((hdOf p).globals.map Vd.row)[k]=[.str nm,.int .i64 gl[k].b,.int .i64 gl[k].r,.int .i64 gl[k].d]:=fun k h h2=>
      ⟨((hdOf p).globals[k]'(by omega)).nm,by simp[hgl,Vd.row]⟩
     have hGl:((hdOf p).globals.map Vd.row).length=gl.length:=by simp[hgl]
     have hRvw:RV.view=RV:=t2
     have hsl:(hdOf p).sigs.length=p.funcs.length:=by simp[hdOf]
     have hbl:bs.length=p.funcs.length:=S9.ckF_len hsl hR
     have hfew:p.funcs.length<=16:=(few_of hgr).f
     have hLB:=ckF_lb hfine.gd (by have:=hfine.ng;omega) (fun s hs v hv=>⟨((hfine.ok.sigs s hs).2 v hv),hfine.gd.ps s hs v hv⟩) hR
     have hco:=hcode bs hR
     have hcons:∀k (h:k<bs.length) (h2:k<(hdOf p).sigs.length) cs ss n,mkCs cs ss n ((hdOf p).sigs.drop k) (bs.drop k)=if 4000<(codeOf ss.length (hdOf p).sigs[k] bs[k]).vars.length\/2500<n+(codeOf ss.length (hdOf p).sigs[k] bs[k]).is.length\/60<ss.length+(bodyO ss.length bs[k]).ss.length then .error bs[k].a
       else mkCs (cs++[codeOf ss.length (hdOf p).sigs[k] bs[k]]) (ss++(bodyO ss.length bs[k]).ss.map (fun t=>⟨cs.length,t⟩)) (n+(codeOf ss.length (hdOf p).sigs[k] bs[k]).is.length) ((hdOf p).sigs.drop (k+1)) (bs.drop (k+1)):=fun k h h2 cs ss n=>by
      rw[List.drop_eq_getElem_cons h,List.drop_eq_getElem_cons h2,mkCs_cons]
     generalize hdOf p=H at *
     generalize mainP p=mn at *
     generalize hgV:H.globals=Hg at *
     refine W_loopI s7_l0.eq_1 (fun x:Nat×List AV=>⟨[(2,.fp 1 0),(3,.fp 2 0),(4,.fp 3 0),(7,.val (.ptr 0 0 0 0)),(45,.val GV),(46,.val (.int .i64 Hg.length)),(47,.val (.int .i64 x.1))],
       [[PR,PG,PF],[.nilSl,.nilSl,.nilSl,.nilSl,.int .i64 0],[.int .i64 0,.int .i64 0],[RV,GV,SV,.int .i64 mn,BV],[.int .i64 0,.int .i64 0],[.int .i64 0,.int .i64 0],x.2,[]],
       [.rows 0 12 [[RV,ownV 3 ((gl.take x.1).map T3.cells),.nilSl,.nilSl,.int .i64 mn,.int .i64 0,.nilSl,.bool false,.int .i64 0,.int .i64 0,.int .i64 0,.nilSl]]]⟩)
      (fun x=>x.1<=gl.length) (fun x=>gl.length-x.1) (0,[]) (by simp[ownV]) (by simp) ?_
     rintro⟨k,bx⟩ hk ih
     simp only at hk ih
     by_cases hlt:k<gl.length
     ·have hwr:IntKind.i64.wrap ((k:Int)+1)=((k+1:Nat):Int):=by rw[wrap64]<;>omega
      have hlt2:k<Hg.length:=by omega
      have hlt':k<(Hg.map Vd.row).length:=by simpa using hlt2
      obtain⟨nm,hg'⟩:=hGr k hlt hlt'
      have ih':=fun b=>ih (k+1,b) (by simp only;omega) (by simp only;omega)
      simp only[List.take_succ_eq_append_getElem hlt,List.map_append,List.map_cons,List.map_nil,T3.cells]at ih'
      have hl:((gl.take k).map T3.cells).length=k:=by simp;omega
      have ho:∀r,ownV 3 ((gl.take k).map T3.cells++[r])=.own 3 ((gl.take k).map T3.cells++[r]):=fun r=>by unfold ownV;rw[if_neg (by simp)]
      have hroom:(k+1)*24<=room:=by unfold room;omega
      have hroom0:24<=room:=by decide
      generalize (gl.take k).map T3.cells=Lk at *
      rw[ho]at ih'
      by_cases k0:Lk=[]
      ·rw[k0]at ih' ⊢
       have o1:ownV 3 ([]:List (List AV))=.nilSl:=rfl
       simp only[List.nil_append]at ih'
       simp[hlt2,u4,u3,hg',o1,paste,AV.view,W_draw0,noBoxes,cut]
       simp[act0,readP,writeP,oneOrAgg,hwr,paste,AV.view,cut,fits,hroom0,mayWrite,AV.allPure,AV.isPure,AV.took]
       exact ih' _
      ·have o1:ownV 3 Lk=.own 3 Lk:=by unfold ownV;rw[if_neg k0]
       rw[o1]
       simp[hlt2,u4,u3,hg',paste,AV.view,W_draw0,noBoxes,cut]
       simp[act0,readP,writeP,oneOrAgg,hwr,hl,paste,AV.view,cut,fits,hroom,mayWrite,AV.allPure,AV.isPure,AV.took]
       exact ih' _
     ·have hkl:k=gl.length:=by omega
      subst hkl
      rw[List.take_length]
      simp[hgn,w1,w2,w3,AV.view]
      obtain⟨B,hB⟩:∃B:List Cd->List Sd->Bl,B=fun cs ss=>⟨RV,gl,cs,ss,mn,0,[],false,T0,[]⟩:=⟨_,rfl⟩
      have hX:∀cs ss t0 t1 t2 t3 t4 t5 t6 r,stX (B cs ss) t0 t1 t2 t3 t4 t5 t6 r=.rows 0 12 [[RV,ownV 3 (gl.map T3.cells),ownV 7 (cs.map Cd.row),ownV 4 (ss.map Sd.row),.int .i64 mn,t0,t1,t2,t3,t4,t5,t6]]::r:=fun cs ss t0 t1 t2 t3 t4 t5 t6 r=>by rw[hB];rfl
      have hD:∀cs ss ns g bd,doneB (B cs ss) ns g bd=B (cs++[codeOf ns g bd]) (ss++(bodyO ns bd).ss.map (fun t=>⟨cs.length,t⟩)):=fun cs ss ns g bd=>by rw[hB];rfl
      have hBs:∀cs ss,(B cs ss).sites=ss/\(B cs ss).codes=cs:=fun cs ss=>by rw[hB];exact⟨rfl,rfl⟩
      clear hB
      have o7:ownV 7 ([]:List (List AV))=.nilSl:=rfl
      have o4:ownV 4 ([]:List (List AV))=.nilSl:=rfl
      refine W_loopI s7_l1.eq_1 (fun x:Nat×List Cd×List Sd×Nat×(AV×AV×AV×AV×AV×AV×AV)×Store×List AV×List AV=>⟨[(2,.fp 1 0),(3,.fp 2 0),(4,.fp 3 0),(7,.val (.ptr 0 0 0 0)),(10,.val (.int .i64 x.2.2.2.1)),(66,.val BV),(67,.val (.int .i64 bs.length)),(68,.val (.int .i64 x.1))],
        [[PR,PG,PF],[.nilSl,.nilSl,.nilSl,.nilSl,.int .i64 0],[.int .i64 0,.int .i64 0],[RV,GV,SV,.int .i64 mn,BV],[.int .i64 0,.int .i64 0],[.int .i64 0,.int .i64 0],x.2.2.2.2.2.2.1,x.2.2.2.2.2.2.2],
        .rows 0 12 [[RV,ownV 3 (gl.map T3.cells),ownV 7 (x.2.1.map Cd.row),ownV 4 (x.2.2.1.map Sd.row),.int .i64 mn,x.2.2.2.2.1.1,x.2.2.2.2.1.2.1,x.2.2.2.2.1.2.2.1,x.2.2.2.2.1.2.2.2.1,x.2.2.2.2.1.2.2.2.2.1,x.2.2.2.2.1.2.2.2.2.2.1,x.2.2.2.2.1.2.2.2.2.2.2]]::x.2.2.2.2.2.1⟩)
       (fun x=>x.1<=bs.length/\x.2.1.length=x.1/\x.2.2.1.length<=60/\x.2.2.2.1<=2500/\mkCs x.2.1 x.2.2.1 x.2.2.2.1 (H.sigs.drop x.1) (bs.drop x.1)=mkCs [] [] 0 H.sigs bs) (fun x=>bs.length-x.1)
       (0,[],[],0,(.int .i64 0,.nilSl,.bool false,.int .i64 0,.int .i64 0,.int .i64 0,.nilSl),[],bx,[]) (by simp[o7,o4]) ⟨by simp,rfl,by simp,by simp,rfl⟩ ?_
      rintro⟨k,cs,ss,n,⟨t0,y1,y2,y3,y4,y5,y6⟩,pre,bx6,bx7⟩ ⟨hk,hcs,hss,hnn,hp⟩ ih
      simp only at hk hcs hss hnn hp ih ⊢
      by_cases hlt:k<bs.length
      ·have hwr:IntKind.i64.wrap ((k:Int)+1)=((k+1:Nat):Int):=by rw[wrap64]<;>omega
       have hlts:k<H.sigs.length:=by omega
       have hm:=List.getElem_mem hlt
       obtain⟨hcz,hcv⟩:=hco _ hm
       have hLk:=hLB _ hm
       have hlb:k<(bs.map Bd.row).length:=by simpa using hlt
       have gB':(bs.map Bd.row)[k]'hlb=Bd.row bs[k]:=by simp
       have hls:k<(H.sigs.map Sg.row).length:=by simpa using hlts
       have gS':(H.sigs.map Sg.row)[k]'hls=Sg.row H.sigs[k]:=by simp
       obtain⟨q1,q2⟩:=hBs cs ss
       have hcall:=function_ok (B cs ss) pre H.sigs[k] bs[k] t0 y1 y2 y3 y4 y5 y6 hLk (by omega) (by rw[q1];omega) (by rw[q2];omega)
       rw[q1,hX,endT,hD,hX]at hcall
       obtain⟨l1,l2,l3⟩:=codeOf_len ss.length H.sigs[k] bs[k] hLk
       have hpar:(codeOf ss.length H.sigs[k] bs[k]).params=H.sigs[k].ps.length:=rfl
       rw[hcons k hlt hlts]at hp
       have hwn:IntKind.i64.wrap ((n:Int)+((codeOf ss.length H.sigs[k] bs[k]).is.length:Int))=((n+(codeOf ss.length H.sigs[k] bs[k]).is.length:Nat):Int):=by rw[wrap64]<;>omega
       obtain⟨g1',g2'⟩:isSl (fdsV H.sigs[k].ps)=true/\(fdsV H.sigs[k].ps).view=fdsV H.sigs[k].ps:=⟨isSl_lstV,view_lstV⟩
       obtain⟨d1,d2⟩:isSl (fdsV bs[k].vars)=true/\(fdsV bs[k].vars).view=fdsV bs[k].vars:=⟨isSl_lstV,view_lstV⟩
       obtain⟨d3,d4⟩:isSl (ssV bs[k].code)=true/\(ssV bs[k].code).view=ssV bs[k].code:=⟨isSl_ssV,view_ssV⟩
       have lv:isSl (ownV 3 ((codeOf ss.length H.sigs[k] bs[k]).vars.map T3.cells))=true:=isSl_ownV _ _
       have lr:rowsL (ownV 3 ((codeOf ss.length H.sigs[k] bs[k]).vars.map T3.cells))=(codeOf ss.length H.sigs[k] bs[k]).vars.map T3.cells:=rowsL_ownV _ _
       have sv:isSl (ownV 4 ((ss++(bodyO ss.length bs[k]).ss.map (fun t=>(⟨cs.length,t⟩:Sd))).map Sd.row))=true:=isSl_ownV _ _
       have sr:rowsL (ownV 4 ((ss++(bodyO ss.length bs[k]).ss.map (fun t=>(⟨cs.length,t⟩:Sd))).map Sd.row))=(ss++(bodyO ss.length bs[k]).ss.map (fun t=>(⟨cs.length,t⟩:Sd))).map Sd.row:=rowsL_ownV _ _
       have sl:((ss++(bodyO ss.length bs[k]).ss.map (fun t=>(⟨cs.length,t⟩:Sd))).map Sd.row).length=ss.length+(bodyO ss.length bs[k]).ss.length:=by simp
       have vl:((codeOf ss.length H.sigs[k] bs[k]).vars.map T3.cells).length=(codeOf ss.length H.sigs[k] bs[k]).vars.length:=by simp
       have il:((codeOf ss.length H.sigs[k] bs[k]).is.map In.row).length=(codeOf ss.length H.sigs[k] bs[k]).is.length:=by simp
       have hcall:(orcL S).call 0 0 13 [.ptr 0 0 0 0,.agg H.sigs[k].row,.agg bs[k].row] _=_:=hcall
       simp only[Sg.row,Bd.row]at hcall gB' gS'
       have k1':((4000:Int)<((codeOf ss.length H.sigs[k] bs[k]).vars.length:Int))=(4000<(codeOf ss.length H.sigs[k] bs[k]).vars.length):=propext ⟨fun _=>by omega,fun _=>by omega⟩
       have k2':((2500:Int)<((n+(codeOf ss.length H.sigs[k] bs[k]).is.length:Nat):Int))=(2500<n+(codeOf ss.length H.sigs[k] bs[k]).is.length):=propext ⟨fun _=>by omega,fun _=>by omega⟩
       have k3':((60:Int)<((ss.length+(bodyO ss.length bs[k]).ss.length:Nat):Int))=(60<ss.length+(bodyO ss.length bs[k]).ss.length):=propext ⟨fun _=>by omega,fun _=>by omega⟩
       obtain⟨n',hn'⟩:∃n',n'=n+(codeOf ss.length H.sigs[k] bs[k]).is.length:=⟨_,rfl⟩
       obtain⟨s',hs'⟩:∃s',s'=ss.length+(bodyO ss.length bs[k]).ss.length:=⟨_,rfl⟩
       rw[<-hn',<-hs']at hp
       rw[<-hn']at hwn k2'
       rw[<-hs']at sl k3'
       by_cases kk:4000<(codeOf ss.length H.sigs[k] bs[k]).vars.length\/2500<n'\/60<s'
       ·rw[if_pos kk]at hp
        rw[<-hp]
        simp only[mkV]
        by_cases k1:4000<(codeOf ss.length H.sigs[k] bs[k]).vars.length
        ·rw[eq_true k1]at k1'
         clear k2' k3' hn' hs' ih l1 l2 l3 hcons hp kk k1
         generalize codeOf ss.length H.sigs[k] bs[k]=c at *
         generalize ss++(bodyO ss.length bs[k]).ss.map (fun t=>(⟨cs.length,t⟩:Sd))=ss' at *
         generalize ownV 3 (c.vars.map T3.cells)=OV at *
         generalize ownV 4 (ss'.map Sd.row)=OS at *
         generalize ownV 7 ((cs++[c]).map Cd.row)=OC at *
         generalize ownV 3 (gl.map T3.cells)=OG at *
         generalize H.sigs[k]=sg at *
         generalize bs[k]=bd at *
         generalize fdsV sg.ps=GP at *
         generalize fdsV bd.vars=BVs at *
         generalize ssV bd.code=BC at *
         simp[hlt,hlts,hwn,w4,w3,v4,v3,gB',gS',g2',d1,d2,d3,d4,hcall,lv,lr,k1',vl,il,paste,AV.view,W_draw0,noBoxes,cut]
        by_cases k2:2500<n'
        ·rw[eq_false k1]at k1'
         rw[eq_true k2]at k2'
         clear k3' hn' hs' ih l1 l2 l3 hcons hp kk k1 k2
         generalize codeOf ss.length H.sigs[k] bs[k]=c at *
         generalize ss++(bodyO ss.length bs[k]).ss.map (fun t=>(⟨cs.length,t⟩:Sd))=ss' at *
         generalize ownV 3 (c.vars.map T3.cells)=OV at *
         generalize ownV 4 (ss'.map Sd.row)=OS at *
         generalize ownV 7 ((cs++[c]).map Cd.row)=OC at *
         generalize ownV 3 (gl.map T3.cells)=OG at *
         generalize H.sigs[k]=sg at *
         generalize bs[k]=bd at *
         generalize fdsV sg.ps=GP at *
         generalize fdsV bd.vars=BVs at *
         generalize ssV bd.code=BC at *
         simp[hlt,hlts,hwn,w4,w3,v4,v3,gB',gS',g2',d1,d2,d3,d4,hcall,lv,lr,k1',k2',vl,il,paste,AV.view,W_draw0,noBoxes,cut]
        have k3:60<s':=by omega
        rw[eq_false k1]at k1'
        rw[eq_false k2]at k2'
        rw[eq_true k3]at k3'
        clear hn' hs' ih l1 l2 l3 hcons hp kk k1 k2 k3
        generalize codeOf ss.length H.sigs[k] bs[k]=c at *
        generalize ss++(bodyO ss.length bs[k]).ss.map (fun t=>(⟨cs.length,t⟩:Sd))=ss' at *
        generalize ownV 3 (c.vars.map T3.cells)=OV at *
        generalize ownV 4 (ss'.map Sd.row)=OS at *
        generalize ownV 7 ((cs++[c]).map Cd.row)=OC at *
        generalize ownV 3 (gl.map T3.cells)=OG at *
        generalize H.sigs[k]=sg at *
        generalize bs[k]=bd at *
        generalize fdsV sg.ps=GP at *
        generalize fdsV bd.vars=BVs at *
        generalize ssV bd.code=BC at *
        simp[hlt,hlts,hwn,w4,w3,v4,v3,gB',gS',g2',d1,d2,d3,d4,hcall,lv,lr,sv,sr,sl,k1',k2',k3',vl,il,paste,AV.view,W_draw0,noBoxes,cut]
       ·rw[if_neg kk]at hp
        have k1:¬4000<(codeOf ss.length H.sigs[k] bs[k]).vars.length:=fun h=>kk (.inl h)
        have k2:¬2500<n':=fun h=>kk (.inr (.inl h))
        have k3:¬60<s':=fun h=>kk (.inr (.inr h))
        rw[eq_false k1]at k1'
        rw[eq_false k2]at k2'
        rw[eq_false k3]at k3'
        have ih':=fun a b c d e f g pre x6 x7=>ih (k+1,cs++[codeOf ss.length H.sigs[k] bs[k]],ss++(bodyO ss.length bs[k]).ss.map (fun t=>(⟨cs.length,t⟩:Sd)),n',(a,b,c,d,e,f,g),pre,x6,x7)
         ⟨by simp only;omega,by simp[hcs],by simp only[List.length_append,List.length_map];omega,by simp only;omega,hp⟩ (by simp only;omega)
        simp only at ih'
        clear hn' hs' ih l1 l2 l3 hcons hp kk k1 k2 k3
        generalize codeOf ss.length H.sigs[k] bs[k]=c at *
        generalize ss++(bodyO ss.length bs[k]).ss.map (fun t=>(⟨cs.length,t⟩:Sd))=ss' at *
        generalize ownV 3 (c.vars.map T3.cells)=OV at *
        generalize ownV 4 (ss'.map Sd.row)=OS at *
        generalize ownV 7 ((cs++[c]).map Cd.row)=OC at *
        generalize ownV 3 (gl.map T3.cells)=OG at *
        generalize H.sigs[k]=sg at *
        generalize bs[k]=bd at *
        generalize fdsV sg.ps=GP at *
        generalize fdsV bd.vars=BVs at *
        generalize ssV bd.code=BC at *
        simp[hlt,hlts,hwn,w4,w3,v4,v3,gB',gS',g2',d1,d2,d3,d4,hcall,lv,lr,sv,sr,sl,hwr,k1',k2',k3',vl,il,paste,AV.view,W_draw0,noBoxes,cut]
        exact ih' _ _ _ _ _ _ _ _ _ _
      ·have hkl:k=bs.length:=by omega
       rw[hkl,List.drop_length,mkCs_end]at hp
       rw[<-hp,hirV,hkl]
       have e1:=view_ownV 3 (gl.map T3.cells)
       have e2:=view_ownV 7 (cs.map Cd.row)
       have e3:=view_ownV 4 (ss.map Sd.row)
       have p1:(lstV 3 (gl.map T3.cells)).isPure=true:=pure_lstV
       have p2:(lstV 7 (cs.map Cd.row)).isPure=true:=pure_lstV
       have p3:(lstV 4 (ss.map Sd.row)).isPure=true:=pure_lstV
       have n1:(lstV 3 (gl.map T3.cells)).isCell=true:=cell_lstV
       have n2:(lstV 7 (cs.map Cd.row)).isCell=true:=cell_lstV
       have n3:(lstV 4 (ss.map Sd.row)).isCell=true:=cell_lstV
       have m1:(lstV 3 (gl.map T3.cells)).view=lstV 3 (gl.map T3.cells):=view_lstV
       have m2:(lstV 7 (cs.map Cd.row)).view=lstV 7 (cs.map Cd.row):=view_lstV
       have m3:(lstV 4 (ss.map Sd.row)).view=lstV 4 (ss.map Sd.row):=view_lstV
       generalize lstV 3 (gl.map T3.cells)=LG at *
       generalize lstV 7 (cs.map Cd.row)=LC at *
       generalize lstV 4 (ss.map Sd.row)=LS at *
       generalize ownV 3 (gl.map T3.cells)=OG at *
       generalize ownV 7 (cs.map Cd.row)=OC at *
       generalize ownV 4 (ss.map Sd.row)=OS at *
       simp[e1,e2,e3,n1,n2,n3,t1,t2,paste,AV.view,cut,oneOrAgg,AV.viewL]
end U13
