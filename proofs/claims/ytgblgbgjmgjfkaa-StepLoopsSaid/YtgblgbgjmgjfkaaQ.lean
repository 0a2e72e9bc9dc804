/- Part of a proof. -/
import Derived.Test.YtgblgbgjmgjfkaaP

set_option maxRecDepth 100000
set_option maxHeartbeats 4000000
namespace U12
open Ax Go Code14 IrV
def lastT (l:List ID):Bool:=match l.getLast? with
 |some i=>decide (i.op=16)||decide (i.op=17)||decide (i.op=18)
 |none=>false
theorem lastT_at {l:List ID}{m:Nat}(h:l.length=m+1):lastT l=(decide ((l[m]'(by omega)).op=16)||decide ((l[m]'(by omega)).op=17)||decide ((l[m]'(by omega)).op=18)):=by
 have e:l.getLast? = some (l[m]'(by omega)):=by
  rw[List.getLast?_eq_getElem?]
  have:l.length-1=m:=by omega
  rw[this]
  exact List.getElem?_eq_getElem _
 unfold lastT
 rw[e]
def codeT (x:XD)(f:Int)(c:CD):Bool:=decide (¬c.params<0)&&decide (¬6<c.params)&&decide (¬((dTs c.vars).length:Int)<c.params)&&decide (¬4000<((dTs c.vars).length:Int)) &&
 decide (¬((dNs c.ins).length:Int)=0)&&(dTs c.vars).all (mayT (nr x))&&(if c.has then mayT (nr x) c.res else teq c.res ⟨0,0,0⟩)&&(dNs c.ins).all (stepT x f)&&lastT (dNs c.ins)
theorem code_ok (wl lim:Nat){x:XD}(k:Nat)(hk:k<(dCs x.codes).length)(st:Store)(hx:x.ok)(hb:∀g∈dCs x.codes,(dTs g.vars).length<1000000000)(hb2:∀g∈dCs x.codes,(dNs g.ins).length<1000000000) :
  (orcL S).call wl lim 44 [xAV x,.int .i64 k] st=some (.bool (codeT x k (dCs x.codes)[k]),st):=by
 have hs:=hx.sl
 have hC:=hx.codes
 have hl:=rowsL_C hx.codes
 have hcm:=isCs_get hC _ (List.getElem_mem hk)
 have hT:=hcm.1
 have hTs:=isSl_T hcm.1
 have hTv:=isTs_vw hcm.1
 have hTl:=rowsL_T hcm.1
 have hN:=hcm.2
 have hNs:=isSl_N hcm.2
 have hNv:=isNs_vw hcm.2
 have hNl:=rowsL_N hcm.2
 have hbn:=hb2 _ (List.getElem_mem hk)
 have hty:=types_ok 0 0 (x:=x) (dCs x.codes)[k].vars [] hx hT (hb _ (List.getElem_mem hk))
 have hm:=may_ok 0 0 (x:=x) (dCs x.codes)[k].res [] hx
 simp only[xAV]at hm hty
 refine call_pure (sf:=s44) rfl rfl (by simp[hx.pure]) rfl (by simp) ?_
 generalize hcq:(dCs x.codes)[k]=c at *
 unfold codeT
 by_cases p0:c.params<0
 ·simp[s44,xAV,hs,hl,hC,hk,hcq,CD.cells,hTs,hTv,hNs,hNv,p0]
 by_cases p6:6<c.params
 ·simp[s44,xAV,hs,hl,hC,hk,hcq,CD.cells,hTs,hTv,hNs,hNv,p0,p6]
 by_cases pv:((dTs c.vars).length:Int)<c.params
 ·simp[s44,xAV,hs,hl,hC,hk,hcq,CD.cells,hTs,hTv,hTl,hNs,hNv,p0,p6,pv]
 by_cases v4:4000<((dTs c.vars).length:Int)
 ·simp[s44,xAV,hs,hl,hC,hk,hcq,CD.cells,hTs,hTv,hTl,hNs,hNv,p0,p6,pv,v4]
 by_cases i0:dNs c.ins=[]
 ·simp[s44,xAV,hs,hl,hC,hk,hcq,CD.cells,hTs,hTv,hTl,hNs,hNv,hNl,p0,p6,pv,v4,i0]
 cases hta:(dTs c.vars).all (mayT (nr x)) with
 |false=>simp[s44,xAV,hs,hl,hC,hk,hcq,CD.cells,hTs,hTv,hTl,hNs,hNv,hNl,p0,p6,pv,v4,i0,hty,hta]
 |true=>
  cases hh:c.has with
  |true=>
   cases hmr:mayT (nr x) c.res with
   |false=>simp[s44,xAV,hs,hl,hC,hk,hcq,CD.cells,hTs,hTv,hTl,hNs,hNv,hNl,p0,p6,pv,v4,i0,hty,hta,hh,hm,hmr,W_draw0,noBoxes]
   |true=>
    simp[s44,xAV,hs,hl,hC,hk,hcq,CD.cells,hTs,hTv,hTl,hNs,hNv,hNl,p0,p6,pv,v4,i0,hty,hta,hh,hm,hmr,W_draw0,noBoxes]
    refine W_loopI s44_l0.eq_1 (fun q:Nat×List AV=>⟨[(1,.val (.int .i64 k)),(2,.fp 0 0),(5,.fp 1 0),(70,.val c.ins),(71,.val (.int .i64 (dNs c.ins).length)),(72,.val (.int .i64 q.1))],
      [[x.recs,x.globals,x.codes,x.sites,.int .i64 x.main],[.int .i64 c.params,c.vars,.bool true,.int .i64 c.res.b,.int .i64 c.res.r,.int .i64 c.res.d,c.ins],q.2],[]⟩)
     (fun q=>q.1<=(dNs c.ins).length/\upto (stepT x k) (dNs c.ins) q.1) (fun q=>(dNs c.ins).length-q.1) (0,[]) (by simp) ⟨by simp,upto_zero⟩ ?_
    rintro⟨j,bb⟩ ⟨hj,hp⟩ ih
    simp only at hj hp ih
    by_cases hlt:j<(dNs c.ins).length
    ·have hw:IntKind.i64.wrap ((j:Int)+1)=((j+1:Nat):Int):=by rw[wrap64]<;>omega
     have hg:=isNs_get hN _ (List.getElem_mem hlt)
     have hst:=step_ok 0 0 (x:=x) (k:Int) (i:=(dNs c.ins)[j]) [] hx hg.2 hg.1 hb
     have hgs:=isSl_I hg.2
     have hgv:=view_notOwn hg.1 hgs
     simp only[xAV,idAV]at hst
     cases e:stepT x k (dNs c.ins)[j] with
     |true=>
      simp[hs,hN,hNl,hlt,ID.cells,hgs,hgv,hst,e,hw]
      exact ih (j+1,_) ⟨by simp;omega,upto_succ hp hlt e⟩ (by simp;omega)
     |false=>
      have hf:=upto_not hlt e
      simp[hs,hN,hNl,hlt,ID.cells,hgs,hgv,hst,e,hf]
    ·have hjl:j=(dNs c.ins).length:=by omega
     have hf:=upto_all (hjl ▸ hp)
     obtain⟨m,hm1⟩:∃m,(dNs c.ins).length=m+1:=⟨(dNs c.ins).length-1,by have:=List.length_pos_iff.2 i0;omega⟩
     have hml:m<(dNs c.ins).length:=by omega
     have hw2:IntKind.i64.wrap (((dNs c.ins).length:Int)-1)=(m:Int):=by rw[wrap64]<;>omega
     have hla:=lastT_at hm1
     by_cases o1:(dNs c.ins)[m].op=16
     ·simp[hN,hNl,hlt,hf,hw2,hml,ID.cells,hla,o1]
     ·by_cases o2:(dNs c.ins)[m].op=17
      ·simp[hN,hNl,hlt,hf,hw2,hml,ID.cells,hla,o2]
      ·simp[hN,hNl,hlt,hf,hw2,hml,ID.cells,hla,o1,o2]
  |false=>
   cases ht0:teq c.res ⟨0,0,0⟩ with
   |false=>simp[s44,xAV,hs,hl,hC,hk,hcq,CD.cells,hTs,hTv,hTl,hNs,hNv,hNl,p0,p6,pv,v4,i0,hty,hta,hh,none_ok,ht0,W_draw0,noBoxes]
   |true=>
    simp[s44,xAV,hs,hl,hC,hk,hcq,CD.cells,hTs,hTv,hTl,hNs,hNv,hNl,p0,p6,pv,v4,i0,hty,hta,hh,none_ok,ht0,W_draw0,noBoxes]
    refine W_loopI s44_l0.eq_1 (fun q:Nat×List AV=>⟨[(1,.val (.int .i64 k)),(2,.fp 0 0),(5,.fp 1 0),(70,.val c.ins),(71,.val (.int .i64 (dNs c.ins).length)),(72,.val (.int .i64 q.1))],
      [[x.recs,x.globals,x.codes,x.sites,.int .i64 x.main],[.int .i64 c.params,c.vars,.bool false,.int .i64 c.res.b,.int .i64 c.res.r,.int .i64 c.res.d,c.ins],q.2],[]⟩)
     (fun q=>q.1<=(dNs c.ins).length/\upto (stepT x k) (dNs c.ins) q.1) (fun q=>(dNs c.ins).length-q.1) (0,[]) (by simp) ⟨by simp,upto_zero⟩ ?_
    rintro⟨j,bb⟩ ⟨hj,hp⟩ ih
    simp only at hj hp ih
    by_cases hlt:j<(dNs c.ins).length
    ·have hw:IntKind.i64.wrap ((j:Int)+1)=((j+1:Nat):Int):=by rw[wrap64]<;>omega
     have hg:=isNs_get hN _ (List.getElem_mem hlt)
     have hst:=step_ok 0 0 (x:=x) (k:Int) (i:=(dNs c.ins)[j]) [] hx hg.2 hg.1 hb
     have hgs:=isSl_I hg.2
     have hgv:=view_notOwn hg.1 hgs
     simp only[xAV,idAV]at hst
     cases e:stepT x k (dNs c.ins)[j] with
     |true=>
      simp[hs,hN,hNl,hlt,ID.cells,hgs,hgv,hst,e,hw]
      exact ih (j+1,_) ⟨by simp;omega,upto_succ hp hlt e⟩ (by simp;omega)
     |false=>
      have hf:=upto_not hlt e
      simp[hs,hN,hNl,hlt,ID.cells,hgs,hgv,hst,e,hf]
    ·have hjl:j=(dNs c.ins).length:=by omega
     have hf:=upto_all (hjl ▸ hp)
     obtain⟨m,hm1⟩:∃m,(dNs c.ins).length=m+1:=⟨(dNs c.ins).length-1,by have:=List.length_pos_iff.2 i0;omega⟩
     have hml:m<(dNs c.ins).length:=by omega
     have hw2:IntKind.i64.wrap (((dNs c.ins).length:Int)-1)=(m:Int):=by rw[wrap64]<;>omega
     have hla:=lastT_at hm1
     by_cases o1:(dNs c.ins)[m].op=16
     ·simp[hN,hNl,hlt,hf,hw2,hml,ID.cells,hla,o1]
     ·by_cases o2:(dNs c.ins)[m].op=17
      ·simp[hN,hNl,hlt,hf,hw2,hml,ID.cells,hla,o2]
      ·simp[hN,hNl,hlt,hf,hw2,hml,ID.cells,hla,o1,o2]
end U12
namespace U12
open Ax Go Code14 IrV
def codesB (x:XD):List CD->Int->Int->Bool
 |[],_,_=>true
 |c::l,f,n=>decide (¬2500<n+(dNs c.ins).length)&&codeT x f c&&codesB x l (f+1) (n+(dNs c.ins).length)
theorem codes_ok (wl lim:Nat){x:XD}(st:Store)(hx:x.ok)(hn:(dCs x.codes).length<1000000000)(hb:∀g∈dCs x.codes,(dTs g.vars).length<1000000000)(hb2:∀g∈dCs x.codes,(dNs g.ins).length<1000000000) :
  (orcL S).call wl lim 21 [xAV x] st=some (.bool (codesB x (dCs x.codes) 0 0),st):=by
 have hs:=hx.sl
 have hC:=hx.codes
 have hl:=rowsL_C hx.codes
 refine call_pure (sf:=s21) rfl rfl (by simp[hx.pure]) rfl (by simp) ?_
 simp[s21,xAV,hs,hl]
 refine W_loopI s21_l0.eq_1 (fun q:Nat×Int×List AV=>⟨[(1,.fp 0 0),(3,.val (.int .i64 q.2.1)),(7,.val x.codes),(8,.val (.int .i64 (dCs x.codes).length)),(9,.val (.int .i64 q.1))],[[x.recs,x.globals,x.codes,x.sites,.int .i64 x.main],q.2.2],[]⟩)
  (fun q=>q.1<=(dCs x.codes).length/\0<=q.2.1/\q.2.1<=2500/\codesB x (dCs x.codes) 0 0=codesB x ((dCs x.codes).drop q.1) q.1 q.2.1) (fun q=>(dCs x.codes).length-q.1) (0,0,[]) (by simp) ⟨by simp,by simp,by simp,by simp⟩ ?_
 rintro⟨k,n,bb⟩ ⟨hk,hn0,hn1,hp⟩ ih
 simp only at hk hn0 hn1 hp ih
 by_cases hlt:k<(dCs x.codes).length
 ·have hw:IntKind.i64.wrap ((k:Int)+1)=((k+1:Nat):Int):=by rw[wrap64]<;>omega
  have hcm:=isCs_get hC _ (List.getElem_mem hlt)
  have hbn:=hb2 _ (List.getElem_mem hlt)
  have hcode:=code_ok 0 0 (x:=x) k hlt [] hx hb hb2
  simp only[xAV]at hcode
  rw[List.drop_eq_getElem_cons hlt]at hp
  simp only[codesB]at hp
  have hTs:=isSl_T hcm.1
  have hTv:=isTs_vw hcm.1
  have hNs:=isSl_N hcm.2
  have hNv:=isNs_vw hcm.2
  have hNl:=rowsL_N hcm.2
  generalize hcq:(dCs x.codes)[k]=c at *
  have hw2:IntKind.i64.wrap (n+((dNs c.ins).length:Int))=n+((dNs c.ins).length:Int):=by rw[wrap64]<;>omega
  by_cases g:2500<n+((dNs c.ins).length:Int)
  ·simp[hs,hl,hC,hlt,hcq,CD.cells,hTs,hTv,hNs,hNv,hNl,hw2,g,hp]
  ·cases e:codeT x k c with
   |false=>simp[hs,hl,hC,hlt,hcq,CD.cells,hTs,hTv,hNs,hNv,hNl,hw2,g,hp,hcode,e]
   |true=>
    simp[hs,hl,hC,hlt,hcq,CD.cells,hTs,hTv,hNs,hNv,hNl,hw2,g,hcode,e,hw]
    refine ih (k+1,n+((dNs c.ins).length:Int),_) ⟨by simp;omega,by simp;omega,by simp;omega,?_⟩ (by simp;omega)
    rw[hp,e]
    simp[g]
 ·have hkl:k=(dCs x.codes).length:=by omega
  rw[hkl,List.drop_length]at hp
  simp only[codesB]at hp
  simp[hlt,hp]
def rightT (x:XD):Bool:=decide (¬12<((dRs x.recs).length:Int))&&decide (¬8<((dTs x.globals).length:Int))&&decide (¬dCs x.codes=[])&&decide (¬16<((dCs x.codes).length:Int)) &&
 decide (¬60<((dSs x.sites).length:Int))&&(match getZ (dCs x.codes) x.main with
  |none=>false
  |some m=>decide (m.params=0) && !m.has)&&(dRs x.recs).all (recT (nr x))&&(dTs x.globals).all (mayT (nr x))&&(dSs x.sites).all (siteT (nr x) (dCs x.codes).length)&&codesB x (dCs x.codes) 0 0
theorem right_ok (wl lim:Nat){x:XD}(st:Store)(hx:x.ok)(hb:∀g∈dCs x.codes,(dTs g.vars).length<1000000000)(hb2:∀g∈dCs x.codes,(dNs g.ins).length<1000000000) :
  (orcL S).call wl lim 12 [xAV x] st=some (.bool (rightT x),st):=by
 have hs:=hx.sl
 have hC:=hx.codes
 have hl:rowsL x.recs=(dRs x.recs).map RD.cells/\rowsL x.globals=(dTs x.globals).map T3.cells/\rowsL x.codes=(dCs x.codes).map CD.cells/\rowsL x.sites=(dSs x.sites).map SD.cells:=
  ⟨rowsL_R hx.recs,rowsL_T hx.globals,rowsL_C hx.codes,rowsL_S hx.sites⟩
 refine call_pure (sf:=s12) rfl rfl (by simp[hx.pure]) rfl (by simp) ?_
 unfold rightT
 by_cases a1:12<((dRs x.recs).length:Int)
 ·simp[s12,xAV,hs,hl,a1]
 by_cases a2:8<((dTs x.globals).length:Int)
 ·simp[s12,xAV,hs,hl,a1,a2]
 by_cases a3:dCs x.codes=[]
 ·simp[s12,xAV,hs,hl,a1,a2,a3]
 by_cases a4:16<((dCs x.codes).length:Int)
 ·simp[s12,xAV,hs,hl,a1,a2,a3,a4]
 by_cases a5:60<((dSs x.sites).length:Int)
 ·simp[s12,xAV,hs,hl,a1,a2,a3,a4,a5]
 cases hg:getZ (dCs x.codes) x.main with
 |none=>
  rcases getZ_none hg with h0|⟨h0,h1⟩
  ·simp[s12,xAV,hs,hl,a1,a2,a3,a4,a5,h0]
  ·have h0':¬x.main<0:=by omega
   simp[s12,xAV,hs,hl,a1,a2,a3,a4,a5,h0',h1]
 |some m=>
  obtain⟨k,hk,hkl,hq⟩:=getZ_some hg
  have h0':¬(k:Int)<0:=by omega
  have h1':¬((dCs x.codes).length:Int)<=(k:Int):=by omega
  have hcm:=isCs_get hC m (hq ▸ List.getElem_mem hkl)
  have hTs:=isSl_T hcm.1
  have hTv:=isTs_vw hcm.1
  have hNs:=isSl_N hcm.2
  have hNv:=isNs_vw hcm.2
  have e1:=shapes_ok 0 0 [] hx (by omega)
  have e2:=types_ok 0 0 (x:=x) x.globals [] hx hx.globals (by omega)
  have e3:=sites_ok 0 0 [] hx (by omega)
  have e4:=codes_ok 0 0 [] hx (by omega) hb hb2
  simp only[xAV,hk]at e1 e2 e3 e4
  by_cases p0:m.params=0
  ·cases p1:m.has with
   |true=>simp[s12,xAV,hs,hl,hC,a1,a2,a3,a4,a5,hk,hkl,h0',h1',hq,CD.cells,hTs,hTv,hNs,hNv,p0,p1]
   |false=>
    cases q1:(dRs x.recs).all (recT (nr x)) with
    |false=>simp[s12,xAV,hs,hl,hC,a1,a2,a3,a4,a5,hk,hkl,h0',h1',hq,CD.cells,hTs,hTv,hNs,hNv,p0,p1,e1,q1]
    |true=>
     cases q2:(dTs x.globals).all (mayT (nr x)) with
     |false=>simp[s12,xAV,hs,hl,hC,a1,a2,a3,a4,a5,hk,hkl,h0',h1',hq,CD.cells,hTs,hTv,hNs,hNv,p0,p1,e1,q1,e2,q2]
     |true=>
      cases q3:(dSs x.sites).all (siteT (nr x) (dCs x.codes).length) with
      |false=>simp[s12,xAV,hs,hl,hC,a1,a2,a3,a4,a5,hk,hkl,h0',h1',hq,CD.cells,hTs,hTv,hNs,hNv,p0,p1,e1,q1,e2,q2,e3,q3]
      |true=>simp[s12,xAV,hs,hl,hC,a1,a2,a3,a4,a5,hk,hkl,h0',h1',hq,CD.cells,hTs,hTv,hNs,hNv,p0,p1,e1,q1,e2,q2,e3,q3,e4]
  ·simp[s12,xAV,hs,hl,hC,a1,a2,a3,a4,a5,hk,hkl,h0',h1',hq,CD.cells,hTs,hTv,hNs,hNv,p0]
end U12
namespace U12
open Ax Go Code14 IrV
theorem inR_S {v:AV}(h:isSs v=true):∀s∈dSs v,inR s.t.d=true:=by
 intro r hr
 obtain⟨x,hx,rfl⟩:=List.mem_map.1 hr
 have:=isRows_all h x hx
 unfold sdRow at this
 unfold dS
 split at this
 ·simp only[Bool.and_eq_true]at this;exact this.2
 ·cases this
def fts (x:XD)(r:Nat)(n:Nat):List (List AV):=(((dRs x.recs)[r]?.map fun q=>dFs q.fields).getD []).take n |>.map fun f=>f.t.cells
theorem fts_at {x:XD}{r n:Nat}(h:r<(dRs x.recs).length):fts x r n=((dFs (dRs x.recs)[r].fields).take n).map fun f=>f.t.cells:=by
 simp[fts,h]
def cellsV (x:XD)(k:Nat):AV:=match (dSs x.sites)[k]? with
 |none=>.nilSl
 |some s=>if 0<s.t.d then .lst 3 [[.int .i64 s.t.b,.int .i64 s.t.r,.int .i64 (s.t.d-1)]] else mkL 3 (fts x s.t.r.toNat 1000000000)
def cellsT (x:XD)(n:Int):AV:=if rightT x=true/\0<=n/\n<((dSs x.sites).length:Int) then cellsV x n.toNat else .nilSl
theorem cellsT_l (x:XD)(n:Int):∃l:List T3,isSz 3 (cellsT x n)=true/\rowsL (cellsT x n)=l.map T3.cells:=by
 unfold cellsT
 split
 ·unfold cellsV
  split
  ·exact⟨[],rfl,rfl⟩
  ·rename_i s _
   split
   ·exact⟨[⟨s.t.b,s.t.r,s.t.d-1⟩],rfl,rfl⟩
   ·refine⟨(((dRs x.recs)[s.t.r.toNat]?.map fun q=>dFs q.fields).getD []).take 1000000000 |>.map fun f=>f.t,?_,?_⟩
    ·rw[isSz_mk]
     refine List.all_eq_true.2 fun r hr=>?_
     obtain⟨f,_,rfl⟩:=List.mem_map.1 hr
     rfl
    ·rw[rowsL_mk]
     simp only[fts,List.map_map]
     rfl
 ·exact⟨[],rfl,rfl⟩
theorem site_rec {x:XD}(hr:rightT x=true){k:Nat}(hk:k<(dSs x.sites).length)(h0:¬0<(dSs x.sites)[k].t.d):∃r:Nat,(dSs x.sites)[k].t.r=r/\r<(dRs x.recs).length:=by
 simp only[rightT,Bool.and_eq_true]at hr
 have h:=List.all_eq_true.1 hr.1.2 _ (List.getElem_mem hk)
 simp only[siteT,Bool.and_eq_true,mayT,refT,Bool.or_eq_true,decide_eq_true_eq]at h
 obtain⟨⟨⟨⟨_,h2⟩,h3⟩,_⟩,_⟩:=h
 have hb:(dSs x.sites)[k].t.b=3:=by
  rcases h3 with h3|h3
  ·exact h3
  ·exact absurd h3 h0
 rw[if_neg (by omega)]at h2
 simp only[Bool.and_eq_true,decide_eq_true_eq,nr]at h2
 obtain⟨⟨_,h4⟩,h5⟩:=h2
 exact⟨(dSs x.sites)[k].t.r.toNat,by omega,by omega⟩
theorem recs_few {x:XD}(hr:rightT x=true):∀r∈dRs x.recs,(dFs r.fields).length<100:=by
 simp only[rightT,Bool.and_eq_true]at hr
 intro r h
 have:=List.all_eq_true.1 hr.1.1.1.2 r h
 simp only[recT,Bool.and_eq_true,decide_eq_true_eq]at this
 omega
section
variable {x:XD}(hx:x.ok)(hb:∀g∈dCs x.codes,(dTs g.vars).length<1000000000)(hb2:∀g∈dCs x.codes,(dNs g.ins).length<1000000000)
include hx hb hb2
theorem cells_ok (wl lim:Nat)(n:Int)(st:Store):(orcL S).call wl lim 15 [xAV x,.int .i64 n] st=some (cellsT x n,st):=by
 have hs:=hx.sl
 have hS:=hx.sites
 have hR:=hx.recs
 have hl:rowsL x.recs=(dRs x.recs).map RD.cells/\rowsL x.sites=(dSs x.sites).map SD.cells:=⟨rowsL_R hx.recs,rowsL_S hx.sites⟩
 have e1:=right_ok 0 0 [] hx hb hb2
 simp only[xAV]at e1
 refine call_pure (sf:=s15) rfl rfl (by simp[hx.pure]) rfl (by obtain⟨l,h,_⟩:=cellsT_l x n;simp[isSl_sz h]) ?_
 cases er:rightT x with
 |false=>simp[s15,xAV,hs,e1,er,cellsT]
 |true=>
  by_cases h0:n<0
  ·have h0':¬0<=n:=by omega
   simp[s15,xAV,hs,e1,er,cellsT,h0,h0']
  obtain⟨k,rfl⟩:∃k:Nat,n=k:=⟨n.toNat,by omega⟩
  by_cases hk:k<(dSs x.sites).length
  ·have hk':¬((dSs x.sites).length:Int)<=(k:Int):=by omega
   have hd:=inR_S hS _ (List.getElem_mem hk)
   by_cases d0:0<(dSs x.sites)[k].t.d
   ·have hw:IntKind.i64.wrap ((dSs x.sites)[k].t.d-1)=(dSs x.sites)[k].t.d-1:=by
     simp only[inR,Bool.and_eq_true,decide_eq_true_eq]at hd
     rw[wrap64]<;>omega
    simp[s15,xAV,hs,hl,hS,e1,er,cellsT,cellsV,h0,hk,hk',SD.cells,d0,hw]
   ·obtain⟨r,hr,hrl⟩:=site_rec er hk d0
    have hF:=isRs_get hR _ (List.getElem_mem hrl)
    have hFs:=isSl_F hF
    have hFv:=isFs_vw hF
    have hFl:=rowsL_F hF
    have hFn:=recs_few er _ (List.getElem_mem hrl)
    have ev:cellsT x (k:Int)=mkL 3 (fts x r 1000000000):=by simp[cellsT,er,hk,cellsV,d0,hr]
    rw[ev]
    simp[s15,xAV,hs,hl,hS,hR,e1,er,h0,hk,hk',SD.cells,RD.cells,d0,hr,hrl,hFs,hFv,hFl]
    refine W_loopI s15_l0.eq_1 (fun q:Nat×List AV=>⟨[(6,.val (mkL 3 (fts x r q.1))),(44,.val (dRs x.recs)[r].fields),(45,.val (.int .i64 (dFs (dRs x.recs)[r].fields).length)),(46,.val (.int .i64 q.1))],
      [[x.recs,x.globals,x.codes,x.sites,.int .i64 x.main],[.int .i64 (dSs x.sites)[k].t.b,.int .i64 r,.int .i64 (dSs x.sites)[k].t.d],q.2],[]⟩)
     (fun q=>q.1<=(dFs (dRs x.recs)[r].fields).length) (fun q=>(dFs (dRs x.recs)[r].fields).length-q.1) (0,[]) (by simp[fts,mkL_nil]) (by simp) ?_
    rintro⟨j,bb⟩ hj ih
    simp only at hj ih
    by_cases hjl:j<(dFs (dRs x.recs)[r].fields).length
    ·have hw:IntKind.i64.wrap ((j:Int)+1)=((j+1:Nat):Int):=by rw[wrap64]<;>omega
     have ha:appV 3 24 (mkL 3 (fts x r j)) [(dFs (dRs x.recs)[r].fields)[j].t.cells]=some (mkL 3 (fts x r (j+1))):=by
      rw[appV_mk (by rfl) (by simp[room,fts_at hrl];omega)]
      rw[fts_at hrl,fts_at hrl,List.take_succ_eq_append_getElem hjl,List.map_append]
      rfl
     simp only[T3.cells]at ha
     simp[hF,hFl,hjl,FD.cells,ha,hw]
     exact ih (j+1,_) (by simp;omega) (by simp;omega)
    ·have hjk:j=(dFs (dRs x.recs)[r].fields).length:=by omega
     have e:fts x r 1000000000=fts x r j:=by
      rw[fts_at hrl,fts_at hrl,List.take_of_length_le (by omega),List.take_of_length_le (by omega)]
     rw[e]
     simp[hjl]
  ·have hk':((dSs x.sites).length:Int)<=(k:Int):=by omega
   simp[s15,xAV,hs,hl,e1,er,cellsT,h0,hk,hk']
end
end U12
