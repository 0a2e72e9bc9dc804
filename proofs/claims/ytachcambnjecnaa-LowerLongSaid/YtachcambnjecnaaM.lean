/- Part of a proof. -/
import Derived.Test.YtachcambnjecnaaCode2
import Derived.Test.YtachcambnjecnaaP
import Derived.KernelRfl

set_option maxRecDepth 100000
set_option maxHeartbeats 4000000
namespace U7
open Ax Go Code13 V7
theorem index_ok (wl lim:Nat)(l:AV)(s:List UInt8)(st:Store)(hl:isSts l=true)(hn:(dSts l).length<1000000000) :
  (orcL S).call wl lim 69 [l,.str s] st=some (.int .i64 (idxS (dSts l) s),st):=by
 have h1:=isSl_St hl
 have h2:=isSts_vw hl
 have h3:=rowsL_St hl
 refine call_pure (sf:=s69) rfl rfl (by simp[pure_sl h1]) rfl (by simp) ?_
 simp[s69,h1,h2,h3]
 refine W_loopI s69_l0.eq_1 (fun q:Nat×Int=>⟨[(0,.val l),(1,.val (.str s)),(7,.val (.int .i64 (dSts l).length)),(8,.val (.int .i64 q.1))],[],[]⟩)
  (fun q=>q.1<=(dSts l).length/\nope (fun x=>decide (x=s)) (dSts l) q.1) (fun q=>(dSts l).length-q.1) (0,0) (by simp) ⟨by simp,nope_zero⟩ ?_
 rintro⟨k,bb⟩ ⟨hk,hp⟩ ih
 simp only at hk hp ih
 by_cases hlt:k<(dSts l).length
 ·have hw:IntKind.i64.wrap ((k:Int)+1)=((k+1:Nat):Int):=by rw[wrap64]<;>omega
  by_cases e:(dSts l)[k]=s
  ·have hi:=idxS_at hp hlt e
   simp[hl,h2,h3,hlt,e,hi]
  ·have e':¬s=(dSts l)[k]:=fun h=>e h.symm
   simp[hl,h2,h3,hlt,e',hw]
   exact ih (k+1,0) ⟨by simp;omega,nope_succ hp hlt (by simpa using e)⟩ (by simp;omega)
 ·have hkl:k=(dSts l).length:=by omega
  have hi:=idxS_none (hkl ▸ hp)
  simp[hlt,hi]
theorem typeT_1 {l:List (List UInt8)}{s:List UInt8}{d:Int}(h:d<0\/3<d):typeT l s d=(T0,false):=if_pos h
theorem type_ok (wl lim:Nat)(l:AV)(s:List UInt8)(d:Int)(st:Store)(hl:isSts l=true)(hn:(dSts l).length<1000000000) :
  (orcL S).call wl lim 70 [l,.agg [.str s,.int .i64 d]] st=some (.tup [.agg (typeT (dSts l) s d).1.cells,.bool (typeT (dSts l) s d).2],st):=by
 have h1:=isSl_St hl
 have h2:=isSts_vw hl
 have hi:=index_ok 0 0 l s [] hl hn
 refine call_pure (sf:=s70) rfl rfl (by simp[pure_sl h1]) rfl (by simp[AV.isPure,AV.allPure]) ?_
 by_cases d0:d<0
 ·rw[typeT_1 (.inl d0)]
  simp[s70,d0]
 by_cases d3:3<d
 ·rw[typeT_1 (.inr d3)]
  simp[s70,d0,d3]
 have hd:¬(d<0\/3<d):=by omega
 unfold typeT
 rw[if_neg hd]
 by_cases i1:s=[105,110,116]
 ·simp[s70,d0,d3,i1]
 by_cases i2:s=[98,111,111,108]
 ·simp[s70,d0,d3,i2]
 rw[if_neg i1,if_neg i2]
 by_cases i3:idxS (dSts l) s<0
 ·simp[s70,d0,d3,i1,i2,hi,i3]
 ·simp[s70,d0,d3,i1,i2,hi,i3]
theorem ref_ok (wl lim:Nat)(t:T3)(st:Store):(orcL S).call wl lim 28 [.agg t.cells] st=some (.bool (refT t),st):=by
 refine call_pure (sf:=s28) rfl rfl (by simp) rfl (by simp) ?_
 unfold refT
 by_cases b:t.b=3
 ·simp[s28,b]
 ·simp[s28,b]
end U7
namespace U7
open Ax Go Code13 V7
def fE (f:Option Int):Int:=match f with|some _=>3|none=>0
def fX (f:Option Int):Int:=match f with|some x=>x|none=>0
@[simp] def mk (rl:AV) (f:Option Int):AObj:=.rows 0 3 [[rl,.int .i64 (fE f),.int .i64 (fX f)]]
theorem fail_ok (lim:Nat)(a:Int)(rl:AV)(f:Option Int)(r:Store) :
  (orcL S).call 0 lim 41 [.ptr 0 0 0 0,.int .i64 a] (mk rl f::r)=some (.tup [],mk rl (orF f (some a))::r):=by
 refine call_run (sf:=s41) rfl rfl rfl ?_
 cases f with
 |none=>simp[s41,fE,fX,orF,mayWrite,paste,cut,AV.allPure,AV.isPure]
 |some x=>simp[s41,fE,fX,orF,cut,AV.allPure,AV.isPure]
theorem typed_ok (lim:Nat)(s:List UInt8)(d a:Int)(rl:AV)(f:Option Int)(r:Store)(hl:isSts rl.view=true)(hn:(dSts rl).length<1000000000) :
  (orcL S).call 0 lim 58 [.ptr 0 0 0 0,.agg [.str s,.int .i64 d],.int .i64 a] (mk rl f::r)=some (.agg (typeT (dSts rl) s d).1.cells,mk rl (if (typeT (dSts rl) s d).2 then f else orF f (some a))::r):=by
 have h1:isSl rl=true:=by simpa using isSl_St hl
 have e1:=fun wl lim st=>type_ok wl lim rl.view s d st hl (by simpa using hn)
 have e2:=fun lim=>fail_ok lim a rl f r
 simp only[dSts_view]at e1
 refine call_run (sf:=s58) rfl rfl rfl ?_
 generalize typeT (dSts rl) s d=z at *
 obtain⟨u,o⟩:=z
 simp only[T3.cells]at e1
 simp only[mk]at e2
 cases o with
 |true=>simp[s58,cut,e1,W_drawB,boxOk,SOp.newBox,noFp,AV.allPure,AV.isPure]
 |false=>simp[s58,cut,e1,e2,W_drawB,boxOk,SOp.newBox,noFp,AV.allPure,AV.isPure]
theorem contains_ok (wl lim:Nat)(l:AV)(s:List UInt8)(st:Store)(hl:isSts l=true)(hn:(dSts l).length<1000000000) :
  (orcL S).call wl lim 57 [l,.str s] st=some (.bool (decide (0<=idxS (dSts l) s)),st):=by
 have h1:=isSl_St hl
 have h2:=isSts_vw hl
 have e:=index_ok 0 0 l s [] hl hn
 refine call_pure (sf:=s57) rfl rfl (by simp[pure_sl h1]) rfl (by simp) ?_
 simp[s57,e]
def ents (ks:List (List UInt8)):List (AV×AV):=ks.map fun s=>(.str s,.agg [])
theorem find_ents (s:List UInt8):∀ks,findV .str (.str s) (ents ks)=some (if s∈ks then some (.agg []) else none)
 |[]=>rfl
 |a::ks=>by
  have ih:=find_ents s ks
  simp only[ents]at ih
  simp only[ents,List.map_cons,findV,eqS]
  by_cases h:a=s
  ·simp[h]
  ·have:(s==a)=false:=beq_eq_false_iff_ne.2 fun e=>h e.symm
   have h':¬s=a:=fun e=>h e.symm
   rw[this]
   simp[ih,h']
def addK (ks:List (List UInt8))(s:List UInt8):List (List UInt8):=if s∈ks then ks else ks++[s]
theorem put_ents (s:List UInt8):∀ks,putV .str (.str s) (.agg []) (ents ks)=some (ents (addK ks s))
 |[]=>rfl
 |a::ks=>by
  have ih:=put_ents s ks
  simp only[ents]at ih
  simp only[ents,List.map_cons,putV,eqS]
  by_cases h:a=s
  ·simp[h,addK]
  ·have:(s==a)=false:=beq_eq_false_iff_ne.2 fun e=>h e.symm
   have h':¬s=a:=fun e=>h e.symm
   rw[this]
   simp only[ih]
   by_cases hm:s∈ks
   ·simp[addK,hm]
   ·simp[addK,hm,h']
theorem mem_addK (ks:List (List UInt8))(s t:List UInt8):t∈addK ks s↔t∈ks\/t=s:=by
 unfold addK
 split
 ·constructor
  ·exact .inl
  ·rintro (h|rfl)<;>assumption
 ·simp
@[simp] theorem a_makeMap {wl lim:Nat} {st:Store} {bx:Boxes}:act0 wl lim .makeMap [] st bx=some (.val (.map st.length),st++[.map []],bx):=rfl
theorem a_upd {lim:Nat}{o:AObj}{r:Store}{bx:Boxes}{ks:List (List UInt8)}(s:List UInt8) :
  act0 0 lim (.mapUpdate .str) [.val (.map (r.length+1)),.val (.str s),.val (.agg [])] (o::(r++[.map (ents ks)])) bx=some (.none,o::(r++[.map (ents (addK ks s))]),bx):=by
 simp[act0,isKey,mayWrite,AV.allPure,AV.isPure,AV.view,AV.viewL,put_ents]
theorem a_look {lim:Nat}{o:AObj}{r:Store}{bx:Boxes}{ks:List (List UInt8)}(s:List UInt8) :
  act0 0 lim (.lookup .str (.agg []) true) [.val (.map (r.length+1)),.val (.str s)] (o::(r++[.map (ents ks)])) bx=some (.val (.tup [.agg [],.bool (decide (s∈ks))]),o::(r++[.map (ents ks)]),bx):=by
 simp only[act0,List.getElem?_cons_succ,isKey,if_true]
 by_cases h:s∈ks<;>simp[h,find_ents]
theorem firstB_succ {α:Type}{bad:List α->α->Option Int}{l:List α}{k:Nat}(h:k<l.length):firstB bad l (k+1)=orF (firstB bad l k) (bad (l.take k) l[k]):=by
 simp[firstB,h]
theorem orF_assoc (a b c:Option Int):orF (orF a b) c=orF a (orF b c):=by cases a<;>rfl
theorem orF_none (a:Option Int):orF a none=a:=by cases a<;>rfl
theorem orF_two (a:Option Int)(x:Int):orF (orF a (some x)) (some x)=orF a (some x):=by cases a<;>rfl
theorem fldRows_succ {rs:List (List UInt8)}{l:List PD}{k:Nat}(h:k<l.length):fldRows rs (l.take (k+1))=fldRows rs (l.take k)++[fldRow rs l[k]]:=by
 simp only[fldRows,List.take_succ_eq_append_getElem h,List.map_append,List.map_cons,List.map_nil]
theorem fields_ok (lim:Nat)(l:AV)(rl:AV)(f:Option Int)(r:Store)(hl:isSts rl.view=true)(hn:(dSts rl).length<1000000000)(hp:isPs l=true)(hpn:(dPs l).length<1000000000) :
  (orcL S).call 0 lim 37 [.ptr 0 0 0 0,l] (mk rl f::r)=some (mkL 4 (fldRows (dSts rl) (dPs l)),mk rl (orF f (firstB (badP (dSts rl)) (dPs l) (dPs l).length))::r):=by
 have p1:=isSl_P hp
 have p2:=isPs_vw hp
 have p3:=rowsL_P hp
 have e1:=fun lim s d a f r=>typed_ok lim s d a rl f r hl hn
 have e2:=fun lim a f r=>fail_ok lim a rl f r
 simp only[T3.cells,mk]at e1 e2
 refine call_run (sf:=s37) rfl rfl rfl ?_
 simp[s37,p1,p2,p3]
 refine W_loopI s37_l0.eq_1 (fun q:Nat×List (List UInt8)×List AV=>⟨[(0,.val (.ptr 0 0 0 0)),(5,.val (mkL 4 (fldRows (dSts rl) ((dPs l).take q.1)))),(6,.val (.map (r.length+1))),(12,.val l),(13,.val (.int .i64 (dPs l).length)),(14,.val (.int .i64 q.1))],[q.2.2,[]],
   mk rl (orF f (firstB (badP (dSts rl)) (dPs l) q.1))::(r++[.map (ents q.2.1)])⟩)
  (fun q=>q.1<=(dPs l).length/\∀s,s∈q.2.1↔((dPs l).take q.1).any (fun p=>decide (p.name=s))=true) (fun q=>(dPs l).length-q.1) ((0,[],[]):Nat×List (List UInt8)×List AV) (by simp[fldRows,mkL_nil,firstB,orF_none,ents]) (by simp) ?_
 rintro⟨k,ks,bb⟩ ⟨hk,hks⟩ ih
 simp only at hk hks ih
 by_cases hlt:k<(dPs l).length
 ·have hw:IntKind.i64.wrap ((k:Int)+1)=((k+1:Nat):Int):=by rw[wrap64]<;>omega
  have hb:=firstB_succ (bad:=badP (dSts rl)) hlt
  have hr:=fldRows_succ (rs:=dSts rl) hlt
  have hlen:(fldRows (dSts rl) ((dPs l).take k)).length=k:=by simp[fldRows];omega
  have ha:appV 4 40 (mkL 4 (fldRows (dSts rl) ((dPs l).take k))) [fldRow (dSts rl) (dPs l)[k]]=some (mkL 4 (fldRows (dSts rl) ((dPs l).take (k+1)))):=by
   rw[appV_mk (by rfl) (by rw[hlen];simp[room];omega),hr]
  have hks':∀s,s∈addK ks (dPs l)[k].name↔((dPs l).take (k+1)).any (fun p=>decide (p.name=s))=true:=by
   intro s
   rw[mem_addK,hks,List.take_succ_eq_append_getElem hlt,List.any_append]
   simp only[List.any_cons,List.any_nil,Bool.or_false,Bool.or_eq_true,decide_eq_true_eq]
   exact or_congr Iff.rfl eq_comm
  have hdup:=hks (dPs l)[k].name
  generalize hq:(dPs l)[k]=p at *
  simp only[fldRow,T3.cells]at ha
  have hi:=ih (k+1,addK ks p.name,p.cells) ⟨by simp;omega,hks'⟩ (by simp;omega)
  simp only[hb,PD.cells]at hi
  have lk:=fun lim o bx=>a_look (lim:=lim) (o:=o) (r:=r) (bx:=bx) (ks:=ks) p.name
  have up:=fun lim o bx=>a_upd (lim:=lim) (o:=o) (r:=r) (bx:=bx) (ks:=ks) p.name
  by_cases hd:p.name∈ks
  ·have hbad:badP (dSts rl) ((dPs l).take k) p=some p.at_:=by
    unfold badP;rw[hdup.1 hd];rfl
   rw[hbad,<-orF_assoc]at hi
   have hd':decide (p.name∈ks)=true:=decide_eq_true hd
   cases ho:(typeT (dSts rl) p.on p.od).2 with
   |true=>
    simp[p2,p3,hp,hlt,PD.cells,hw,hq,lk,up,hd',e1,e2,ho,ha,W_drawB,boxOk,SOp.newBox,noFp]
    exact hi
   |false=>
    simp[p2,p3,hp,hlt,PD.cells,hw,hq,lk,up,hd',e1,e2,ho,orF_two,ha,W_drawB,boxOk,SOp.newBox,noFp]
    exact hi
  ·have hd':decide (p.name∈ks)=false:=decide_eq_false hd
   have hany:((dPs l).take k).any (fun q=>decide (q.name=p.name))=false:=by
    cases e:((dPs l).take k).any (fun q=>decide (q.name=p.name)) with
    |false=>rfl
    |true=>exact absurd (hdup.2 e) hd
   cases ho:(typeT (dSts rl) p.on p.od).2 with
   |true=>
    have hbad:badP (dSts rl) ((dPs l).take k) p=none:=by unfold badP;rw[hany,ho];rfl
    rw[hbad,orF_none]at hi
    simp[p2,p3,hp,hlt,PD.cells,hw,hq,lk,up,hd',e1,ho,ha,W_drawB,boxOk,SOp.newBox,noFp]
    exact hi
   |false=>
    have hbad:badP (dSts rl) ((dPs l).take k) p=some p.at_:=by unfold badP;rw[hany,ho];rfl
    rw[hbad,<-orF_assoc]at hi
    simp[p2,p3,hp,hlt,PD.cells,hw,hq,lk,up,hd',e1,ho,ha,W_drawB,boxOk,SOp.newBox,noFp]
    exact hi
 ·have hkl:k=(dPs l).length:=by omega
  simp[hkl]
end U7
namespace U7
open Ax Go Code13 V7
def sts (l:List (List UInt8)):List (List AV):=l.map fun s=>[.str s]
theorem dSts_mk (l:List (List UInt8)):dSts (mkL 1 (sts l))=l:=by simp[dSts,sts,List.map_map,Function.comp_def,dSt]
theorem isSts_mk (l:List (List UInt8)):isSts (mkL 1 (sts l)).view=true:=by
 have h1:isSz 1 (mkL 1 (sts l)).view=true:=by
  rw[isSz_view,isSz_mk]
  simp[fits,sts]
 simp only[isSts,isRows,notOwn_view,h1,rowsL_view,rowsL_mk,Bool.true_and,List.all_eq_true]
 intro r hr
 obtain⟨s,_,rfl⟩:=List.mem_map.1 hr
 rfl
theorem idxS_mem (l:List (List UInt8))(s:List UInt8):0<=idxS l s↔s∈l:=by
 unfold idxS
 cases e:l.findIdx? fun x=>decide (x=s) with
 |none=>
  rw[List.findIdx?_eq_none_iff]at e
  constructor
  ·intro h;exact absurd h (by decide)
  ·intro h;have:=e s h;simp at this
 |some k=>
  obtain⟨hk,h1,_⟩:=List.findIdx?_eq_some_iff_getElem.1 e
  constructor
  ·intro _
   have:l[k]=s:=by simpa using h1
   exact this ▸ List.getElem_mem hk
  ·intro _;show (0:Int)<=(k:Int);omega
theorem a_take {lim:Nat}{rl:AV}{e x:AV}{r:Store}{bx:Boxes}(h:isSl rl=true) :
  act0 0 lim (.load false 1 true) [.val (.ptr 0 0 0 0)] (.rows 0 3 [[rl,e,x]]::r) bx=some (.val rl,.rows 0 3 [[rl.took,e,x]]::r,bx):=by
 cases rl<;>simp[isSl]at h<;>simp[act0,readP,cut,writeP,mayWrite,AV.took,AV.allPure,AV.isPure,paste,oneOrAgg]
def badR (before:List CR)(x:CR):Option Int:=if before.any (fun q=>decide (q.name=x.name)) then some x.at_ else none
def badF (rs:List (List UInt8))(_:List CR)(x:CR):Option Int:=firstB (badP rs) (dPs x.fields) (dPs x.fields).length
def recRow (rs:List (List UInt8))(x:CR):List AV:=[.str x.name,(mkL 4 (fldRows rs (dPs x.fields))).view]
def recRows (rs:List (List UInt8))(l:List CR):List (List AV):=l.map (recRow rs)
theorem records_ok (lim:Nat)(l:AV)(f:Option Int)(r:Store)(hp:isCRs l=true)(hpn:(dCRs l).length<1000000000)(hfn:∀x∈dCRs l,(dPs x.fields).length<1000000000) :
  (orcL S).call 0 lim 36 [.ptr 0 0 0 0,l] (mk .nilSl f::r)=some (mkL 2 (recRows (recN (dCRs l)) (dCRs l)),
   mk (mkL 1 (sts (recN (dCRs l)))) (orF (orF f (firstB badR (dCRs l) (dCRs l).length)) (firstB (badF (recN (dCRs l))) (dCRs l) (dCRs l).length))::r):=by
 have p1:=isSl_CR hp
 have p2:=isCRs_vw hp
 have p3:=rowsL_CR hp
 have e2:=fun lim a rl f r=>fail_ok lim a rl f r
 simp only[mk]at e2
 refine call_run (sf:=s36) rfl rfl rfl ?_
 simp[s36,p1,p2,p3]
 refine W_loopI s36_l0.eq_1 (fun q:Nat×List AV=>⟨[(0,.val (.ptr 0 0 0 0)),(1,.val l),(10,.val l),(11,.val (.int .i64 (dCRs l).length)),(12,.val (.int .i64 q.1))],[q.2,[]],
   mk (mkL 1 (sts (recN ((dCRs l).take q.1)))) (orF f (firstB badR (dCRs l) q.1))::r⟩)
  (fun q=>q.1<=(dCRs l).length) (fun q=>(dCRs l).length-q.1) ((0,[]):Nat×List AV) (by simp[recN,sts,mkL_nil,firstB,orF_none]) (by simp) ?_
 rintro⟨k,bb⟩ hk ih
 simp only at hk ih
 by_cases hlt:k<(dCRs l).length
 ·have hw:IntKind.i64.wrap ((k:Int)+1)=((k+1:Nat):Int):=by rw[wrap64]<;>omega
  have hb:=firstB_succ (bad:=badR) hlt
  have hF:=isCRs_get hp _ (List.getElem_mem hlt)
  have hFs:=isSl_P hF
  have hFv:=isPs_vw hF
  have hct:=fun wl lim s st=>contains_ok wl lim (mkL 1 (sts (recN ((dCRs l).take k)))).view s st (isSts_mk _) (by simp[dSts_mk,recN];omega)
  simp only[dSts_view,dSts_mk]at hct
  have hsl:isSl (mkL 1 (sts (recN ((dCRs l).take k))))=true:=isSl_mk
  have ha:appV 1 16 (mkL 1 (sts (recN ((dCRs l).take k)))) [[.str (dCRs l)[k].name]]=some (mkL 1 (sts (recN ((dCRs l).take (k+1))))):=by
   rw[appV_mk (by rfl) (by simp[sts,recN,room];omega)]
   simp only[recN,sts,List.take_succ_eq_append_getElem hlt,List.map_append,List.map_cons,List.map_nil]
  have hi:=ih (k+1,(dCRs l)[k].cells) (by simp;omega) (by simp;omega)
  simp only[hb]at hi
  have hmem:(dCRs l)[k].name∈recN ((dCRs l).take k)↔((dCRs l).take k).any (fun q=>decide (q.name=(dCRs l)[k].name))=true:=by
   simp only[recN,List.mem_map,List.any_eq_true,decide_eq_true_eq]
  generalize hq:(dCRs l)[k]=p at *
  simp only[CR.cells]at hi
  have tk:=fun lim e x r bx=>a_take (lim:=lim) (e:=e) (x:=x) (r:=r) (bx:=bx) hsl
  by_cases hd:p.name∈recN ((dCRs l).take k)
  ·have hbad:badR ((dCRs l).take k) p=some p.at_:=by
    unfold badR;rw[hmem.1 hd];rfl
   rw[hbad,<-orF_assoc]at hi
   have hd':decide (0<=idxS (recN ((dCRs l).take k)) p.name)=true:=decide_eq_true ((idxS_mem _ _).2 hd)
   simp[p2,p3,hp,hlt,CR.cells,hw,hq,hFs,hFv,hct,hd',e2,ha,tk,W_drawB,boxOk,SOp.newBox,noFp]
   exact hi
  ·have hbad:badR ((dCRs l).take k) p=none:=by
    unfold badR
    cases e:((dCRs l).take k).any (fun q=>decide (q.name=p.name)) with
    |false=>rfl
    |true=>exact absurd (hmem.2 e) hd
   rw[hbad,orF_none]at hi
   have hd':decide (0<=idxS (recN ((dCRs l).take k)) p.name)=false:=decide_eq_false fun h=>hd ((idxS_mem _ _).1 h)
   simp[p2,p3,hp,hlt,CR.cells,hw,hq,hFs,hFv,hct,hd',ha,tk,W_drawB,boxOk,SOp.newBox,noFp]
   exact hi
 ·have hkl:k=(dCRs l).length:=by omega
  subst hkl
  obtain⟨g,hg⟩:∃g,g=orF f (firstB badR (dCRs l) (dCRs l).length):=⟨_,rfl⟩
  obtain⟨rs,hrs⟩:∃rs,rs=recN (dCRs l):=⟨_,rfl⟩
  have hrl:rs.length<1000000000:=by rw[hrs];simpa [recN] using hpn
  simp only[<-hg,<-hrs,List.take_length]
  simp[p1,p2,p3]
  refine W_loopI s36_l1.eq_1 (fun q:Nat×List AV=>⟨[(0,.val (.ptr 0 0 0 0)),(7,.val (mkL 2 (recRows rs ((dCRs l).take q.1)))),(39,.val l),(40,.val (.int .i64 (dCRs l).length)),(41,.val (.int .i64 q.1))],[bb,q.2],
    mk (mkL 1 (sts rs)) (orF g (firstB (badF rs) (dCRs l) q.1))::r⟩)
   (fun q=>q.1<=(dCRs l).length) (fun q=>(dCRs l).length-q.1) ((0,[]):Nat×List AV) (by simp[recRows,mkL_nil,firstB,orF_none]) (by simp) ?_
  rintro⟨k,bb2⟩ hk ih
  simp only at hk ih
  by_cases hlt:k<(dCRs l).length
  ·have hw:IntKind.i64.wrap ((k:Int)+1)=((k+1:Nat):Int):=by rw[wrap64]<;>omega
   have hb:=firstB_succ (bad:=badF rs) hlt
   have hF:=isCRs_get hp _ (List.getElem_mem hlt)
   have hFs:=isSl_P hF
   have hFv:=isPs_vw hF
   have hFn:=hfn _ (List.getElem_mem hlt)
   have e3:=fun lim f r=>fields_ok lim (dCRs l)[k].fields (mkL 1 (sts rs)) f r (isSts_mk _) (by rw[dSts_mk];exact hrl) hF hFn
   simp only[dSts_mk,mk]at e3
   have ha:appV 2 40 (mkL 2 (recRows rs ((dCRs l).take k))) [recRow rs (dCRs l)[k]]=some (mkL 2 (recRows rs ((dCRs l).take (k+1)))):=by
    rw[appV_mk (by rfl) (by simp[recRows,room];omega)]
    simp only[recRows,List.take_succ_eq_append_getElem hlt,List.map_append,List.map_cons,List.map_nil]
   have hi:=ih (k+1,(dCRs l)[k].cells) (by simp;omega) (by simp;omega)
   simp only[hb,badF,<-orF_assoc]at hi
   generalize hq:(dCRs l)[k]=p at *
   simp only[CR.cells]at hi
   simp only[recRow]at ha
   simp[p2,p3,hp,hlt,CR.cells,hw,hq,hFs,hFv,e3,ha,W_drawB,boxOk,SOp.newBox,noFp]
   exact hi
  ·have hkl:k=(dCRs l).length:=by omega
   subst hkl
   simp
end U7
namespace U7
open Ax Go Code13 V7
def resT (rs:List (List UInt8))(x:FN):T3:=if x.has then (typeT rs x.on x.od).1 else T0
def badD (before:List FN)(x:FN):Option Int:=if before.any (fun q=>decide (q.name=x.name)) then some x.at_ else none
def badT (rs:List (List UInt8))(x:FN):Option Int:=if x.has && !(typeT rs x.on x.od).2 then some x.at_ else none
def badS (rs:List (List UInt8))(before:List FN)(x:FN):Option Int:=orF (orF (badD before x) (firstB (badP rs) (dPs x.params) (dPs x.params).length)) (badT rs x)
def sigRow (rs:List (List UInt8))(x:FN):List AV:=[.str x.name,(mkL 4 (fldRows rs (dPs x.params))).view,.bool x.has,.int .i64 (resT rs x).b,.int .i64 (resT rs x).r,.int .i64 (resT rs x).d]
def sigBox (rs:List (List UInt8))(x:FN):List AV:=[.str x.name,mkL 4 (fldRows rs (dPs x.params)),.bool x.has,.int .i64 (resT rs x).b,.int .i64 (resT rs x).r,.int .i64 (resT rs x).d]
def sigRows (rs:List (List UInt8))(l:List FN):List (List AV):=l.map (sigRow rs)
theorem sigs_ok (lim:Nat)(l rl:AV)(f:Option Int)(r:Store)(hl:isSts rl.view=true)(hn:(dSts rl).length<1000000000)(hp:isFNs l=true)(hpn:(dFNs l).length<1000000000)(hfn:∀x∈dFNs l,(dPs x.params).length<1000000000) :
  (orcL S).call 0 lim 38 [.ptr 0 0 0 0,l] (mk rl f::r)=some (mkL 6 (sigRows (dSts rl) (dFNs l)),mk rl (orF f (firstB (badS (dSts rl)) (dFNs l) (dFNs l).length))::r):=by
 have p1:=isSl_FN hp
 have p2:=isFNs_vw hp
 have p3:=rowsL_FN hp
 have e1:=fun lim s d a f r=>typed_ok lim s d a rl f r hl hn
 have e2:=fun lim a f r=>fail_ok lim a rl f r
 simp only[T3.cells,mk]at e1 e2
 refine call_run (sf:=s38) rfl rfl rfl ?_
 simp[s38,p1,p2,p3]
 refine W_loopI s38_l0.eq_1 (fun q:Nat×List (List UInt8)×List AV×List AV=>⟨[(0,.val (.ptr 0 0 0 0)),(5,.val (mkL 6 (sigRows (dSts rl) ((dFNs l).take q.1)))),(6,.val (.map (r.length+1))),(13,.val l),(14,.val (.int .i64 (dFNs l).length)),(15,.val (.int .i64 q.1))],[q.2.2.1,[],q.2.2.2],
   mk rl (orF f (firstB (badS (dSts rl)) (dFNs l) q.1))::(r++[.map (ents q.2.1)])⟩)
  (fun q=>q.1<=(dFNs l).length/\∀s,s∈q.2.1↔((dFNs l).take q.1).any (fun p=>decide (p.name=s))=true) (fun q=>(dFNs l).length-q.1) ((0,[],[],[]):Nat×List (List UInt8)×List AV×List AV) (by simp[sigRows,mkL_nil,firstB,orF_none,ents]) (by simp) ?_
 rintro⟨k,ks,bb,bb2⟩ ⟨hk,hks⟩ ih
 simp only at hk hks ih
 by_cases hlt:k<(dFNs l).length
 ·have hw:IntKind.i64.wrap ((k:Int)+1)=((k+1:Nat):Int):=by rw[wrap64]<;>omega
  have hb:=firstB_succ (bad:=badS (dSts rl)) hlt
  have hG:=isFNs_get hp _ (List.getElem_mem hlt)
  have hFs:=isSl_P hG.1
  have hFv:=isPs_vw hG.1
  have hBs:=hG.2.2
  have hBv:=view_notOwn hG.2.1 hG.2.2
  have hFn:=hfn _ (List.getElem_mem hlt)
  have e3:=fun lim f r=>fields_ok lim (dFNs l)[k].params rl f r hl hn hG.1 hFn
  simp only[mk]at e3
  have ha:appV 6 72 (mkL 6 (sigRows (dSts rl) ((dFNs l).take k))) [sigRow (dSts rl) (dFNs l)[k]]=some (mkL 6 (sigRows (dSts rl) ((dFNs l).take (k+1)))):=by
   rw[appV_mk (by rfl) (by simp[sigRows,room];omega)]
   simp only[sigRows,List.take_succ_eq_append_getElem hlt,List.map_append,List.map_cons,List.map_nil]
  have hks':∀s,s∈addK ks (dFNs l)[k].name↔((dFNs l).take (k+1)).any (fun p=>decide (p.name=s))=true:=by
   intro s
   rw[mem_addK,hks,List.take_succ_eq_append_getElem hlt,List.any_append]
   simp only[List.any_cons,List.any_nil,Bool.or_false,Bool.or_eq_true,decide_eq_true_eq]
   exact or_congr Iff.rfl eq_comm
  have hdup:=hks (dFNs l)[k].name
  generalize hq:(dFNs l)[k]=p at *
  have hi:=ih (k+1,addK ks p.name,p.cells,sigBox (dSts rl) p) ⟨by simp;omega,hks'⟩ (by simp;omega)
  simp only[hb,badS,<-orF_assoc,FN.cells]at hi
  have lk:=fun lim o bx=>a_look (lim:=lim) (o:=o) (r:=r) (bx:=bx) (ks:=ks) p.name
  have up:=fun lim o bx=>a_upd (lim:=lim) (o:=o) (r:=r) (bx:=bx) (ks:=ks) p.name
  have hD:badD ((dFNs l).take k) p=if p.name∈ks then some p.at_ else none:=by
   unfold badD
   by_cases hd:p.name∈ks
   ·rw[if_pos hd,if_pos (hdup.1 hd)]
   ·rw[if_neg hd,if_neg fun h=>hd (hdup.2 h)]
  rw[hD]at hi
  by_cases hd:p.name∈ks
  ·have hd':decide (p.name∈ks)=true:=decide_eq_true hd
   rw[if_pos hd]at hi
   cases hh:p.has with
   |false=>
    simp[hh,badT,sigRow,sigBox,resT,orF_none]at hi ha
    simp[p2,p3,hp,hlt,FN.cells,hw,hq,lk,up,hd',e2,e3,hFs,hFv,hBs,hBv,hh,ha,W_drawB,boxOk,SOp.newBox,noFp]
    exact hi
   |true=>
    cases ho:(typeT (dSts rl) p.on p.od).2 with
    |true=>
     simp[hh,badT,sigRow,sigBox,resT,orF_none,ho]at hi ha
     simp[p2,p3,hp,hlt,FN.cells,hw,hq,lk,up,hd',e1,e2,e3,hFs,hFv,hBs,hBv,hh,ho,ha,W_drawB,boxOk,SOp.newBox,noFp]
     exact hi
    |false=>
     simp[hh,badT,sigRow,sigBox,resT,ho]at hi ha
     simp[p2,p3,hp,hlt,FN.cells,hw,hq,lk,up,hd',e1,e2,e3,hFs,hFv,hBs,hBv,hh,ho,ha,W_drawB,boxOk,SOp.newBox,noFp]
     exact hi
  ·have hd':decide (p.name∈ks)=false:=decide_eq_false hd
   rw[if_neg hd,orF_none]at hi
   cases hh:p.has with
   |false=>
    simp[hh,badT,sigRow,sigBox,resT,orF_none]at hi ha
    simp[p2,p3,hp,hlt,FN.cells,hw,hq,lk,up,hd',e3,hFs,hFv,hBs,hBv,hh,ha,W_drawB,boxOk,SOp.newBox,noFp]
    exact hi
   |true=>
    cases ho:(typeT (dSts rl) p.on p.od).2 with
    |true=>
     simp[hh,badT,sigRow,sigBox,resT,orF_none,ho]at hi ha
     simp[p2,p3,hp,hlt,FN.cells,hw,hq,lk,up,hd',e1,e3,hFs,hFv,hBs,hBv,hh,ho,ha,W_drawB,boxOk,SOp.newBox,noFp]
     exact hi
    |false=>
     simp[hh,badT,sigRow,sigBox,resT,ho]at hi ha
     simp[p2,p3,hp,hlt,FN.cells,hw,hq,lk,up,hd',e1,e3,hFs,hFv,hBs,hBv,hh,ho,ha,W_drawB,boxOk,SOp.newBox,noFp]
     exact hi
 ·have hkl:k=(dFNs l).length:=by omega
  simp[hkl]
def nmain:List UInt8:=[109,97,105,110]
def isMainT (x:FN):Bool:=decide (x.name=nmain)&&decide (dPs x.params=[]) && !x.has
theorem isMain_ok (wl lim:Nat)(rs:List (List UInt8))(x:FN)(st:Store):(orcL S).call wl lim 40 [.agg (sigRow rs x)] st=some (.bool (isMainT x),st):=by
 refine call_pure (sf:=s40) rfl rfl (by simp[sigRow,AV.allPure,AV.isPure]) rfl (by simp) ?_
 unfold isMainT
 by_cases a:x.name=nmain
 ·by_cases b:dPs x.params=[]
  ·simp[s40,sigRow,nmain,a,b,fldRows]
  ·have b':¬(dPs x.params).length=0:=by simpa using b
   simp[s40,sigRow,nmain,a,b,b',fldRows]
 ·simp only[nmain]at a
  simp[s40,sigRow,nmain,a]
def mainI (l:List FN):Int:=match l.findIdx? isMainT with
 |some k=>k
 |none=>-1
theorem indexF_ok (wl lim:Nat)(rs:List (List UInt8))(l:List FN)(st:Store)(hn:l.length<1000000000) :
  (orcL S).call wl lim 39 [(mkL 6 (sigRows rs l)).view,.fn 40 [] []] st=some (.int .i64 (mainI l),st):=by
 have hm:=fun wl lim x st=>isMain_ok wl lim rs x st
 have hz:isSz 6 (mkL 6 (sigRows rs l)).view=true:=by rw[isSz_view,isSz_mk];simp[fits,sigRows,sigRow]
 have hr:rowsL (mkL 6 (sigRows rs l)).view=l.map (sigRow rs):=by simp[sigRows]
 have hs:=isSl_sz hz
 have hv:(mkL 6 (sigRows rs l)).view.view=(mkL 6 (sigRows rs l)).view:=view_view _
 generalize (mkL 6 (sigRows rs l)).view=v at *
 have l6:∀x,(sigRow rs x).length=6:=fun _=>rfl
 have t6:∀x,List.take 6 (sigRow rs x)=sigRow rs x:=fun _=>rfl
 have v6:∀x,AV.viewL (sigRow rs x)=sigRow rs x:=by intro x;simp[sigRow,AV.viewL,AV.view]
 refine call_run (sf:=s39) rfl (by simp[alone,s39]) rfl ?_
 simp[s39,hs,hr,hv]
 refine W_loopI s39_l0.eq_1 (fun q:Nat×Nat=>⟨[(0,.val v),(1,.val (.fn 40 [] [])),(7,.val (.int .i64 l.length)),(8,.val (.int .i64 q.1))],[],st⟩)
  (fun q=>q.1<=l.length/\nope isMainT l q.1) (fun q=>l.length-q.1) ((0,0):Nat×Nat) (by simp) ⟨by simp,nope_zero⟩ ?_
 rintro⟨k,b⟩ ⟨hk,hp⟩ ih
 simp only at hk hp ih
 by_cases hlt:k<l.length
 ·have hw:IntKind.i64.wrap ((k:Int)+1)=((k+1:Nat):Int):=by rw[wrap64]<;>omega
  have hmk:=fun wl lim st=>hm wl lim l[k] st
  cases e:isMainT l[k] with
  |true=>
   have hi:mainI l=k:=by
    have:l.findIdx? isMainT=some k:=by
     rw[List.findIdx?_eq_some_iff_getElem]
     exact⟨hlt,e,fun j hj=>by simp[hp j (by omega) hj]⟩
    unfold mainI;rw[this]
   simp[hz,hr,hv,hlt,hmk,e,hi,l6,t6,v6]
  |false=>
   simp[hz,hr,hv,hlt,hmk,e,hw,l6,t6,v6]
   exact ih (k+1,0) ⟨by simp;omega,nope_succ hp hlt e⟩ (by simp;omega)
 ·have hkl:k=l.length:=by omega
  have hi:mainI l = -1:=by
   have:l.findIdx? isMainT=none:=by
    rw[List.findIdx?_eq_none_iff]
    intro x hx
    obtain⟨j,hj,rfl⟩:=List.mem_iff_getElem.1 hx
    exact hp j hj (hkl ▸ hj)
   unfold mainI;rw[this]
  simp[hlt,hi]
end U7
namespace U7
open Ax Go Code13 V7
def zeroH:AV:=.agg [.nilSl,.nilSl,.nilSl,.int .i64 0]
def headsV (p:GD):AV:=.agg [(mkL 2 (recRows (recN (dCRs p.recs)) (dCRs p.recs))).view,(mkL 4 (fldRows (recN (dCRs p.recs)) (dPs p.globals))).view,(mkL 6 (sigRows (recN (dCRs p.recs)) (dFNs p.funcs))).view,.int .i64 (mainI (dFNs p.funcs))]
def fault3 (p:GD):Option Int:=orF (orF (orF (orF none (firstB badR (dCRs p.recs) (dCRs p.recs).length)) (firstB (badF (recN (dCRs p.recs))) (dCRs p.recs) (dCRs p.recs).length)) (firstB (badP (recN (dCRs p.recs))) (dPs p.globals) (dPs p.globals).length))
 (firstB (badS (recN (dCRs p.recs))) (dFNs p.funcs) (dFNs p.funcs).length)
def faultH (p:GD):Option Int:=if mainI (dFNs p.funcs)<0 then orF (fault3 p) (some 0) else fault3 p
def resH (p:GD):AV:=.tup [match faultH p with|some _=>zeroH|none=>headsV p,.agg [.int .i64 (fE (faultH p)),.int .i64 (fX (faultH p))]]
structure GD.sm (p:GD):Prop where
 recs:(dCRs p.recs).length<1000000000
 fields:∀x∈dCRs p.recs,(dPs x.fields).length<1000000000
 globals:(dPs p.globals).length<1000000000
 funcs:(dFNs p.funcs).length<1000000000
 params:∀x∈dFNs p.funcs,(dPs x.params).length<1000000000
theorem make_ok (wl lim:Nat)(p:GD)(st:Store)(hp:p.ok)(hs:GD.sm p):(orcL S).call wl lim 23 [.agg p.cells] st=some (resH p,st):=by
 have p1:=isSl_CR hp.recs
 have p2:=isCRs_vw hp.recs
 have g1:=isSl_P hp.globals
 have g2:=isPs_vw hp.globals
 have f1:=isSl_FN hp.funcs
 have f2:=isFNs_vw hp.funcs
 have hrn:(recN (dCRs p.recs)).length<1000000000:=by simpa [recN] using hs.recs
 have er:∀lim r,(orcL S).call 0 lim 36 [.ptr 0 0 0 0,p.recs] (.rows 0 3 [[.nilSl,.int .i64 0,.int .i64 0]]::r)=_:=fun lim r=>records_ok lim p.recs none r hp.recs hs.recs hs.fields
 have eg:=fun lim f r=>fields_ok lim p.globals (mkL 1 (sts (recN (dCRs p.recs)))) f r (isSts_mk _) (by rw[dSts_mk];exact hrn) hp.globals hs.globals
 have ef:=fun lim f r=>sigs_ok lim p.funcs (mkL 1 (sts (recN (dCRs p.recs)))) f r (isSts_mk _) (by rw[dSts_mk];exact hrn) hp.funcs hs.funcs hs.params
 have ei:=fun wl lim st=>indexF_ok wl lim (recN (dCRs p.recs)) (dFNs p.funcs) st hs.funcs
 have e2:=fun lim a rl f r=>fail_ok lim a rl f r
 simp only[dSts_mk,mk]at er eg ef e2
 refine call_pure (sf:=s23) rfl rfl (by simp[GD.cells,AV.allPure,AV.isPure,p1,g1,f1]) rfl (by cases h:faultH p<;>simp[resH,h,zeroH,headsV,AV.isPure,AV.allPure]) ?_
 unfold resH faultH
 have hm3:fault3 p=fault3 p:=rfl
 conv at hm3=>lhs;unfold fault3
 generalize fault3 p=F at *
 by_cases hm:mainI (dFNs p.funcs)<0
 ·obtain⟨y,hy⟩:∃y,orF F (some 0)=some y:=by cases F<;>exact⟨_,rfl⟩
  simp[s23,GD.cells,p1,p2,g1,g2,f1,f2,er,eg,ef,ei,e2,hm,hm3,W_drawB,boxOk,SOp.newBox,noFp]
  simp[hy,fE,fX,zeroH,W_drawB,boxOk,SOp.newBox]
 ·simp[s23,GD.cells,p1,p2,g1,g2,f1,f2,er,eg,ef,ei,hm,hm3,W_drawB,boxOk,SOp.newBox,noFp]
  cases F with
  |some y=>simp[fE,fX,zeroH,W_drawB,boxOk,SOp.newBox]
  |none=>simp[fE,fX,headsV,SOp.newBox]
end U7
