/- Part of a proof. -/
import Derived.Test.YtegibojgmandmaaGreatM

set_option maxRecDepth 100000
set_option maxHeartbeats 4000000
namespace U7
open Ax Go Code9z V7
theorem rtype_ok (wl lim:Nat)(l:AV)(s:List UInt8)(d:Int)(st:Store)(hl:isSts l=true)(hn:(dSts l).length<1000000000) :
  (orcL S).call wl lim 44 [l,.agg [.str s,.int .i64 d]] st=some (.tup [.agg (typeT (dSts l) s d).1.cells,.bool (typeT (dSts l) s d).2],st):=by
 have h1:=isSl_St hl
 have h2:=isSts_vw hl
 have h3:=rowsL_St hl
 refine call_pure (sf:=s44) rfl rfl (by simp[pure_sl h1]) rfl (by simp[AV.isPure,AV.allPure]) ?_
 by_cases d0:d<0
 ·rw[typeT_1 (.inl d0)]
  simp[s44,d0]
 by_cases d3:3<d
 ·rw[typeT_1 (.inr d3)]
  simp[s44,d0,d3]
 have hd:¬(d<0\/3<d):=by omega
 unfold typeT
 rw[if_neg hd]
 by_cases i1:s=[105,110,116]
 ·simp[s44,d0,d3,i1]
 by_cases i2:s=[98,111,111,108]
 ·simp[s44,d0,d3,i2]
 rw[if_neg i1,if_neg i2]
 simp[s44,d0,d3,i1,i2]
 refine W_loopI s44_l0.eq_1 (fun k:Nat=>⟨[(0,.val l),(3,.fp 0 0),(4,.fp 1 0),(6,.val (.int .i64 k))],[[.str s,.int .i64 d],[.int .i64 0,.int .i64 0,.int .i64 0]],[]⟩)
  (fun k=>k<=(dSts l).length/\nope (fun x=>decide (x=s)) (dSts l) k) (fun k=>(dSts l).length-k) 0 (by simp) ⟨by simp,nope_zero⟩ ?_
 rintro k ⟨hk,hp⟩ ih
 by_cases hlt:k<(dSts l).length
 ·have hw:IntKind.i64.wrap ((k:Int)+1)=((k+1:Nat):Int):=by rw[wrap64]<;>omega
  by_cases e:(dSts l)[k]=s
  ·have hi:=idxS_at hp hlt e
   have h0:¬((k:Int)<0):=by omega
   simp[hl,h2,h3,hlt,e,hi,h0,W_draw0,noBoxes]
  ·simp[hl,h2,h3,hlt,e,hw,W_draw0,noBoxes]
   exact ih (k+1) ⟨by omega,nope_succ hp hlt (by simpa using e)⟩ (by omega)
 ·have hkl:k=(dSts l).length:=by omega
  have hi:=idxS_none (hkl ▸ hp)
  simp[hl,h2,h3,hlt,hi]
theorem rref_ok (wl lim:Nat)(t:T3)(st:Store):(orcL S).call wl lim 91 [.agg t.cells] st=some (.bool (refT t),st):=by
 refine call_pure (sf:=s91) rfl rfl (by simp) rfl (by simp) ?_
 unfold refT
 by_cases b:t.b=3
 ·simp[s91,b]
 ·simp[s91,b]
end U7
namespace U7
open Ax Go Code9z V7
theorem wrong_ok (wl lim:Nat)(a:Int)(st:Store):(orcL S).call wl lim 42 [.int .i64 a] st=some (.agg [.int .i64 3,.int .i64 a],st):=by
 refine call_pure (sf:=s42) rfl rfl (by simp) rfl (by simp) ?_
 simp[s42]
theorem names_ok (wl lim:Nat)(p:GD)(st:Store)(hp:p.ok)(hn:(dCRs p.recs).length<1000000000):(orcL S).call wl lim 27 [.agg p.cells] st=some (mkL 1 (sts (recN (dCRs p.recs))),st):=by
 have p1:=isSl_CR hp.recs
 have p2:=isCRs_vw hp.recs
 have p3:=rowsL_CR hp.recs
 have g1:=isSl_P hp.globals
 have g2:=isPs_vw hp.globals
 have f1:=isSl_FN hp.funcs
 have f2:=isFNs_vw hp.funcs
 have hpr:=hp.recs
 refine call_pure (sf:=s27) rfl rfl (by simp[GD.cells,AV.allPure,AV.isPure,p1,g1,f1]) rfl (by simp) ?_
 simp[s27,GD.cells,p1,g1,f1]
 refine W_loopI s27_l0.eq_1 (fun k:Nat=>⟨[(1,.fp 0 0),(3,.val (mkL 1 (sts (recN ((dCRs p.recs).take k))))),(4,.val (.int .i64 k))],[[p.recs,p.globals,p.funcs]],[]⟩)
  (fun k=>k<=(dCRs p.recs).length) (fun k=>(dCRs p.recs).length-k) 0 (by simp[recN,sts,mkL_nil]) (by simp) ?_
 intro k hk ih
 by_cases hlt:k<(dCRs p.recs).length
 ·have hw:IntKind.i64.wrap ((k:Int)+1)=((k+1:Nat):Int):=by rw[wrap64]<;>omega
  have ha:appV 1 16 (mkL 1 (sts (recN ((dCRs p.recs).take k)))) [[.str (dCRs p.recs)[k].name]]=some (mkL 1 (sts (recN ((dCRs p.recs).take (k+1))))):=by
   rw[appV_mk (by rfl) (by simp[sts,recN,room];omega)]
   simp only[recN,sts,List.take_succ_eq_append_getElem hlt,List.map_append,List.map_cons,List.map_nil]
  simp[p2,p3,hpr,hlt,CR.cells,hw,ha]
  exact ih (k+1) (by omega) (by omega)
 ·have hkl:k=(dCRs p.recs).length:=by omega
  subst hkl
  simp[p1,p2,p3]
def okJ (o:Bool)(l:List PD)(s:List UInt8)(j:Nat):Bool:=o && !((l.take j).any fun q=>decide (q.name=s))
theorem okJ_succ {o:Bool}{l:List PD}{s:List UInt8}{j:Nat}(h:j<l.length):okJ o l s (j+1)=(okJ o l s j && !decide (l[j].name=s)):=by
 unfold okJ
 rw[List.take_succ_eq_append_getElem h,List.any_append]
 simp[Bool.and_assoc]
def rfV (rs:List (List UInt8))(l:List PD):AV:=.tup [match firstB (badP rs) l l.length with|some _=>.nilSl|none=>mkL 4 (fldRows rs l),.agg (fltAV (firstB (badP rs) l l.length))]
theorem firstB_stay {α:Type}{bad:List α->α->Option Int}{l:List α}{k:Nat}{y:Int}(h:firstB bad l k=some y):∀m,k<=m->firstB bad l m=some y:=by
 intro m hm
 induction m with
 |zero=>
  have:k=0:=by omega
  subst this;exact h
 |succ m ih=>
  by_cases e:k=m+1
  ·subst e;exact h
  ·show orF (firstB bad l m) _=some y
   rw[ih (by omega)];rfl
theorem rfields_ok (wl lim:Nat)(l rl:AV)(st:Store)(hl:isSts rl=true)(hn:(dSts rl).length<1000000000)(hp:isPs l=true)(hpn:(dPs l).length<1000000000) :
  (orcL S).call wl lim 43 [rl,l] st=some (rfV (dSts rl) (dPs l),st):=by
 have h1:=isSl_St hl
 have h2:=isSts_vw hl
 have p1:=isSl_P hp
 have p2:=isPs_vw hp
 have p3:=rowsL_P hp
 have e1:=fun wl lim s d st=>rtype_ok wl lim rl s d st hl hn
 have e2:=fun wl lim a st=>wrong_ok wl lim a st
 simp only[T3.cells]at e1
 refine call_pure (sf:=s43) rfl rfl (by simp[pure_sl h1,pure_sl p1]) rfl (by cases h:firstB (badP (dSts rl)) (dPs l) (dPs l).length<;>simp[rfV,h,fltAV,AV.isPure,AV.allPure]) ?_
 simp[s43]
 refine W_loopI s43_l1.eq_1 (fun q:Nat×List AV=>⟨[(0,.val rl),(1,.val l),(5,.fp 0 0),(6,.val (mkL 4 (fldRows (dSts rl) ((dPs l).take q.1)))),(7,.val (.int .i64 q.1))],[[.int .i64 0,.int .i64 0],q.2],[]⟩)
  (fun q=>q.1<=(dPs l).length/\firstB (badP (dSts rl)) (dPs l) q.1=none) (fun q=>(dPs l).length-q.1) ((0,[]):Nat×List AV) (by simp[fldRows,mkL_nil]) ⟨by simp,rfl⟩ ?_
 rintro⟨k,bb⟩ ⟨hk,hf⟩ ih
 simp only at hk hf ih
 by_cases hlt:k<(dPs l).length
 ·have hw:IntKind.i64.wrap ((k:Int)+1)=((k+1:Nat):Int):=by rw[wrap64]<;>omega
  have hb:=firstB_succ (bad:=badP (dSts rl)) hlt
  rw[hf]at hb
  have hr:=fldRows_succ (rs:=dSts rl) hlt
  have hlen:(fldRows (dSts rl) ((dPs l).take k)).length=k:=by simp[fldRows];omega
  have ha:appV 4 40 (mkL 4 (fldRows (dSts rl) ((dPs l).take k))) [fldRow (dSts rl) (dPs l)[k]]=some (mkL 4 (fldRows (dSts rl) ((dPs l).take (k+1)))):=by
   rw[appV_mk (by rfl) (by rw[hlen];simp[room];omega),hr]
  generalize hq:(dPs l)[k]=p at *
  simp only[fldRow,T3.cells]at ha
  obtain⟨o,ho⟩:∃o,o=(typeT (dSts rl) p.on p.od).2:=⟨_,rfl⟩
  simp[h2,p2,p3,hp,hlt,PD.cells,hq,e1]
  refine W_loopI s43_l0.eq_1 (fun j:Nat=>⟨[(0,.val rl),(1,.val l),(5,.fp 0 0),(6,.val (mkL 4 (fldRows (dSts rl) ((dPs l).take k)))),(7,.val (.int .i64 k)),(8,.fp 1 0),(9,.val (.bool (okJ o (dPs l) p.name j))),(10,.val (.int .i64 j))],
    [[.int .i64 0,.int .i64 0],(typeT (dSts rl) p.on p.od).1.cells],[]⟩)
   (fun j=>j<=k) (fun j=>k-j) 0 (by simp[okJ,ho]) (by simp) ?_
  intro j hj ih2
  by_cases hjk:j<k
  ·have hw2:IntKind.i64.wrap ((j:Int)+1)=((j+1:Nat):Int):=by rw[wrap64]<;>omega
   have hjl:j<(dPs l).length:=by omega
   have hs:=okJ_succ (o:=o) (s:=p.name) hjl
   have hi2:=ih2 (j+1) (by omega) (by omega)
   rw[hs]at hi2
   cases hoj:okJ o (dPs l) p.name j with
   |false=>
    rw[hoj]at hi2
    simp[hjk,hw2,W_draw0,noBoxes]
    simp only[Bool.false_and]at hi2
    exact hi2
   |true=>
    rw[hoj]at hi2
    by_cases hnm:(dPs l)[j].name=p.name
    ·simp[p2,p3,hp,hjk,hjl,hlt,PD.cells,hw2,hq,hnm,W_draw0,noBoxes]
     simp only[hnm,decide_true,Bool.not_true,Bool.and_false]at hi2
     exact hi2
    ·simp[p2,p3,hp,hjk,hjl,hlt,PD.cells,hw2,hq,hnm,W_draw0,noBoxes]
     simp only[decide_eq_false hnm,Bool.not_false,Bool.and_true]at hi2
     exact hi2
  ·have hjk':j=k:=by omega
   subst hjk'
   simp
   cases hoj:okJ o (dPs l) p.name j with
   |true=>
    have hbad:badP (dSts rl) ((dPs l).take j) p=none:=by
     simp only[okJ,Bool.and_eq_true,Bool.not_eq_true',ho]at hoj
     unfold badP;rw[hoj.2,hoj.1];rfl
    rw[hbad]at hb
    simp[p2,p3,hp,hlt,PD.cells,hw,hq,ha,W_draw0,noBoxes]
    exact ih (j+1,_) ⟨by simp;omega,hb⟩ (by simp;omega)
   |false=>
    have hbad:badP (dSts rl) ((dPs l).take j) p=some p.at_:=by
     unfold badP
     rw[if_pos]
     simp only[okJ,Bool.and_eq_false_iff,Bool.not_eq_false',ho]at hoj
     rcases hoj with h|h
     ·rw[h];simp
     ·rw[h];rfl
    rw[hbad]at hb
    have hres:=firstB_stay (show firstB (badP (dSts rl)) (dPs l) (j+1)=some p.at_ from hb) (dPs l).length (by omega)
    simp[p3,hp,hlt,PD.cells,hq,e2,rfV,hres,fltAV]
 ·have hkl:k=(dPs l).length:=by omega
  subst hkl
  simp[p1,p2,p3,rfV,hf,fltAV]
end U7
namespace U7
open Ax Go Code9z V7
def mainK (l:List FN):Nat->Int
 |0=>-1
 |k+1=>match l[k]? with
  |some x=>if isMainT x then (k:Int) else mainK l k
  |none=>mainK l k
theorem orF_nn {a b:Option Int}(h:orF a b=none):a=none/\b=none:=by
 cases a with
 |none=>exact⟨rfl,h⟩
 |some x=>cases h
theorem firstB_all {α:Type}{bad:List α->α->Option Int}{l:List α}:∀{m:Nat},firstB bad l m=none->∀k (h:k<l.length),k<m->bad (l.take k) l[k]=none
 |0,_,k,_,hk=>absurd hk (by omega)
 |m+1,h,k,hl,hk=>by
  obtain⟨h1,h2⟩:=orF_nn h
  by_cases e:k=m
  ·subst e
   rw[List.getElem?_eq_getElem hl]at h2
   exact h2
  ·exact firstB_all h1 k hl (by omega)
theorem isMain_name {x:FN}(h:isMainT x=true):x.name=nmain:=by
 simp only[isMainT,Bool.and_eq_true,decide_eq_true_eq]at h
 exact h.1.1
theorem mainK_none {l:List FN}(h:∀k (hk:k<l.length),isMainT l[k]=false):∀m,mainK l m = -1
 |0=>rfl
 |m+1=>by
  unfold mainK
  by_cases hm:m<l.length
  ·rw[List.getElem?_eq_getElem hm];simp[h m hm,mainK_none h m]
  ·rw[List.getElem?_eq_none (by omega)];exact mainK_none h m
theorem mainK_some {l:List FN}{j:Nat}(hj:j<l.length)(hm:isMainT l[j]=true)(h1:∀k (hk:k<l.length),k<j->isMainT l[k]=false)(h2:∀k (hk:k<l.length),j<k->isMainT l[k]=false):∀m,mainK l m=if j<m then (j:Int) else -1
 |0=>by simp[mainK]
 |m+1=>by
  have ih:=mainK_some hj hm h1 h2 m
  unfold mainK
  by_cases hml:m<l.length
  ·rw[List.getElem?_eq_getElem hml]
   dsimp only
   by_cases e:m=j
   ·subst e;rw[if_pos hm,if_pos (by omega)]
   ·have hf:isMainT l[m]=false:=by
     rcases Nat.lt_or_gt_of_ne e with h|h
     ·exact h1 m hml h
     ·exact h2 m hml h
    rw[if_neg (by rw[hf];simp),ih]
    by_cases hjm:j<m
    ·rw[if_pos hjm,if_pos (by omega)]
    ·rw[if_neg hjm,if_neg (by omega)]
  ·rw[List.getElem?_eq_none (by omega)]
   dsimp only
   rw[ih,if_pos (by omega),if_pos (by omega)]
theorem main_eq {l:List FN}(h:∀k (hk:k<l.length),badD (l.take k) l[k]=none):mainK l l.length=mainI l:=by
 unfold mainI
 cases e:l.findIdx? isMainT with
 |none=>
  rw[List.findIdx?_eq_none_iff]at e
  exact mainK_none (fun k hk=>e _ (List.getElem_mem hk)) _
 |some j=>
  obtain⟨hj,h1,h2⟩:=List.findIdx?_eq_some_iff_getElem.1 e
  rw[mainK_some hj h1 (fun k hk hkj=>by simpa using h2 k hkj) (fun k hk hjk=>?_),if_pos hj]
  cases hb:isMainT l[k] with
  |false=>rfl
  |true=>
   have:=h k hk
   unfold badD at this
   rw[if_pos]at this
   ·cases this
   ·rw[List.any_eq_true]
    refine⟨l[j],?_,?_⟩
    ·exact List.mem_take_iff_getElem.2 ⟨j,by omega,rfl⟩
    ·rw[isMain_name h1,isMain_name hb];simp
theorem any_nope {α:Type}{p:α->Bool}{l:List α}{k:Nat}(h:nope p (l.take k) k):(l.take k).any p=false:=by
 rw[List.any_eq_false]
 intro q hq
 obtain⟨i,hi,rfl⟩:=List.mem_iff_getElem.1 hq
 have:=h i hi (by simp at hi;omega)
 rw[this];simp
theorem fH {p:GD}{y:Int}(h:fault3 p=some y):resH p=.tup [zeroH,.agg [.int .i64 3,.int .i64 y]]:=by
 have:faultH p=some y:=by unfold faultH;rw[h];split<;>rfl
 unfold resH;rw[this];rfl
theorem f3A {p:GD}{y:Int}(h:firstB badR (dCRs p.recs) (dCRs p.recs).length=some y):fault3 p=some y:=by unfold fault3;rw[h];rfl
theorem f3B {p:GD}{y:Int}(a:firstB badR (dCRs p.recs) (dCRs p.recs).length=none)(h:firstB (badF (recN (dCRs p.recs))) (dCRs p.recs) (dCRs p.recs).length=some y):fault3 p=some y:=by unfold fault3;rw[a,h];rfl
theorem f3C {p:GD}{y:Int}(a:firstB badR (dCRs p.recs) (dCRs p.recs).length=none)(b:firstB (badF (recN (dCRs p.recs))) (dCRs p.recs) (dCRs p.recs).length=none)
  (h:firstB (badP (recN (dCRs p.recs))) (dPs p.globals) (dPs p.globals).length=some y):fault3 p=some y:=by unfold fault3;rw[a,b,h];rfl
theorem f3D {p:GD}{y:Option Int}(a:firstB badR (dCRs p.recs) (dCRs p.recs).length=none)(b:firstB (badF (recN (dCRs p.recs))) (dCRs p.recs) (dCRs p.recs).length=none)
  (c:firstB (badP (recN (dCRs p.recs))) (dPs p.globals) (dPs p.globals).length=none) (h:firstB (badS (recN (dCRs p.recs))) (dFNs p.funcs) (dFNs p.funcs).length=y):fault3 p=y:=by unfold fault3;rw[a,b,c,h];rfl
theorem rmake_ok (wl lim:Nat)(p:GD)(st:Store)(hp:p.ok)(hs:GD.sm p):(orcL S).call wl lim 26 [.agg p.cells] st=some (resH p,st):=by
 have p1:=isSl_CR hp.recs
 have p2:=isCRs_vw hp.recs
 have p3:=rowsL_CR hp.recs
 have pr:=hp.recs
 have g1:=isSl_P hp.globals
 have g2:=isPs_vw hp.globals
 have f1:=isSl_FN hp.funcs
 have f2:=isFNs_vw hp.funcs
 have f3:=rowsL_FN hp.funcs
 have fr:=hp.funcs
 have en:=fun wl lim st=>names_ok wl lim p st hp hs.recs
 have e2:=fun wl lim a st=>wrong_ok wl lim a st
 simp only[GD.cells]at en
 obtain⟨rs,hrs⟩:∃rs,rs=recN (dCRs p.recs):=⟨_,rfl⟩
 have hrn:rs.length=(dCRs p.recs).length:=by rw[hrs];simp[recN]
 have hrk:∀k (h:k<rs.length) (h2:k<(dCRs p.recs).length),rs[k]=(dCRs p.recs)[k].name:=by intro k h h2;subst hrs;simp[recN]
 have n1:isSl (mkL 1 (sts rs))=true:=isSl_mk
 have n2:=isSts_mk rs
 have n3:rowsL (mkL 1 (sts rs))=rs.map fun s=>[.str s]:=rowsL_mk
 have n4:dSts (mkL 1 (sts rs))=rs:=dSts_mk rs
 have n5:isSz 1 (mkL 1 (sts rs))=true:=by simpa using isSz_St n2
 rw[<-hrs]at en
 generalize mkL 1 (sts rs)=nl at *
 have hrecs:=hs.recs
 have hfuncs:=hs.funcs
 refine call_pure (sf:=s26) rfl rfl (by simp[GD.cells,AV.allPure,AV.isPure,p1,g1,f1]) rfl (by cases h:faultH p<;>simp[resH,h,zeroH,headsV,AV.isPure,AV.allPure]) ?_
 simp[s26,GD.cells,p1,p2,g1,g2,f1,f2,en]
 refine W_loopI s26_l1.eq_1 (fun k:Nat=>⟨[(1,.fp 0 0),(2,.fp 1 0),(3,.fp 2 0),(4,.val nl),(5,.val (.int .i64 k))],
   [[p.recs,p.globals,p.funcs],[.nilSl,.nilSl,.nilSl,.int .i64 0],[.int .i64 0,.int .i64 0],[],[],[],[],[],[],[]],[]⟩)
  (fun k=>k<=(dCRs p.recs).length/\firstB badR (dCRs p.recs) k=none) (fun k=>(dCRs p.recs).length-k) 0 (by simp) ⟨by simp,rfl⟩ ?_
 intro k ⟨hk,hA⟩ ih
 by_cases hlt:k<(dCRs p.recs).length
 ·have hw:IntKind.i64.wrap ((k:Int)+1)=((k+1:Nat):Int):=by rw[wrap64]<;>omega
  have hb:=firstB_succ (bad:=badR) hlt
  rw[hA]at hb
  have hkr:k<rs.length:=by omega
  simp[n1,n3,hrn,hlt]
  refine W_loopI s26_l0.eq_1 (fun j:Nat=>⟨[(1,.fp 0 0),(2,.fp 1 0),(3,.fp 2 0),(4,.val nl),(5,.val (.int .i64 k)),(6,.val (.int .i64 j))],
    [[p.recs,p.globals,p.funcs],[.nilSl,.nilSl,.nilSl,.int .i64 0],[.int .i64 0,.int .i64 0],[],[],[],[],[],[],[]],[]⟩)
   (fun j=>j<=k/\nope (fun q:CR=>decide (q.name=(dCRs p.recs)[k].name)) ((dCRs p.recs).take k) j) (fun j=>k-j) 0 (by simp) ⟨by simp,nope_zero⟩ ?_
  intro j ⟨hj,hn⟩ ih2
  by_cases hjk:j<k
  ·have hw2:IntKind.i64.wrap ((j:Int)+1)=((j+1:Nat):Int):=by rw[wrap64]<;>omega
   have hjr:j<rs.length:=by omega
   have hjl:j<(dCRs p.recs).length:=by omega
   have e1:=hrk j hjr hjl
   have e3:=hrk k hkr hlt
   have hjt:j<((dCRs p.recs).take k).length:=by simp;omega
   have hjg:((dCRs p.recs).take k)[j]=(dCRs p.recs)[j]:=List.getElem_take
   by_cases hnm:(dCRs p.recs)[j].name=(dCRs p.recs)[k].name
   ·have hbad:badR ((dCRs p.recs).take k) (dCRs p.recs)[k]=some (dCRs p.recs)[k].at_:=by
     unfold badR
     rw[if_pos]
     exact List.any_eq_true.2 ⟨_,List.getElem_mem hjt,by rw[hjg];simpa using hnm⟩
    rw[hbad]at hb
    have hr:=fH (f3A (firstB_stay (show firstB badR (dCRs p.recs) (k+1)=some _ from hb) _ (by omega)))
    rw[hr]
    simp[n3,n5,hjr,hkr,hjk,e1,e3,hnm,p2,p3,pr,hlt,CR.cells,e2,zeroH,W_draw0,noBoxes]
   ·simp[n3,n5,hjr,hkr,hjk,e1,e3,hnm,hw2,W_draw0,noBoxes]
    exact ih2 (j+1) ⟨by omega,nope_succ hn hjt (by rw[hjg];simpa using hnm)⟩ (by omega)
  ·have hjk':j=k:=by omega
   subst hjk'
   have hbad:badR ((dCRs p.recs).take j) (dCRs p.recs)[j]=none:=by
    unfold badR
    rw[any_nope hn];rfl
   rw[hbad]at hb
   simp[hw]
   exact ih (j+1) ⟨by omega,hb⟩ (by omega)
 ·have hkl:k=(dCRs p.recs).length:=by omega
  subst hkl
  simp[n1,n3,hrn]
  refine W_loopI s26_l2.eq_1 (fun q:Nat×List AV=>⟨[(1,.fp 0 0),(2,.fp 1 0),(3,.fp 2 0),(4,.val nl),(7,.fp 3 0),(8,.val (.int .i64 q.1))],
    [[p.recs,p.globals,p.funcs],[.nilSl,.nilSl,.nilSl,.int .i64 0],[.int .i64 0,.int .i64 0],[mkL 2 (recRows rs ((dCRs p.recs).take q.1)),.nilSl,.nilSl,.int .i64 (-1)],q.2,[],[],[],[],[]],[]⟩)
   (fun q=>q.1<=(dCRs p.recs).length/\firstB (badF rs) (dCRs p.recs) q.1=none) (fun q=>(dCRs p.recs).length-q.1) ((0,[]):Nat×List AV) (by simp[recRows,mkL_nil]) ⟨by simp,rfl⟩ ?_
  rintro⟨k,bb⟩ ⟨hk,hB⟩ ih
  simp only at hk hB ih
  by_cases hlt:k<(dCRs p.recs).length
  ·have hw:IntKind.i64.wrap ((k:Int)+1)=((k+1:Nat):Int):=by rw[wrap64]<;>omega
   have hb:=firstB_succ (bad:=badF rs) hlt
   rw[hB]at hb
   have hkr:k<rs.length:=by omega
   have e1:=hrk k hkr hlt
   have hF:=isCRs_get hp.recs _ (List.getElem_mem hlt)
   have hFs:=isSl_P hF
   have hFv:=isPs_vw hF
   have hFn:=hs.fields _ (List.getElem_mem hlt)
   have e3:=fun wl lim st=>rfields_ok wl lim (dCRs p.recs)[k].fields nl.view st n2 (by rw[dSts_view,n4];omega) hF hFn
   simp only[dSts_view,n4,rfV]at e3
   have ha:appV 2 40 (mkL 2 (recRows rs ((dCRs p.recs).take k))) [recRow rs (dCRs p.recs)[k]]=some (mkL 2 (recRows rs ((dCRs p.recs).take (k+1)))):=by
    rw[appV_mk (by rfl) (by simp[recRows,room];omega)]
    simp only[recRows,List.take_succ_eq_append_getElem hlt,List.map_append,List.map_cons,List.map_nil]
   simp only[recRow]at ha
   cases hf:badF rs ((dCRs p.recs).take k) (dCRs p.recs)[k] with
   |some y=>
    rw[hf]at hb
    have hr:=fH (f3B hA (hrs ▸ firstB_stay (show firstB (badF rs) (dCRs p.recs) (k+1)=some _ from hb) _ (by omega)))
    rw[hr]
    simp only[badF]at hf
    simp only[hf,fltAV]at e3
    simp[p2,p3,pr,hlt,CR.cells,hFv,e3,zeroH,W_drawB,boxOk,SOp.newBox,noFp]
   |none=>
    rw[hf]at hb
    simp only[badF]at hf
    simp only[hf,fltAV]at e3
    simp[p2,p3,pr,hlt,CR.cells,hFv,n3,n5,hkr,e1,e3,hw,ha,W_drawB,boxOk,SOp.newBox,noFp]
    exact ih (k+1,_) ⟨by simp;omega,hb⟩ (by simp;omega)
  ·have hkl:k=(dCRs p.recs).length:=by omega
   subst hkl
   have eg:=fun wl lim st=>rfields_ok wl lim p.globals nl.view st n2 (by rw[dSts_view,n4];omega) hp.globals hs.globals
   simp only[dSts_view,n4,rfV]at eg
   cases hC:firstB (badP rs) (dPs p.globals) (dPs p.globals).length with
   |some y=>
    have hr:=fH (f3C hA (hrs ▸ hB) (hrs ▸ hC))
    rw[hr]
    simp only[hC,fltAV]at eg
    simp[p1,p2,p3,g2,eg,zeroH,W_drawB,boxOk,SOp.newBox,noFp]
   |none=>
    simp only[hC,fltAV]at eg
    simp[p1,p2,p3,g2,eg,SOp.newBox,noFp]
    obtain⟨RR,hRR⟩:∃v,v=mkL 2 (recRows rs (dCRs p.recs)):=⟨_,rfl⟩
    obtain⟨GG,hGG⟩:∃v,v=(mkL 4 (fldRows rs (dPs p.globals))).view:=⟨_,rfl⟩
    rw[<-hRR,<-hGG]
    have hGs:isSl GG=true:=by rw[hGG];simp
    have hGv:GG.view=GG:=by rw[hGG];exact view_view _
    have hRs:isSl RR=true:=by rw[hRR];simp
    refine W_loopI s26_l4.eq_1 (fun q:Nat×List AV×List AV×List AV×List AV=>⟨[(1,.fp 0 0),(2,.fp 1 0),(3,.fp 2 0),(4,.val nl),(7,.fp 3 0),(13,.val (.int .i64 q.1))],
      [[p.recs,p.globals,p.funcs],[.nilSl,.nilSl,.nilSl,.int .i64 0],[.int .i64 0,.int .i64 0],[RR,GG,mkL 6 (sigRows rs ((dFNs p.funcs).take q.1)),.int .i64 (mainK (dFNs p.funcs) q.1)],bb,[.int .i64 0,.int .i64 0],q.2.1,q.2.2.1,q.2.2.2.1,q.2.2.2.2],[]⟩)
     (fun q=>q.1<=(dFNs p.funcs).length/\firstB (badS rs) (dFNs p.funcs) q.1=none) (fun q=>(dFNs p.funcs).length-q.1) ((0,[],[],[],[]):Nat×List AV×List AV×List AV×List AV) (by simp[sigRows,mkL_nil,mainK]) ⟨by simp,rfl⟩ ?_
    rintro⟨k,b6,b7,b8,b9⟩ ⟨hk,hD⟩ ih
    simp only at hk hD ih
    by_cases hlt:k<(dFNs p.funcs).length
    ·have hw:IntKind.i64.wrap ((k:Int)+1)=((k+1:Nat):Int):=by rw[wrap64]<;>omega
     have hb:=firstB_succ (bad:=badS rs) hlt
     rw[hD]at hb
     have hG:=isFNs_get hp.funcs _ (List.getElem_mem hlt)
     have hG1:=hG.1
     have hFs:=isSl_P hG.1
     have hFv:=isPs_vw hG.1
     have hBs:=hG.2.2
     have hBv:=view_notOwn hG.2.1 hG.2.2
     have hFn:=hs.params _ (List.getElem_mem hlt)
     have e3:=fun wl lim st=>rfields_ok wl lim (dFNs p.funcs)[k].params nl.view st n2 (by rw[dSts_view,n4];omega) hG.1 hFn
     have et:=fun wl lim st=>rtype_ok wl lim nl.view (dFNs p.funcs)[k].on (dFNs p.funcs)[k].od st n2 (by rw[dSts_view,n4];omega)
     simp only[dSts_view,n4,rfV,T3.cells]at e3 et
     have ha:appV 6 72 (mkL 6 (sigRows rs ((dFNs p.funcs).take k))) [sigRow rs (dFNs p.funcs)[k]]=some (mkL 6 (sigRows rs ((dFNs p.funcs).take (k+1)))):=by
      rw[appV_mk (by rfl) (by simp[sigRows,room];omega)]
      simp only[sigRows,List.take_succ_eq_append_getElem hlt,List.map_append,List.map_cons,List.map_nil]
     have hmk:mainK (dFNs p.funcs) (k+1)=if isMainT (dFNs p.funcs)[k] then (k:Int) else mainK (dFNs p.funcs) k:=by simp[mainK,hlt]
     have hmsl:isSl (mkL 6 (sigRows rs ((dFNs p.funcs).take k)))=true:=isSl_mk
     simp[f2,f3,fr,hlt,FN.cells,hG1,hBs,hBv,hFv]
     refine W_loopI s26_l3.eq_1 (fun j:Nat=>⟨[(1,.fp 0 0),(2,.fp 1 0),(3,.fp 2 0),(4,.val nl),(7,.fp 3 0),(13,.val (.int .i64 k)),(14,.fp 6 0),(15,.val (.int .i64 j))],
       [[p.recs,p.globals,p.funcs],[.nilSl,.nilSl,.nilSl,.int .i64 0],[.int .i64 0,.int .i64 0],[RR,GG,mkL 6 (sigRows rs ((dFNs p.funcs).take k)),.int .i64 (mainK (dFNs p.funcs) k)],bb,[.int .i64 0,.int .i64 0],(dFNs p.funcs)[k].cells,b7,b8,b9],[]⟩)
      (fun j=>j<=k/\nope (fun q:FN=>decide (q.name=(dFNs p.funcs)[k].name)) ((dFNs p.funcs).take k) j) (fun j=>k-j) 0 (by simp[FN.cells]) ⟨by simp,nope_zero⟩ ?_
     intro j ⟨hj,hn⟩ ih2
     by_cases hjk:j<k
     ·have hw2:IntKind.i64.wrap ((j:Int)+1)=((j+1:Nat):Int):=by rw[wrap64]<;>omega
      have hjl:j<(dFNs p.funcs).length:=by omega
      have hjt:j<((dFNs p.funcs).take k).length:=by simp;omega
      have hjg:((dFNs p.funcs).take k)[j]=(dFNs p.funcs)[j]:=List.getElem_take
      by_cases hnm:(dFNs p.funcs)[j].name=(dFNs p.funcs)[k].name
      ·have hbad:badS rs ((dFNs p.funcs).take k) (dFNs p.funcs)[k]=some (dFNs p.funcs)[k].at_:=by
        unfold badS badD
        rw[if_pos]
        ·rfl
        ·exact List.any_eq_true.2 ⟨_,List.getElem_mem hjt,by rw[hjg];simpa using hnm⟩
       rw[hbad]at hb
       have hr:=fH (f3D hA (hrs ▸ hB) (hrs ▸ hC) (hrs ▸ firstB_stay (show firstB (badS rs) (dFNs p.funcs) (k+1)=some _ from hb) _ (by omega)))
       rw[hr]
       simp[f2,f3,fr,hjk,hjl,FN.cells,hnm,e2,zeroH,W_draw0,noBoxes]
      ·simp[f2,f3,fr,hjk,hjl,FN.cells,hnm,hw2,W_draw0,noBoxes]
       exact ih2 (j+1) ⟨by omega,nope_succ hn hjt (by rw[hjg];simpa using hnm)⟩ (by omega)
     ·have hjk':j=k:=by omega
      subst hjk'
      have hDn:badD ((dFNs p.funcs).take j) (dFNs p.funcs)[j]=none:=by
       unfold badD;rw[any_nope hn];rfl
      have hS:badS rs ((dFNs p.funcs).take j) (dFNs p.funcs)[j]=orF (firstB (badP rs) (dPs (dFNs p.funcs)[j].params) (dPs (dFNs p.funcs)[j].params).length) (badT rs (dFNs p.funcs)[j]):=by
       unfold badS;rw[hDn];rfl
      rw[hS]at hb
      generalize hq:(dFNs p.funcs)[j]=f at *
      cases hP:firstB (badP rs) (dPs f.params) (dPs f.params).length with
      |some y=>
       rw[hP]at hb
       have hr:=fH (f3D hA (hrs ▸ hB) (hrs ▸ hC) (hrs ▸ firstB_stay (show firstB (badS rs) (dFNs p.funcs) (j+1)=some y from hb) _ (by omega)))
       rw[hr]
       simp only[hP,fltAV]at e3
       simp[FN.cells,hFv,e3,zeroH,W_drawB,boxOk,SOp.newBox,noFp]
      |none=>
       rw[hP]at hb
       simp only[hP,fltAV]at e3
       simp[FN.cells,hFv,e3,SOp.newBox,noFp]
       have hfl:(fldRows rs (dPs f.params)).length=(dPs f.params).length:=by simp[fldRows]
       cases hh:f.has with
       |false=>
        have hT:badT rs f=none:=by unfold badT;rw[hh];rfl
        rw[hT]at hb
        simp only[sigRow,resT,hh,if_false,Bool.false_eq_true]at ha
        by_cases a:f.name=nmain
        ·have ea:(f.name=[109,97,105,110])=True:=eq_true a
         by_cases b:dPs f.params=[]
         ·have l0:(dPs f.params).length=0:=by rw[b];rfl
          have hM:isMainT f=true:=by simp[isMainT,a,b,hh]
          have hi:=ih (j+1,f.cells,[.int .i64 0,.int .i64 0],[.str f.name,(mkL 4 (fldRows rs (dPs f.params))).view,.bool f.has,.int .i64 0,.int .i64 0,.int .i64 0],b9) ⟨by simp;omega,hb⟩ (by simp;omega)
          simp only[hmk,hM,if_true,FN.cells,hh]at hi
          simp[hw,hfl,ha,ea,l0,SOp.newBox]
          simp only[Int.natCast_add,Int.natCast_one]at hi
          exact hi
         ·have l0:¬(dPs f.params).length=0:=by simpa using b
          have l1:((dPs f.params).length=0)=False:=eq_false l0
          have hM:isMainT f=false:=by simp[isMainT,a,b,hh]
          have hi:=ih (j+1,f.cells,[.int .i64 0,.int .i64 0],[.str f.name,(mkL 4 (fldRows rs (dPs f.params))).view,.bool f.has,.int .i64 0,.int .i64 0,.int .i64 0],b9) ⟨by simp;omega,hb⟩ (by simp;omega)
          simp only[hmk,hM,if_false,Bool.false_eq_true,FN.cells,hh]at hi
          simp[hw,hfl,ha,ea,l1,SOp.newBox]
          simp only[Int.natCast_add,Int.natCast_one]at hi
          exact hi
        ·have ea:(f.name=[109,97,105,110])=False:=eq_false a
         have hM:isMainT f=false:=by simp[isMainT,a,hh]
         have hi:=ih (j+1,f.cells,[.int .i64 0,.int .i64 0],[.str f.name,(mkL 4 (fldRows rs (dPs f.params))).view,.bool f.has,.int .i64 0,.int .i64 0,.int .i64 0],b9) ⟨by simp;omega,hb⟩ (by simp;omega)
         simp only[hmk,hM,if_false,Bool.false_eq_true,FN.cells,hh]at hi
         simp[hw,ha,ea,SOp.newBox]
         simp only[Int.natCast_add,Int.natCast_one]at hi
         exact hi
       |true=>
        cases ho:(typeT rs f.on f.od).2 with
        |false=>
         have hT:badT rs f=some f.at_:=by unfold badT;rw[hh,ho];rfl
         rw[hT]at hb
         have hr:=fH (f3D hA (hrs ▸ hB) (hrs ▸ hC) (hrs ▸ firstB_stay (show firstB (badS rs) (dFNs p.funcs) (j+1)=some f.at_ from hb) _ (by omega)))
         rw[hr]
         simp[et,ho,e2,zeroH]
        |true=>
         have hT:badT rs f=none:=by unfold badT;rw[hh,ho];rfl
         rw[hT]at hb
         simp only[sigRow,resT,hh,if_true]at ha
         by_cases a:f.name=nmain
         ·have ea:(f.name=[109,97,105,110])=True:=eq_true a
          by_cases b:dPs f.params=[]
          ·have l0:(dPs f.params).length=0:=by rw[b];rfl
           have hM:isMainT f=false:=by simp[isMainT,a,b,hh]
           have hi:=ih (j+1,f.cells,[.int .i64 0,.int .i64 0],[.str f.name,(mkL 4 (fldRows rs (dPs f.params))).view,.bool f.has,.int .i64 (typeT rs f.on f.od).1.b,.int .i64 (typeT rs f.on f.od).1.r,.int .i64 (typeT rs f.on f.od).1.d],(typeT rs f.on f.od).1.cells) ⟨by simp;omega,hb⟩ (by simp;omega)
           simp only[hmk,hM,if_false,Bool.false_eq_true,FN.cells,hh]at hi
           simp[hw,hfl,et,ha,ho,ea,l0,SOp.newBox,noFp]
           simp only[Int.natCast_add,Int.natCast_one]at hi
           exact hi
          ·have l0:¬(dPs f.params).length=0:=by simpa using b
           have l1:((dPs f.params).length=0)=False:=eq_false l0
           have hM:isMainT f=false:=by simp[isMainT,a,b,hh]
           have hi:=ih (j+1,f.cells,[.int .i64 0,.int .i64 0],[.str f.name,(mkL 4 (fldRows rs (dPs f.params))).view,.bool f.has,.int .i64 (typeT rs f.on f.od).1.b,.int .i64 (typeT rs f.on f.od).1.r,.int .i64 (typeT rs f.on f.od).1.d],(typeT rs f.on f.od).1.cells) ⟨by simp;omega,hb⟩ (by simp;omega)
           simp only[hmk,hM,if_false,Bool.false_eq_true,FN.cells,hh]at hi
           simp[hw,hfl,et,ha,ho,ea,l1,SOp.newBox,noFp]
           simp only[Int.natCast_add,Int.natCast_one]at hi
           exact hi
         ·have ea:(f.name=[109,97,105,110])=False:=eq_false a
          have hM:isMainT f=false:=by simp[isMainT,a,hh]
          have hi:=ih (j+1,f.cells,[.int .i64 0,.int .i64 0],[.str f.name,(mkL 4 (fldRows rs (dPs f.params))).view,.bool f.has,.int .i64 (typeT rs f.on f.od).1.b,.int .i64 (typeT rs f.on f.od).1.r,.int .i64 (typeT rs f.on f.od).1.d],(typeT rs f.on f.od).1.cells) ⟨by simp;omega,hb⟩ (by simp;omega)
          simp only[hmk,hM,if_false,Bool.false_eq_true,FN.cells,hh]at hi
          simp[hw,et,ha,ho,ea,SOp.newBox,noFp]
          simp only[Int.natCast_add,Int.natCast_one]at hi
          exact hi
    ·have hkl:k=(dFNs p.funcs).length:=by omega
     subst hkl
     have hmain:mainK (dFNs p.funcs) (dFNs p.funcs).length=mainI (dFNs p.funcs):=main_eq fun k hk=>by
      have:=firstB_all hD k hk hk
      exact(orF_nn (orF_nn this).1).1
     have h3:=f3D hA (hrs ▸ hB) (hrs ▸ hC) (hrs ▸ hD)
     by_cases hm:mainI (dFNs p.funcs)<0
     ·have hr:resH p=.tup [zeroH,.agg [.int .i64 3,.int .i64 0]]:=by
       have:faultH p=some 0:=by unfold faultH;rw[if_pos hm,h3];rfl
       unfold resH;rw[this];rfl
      rw[hr]
      simp[f1,f2,f3,hmain,hm,e2,zeroH]
     ·have hr:resH p=.tup [headsV p,.agg [.int .i64 0,.int .i64 0]]:=by
       have:faultH p=none:=by unfold faultH;rw[if_neg hm,h3]
       unfold resH;rw[this];rfl
      rw[hr]
      simp[f1,f2,f3,hmain,hm,headsV,<-hrs,<-hGG,hGv,<-hRR,hGs,hRs]
end U7
