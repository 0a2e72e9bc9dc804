/-
  runrigref13's machine: enter.
-/
import Derived.Test.YtgblgbgjmgjfkaaGreatK

set_option maxRecDepth 100000
set_option maxHeartbeats 8000000
namespace E13
open Ax Go Code14z IrV Mach
variable {T:XD}{lim:Nat}{L:List Fr}{r:Ms}{I:Ids}{st st':Store}{f:Fr}
theorem a_litR{li:Nat}{a b c:Int}{v:AV}(hc:v.cells=[v])(hv:v.view=v)(hi:v.isCell=true){st:Store}{bx:Boxes}:act0 0 li (.litM 4 1 [.int .i64 0,.int .i64 0,.int .i64 0,.nilSl] [0]) [.val (.agg [.int .i64 a,.int .i64 b,.int .i64 c,v])] st bx =
  some (.val (.mu st.length 0),st++[.rows 0 4 [[.int .i64 a,.int .i64 b,.int .i64 c,v]]],bx):=by
 simp[act0,AV.cells,hi]
theorem enter_ok(h:Rep T lim L r I st)(hx:T.ok){c:Nat}(hc:c<(dCs T.codes).length)(hvl:(dTs (dCs T.codes)[c].vars).length<1000000)(to:Int)(l:List Int){AL:AV}(hAL:AL.view=lA l)(hl:l.length<=(dTs (dCs T.codes)[c].vars).length)(hL:L.length<=1000) :
  ∃st' I',st.length<=st'.length/\(orcL S).call 0 lim 23 [.ptr I.p 0 0 0,.int .i64 c,.int .i64 to,AL] st=some (.tup [],st')/\I'.p=I.p/\
   Rep T lim (⟨c,0,to,l++List.replicate ((dTs (dCs T.codes)[c].vars).length-l.length) 0⟩::L) r I' st':=by
 have hC:=hx.codes
 have hs:=isSl_C hC
 have hvw:=isCs_vw hC
 have hlC:=rowsL_C hC
 have hcm:=isCs_get hC _ (List.getElem_mem hc)
 have hTs:=isSl_T hcm.1
 have hTv:=isTs_vw hcm.1
 have hTl:=rowsL_T hcm.1
 have hNs:=isSl_N hcm.2
 have hNv:=isNs_vw hcm.2
 have hP:=h.P
 have B:=h.lts
 obtain⟨m,hm⟩:∃m,m=(dTs (dCs T.codes)[c].vars).length-l.length:=⟨_,rfl⟩
 have hwm:IntKind.i64.wrap (((dTs (dCs T.codes)[c].vars).length:Int)-(l.length:Int))=(m:Int):=by rw[wrap64]<;>omega
 rw[<-hm]
 obtain⟨MV,VA,XM,X,a,hA,hZ,hV,hX,hVp⟩:=vars_new l m (by omega) st lim h.limN
 obtain⟨g,hg⟩:∃g:Fr,g=⟨c,0,to,l++List.replicate m 0⟩:=⟨_,rfl⟩
 rw[<-hg]
 have hVA:VA=vV g a:=by rw[hg];exact hV _ _ _
 obtain⟨v1,v2⟩:=vV_cells g a
 have v3:=vV_view g a
 rw[<-hVA]at v1 v2 v3
 have hgv:g.vs=l++List.replicate m 0:=by rw[hg]
 obtain⟨F,V,S1,hF,hS1,hk,hF1,hap⟩:=list_new h hL X [.int .i64 c,.int .i64 0,.int .i64 to,VA] rfl (by simp[AV.viewL,AV.view,v3]) lim (Nat.le_refl _)
 have hlit:=fun bx=>a_litR (li:=lim) (a:=c) (b:=0) (c:=to) v1 v3 v2 (st:=st++X) (bx:=bx)
 have hpf:I.nl=false->I.p≠I.f:=fun e q=>by
  have h1:=h.lf e
  rw[<-q,h.lp]at h1
  cases h1
 have hXl:g.vs≠[]->0<X.length/\a.1=st.length:=fun e=>by
  rw[hgv]at e
  obtain⟨x1,x2⟩:=hX e
  have:=lt_of x2
  simp at this
  exact⟨this,x1⟩
 have hpF:I.p≠F:=by
  rcases hF with⟨e,d⟩|d
  ·rw[d];exact hpf e
  ·have:=B.p;omega
 have P1:S1[I.p]?=some (.rows 0 13 [theRow T r I]):=by
  rw[hk I.p (by have:=B.p;omega) hpf,List.getElem?_append_left B.p];exact hP
 obtain⟨nr,hnr⟩:∃nr:AObj,nr=.rows 0 13 [theRow T r { I with nl:=false,f:=F,fv:=V,fl:=(a.1,a.2)::I.fl }]:=⟨_,rfl⟩
 have hp1:I.p<S1.length:=lt_of P1
 have R3:=h.push (st':=S1.set I.p nr) (a:=a.1) (v:=a.2) (F:=F) (V:=V) (g:=g) (fun e=>by have:=(hXl e).2;omega) (hF.imp id fun d=>by omega)
  (fun e q=>by
   obtain⟨x1,x2⟩:=hXl e
   rcases hF with⟨e2,d⟩|d
   ·have:=B.f e2;omega
   ·omega)
  (fun j hj hne hnf=>by rw[List.getElem?_set_ne fun e=>hne e.symm,hk j (by omega) hnf,List.getElem?_append_left hj])
  (by rw[List.getElem?_set_self hp1,hnr])
  (fun e=>by
   obtain⟨x1,x2⟩:=hXl e
   rw[hgv]at e
   obtain⟨x3,x4⟩:=hX e
   rw[x2,List.getElem?_set_ne (by have:=B.p;omega),hk _ (by omega) (fun e2=>by have:=B.f e2;omega),x4,hgv])
  (by
   rw[List.getElem?_set_ne hpF,hF1,List.reverse_cons]
   have:fRow g (a.1,a.2)=[.int .i64 c,.int .i64 0,.int .i64 to,VA]:=by
    unfold fRow
    rw[hVA,hg]
   rw[this])
 refine⟨_,_,by rw[List.length_set];omega,?_,?_,R3⟩
 ·simp only[theRow,mRow]at hP P1 hnr
  have hfn:fV { I with nl:=false,f:=F,fv:=V,fl:=(a.1,a.2)::I.fl }=.mu F V:=rfl
  rw[hfn]at hnr
  have hoA:=fun l=>U10.app_some hP l
  simp only[List.length_append,List.append_assoc]at hap
  have hoA1:=fun l=>U10.app_some P1 l
  have hss:∀y z,(S1.set I.p y).set I.p z=S1.set I.p z:=fun y z=>List.set_set ..
  have hlp:=h.lim_le
  have a1:isSl (lA l)=true:=by cases l<;>rfl
  have a2:(lA l).view=lA l:=by cases l<;>rfl
  have a3:rowsL (lA l)=ints l:=by cases l<;>rfl
  have a4:(ints l).length=l.length:=by simp[ints]
  have fv1:(fV I).view=fV I:=by unfold fV;split<;>rfl
  refine call_run (sf:=s23) rfl rfl rfl ?_
  simp[s23,hP,cut,hC,hvw,hlC,hc,CD.cells,hTs,hTv,hNs,hNv]
  rw[W_drawP]
  simp[-a_appendM0,-a_appendM,-a_appendZ,evalRec,hP,cut,hA,hZ,hAL,hTs,hTv,hTl,hwm,pairOk,readsSame,mayWrite,AV.allPure,paste,boxOk,SOp.newBox,v1,hlit,hap,P1,a1,a3,a4,fv1,hlp]
  refine⟨_,_,⟨rfl,rfl⟩,?_⟩
  simp[-a_appendM0,-a_appendM,-a_appendZ,hoA,hP,cut,hTs,hTl,a1,a3,a4,fv1,oneOrAgg,AV.viewL,Ent.same,AV.same,same_refl,hnr]
 ·rfl
end E13
namespace E13
open Ax Go Code14z IrV Mach
variable {T:XD}{lim:Nat}{L:List Fr}{r:Ms}{I:Ids}{st st':Store}{f g:Fr}
theorem Rep.list(h:Rep T lim (f::L) r I st):∃a b R,I.nl=false/\I.fl=a::b/\R=(fRows L b).reverse/\R.length=L.length/\FrAt st L b/\st[I.f]?=some (.rows I.fv 4 (R++[fRow f a])):=by
 have hn:I.nl=false:=by
  cases e:I.nl with
  |false=>rfl
  |true=>exact absurd (h.F0 e) (by simp)
 obtain⟨a,b,hab,g1,g2,_⟩:=h.top
 refine⟨a,b,_,hn,hab,rfl,?_,g2,?_⟩
 ·rw[List.length_reverse,frows_len g2]
 ·have:=h.F hn
  rw[hab]at this
  simpa [fRows] using this
theorem Rep.anyl(h:Rep T lim L r I st)(l:List Fr):Rep T lim L { r with l:=l } I st:=
 ⟨h.P,h.iv,h.sl,h.S,h.el,h.G,h.FR,h.O,h.lp,h.lg,h.lo,h.lq,h.li,h.qn,h.sn,h.lr,h.nd,h.low,h.F,h.F0,h.lf⟩
theorem a_sl4{li q v n:Nat}{old:List (List AV)}{st:Store}{bx:Boxes}(h:st[q]?=some (.rows v 4 old))(hn:n<=old.length) :
  act0 0 li (.sliceM 4) [.val (.mu q v),.val (.int .i64 n)] st bx=some (.val (.mu q (v+1)),st.set q (.rows (v+1) 4 (old.take n)),bx):=by
 simp[act0,h,hn]
theorem leave_ok(h:Rep T lim (f::L) r I st)(hL:L.length<=1000)(v:Int)(hto:f.to = -1\/∀g l',L=g::l'->inV g.vs.length f.to) :
  ∃st' I',st.length<=st'.length/\(orcL S).call 0 lim 79 [.ptr I.p 0 0 0,.int .i64 v] st=some (.tup [],st')/\I'.p=I.p/\Rep T lim (leaveM { r with l:=f::L } v).l (leaveM { r with l:=f::L } v) I' st':=by
 obtain⟨a,b,R,hn,hab,hR,hRl,hFR,hF⟩:=h.list
 have hP:=h.P
 have B:=h.lts
 have hpf:I.p≠I.f:=fun q=>by
  have h1:=h.lf hn
  rw[<-q,h.lp]at h1
  cases h1
 have hfv:fV I=.mu I.f I.fv:=by unfold fV;rw[if_neg (by rw[hn];simp)]
 have hw:IntKind.i64.wrap (L.length:Int)=(L.length:Int):=by rw[wrap64]<;>omega
 have sl:=fun bx=>a_sl4 (li:=lim) (n:=L.length) (bx:=bx) hF (by simp;omega)
 have htk:(R++[fRow f a]).take L.length=R:=by rw[List.take_append_of_le_length (by omega),List.take_of_length_le (by omega)]
 rw[htk]at sl
 obtain⟨s1,hs1⟩:∃s,s=st.set I.f (.rows (I.fv+1) 4 R):=⟨_,rfl⟩
 rw[<-hs1]at sl
 have P1:s1[I.p]?=some (.rows 0 13 [theRow T r I]):=by rw[hs1,List.getElem?_set_ne hpf.symm];exact hP
 have l1:s1.length=st.length:=by rw[hs1];simp
 have hlp:=h.lim_le
 obtain⟨nr,hnr⟩:∃nr:AObj,nr=.rows 0 13 [theRow T r { I with fv:=I.fv+1,fl:=b }]:=⟨_,rfl⟩
 have F1:(s1.set I.p nr)[I.f]?=some (.rows (I.fv+1) 4 R):=by
  rw[List.getElem?_set_ne hpf,hs1,List.getElem?_set_self (B.f hn)]
 have R2:=h.pop (st':=s1.set I.p nr) (V:=I.fv+1) hn hab (fun j hj n1 n2=>by rw[List.getElem?_set_ne fun e=>n1 e.symm,hs1,List.getElem?_set_ne fun e=>n2 e.symm])
  (by rw[List.getElem?_set_self (by have:=B.p;omega),hnr]) (by rw[F1,hR])
 have hgs:∀y,(s1.set I.p y)[I.p]?=some y:=fun y=>List.getElem?_set_self (by have:=B.p;omega)
 have gf:∀y,(s1.set I.p y)[I.f]?=some (.rows (I.fv+1) 4 R):=fun y=>by rw[List.getElem?_set_ne hpf,hs1,List.getElem?_set_self (B.f hn)]
 have hss:∀y z,(s1.set I.p y).set I.p z=s1.set I.p z:=fun y z=>List.set_set ..
 have gi:(R++[fRow f a])[L.length]?=some (fRow f a):=by rw[<-hRl];simp
 have hfv2:fV { I with fv:=I.fv+1,fl:=b }=.mu I.f (I.fv+1):=by unfold fV;rw[if_neg (by rw[hn];simp)]
 have hoA:=fun l=>U10.app_some hP l
 cases L with
 |nil=>
  have em:leaveM { r with l:=[f] } v={ r with l:=[],e:=1 }:=rfl
  have hR0:R=[]:=List.eq_nil_of_length_eq_zero (by simpa using hRl)
  have R3:=R2.row { r with l:=[],e:=1 } I.iv rfl rfl rfl h.iv
  refine⟨_,_,?_,?_,?_,by rw[em];exact R3⟩
  ·simp[l1]
  ·subst hR0
   simp only[theRow,mRow,hfv,hfv2]at hP P1 hnr
   refine call_run (sf:=s79) rfl rfl rfl ?_
   have sl':∀bx,act0 0 lim (.sliceM 4) [.val (.mu I.f I.fv),.val (.int .i64 0)] st bx=some (.val (.mu I.f (I.fv+1)),s1,bx):=sl
   simp at hF
   have hw0:IntKind.i64.wrap 0=0:=by rw[wrap64]<;>omega
   simp[-a_sliceM,s79,hP,cut,hF,hw0,fRow,sl',P1,hgs,hss,gf,hnr,theRow,mRow,hfv2,hlp,W_draw0,noBoxes,paste,mayWrite,AV.allPure,AV.isPure,AV.view]
  ·rfl
 |cons g L'=>
  obtain⟨a2,b2,R',_,hab2,hR',hRl',hFR2,hF2⟩:=R2.list
  have hb2:b=a2::b2:=hab2
  have hRR:R=R'++[fRow g a2]:=by rw[hR,hR',hb2];simp[fRows]
  have gi2:(R'++[fRow g a2])[L'.length]?=some (fRow g a2):=by rw[<-hRl'];simp
  have hw2:IntKind.i64.wrap (L'.length:Int)=(L'.length:Int):=by rw[wrap64]<;>(simp at hL;omega)
  have hlen:R'.length=L'.length:=hRl'
  have em:leaveM { r with l:=f::g::L' } v={ r with l:=(if 0<=f.to then { g with vs:=g.vs.set f.to.toNat v } else g)::L' }:=rfl
  simp only[theRow,mRow,hfv,hfv2]at hP P1 hnr
  have hwL:IntKind.i64.wrap ((L'.length:Int)+1)=(L'.length:Int)+1:=by rw[wrap64]<;>(simp at hL;omega)
  have htn:((L'.length:Int)+1).toNat=L'.length+1:=by omega
  have gi3:(R++[fRow f a])[L'.length+1]?=some (fRow f a):=gi
  have sl':∀bx,act0 0 lim (.sliceM 4) [.val (.mu I.f I.fv),.val (.int .i64 ((L'.length:Int)+1))] st bx=some (.val (.mu I.f (I.fv+1)),s1,bx):=fun bx=>by
   have:=sl bx
   rw[show (((g::L').length:Nat):Int)=(L'.length:Int)+1 by simp]at this
   exact this
  have hz1:(0:Int)<=(L'.length:Int)+1:=by omega
  have hz2:(L'.length:Int)<(L'.length:Int)+1:=by omega
  have hz3:¬(L'.length:Int)+1=0:=by omega
  have hRl3:R.length=L'.length+1:=hRl
  rcases hto with hto|hto
  ·have hn0:¬0<=f.to:=by omega
   refine⟨_,_,?_,?_,?_,by rw[em];simp only[if_neg hn0];exact R2.anyl _⟩
   ·simp[l1]
   ·refine call_run (sf:=s79) rfl rfl rfl ?_
    simp[-a_sliceM,s79,hP,cut,hF,hwL,htn,hz1,hz2,hz3,fRow,sl',P1,hgs,gf,hnr,hlp,hRl3,W_draw0,noBoxes,paste,mayWrite,AV.allPure,AV.isPure,AV.view,hto]
   ·rfl
  ·have hv:=hto g L' rfl
   obtain⟨v1,v2⟩:=hv
   obtain⟨k,hk⟩:∃k:Nat,f.to=k:=⟨f.to.toNat,by omega⟩
   have hkl:k<g.vs.length:=by omega
   have hne:g.vs≠[]:=by intro q;rw[q]at hkl;simp at hkl
   have R3:=R2.frame (f:=g) hab2 (vs':=g.vs.set k v) (by simp) hne
   obtain⟨a3,b3,ha3,g1,_⟩:=R2.top
   have ha4:a3=a2:=by
    have:=ha3.symm.trans hab2
    cases this;rfl
   subst ha4
   obtain⟨g5,g6,_⟩:=g1 hne
   have hpa:I.p≠a3.1:=fun q=>by
    have h1:I.lab a3.1=.fr:=g6
    rw[<-q,h.lp]at h1
    cases h1
   have hla:lim<=a3.1:=h.low _ (by have h1:I.lab a3.1=.fr:=g6;rw[h1];decide)
   have hset:ints (g.vs.set k v)=(ints g.vs).set k [.int .i64 v]:=by simp[ints,List.map_set]
   have hli:(ints g.vs).length=g.vs.length:=by simp[ints]
   have hvv:vV g a3=.mu a3.1 a3.2:=if_neg hne
   have h0:0<=f.to:=v1
   have hkt:f.to.toNat=k:=by omega
   refine⟨_,_,?_,?_,?_,by rw[em];simp only[if_pos h0,hkt];exact R3.anyl _⟩
   ·simp[l1]
   ·rw[hnr]at g5
    rw[hRR]at gf
    refine call_run (sf:=s79) rfl rfl rfl ?_
    simp[-a_sliceM,s79,hP,cut,hF,hwL,hw2,htn,hz1,hz2,hz3,fRow,sl',P1,hgs,gf,hnr,hlp,hRl3,W_draw0,noBoxes,paste,mayWrite,AV.allPure,AV.isPure,AV.view,hk,hlen,hvv,g5,hkl,hla,hset,hli]
   ·rfl
end E13
namespace E13
open Ax Go Code14z IrV Mach
variable {T:XD}{lim:Nat}{L:List Fr}{r:Ms}{I:Ids}{st st':Store}{f g:Fr}{i:ID}{X:MP}
theorem view_mk(l:List Int):(mkL 1 (ints l)).view=lA l:=by cases l<;>rfl
theorem call_ok(h:Rep T lim (f::L) r I st)(hx:T.ok)(hL:L.length<1000)(hi:isI i.args=true)(hno:notOwn i.args=true){a:Nat×Nat}{b:List (Nat×Nat)}(hab:I.fl=a::b)
  {c:Nat}(hic:i.c=c)(hc:c<(dCs T.codes).length)(hvl:(dTs (dCs T.codes)[c].vars).length<1000000)(hn:∀n∈dI i.args,inV f.vs.length n)(hlen:(dI i.args).length<=(dTs (dCs T.codes)[c].vars).length)
  (hnv:nvOf X c=(dTs (dCs T.codes)[c].vars).length) :
  ∃st' I',st.length<=st'.length/\(orcL S).call 0 lim 78 [.ptr I.p 0 0 0,.agg i.cells,vV f a] st=some (.tup [],st')/\I'.p=I.p/\Rep T lim (callM X { r with l:=f::L } f.vs i).l (callM X { r with l:=f::L } f.vs i) I' st':=by
 have hs:=isSl_I hi
 have hvw:=view_notOwn hno hs
 have hP:=h.P
 obtain⟨a',b',R,hnl,hab',hR,hRl,hFR,hF⟩:=h.list
 have hfv:fV I=.mu I.f I.fv:=by unfold fV;rw[if_neg (by rw[hnl];simp)]
 have hpi:=pure_sl hs
 by_cases h40:40<=(f::L).length
 ·obtain⟨s1,l1,t1,r1⟩:=trap_ok h 6
  have ec:callM X { r with l:=f::L } f.vs i=trapM { r with l:=f::L } 6:=by unfold callM;rw[if_pos h40]
  rw[ec]
  refine⟨s1,I,by omega,?_,rfl,?_⟩
  ·have c40:(40:Int)<=(L.length:Int)+1:=by simp at h40;omega
   simp only[theRow,mRow,hfv]at hP
   refine call_run (sf:=s78) rfl rfl rfl ?_
   simp[s78,ID.cells,hs,hP,cut,hF,hRl,c40,t1]
  ·exact r1.anyl _
 ·have c40:¬(40:Int)<=(L.length:Int)+1:=by simp at h40;omega
  have ec:callM X { r with l:=f::L } f.vs i={ r with l:=⟨c,0,i.a,(dI i.args).map (vAt f.vs)++List.replicate ((dTs (dCs T.codes)[c].vars).length-((dI i.args).map (vAt f.vs)).length) 0⟩::f::L }:=by
   unfold callM enterM
   rw[if_neg h40,hic,Int.toNat_natCast,hnv]
  obtain⟨s1,I1,l1,t1,p1,r1⟩:=enter_ok h hx hc hvl i.a ((dI i.args).map (vAt f.vs)) (AL:=mkL 1 (ints ((dI i.args).map (vAt f.vs)))) (view_mk _) (by simpa using hlen) (by simp;omega)
  rw[ec]
  refine⟨s1,I1,l1,?_,p1,r1.anyl _⟩
  have hrl:=rowsL_I hi
  have hz:=isSz_I hi
  have hal:(dI i.args).length<1000000:=by omega
  have hFA:f.vs≠[]->st[a.1]?=some (.rows a.2 1 (ints f.vs)):=by
   have:=h.FR
   rw[hab]at this
   exact this.1
  simp only[theRow,mRow,hfv]at hP
  have hic':i.c=(c:Int):=hic
  refine call_run (sf:=s78) rfl rfl rfl ?_
  simp[s78,ID.cells,hs,hP,cut,hF,hRl,c40]
  refine W_loopI s78_l0.eq_1 (fun k:Nat=>⟨[(0,.val (.ptr I.p 0 0 0)),(2,.val (vV f a)),(4,.fp 0 0),(6,.val (mkL 1 (ints (((dI i.args).map (vAt f.vs)).take k)))),(7,.val (.int .i64 k))],[[.int .i64 i.op,.int .i64 i.a,.int .i64 i.b,.int .i64 i.c,.int .i64 i.n,i.args]],st⟩)
   (fun k=>k<=(dI i.args).length) (fun k=>(dI i.args).length-k) 0 (by simp[mkL,ints]) (by simp) ?_
  intro k hk ih
  by_cases hlt:k<(dI i.args).length
  ·have hw:IntKind.i64.wrap ((k:Int)+1)=((k+1:Nat):Int):=by rw[wrap64]<;>omega
   obtain⟨n1,n2⟩:=hn _ (List.getElem_mem hlt)
   obtain⟨n,hnn⟩:∃n:Nat,(dI i.args)[k]=n:=⟨((dI i.args)[k]).toNat,by omega⟩
   have hnl2:n<f.vs.length:=by omega
   have hne:f.vs≠[]:=by intro q;rw[q]at hnl2;simp at hnl2
   have hvv:vV f a=.mu a.1 a.2:=if_neg hne
   have hva:vAt f.vs (dI i.args)[k]=f.vs[n]:=by unfold vAt;rw[hnn,Int.toNat_natCast,List.getD_eq_getElem?_getD,List.getElem?_eq_getElem hnl2];rfl
   have hst:=hFA hne
   have hgi:(ints f.vs)[n]?=some [.int .i64 f.vs[n]]:=by simp[ints,hnl2]
   have hli:(ints f.vs).length=f.vs.length:=by simp[ints]
   have ht:((dI i.args).map (vAt f.vs)).take (k+1)=((dI i.args).map (vAt f.vs)).take k++[f.vs[n]]:=by
    rw[List.take_succ_eq_append_getElem (by simpa using hlt)];simp[hva]
   have hap:appV 1 8 (mkL 1 (ints (((dI i.args).map (vAt f.vs)).take k))) [[.int .i64 f.vs[n]]]=some (mkL 1 (ints (((dI i.args).map (vAt f.vs)).take (k+1)))):=by
    rw[appV_mk (by rfl) (by simp[room];omega),ht]
    simp[ints]
   simp[hs,hvw,hrl,hz,hlt,hnn,hvv,hst,hli,hnl2,hap,hw]
   rw[<-hvv]
   exact ih (k+1) (by omega) (by omega)
  ·have hkl:k=(dI i.args).length:=by omega
   have ht:((dI i.args).map (vAt f.vs)).take k=(dI i.args).map (vAt f.vs):=List.take_of_length_le (by simp;omega)
   rw[ht]
   simp[hs,hvw,hrl,hlt,hic',t1]
end E13
namespace E13
open Ax Go Code14z IrV Mach
variable {T:XD}{lim:Nat}{L:List Fr}{r:Ms}{I:Ids}{st st':Store}{f g:Fr}{i:ID}{X:MP}
def Eqv(a b:Ms):Prop:=a.e=b.e/\a.code=b.code/\a.out=b.out/\a.steps=b.steps/\(b.e=0->a=b)
theorem Eqv.refl(a:Ms):Eqv a a:=⟨rfl,rfl,rfl,rfl,fun _=>rfl⟩
def Did(T:XD)(lim:Nat)(m':Ms)(I:Ids)(st:Store):Prop:=∃st' I' r',st.length<=st'.length/\(orcL S).call 0 lim 24 [.ptr I.p 0 0 0] st=some (.tup [],st')/\I'.p=I.p/\Rep T lim r'.l r' I' st'/\Eqv r' m'
def nx(f:Fr):Fr:={ f with at_:=f.at_+1 }
structure At (T:XD)(lim:Nat)(L:List Fr)(r:Ms)(I:Ids)(st:Store)(f:Fr)(i:ID)(a:Nat×Nat)(b:List (Nat×Nat))(R:List (List AV))(c:CD)(k:Nat):Prop where
 rep:Rep T lim (f::L) r I st
 nl:I.nl=false
 ab:I.fl=a::b
 hR:R=(fRows L b).reverse
 Rl:R.length=L.length
 hF:st[I.f]?=some (.rows I.fv 4 (R++[fRow f a]))
 hL:L.length<=1000
 x:T.ok
 fc:f.f<(dCs T.codes).length
 hc:(dCs T.codes)[f.f]?=some c
 at_:f.at_=k
 hk:k<(dNs c.ins).length
 ki:(dNs c.ins)[k]?=some i
 kl:(dNs c.ins).length<1000000
theorem at_of(h:Rep T lim (f::L) r I st)(hL:L.length<=1000)(hx:T.ok){c:CD}(hc:(dCs T.codes)[f.f]?=some c){k:Nat}(hk:f.at_=k)(hi:(dNs c.ins)[k]?=some i)(hkl:(dNs c.ins).length<1000000):∃a b R,At T lim L r I st f i a b R c k:=by
 obtain⟨a,b,R,h1,h2,h3,h4,h5,h6⟩:=h.list
 exact⟨a,b,R,h,h1,h2,h3,h4,h6,hL,hx,(List.getElem?_eq_some_iff.1 hc).1,hc,hk,(List.getElem?_eq_some_iff.1 hi).1,hi,hkl⟩
section
variable {a:Nat×Nat}{b:List (Nat×Nat)}{R:List (List AV)}{c:CD}{k:Nat}
def stN(st:Store)(I:Ids)(R:List (List AV))(f:Fr)(a:Nat×Nat):Store:=st.set I.f (.rows I.fv 4 (R++[fRow (nx f) a]))
def stV(s:Store)(a:Nat×Nat)(vs:List Int):Store:=s.set a.1 (.rows a.2 1 (ints vs))
theorem At.next(h:At T lim L r I st f i a b R c k):Rep T lim (nx f::L) r I (stN st I R f a):=by
 have:=h.rep.place (f.at_+1) h.nl
 have e:(fRows ({ f with at_:=f.at_+1 }::L) I.fl).reverse=R++[fRow (nx f) a]:=by rw[h.ab,h.hR];simp[fRows,nx]
 rw[e]at this
 exact this
theorem At.vars(h:At T lim L r I st f i a b R c k)(hne:f.vs≠[]):(stN st I R f a)[a.1]?=some (.rows a.2 1 (ints f.vs))/\st[a.1]?=some (.rows a.2 1 (ints f.vs))/\a.1<st.length/\lim<=a.1/\a.1≠I.f/\a.1≠I.p:=by
 obtain⟨a',b',hab,g1,_⟩:=h.rep.top
 have e:=hab.symm.trans h.ab
 cases e
 obtain⟨g2,g3,_⟩:=g1 hne
 have n1:a.1≠I.f:=fun q=>by
  have:=h.rep.lf h.nl
  rw[<-q,g3]at this
  cases this
 refine⟨by unfold stN;rw[List.getElem?_set_ne n1.symm];exact g2,g2,lt_of g2,h.rep.low _ (by rw[g3];decide),n1,fun q=>by
  have:=h.rep.lp
  rw[<-q,g3]at this
  cases this⟩
theorem At.var(h:At T lim L r I st f i a b R c k){n:Nat}(hn:n<f.vs.length)(w:Int):Rep T lim ({ nx f with vs:=f.vs.set n w }::L) r I (stV (stN st I R f a) a (f.vs.set n w)):=by
 have hne:f.vs≠[]:=by intro q;rw[q]at hn;simp at hn
 exact h.next.frame (f:=nx f) h.ab (by simp[nx]) hne
theorem trap0(wl li p:Nat)(st:Store):(orcL S).call wl li 80 [.ptr p 0 0 0,.int .i64 0] st=some (.tup [],st):=by
 refine call_run (sf:=s80) rfl rfl rfl ?_
 simp[s80]
theorem op1(h:At T lim L r I st f i a b R c k)(ho:i.op=1)(ha:inV f.vs.length i.a):Did T lim (doI X { r with l:=nx f::L } f.vs i) I st:=by
 have hP:=h.rep.P
 have hfv:fV I=.mu I.f I.fv:=by unfold fV;rw[if_neg (by rw[h.nl];simp)]
 have hC:=h.x.codes
 have hs:=isSl_C hC
 have hvw:=isCs_vw hC
 have hlC:=rowsL_C hC
 have hcm:=isCs_get hC c (List.mem_of_getElem? h.hc)
 have hNs:=isSl_N hcm.2
 have hNv:=isNs_vw hcm.2
 have hNl:=rowsL_N hcm.2
 have hNz:=isSz_N hcm.2
 obtain⟨hino,hia⟩:=isNs_get hcm.2 i (List.mem_of_getElem? h.ki)
 have hsI:=isSl_I hia
 have hvI:=view_notOwn hino hsI
 have hF:=h.hF
 have hRl:=h.Rl
 have hw:IntKind.i64.wrap (L.length:Int)=(L.length:Int):=by have:=h.hL;rw[wrap64]<;>omega
 have hw1:IntKind.i64.wrap ((k:Int)+1)=(k:Int)+1:=by have:=h.hk;have:=h.kl;rw[wrap64]<;>omega
 simp only[theRow,mRow,hfv]at hP
 obtain⟨n,hn⟩:∃n:Nat,i.a=n:=⟨i.a.toNat,by have:=ha.1;omega⟩
 have hnl:n<f.vs.length:=by have:=ha.2;omega
 have hne:f.vs≠[]:=by intro q;rw[q]at hnl;simp at hnl
 obtain⟨g1,g2,g3,g4,g5,g6⟩:=h.vars hne
 have hz2:(L.length:Int)<(L.length:Int)+1:=by omega
 have gR:∀x:List AV,(R++[x])[L.length]?=some x:=fun x=>by rw[<-hRl];simp
 have sR:∀x y:List AV,(R++[x]).set L.length y=R++[y]:=fun x y=>by rw[<-hRl,List.set_append_right _ _ (Nat.le_refl _)];simp
 have hfc:=h.fc
 have hcc:(dCs T.codes)[f.f]=c:=by have:=h.hc;rw[List.getElem?_eq_getElem hfc]at this;exact Option.some.inj this
 have hkk:=h.hk
 have hki:(dNs c.ins)[k]=i:=by have:=h.ki;rw[List.getElem?_eq_getElem hkk]at this;exact Option.some.inj this
 have hvv:vV f a=.mu a.1 a.2:=if_neg hne
 have hsN:List.set st I.f (.rows I.fv 4 (R++[[.int .i64 f.f,.int .i64 ((k:Int)+1),.int .i64 f.to,.mu a.1 a.2]]))=stN st I R f a:=by
  rw[<-hvv,<-h.at_];rfl
 have hset:∀w:Int,ints (f.vs.set n w)=(ints f.vs).set n [.int .i64 w]:=fun w=>by simp[ints,List.map_set]
 have hli:(ints f.vs).length=f.vs.length:=by simp[ints]
 have t0:=trap0
 refine⟨stV (stN st I R f a) a (f.vs.set n i.n),I,{ r with l:={ nx f with vs:=f.vs.set n i.n }::L },?_,?_,rfl,(h.var hnl i.n).anyl _,?_⟩
 ·simp[stV,stN]
 ·refine call_run (sf:=s24) rfl rfl rfl ?_
  simp[s24,hP,cut,hF,hRl,hw,fRow,h.at_,hz2,W_draw0,noBoxes]
  rw[W_drawB]
  simp[boxOk,SOp.newBox,paste,mayWrite,AV.allPure,AV.isPure,ho,hsI,hvI,g1,g4,hn,hnl,hvv,hsN,hset,hli,t0,stV,hP,cut,hF,hRl,hC,hvw,hlC,hNv,hNl,hNz,CD.cells,fRow,h.at_,hw1,sR,hfc,hcc,hkk,hki,ID.cells]
 ·have:doI X { r with l:=nx f::L } f.vs i={ r with l:={ nx f with vs:=f.vs.set n i.n }::L }:=by
   unfold doI
   rw[if_pos ho]
   unfold setM
   rw[hn];rfl
  rw[this];exact Eqv.refl _
end
end E13
namespace E13
open Ax Go Code14z IrV Mach
variable {T:XD}{lim:Nat}{L:List Fr}{r:Ms}{I:Ids}{st st':Store}{f g:Fr}{i:ID}{X:MP}{a:Nat×Nat}{b:List (Nat×Nat)}{R:List (List AV)}{c:CD}{k:Nat}
theorem At.facts(h:At T lim L r I st f i a b R c k):(st[I.p]?=some (.rows 0 13 [[T.recs,T.globals,T.codes,T.sites,.int .i64 T.main,I.iv,lV r.s I.q I.v,.mu I.g 0,.mu I.f I.fv,.int .i64 r.e,.int .i64 r.code,oV r.out I.o I.ov,.int .i64 r.steps]]))/\
  isCs T.codes=true/\isSl T.codes=true/\T.codes.view=T.codes/\rowsL T.codes=List.map CD.cells (dCs T.codes)/\isSl c.ins=true/\c.ins.view=c.ins/\rowsL c.ins=List.map ID.cells (dNs c.ins)/\isSz 6 c.ins=true/\
  isSl i.args=true/\i.args.view=i.args/\IntKind.i64.wrap (L.length:Int)=(L.length:Int)/\IntKind.i64.wrap ((k:Int)+1)=(k:Int)+1/\((L.length:Int)<(L.length:Int)+1)/\
  (∀x:List AV,(R++[x])[L.length]?=some x)/\(∀x y:List AV,(R++[x]).set L.length y=R++[y])/\f.f<(dCs T.codes).length/\(dCs T.codes)[f.f]?=some c/\k<(dNs c.ins).length/\(dNs c.ins)[k]?=some i/\
  List.set st I.f (.rows I.fv 4 (R++[[.int .i64 f.f,.int .i64 ((k:Int)+1),.int .i64 f.to,vV f a]]))=stN st I R f a:=by
 have hP:=h.rep.P
 have hfv:fV I=.mu I.f I.fv:=by unfold fV;rw[if_neg (by rw[h.nl];simp)]
 simp only[theRow,mRow,hfv]at hP
 have hC:=h.x.codes
 have hcm:=isCs_get hC c (List.mem_of_getElem? h.hc)
 obtain⟨hino,hia⟩:=isNs_get hcm.2 i (List.mem_of_getElem? h.ki)
 have hRl:=h.Rl
 exact⟨hP,hC,isSl_C hC,isCs_vw hC,rowsL_C hC,isSl_N hcm.2,isNs_vw hcm.2,rowsL_N hcm.2,isSz_N hcm.2,isSl_I hia,view_notOwn hino (isSl_I hia),by have:=h.hL;rw[wrap64]<;>omega,by have:=h.hk;have:=h.kl;rw[wrap64]<;>omega,by omega,
  fun x=>by rw[<-hRl];simp,fun x y=>by rw[<-hRl,List.set_append_right _ _ (Nat.le_refl _)];simp,h.fc,h.hc,h.hk,h.ki,by rw[<-h.at_];rfl⟩
theorem got(h:At T lim L r I st f i a b R c k){n:Int}(hn:inV f.vs.length n):∃(m:Nat)(hm:m<f.vs.length),n=m/\vAt f.vs (m:Int)=f.vs[m]:=by
 obtain⟨h1,h2⟩:=hn
 obtain⟨m,rfl⟩:∃m:Nat,n=m:=⟨n.toNat,by omega⟩
 have hm:m<f.vs.length:=by omega
 exact⟨m,hm,rfl,by unfold vAt;rw[Int.toNat_natCast,List.getD_eq_getElem?_getD,List.getElem?_eq_getElem hm];rfl⟩
theorem op2(h:At T lim L r I st f i a b R c k)(ho:i.op=2)(ha:inV f.vs.length i.a):Did T lim (doI X { r with l:=nx f::L } f.vs i) I st:=by
 obtain⟨hP,hC,hs,hvw,hlC,hNs,hNv,hNl,hNz,hsI,hvI,hw,hw1,hz2,gR,sR,hfc,hcc,hkk,hki,hsN⟩:=h.facts
 have hF:=h.hF
 have hRl:=h.Rl
 obtain⟨n,hnl,hn,_⟩:=got h ha
 have hne:f.vs≠[]:=by intro q;rw[q]at hnl;simp at hnl
 obtain⟨g1,g2,g3,g4,g5,g6⟩:=h.vars hne
 have hvv:vV f a=.mu a.1 a.2:=if_neg hne
 rw[hvv]at hsN
 have hcc':(dCs T.codes)[f.f]=c:=by have:=hcc;rw[List.getElem?_eq_getElem hfc]at this;exact Option.some.inj this
 have hki':(dNs c.ins)[k]=i:=by have:=hki;rw[List.getElem?_eq_getElem hkk]at this;exact Option.some.inj this
 have hset:∀w:Int,ints (f.vs.set n w)=(ints f.vs).set n [.int .i64 w]:=fun w=>by simp[ints,List.map_set]
 have hli:(ints f.vs).length=f.vs.length:=by simp[ints]
 have t0:=trap0
 refine⟨stV (stN st I R f a) a (f.vs.set n 0),I,{ r with l:={ nx f with vs:=f.vs.set n 0 }::L },?_,?_,rfl,(h.var hnl _).anyl _,?_⟩
 ·simp[stV,stN]
 ·refine call_run (sf:=s24) rfl rfl rfl ?_
  simp[s24,hP,cut,hF,hRl,hw,fRow,h.at_,hz2,W_draw0,noBoxes]
  rw[W_drawB]
  simp[boxOk,SOp.newBox,paste,mayWrite,AV.allPure,AV.isPure,ho,hsI,hvI,g1,g4,hn,hnl,hvv,hsN,hset,hli,t0,stV,hC,hP,cut,hF,hRl,hvw,hlC,hNv,hNl,hNz,CD.cells,fRow,h.at_,hw1,sR,hfc,hcc',hkk,hki',ID.cells]
 ·have:doI X { r with l:=nx f::L } f.vs i={ r with l:={ nx f with vs:=f.vs.set n 0 }::L }:=by
   unfold doI
   rw[if_neg (by omega),if_pos ho]
   unfold setM
   rw[hn];rfl
  rw[this];exact Eqv.refl _
theorem op3(h:At T lim L r I st f i a b R c k)(ho:i.op=3)(ha:inV f.vs.length i.a)(hb:inV f.vs.length i.b):Did T lim (doI X { r with l:=nx f::L } f.vs i) I st:=by
 obtain⟨hP,hC,hs,hvw,hlC,hNs,hNv,hNl,hNz,hsI,hvI,hw,hw1,hz2,gR,sR,hfc,hcc,hkk,hki,hsN⟩:=h.facts
 have hF:=h.hF
 have hRl:=h.Rl
 obtain⟨n,hnl,hn,_⟩:=got h ha
 obtain⟨n2,hnl2,hn2,hg2⟩:=got h hb
 have hne:f.vs≠[]:=by intro q;rw[q]at hnl;simp at hnl
 obtain⟨g1,g2,g3,g4,g5,g6⟩:=h.vars hne
 have hvv:vV f a=.mu a.1 a.2:=if_neg hne
 rw[hvv]at hsN
 have hcc':(dCs T.codes)[f.f]=c:=by have:=hcc;rw[List.getElem?_eq_getElem hfc]at this;exact Option.some.inj this
 have hki':(dNs c.ins)[k]=i:=by have:=hki;rw[List.getElem?_eq_getElem hkk]at this;exact Option.some.inj this
 have hset:∀w:Int,ints (f.vs.set n w)=(ints f.vs).set n [.int .i64 w]:=fun w=>by simp[ints,List.map_set]
 have hli:(ints f.vs).length=f.vs.length:=by simp[ints]
 have t0:=trap0
 refine⟨stV (stN st I R f a) a (f.vs.set n (vAt f.vs i.b)),I,{ r with l:={ nx f with vs:=f.vs.set n (vAt f.vs i.b) }::L },?_,?_,rfl,(h.var hnl _).anyl _,?_⟩
 ·simp[stV,stN]
 ·refine call_run (sf:=s24) rfl rfl rfl ?_
  simp[s24,hP,cut,hF,hRl,hw,fRow,h.at_,hz2,W_draw0,noBoxes]
  rw[W_drawB]
  simp[boxOk,SOp.newBox,paste,mayWrite,AV.allPure,AV.isPure,ho,hsI,hvI,g1,g4,hn,hnl,hvv,hsN,hset,hli,t0,stV,hC,hP,cut,hF,hRl,hvw,hlC,hNv,hNl,hNz,CD.cells,fRow,h.at_,hw1,sR,hfc,hcc',hkk,hki',ID.cells,W_draw0,noBoxes,hn2,hnl2,hg2]
 ·have:doI X { r with l:=nx f::L } f.vs i={ r with l:={ nx f with vs:=f.vs.set n (vAt f.vs i.b) }::L }:=by
   unfold doI
   rw[if_neg (by omega),if_neg (by omega),if_pos ho]
   unfold setM
   rw[hn];rfl
  rw[this];exact Eqv.refl _
theorem op5(h:At T lim L r I st f i a b R c k)(ho:i.op=5)(ha:inV f.vs.length i.a)(hb:inV f.vs.length i.b):Did T lim (doI X { r with l:=nx f::L } f.vs i) I st:=by
 obtain⟨hP,hC,hs,hvw,hlC,hNs,hNv,hNl,hNz,hsI,hvI,hw,hw1,hz2,gR,sR,hfc,hcc,hkk,hki,hsN⟩:=h.facts
 have hF:=h.hF
 have hRl:=h.Rl
 obtain⟨n,hnl,hn,_⟩:=got h ha
 obtain⟨n2,hnl2,hn2,hg2⟩:=got h hb
 have u1:=fun wl li=>un_ok wl li i.n f.vs[n2]
 have hne:f.vs≠[]:=by intro q;rw[q]at hnl;simp at hnl
 obtain⟨g1,g2,g3,g4,g5,g6⟩:=h.vars hne
 have hvv:vV f a=.mu a.1 a.2:=if_neg hne
 rw[hvv]at hsN
 have hcc':(dCs T.codes)[f.f]=c:=by have:=hcc;rw[List.getElem?_eq_getElem hfc]at this;exact Option.some.inj this
 have hki':(dNs c.ins)[k]=i:=by have:=hki;rw[List.getElem?_eq_getElem hkk]at this;exact Option.some.inj this
 have hset:∀w:Int,ints (f.vs.set n w)=(ints f.vs).set n [.int .i64 w]:=fun w=>by simp[ints,List.map_set]
 have hli:(ints f.vs).length=f.vs.length:=by simp[ints]
 have t0:=trap0
 refine⟨stV (stN st I R f a) a (f.vs.set n (unI i.n (vAt f.vs i.b))),I,{ r with l:={ nx f with vs:=f.vs.set n (unI i.n (vAt f.vs i.b)) }::L },?_,?_,rfl,(h.var hnl _).anyl _,?_⟩
 ·simp[stV,stN]
 ·refine call_run (sf:=s24) rfl rfl rfl ?_
  simp[s24,hP,cut,hF,hRl,hw,fRow,h.at_,hz2,W_draw0,noBoxes]
  rw[W_drawB]
  simp[boxOk,SOp.newBox,paste,mayWrite,AV.allPure,AV.isPure,ho,hsI,hvI,g1,g4,hn,hnl,hvv,hsN,hset,hli,t0,stV,hC,hP,cut,hF,hRl,hvw,hlC,hNv,hNl,hNz,CD.cells,fRow,h.at_,hw1,sR,hfc,hcc',hkk,hki',ID.cells,W_draw0,noBoxes,hn2,hnl2,hg2,u1]
 ·have:doI X { r with l:=nx f::L } f.vs i={ r with l:={ nx f with vs:=f.vs.set n (unI i.n (vAt f.vs i.b)) }::L }:=by
   unfold doI
   rw[if_neg (by omega),if_neg (by omega),if_neg (by omega),if_neg (by omega),if_pos ho]
   unfold setM
   rw[hn];rfl
  rw[this];exact Eqv.refl _
end E13
