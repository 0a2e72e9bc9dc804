/- Part of a proof. -/
import Derived.Test.YtgblgbgjmgjfkaaGreatCode2
import Derived.Test.YtgblgbgjmgjfkaaGreatA6

set_option maxRecDepth 100000
set_option maxHeartbeats 1000000
namespace U10
open Ax Go Code14z
@[simp]theorem eq_nn:eqK .ptr .nilPtr .nilPtr=some true:=rfl
@[simp]theorem eq_pn{id v i k:Nat}:eqK .ptr (.ptr id v i k) .nilPtr=some false:=rfl
structure Rp (st:Store)(p:Nat)(T:List (List Int))(q v:Nat)(ids:List Nat):Prop where
 len:ids.length=T.length
 obj:st[p]?=some (.rows 0 1 [[if T=[] then .nilSl else .mu q v]])
 lst:T≠[]->st[q]?=some (.rows v 1 (ids.map fun i=>[.mu i 0]))
 el:∀k (h:k<ids.length) (h2:k<T.length),st[ids[k]]?=some (.rows 0 1 (ints T[k]))
 pq:T≠[]->p≠q
 pn:p ∉ ids
 qn:T≠[]->q ∉ ids
 nd:ids.Nodup
variable {st:Store}{p q v:Nat}{T:List (List Int)}{ids:List Nat}
theorem Rp.obj0(h:Rp st p [] q v ids):st[p]?=some (.rows 0 1 [[.nilSl]]):=h.obj
theorem Rp.obj1(h:Rp st p T q v ids)(hT:T≠[]):st[p]?=some (.rows 0 1 [[.mu q v]]):=by have:=h.obj;rwa [if_neg hT]at this
def cellsV(T:List (List Int))(ids:List Nat)(ref:Int):AV:=if 1<=ref/\ref<=(T.length:Int) then .tup [.mu (ids.getD (ref-1).toNat 0) 0,.bool true] else .tup [.nilSl,.bool false]
theorem cells_ok(wl lim:Nat)(h:Rp st p T q v ids)(ref:Int)(hr:T.length<1000000000) :
  (orcL S).call wl lim 145 [.ptr p 0 0 0,.int .i64 ref] st=some (cellsV T ids ref,st):=by
 refine call_run (sf:=s145) rfl rfl rfl ?_
 unfold cellsV
 by_cases r0:ref<1
 ·have:¬(1<=ref/\ref<=(T.length:Int)):=by omega
  rw[if_neg this]
  simp[s145,r0]
 by_cases hT:T=[]
 ·subst hT
  have:¬(1<=ref/\ref<=(([]:List (List Int)).length:Int)):=by simp;omega
  rw[if_neg this]
  have h0:0<ref:=by omega
  simp[s145,r0,h.obj0,cut,h0]
 ·have ho:=h.obj1 hT
  have hl:=h.lst hT
  have hlen:=h.len
  by_cases r1:(T.length:Int)<ref
  ·have:¬(1<=ref/\ref<=(T.length:Int)):=by omega
   rw[if_neg this]
   simp[s145,r0,ho,hl,cut,hlen,r1]
  ·obtain⟨k,rfl⟩:∃k:Nat,ref=(k:Int)+1:=⟨(ref-1).toNat,by omega⟩
   have hk:k<ids.length:=by omega
   have hk2:k<T.length:=by omega
   have:1<=(k:Int)+1/\(k:Int)+1<=(T.length:Int):=by omega
   rw[if_pos this]
   have hw:IntKind.i64.wrap (k:Int)=(k:Int):=by rw[wrap64]<;>omega
   have e1:((k:Int)+1-1).toNat=k:=by omega
   have hg:ids[k]?.getD 0=ids[k]:=by simp[hk]
   simp[s145,r0,ho,hl,cut,hlen,r1,hw,hk2]
def trapOf(T:List (List Int))(ref i:Int):Int:=if 1<=ref/\ref<=(T.length:Int) then (if 0<=i/\i<((T.getD (ref-1).toNat []).length:Int) then 0 else 2) else 1
theorem cell_no(wl lim:Nat)(h:Rp st p T q v ids)(ref i:Int)(hr:T.length<1000000000)(ht:trapOf T ref i≠0) :
  (orcL S).call wl lim 144 [.ptr p 0 0 0,.int .i64 ref,.int .i64 i] st=some (.tup [.nilPtr,.int .i64 (trapOf T ref i)],st):=by
 have hc:=fun wl lim=>cells_ok wl lim h ref hr
 refine call_run (sf:=s144) rfl rfl rfl ?_
 unfold cellsV at hc
 unfold trapOf at ht ⊢
 by_cases c:1<=ref/\ref<=(T.length:Int)
 ·simp only[if_pos c]at hc ht ⊢
  obtain⟨k,rfl⟩:∃k:Nat,ref=(k:Int)+1:=⟨(ref-1).toNat,by omega⟩
  have hk2:k<T.length:=by omega
  have hk:k<ids.length:=by rw[h.len];exact hk2
  have e1:((k:Int)+1-1).toNat=k:=by omega
  have he:=h.el k hk hk2
  have hg:ids[k]?.getD 0=ids[k]:=by simp[hk]
  have hgt:T.getD k []=T[k]:=by simp[hk2]
  rw[e1]at hc ht ⊢
  rw[hgt]at ht ⊢
  by_cases i0:i<0
  ·have:¬(0<=i/\i<(T[k].length:Int)):=by omega
   rw[if_neg this]
   simp[s144,hc,i0]
  by_cases i1:(T[k].length:Int)<=i
  ·have:¬(0<=i/\i<(T[k].length:Int)):=by omega
   rw[if_neg this]
   simp[s144,hc,i0,hk,he,i1]
  ·exact absurd (if_pos ⟨by omega,by omega⟩) ht
 ·simp only[if_neg c]at hc ht ⊢
  simp[s144,hc]
theorem cell_at(wl lim:Nat)(h:Rp st p T q v ids)(k j:Nat)(hr:T.length<1000000000)(hk2:k<T.length)(hk:k<ids.length)(hj:j<T[k].length) :
  (orcL S).call wl lim 144 [.ptr p 0 0 0,.int .i64 ((k:Int)+1),.int .i64 j] st=some (.tup [.ptr ids[k] 0 j 0,.int .i64 0],st):=by
 have hc:=fun wl lim=>cells_ok wl lim h ((k:Int)+1) hr
 refine call_run (sf:=s144) rfl rfl rfl ?_
 unfold cellsV at hc
 have c:1<=(k:Int)+1/\(k:Int)+1<=(T.length:Int):=by omega
 simp only[if_pos c]at hc
 have e1:((k:Int)+1-1).toNat=k:=by omega
 have he:=h.el k hk hk2
 have hg:ids.getD k 0=ids[k]:=by simp[hk]
 rw[e1,hg]at hc
 have i1:¬((T[k].length:Int)<=(j:Int)):=by omega
 have j0:¬((j:Int)<0):=by omega
 simp[s144,hc,he,i1,hj,j0]
theorem len_ok(wl lim:Nat)(h:Rp st p T q v ids)(ref:Int)(hr:T.length<1000000000) :
  (orcL S).call wl lim 115 [.ptr p 0 0 0,.int .i64 ref] st=some (if 1<=ref/\ref<=(T.length:Int) then .tup [.int .i64 (T.getD (ref-1).toNat []).length,.int .i64 0] else .tup [.int .i64 0,.int .i64 1],st):=by
 have hc:=fun wl lim=>cells_ok wl lim h ref hr
 refine call_run (sf:=s115) rfl rfl rfl ?_
 unfold cellsV at hc
 by_cases c:1<=ref/\ref<=(T.length:Int)
 ·simp only[if_pos c]at hc ⊢
  obtain⟨k,rfl⟩:∃k:Nat,ref=(k:Int)+1:=⟨(ref-1).toNat,by omega⟩
  have hk2:k<T.length:=by omega
  have hk:k<ids.length:=by rw[h.len];exact hk2
  have e1:((k:Int)+1-1).toNat=k:=by omega
  have he:=h.el k hk hk2
  have hg:ids.getD k 0=ids[k]:=by simp[hk]
  have hgt:T.getD k []=T[k]:=by simp[hk2]
  rw[e1,hg]at hc
  rw[e1,hgt]
  simp[s115,hc,he]
 ·simp only[if_neg c]at hc ⊢
  simp[s115,hc]
theorem load_ok(wl lim:Nat)(h:Rp st p T q v ids)(ref i:Int)(hr:T.length<1000000000) :
  (orcL S).call wl lim 112 [.ptr p 0 0 0,.int .i64 ref,.int .i64 i] st=some (.tup [.int .i64 (if trapOf T ref i=0 then (T.getD (ref-1).toNat []).getD i.toNat 0 else 0),.int .i64 (trapOf T ref i)],st):=by
 refine call_run (sf:=s112) rfl rfl rfl ?_
 by_cases ht:trapOf T ref i=0
 ·obtain⟨k,hk2,rfl,j,hj,rfl⟩:∃k:Nat,∃hk:k<T.length,ref=(k:Int)+1/\∃j:Nat,j<T[k].length/\i=j:=by
   unfold trapOf at ht
   split at ht
   ·rename_i c
    split at ht
    ·rename_i d
     have hk:(ref-1).toNat<T.length:=by omega
     have:T.getD (ref-1).toNat []=T[(ref-1).toNat]:=by simp only[List.getD_eq_getElem?_getD,List.getElem?_eq_getElem hk,Option.getD_some]
     rw[this]at d
     exact⟨(ref-1).toNat,hk,by omega,i.toNat,by omega,by omega⟩
    ·cases ht
   ·cases ht
  have hk:k<ids.length:=by rw[h.len];exact hk2
  have hc:=fun wl lim=>cell_at wl lim h k j hr hk2 hk hj
  have he:=h.el k hk hk2
  have e1:((k:Int)+1-1).toNat=k:=by omega
  have hgt:T.getD k []=T[k]:=by simp[hk2]
  rw[if_pos ht,ht,e1,hgt]
  simp[s112,hc,he,cut,hj]
 ·have hc:=fun wl lim=>cell_no wl lim h ref i hr ht
  rw[if_neg ht]
  simp[s112,hc,ht]
def putT(T:List (List Int))(ref i x:Int):List (List Int):=if trapOf T ref i=0 then T.set (ref-1).toNat ((T.getD (ref-1).toNat []).set i.toNat x) else T
theorem nodup_ne{l:List Nat}(h:l.Nodup){a b:Nat}(ha:a<l.length)(hb:b<l.length)(e:l[a]=l[b]):a=b:=by
 have hp:=List.pairwise_iff_getElem.1 h
 rcases Nat.lt_trichotomy a b with h1|h1|h1
 ·exact absurd e (hp a b ha hb h1)
 ·exact h1
 ·exact absurd e.symm (hp b a hb ha h1)
theorem Rp.put(h:Rp st p T q v ids){k:Nat}(hk2:k<T.length)(hk:k<ids.length)(r:List Int):Rp (st.set ids[k] (.rows 0 1 (ints r))) p (T.set k r) q v ids:=by
 have hT:T≠[]:=by intro e;subst e;simp at hk2
 have hT2:T.set k r≠[]:=by
  intro e
  have:=congrArg List.length e
  rw[List.length_set]at this
  exact hT (List.eq_nil_of_length_eq_zero this)
 have hp:ids[k]≠p:=fun e=>h.pn (e ▸ List.getElem_mem hk)
 have hq:ids[k]≠q:=fun e=>h.qn hT (e ▸ List.getElem_mem hk)
 have hl:ids[k]<st.length:=(List.getElem?_eq_some_iff.1 (h.el k hk hk2)).1
 refine⟨by simpa using h.len,?_,fun _=>?_,fun m hm hm2=>?_,fun _=>h.pq hT,h.pn,fun _=>h.qn hT,h.nd⟩
 ·rw[if_neg hT2,List.getElem?_set_ne hp];exact h.obj1 hT
 ·rw[List.getElem?_set_ne hq];exact h.lst hT
 ·by_cases e:k=m
  ·subst e
   rw[List.getElem?_set_self hl]
   simp
  ·have:ids[k]≠ids[m]:=fun e2=>e (nodup_ne h.nd hk hm e2)
   rw[List.getElem?_set_ne this]
   have hm3:m<T.length:=by simpa using hm2
   rw[h.el m hm hm3]
   simp[e]
theorem trap_at{ref i:Int}(ht:trapOf T ref i=0):∃k:Nat,∃hk:k<T.length,ref=(k:Int)+1/\∃j:Nat,j<T[k].length/\i=j:=by
 unfold trapOf at ht
 split at ht
 ·rename_i c
  split at ht
  ·rename_i d
   have hk:(ref-1).toNat<T.length:=by omega
   have:T.getD (ref-1).toNat []=T[(ref-1).toNat]:=by simp only[List.getD_eq_getElem?_getD,List.getElem?_eq_getElem hk,Option.getD_some]
   rw[this]at d
   exact⟨(ref-1).toNat,hk,by omega,i.toNat,by omega,by omega⟩
  ·cases ht
 ·cases ht
def Fr(st st':Store)(F:List Nat):Prop:=st.length<=st'.length/\∀i,i<st.length->i ∉ F->st'[i]?=st[i]?
theorem put_ok(_lim:Nat)(h:Rp st p T q v ids)(ref i x:Int)(hr:T.length<1000000000) :
  ∃st',(∀lim,(orcL S).call 0 lim 114 [.ptr p 0 0 0,.int .i64 ref,.int .i64 i,.int .i64 x] st=some (.int .i64 (trapOf T ref i),st'))/\Rp st' p (putT T ref i x) q v ids/\Fr st st' ids/\st'.length=st.length:=by
 by_cases ht:trapOf T ref i=0
 ·obtain⟨k,hk2,rfl,j,hj,rfl⟩:=trap_at ht
  have hk:k<ids.length:=by rw[h.len];exact hk2
  have hc:=fun wl lim=>cell_at wl lim h k j hr hk2 hk hj
  have he:=h.el k hk hk2
  have e1:((k:Int)+1-1).toNat=k:=by omega
  have hgt:T.getD k []=T[k]:=by simp only[List.getD_eq_getElem?_getD,List.getElem?_eq_getElem hk2,Option.getD_some]
  have hs:(ints T[k]).set j [.int .i64 x]=ints (T[k].set j x):=by simp[ints,List.map_set]
  have hlt:ids[k]<st.length:=(List.getElem?_eq_some_iff.1 he).1
  have htk:∀y,List.take st.length (st.set ids[k] y)=st.set ids[k] y:=fun y=>List.take_of_length_le (by simp)
  refine⟨st.set ids[k] (.rows 0 1 (ints (T[k].set j x))),fun lim=>?_,?_,⟨by simp,fun i hi hn=>?_⟩,by simp⟩
  ·refine call_run (sf:=s114) rfl rfl rfl ?_
   rw[ht]
   simp[s114,hc,he,hj,mayWrite,AV.allPure,AV.isPure,paste,hs,htk]
  ·unfold putT
   rw[if_pos ht,e1,hgt]
   exact h.put hk2 hk _
  ·have:ids[k]≠i:=fun e=>hn (e ▸ List.getElem_mem hk)
   exact List.getElem?_set_ne this
 ·have hc:=fun wl lim=>cell_no wl lim h ref i hr ht
  refine⟨st,fun lim=>?_,?_,⟨Nat.le_refl _,fun _ _ _=>rfl⟩,rfl⟩
  ·refine call_run (sf:=s114) rfl rfl rfl ?_
   simp[s114,hc,ht]
  ·unfold putT;rw[if_neg ht];exact h
theorem app_some{i:Nat}{x:AObj}(h:st[i]?=some x)(l:Store):(st++l)[i]?=some x:=by
 rw[List.getElem?_append_left (List.getElem?_eq_some_iff.1 h).1];exact h
theorem app_set{i:Nat}{x:AObj}(h:st[i]?=some x)(l:Store)(y:AObj):(st++l).set i y=st.set i y++l:=List.set_append_left _ _ (List.getElem?_eq_some_iff.1 h).1
theorem a_litM{wl lim a:Nat}{st:Store}{bx:Boxes}:act0 wl lim (.litM 1 1 [.nilSl] [0]) [.val (.mu a 0)] st bx=some (.val (.mu st.length 0),st++[.rows 0 1 [[.mu a 0]]],bx):=rfl
theorem a_app0{lim a b:Nat}{st:Store}{bx:Boxes}(h:st[b]?=some (.rows 0 1 [[.mu a 0]])) :
  act0 0 lim (.appendM 1 24) [.val .nilSl,.val (.mu b 0)] st bx=some (.val (.mu st.length 0),st++[.rows 0 1 [[.mu a 0]]],bx):=by
 simp[act0,appM,bringsOf,rowsOf,h,fits,AV.viewL,AV.view,room]
theorem a_appM{lim a b q v:Nat}{old:List (List AV)}{st:Store}{bx:Boxes}(h:st[b]?=some (.rows 0 1 [[.mu a 0]]))(h2:st[q]?=some (.rows v 1 old))(hr:(old.length+1)*24<=room)(hl:lim<=q) :
  act0 0 lim (.appendM 1 24) [.val (.mu q v),.val (.mu b 0)] st bx=some (.val (.mu q (v+1)),st.set q (.rows (v+1) 1 (old++[[.mu a 0]])),bx):=by
 simp[act0,appM,bringsOf,rowsOf,h,h2,fits,AV.viewL,AV.view,hr,hl]
theorem add_ok(h:Rp st p T q v ids)(n:Nat)(hr:T.length<1000000)(hn:n<=1000000) :
  ∃st' q' v',(∀lim,lim<=p->lim<=q->(orcL S).call 0 lim 146 [.ptr p 0 0 0,.int .i64 n] st=some (.int .i64 ((T.length:Int)+1),st'))/\Rp st' p (T++[List.replicate n 0]) q' v' (ids++[st.length])/\
   Fr st st' [p,q]/\(T≠[]->q'=q)/\(T=[]->st.length<=q'/\q'<st'.length):=by
 by_cases hT:T=[]
 ·subst hT
  have ho:=h.obj0
  have hoA:=fun l=>app_some ho l
  have hsA:=fun l y=>app_set ho l y
  have hpl0:p<st.length:=(List.getElem?_eq_some_iff.1 ho).1
  have hsp:∀x l,(st.set p x++l)[p]?=some x:=fun x l=>by
   rw[List.getElem?_append_left (by simpa using hpl0),List.getElem?_set_self hpl0]
  have hs2:∀x a b c,(st.set p x++[a,b,c])[st.length+2]?=some c:=fun x a b c=>by
   rw[List.getElem?_append_right (by simp)]
   simp
  refine⟨st.set p (.rows 0 1 [[.mu (st.length+2) 0]])++[.rows 0 1 (List.replicate n [.int .i64 0]),.rows 0 1 [[.mu st.length 0]],.rows 0 1 [[.mu st.length 0]]],st.length+2,0,fun lim hl1 hl2=>?_,?_⟩
  ·refine call_run (sf:=s146) rfl rfl rfl ?_
   have hc:(n:Int)*8<=room:=by unfold room;omega
   have hc2:n*8<=room:=by unfold room;omega
   simp[s146]
   rw[W_drawP]
   have g1:(st++[AObj.rows 0 1 (List.replicate n [.int .i64 0]),.rows 0 1 [[.mu st.length 0]]])[st.length+1]?=some (.rows 0 1 [[.mu st.length 0]]):=by simp
   have ga:=fun lim bx=>a_app0 (lim:=lim) (bx:=bx) g1
   simp[evalRec,ho,cut,hl1,hoA,hsA,hc,a_litM,ga,pairOk,readsSame,mayWrite,AV.allPure,AV.isPure,paste,boxOk,SOp.newBox]
   refine⟨_,_,⟨rfl,rfl⟩,?_⟩
   simp[ho,cut,hoA,oneOrAgg,AV.viewL,AV.view,Ent.same,AV.same,hsp]
  ·have hid:ids=[]:=List.eq_nil_of_length_eq_zero h.len
   subst hid
   have hpl:p<st.length:=(List.getElem?_eq_some_iff.1 ho).1
   refine⟨⟨by simp,?_,fun _=>?_,fun k hk hk2=>?_,fun _=>by omega,by simp;omega,fun _=>by simp,by simp⟩,⟨by simp,fun i hi hn=>?_⟩,fun h=>absurd rfl h,fun _=>⟨by omega,by simp⟩⟩
   ·simpa using hsp _ _
   ·simp
   ·have:k=0:=by simpa using hk
    subst this
    simp[ints]
   ·have hne:p≠i:=fun e=>hn (by simp[e])
    rw[List.getElem?_append_left (by simpa using hi),List.getElem?_set_ne hne]
 ·have ho:=h.obj1 hT
  have hl:=h.lst hT
  have hpq:=h.pq hT
  have hoA:=fun l=>app_some ho l
  have hlA:=fun l=>app_some hl l
  have hpl:p<st.length:=(List.getElem?_eq_some_iff.1 ho).1
  have hql:q<st.length:=(List.getElem?_eq_some_iff.1 hl).1
  have hsQ:=fun l y=>app_set hl l y
  have hoQ:∀y,(st.set q y)[p]?=some (.rows 0 1 [[.mu q v]]):=fun y=>by rw[List.getElem?_set_ne hpq.symm];exact ho
  have hoQA:=fun y l=>app_some (hoQ y) l
  have hsP:=fun y l z=>app_set (hoQ y) l z
  have hlen:=h.len
  have hsp:∀y x l,((st.set q y).set p x++l)[p]?=some x:=fun y x l=>by
   rw[List.getElem?_append_left (by simpa using hpl),List.getElem?_set_self (by simpa using hpl)]
  have hsq:∀y x l,((st.set q y).set p x++l)[q]?=some y:=fun y x l=>by
   rw[List.getElem?_append_left (by simpa using hql),List.getElem?_set_ne hpq,List.getElem?_set_self hql]
  refine⟨(st.set q (.rows (v+1) 1 (ids.map (fun i=>[.mu i 0])++[[.mu st.length 0]]))).set p (.rows 0 1 [[.mu q (v+1)]])++[.rows 0 1 (List.replicate n [.int .i64 0]),.rows 0 1 [[.mu st.length 0]]],q,v+1,fun lim hl1 hl2=>?_,?_⟩
  ·refine call_run (sf:=s146) rfl rfl rfl ?_
   have hc:(n:Int)*8<=room:=by unfold room;omega
   have hc2:n*8<=room:=by unfold room;omega
   simp[s146]
   rw[W_drawP]
   have g1:(st++[AObj.rows 0 1 (List.replicate n [.int .i64 0]),.rows 0 1 [[.mu st.length 0]]])[st.length+1]?=some (.rows 0 1 [[.mu st.length 0]]):=by simp
   have ga:=fun bx=>a_appM (lim:=lim) (bx:=bx) g1 (hlA _) (by simp[hlen,room];omega) hl2
   have hw:IntKind.i64.wrap (T.length:Int)=(T.length:Int):=by rw[wrap64]<;>omega
   simp[evalRec,ho,cut,hl1,hsQ,hoQA,hsP,hc,a_litM,ga,pairOk,readsSame,mayWrite,AV.allPure,AV.isPure,paste,boxOk,SOp.newBox]
   refine⟨_,_,⟨rfl,rfl⟩,?_⟩
   simp[ho,cut,hoA,oneOrAgg,AV.viewL,AV.view,Ent.same,AV.same,hsp,hsq,hlen]
  ·refine⟨⟨by simp[hlen],?_,fun _=>?_,fun k hk hk2=>?_,fun _=>hpq,?_,fun _=>?_,?_⟩,⟨by simp,fun i hi hn=>?_⟩,fun _=>rfl,fun e=>absurd e hT⟩
   ·simpa using hsp _ _ _
   ·simpa using hsq _ _ _
   ·by_cases e:k<ids.length
    ·have hk3:k<T.length:=by omega
     have h1:(ids++[st.length])[k]=ids[k]:=List.getElem_append_left e
     have h2:(T++[List.replicate n 0])[k]=T[k]:=List.getElem_append_left hk3
     have hp:p≠ids[k]:=fun e2=>h.pn (e2 ▸ List.getElem_mem e)
     have hq:q≠ids[k]:=fun e2=>h.qn hT (e2 ▸ List.getElem_mem e)
     have hi:=h.el k e hk3
     rw[h1,h2,List.getElem?_append_left (by simpa using (List.getElem?_eq_some_iff.1 hi).1),List.getElem?_set_ne hp,List.getElem?_set_ne hq]
     exact hi
    ·have:k=ids.length:=by simp at hk;omega
     subst this
     simp[ints,hlen]
   ·simp;exact⟨h.pn,by omega⟩
   ·simp;exact⟨h.qn hT,by omega⟩
   ·refine List.nodup_append.2 ⟨h.nd,by simp,fun a ha b hb=>?_⟩
    simp at hb
    subst hb
    intro e
    subst e
    obtain⟨k,hk,e⟩:=List.mem_iff_getElem.1 ha
    have:=(List.getElem?_eq_some_iff.1 (h.el k hk (by omega))).1
    omega
   ·have hne:p≠i:=fun e=>hn (by simp[e])
    have hne2:q≠i:=fun e=>hn (by simp[e])
    rw[List.getElem?_append_left (by simpa using hi),List.getElem?_set_ne hne,List.getElem?_set_ne hne2]
end U10
namespace U10
open Ax Go Code14z
variable {st:Store}{p q v:Nat}{T:List (List Int)}{ids:List Nat}
def clampN(n:Int):Nat:=if n<0 then 0 else if 8<n then 8 else n.toNat
theorem rec_ok(h:Rp st p T q v ids)(n:Int)(hr:T.length<1000000) :
  ∃st' q' v',(∀lim,lim<=p->lim<=q->(orcL S).call 0 lim 116 [.ptr p 0 0 0,.int .i64 n] st=some (.int .i64 ((T.length:Int)+1),st'))/\Rp st' p (T++[List.replicate (clampN n) 0]) q' v' (ids++[st.length])/\
   Fr st st' [p,q]/\(T≠[]->q'=q)/\(T=[]->st.length<=q'/\q'<st'.length):=by
 obtain⟨st',q',v',h1,h2⟩:=add_ok h (clampN n) hr (by unfold clampN;split<;>(try split)<;>omega)
 refine⟨st',q',v',fun lim l1 l2=>?_,h2⟩
 have h3:=h1 lim l1 l2
 refine call_run (sf:=s116) rfl rfl rfl ?_
 unfold clampN at h3
 by_cases n0:n<0
 ·rw[if_pos n0]at h3
  have a:max n 0=0:=by omega
  have h4:(orcL S).call 0 lim 146 [.ptr p 0 0 0,.int .i64 0] st=_:=h3
  simp[s116,n0,h4]
 ·rw[if_neg n0]at h3
  have a:max n 0=n:=by omega
  by_cases n8:8<n
  ·rw[if_pos n8]at h3
   have b:min n 8=8:=by omega
   have h4:(orcL S).call 0 lim 146 [.ptr p 0 0 0,.int .i64 8] st=_:=h3
   simp[s116,n0,n8,h4]
  ·rw[if_neg n8]at h3
   have b:min n 8=n:=by omega
   have e:(n.toNat:Int)=n:=by omega
   rw[e]at h3
   simp[s116,n0,n8,h3]
theorem arr_no(wl lim:Nat)(n:Int)(st:Store)(hn:n<0\/50<n):(orcL S).call wl lim 117 [.ptr p 0 0 0,.int .i64 n] st=some (.tup [.int .i64 0,.int .i64 4],st):=by
 refine call_run (sf:=s117) rfl rfl rfl ?_
 by_cases n0:n<0
 ·simp[s117,n0]
 ·have n1:50<n:=by omega
  simp[s117,n0,n1]
theorem arr_ok(h:Rp st p T q v ids)(n:Nat)(hr:T.length<1000000)(hn:n<=50) :
  ∃st' q' v',(∀lim,lim<=p->lim<=q->(orcL S).call 0 lim 117 [.ptr p 0 0 0,.int .i64 n] st=some (.tup [.int .i64 ((T.length:Int)+1),.int .i64 0],st'))/\Rp st' p (T++[List.replicate n 0]) q' v' (ids++[st.length])/\
   Fr st st' [p,q]/\(T≠[]->q'=q)/\(T=[]->st.length<=q'/\q'<st'.length):=by
 obtain⟨st',q',v',h1,h2⟩:=add_ok h n hr (by omega)
 refine⟨st',q',v',fun lim l1 l2=>?_,h2⟩
 have h3:=h1 lim l1 l2
 refine call_run (sf:=s117) rfl rfl rfl ?_
 have n0:¬((n:Int)<0):=by omega
 have n1:¬((50:Int)<(n:Int)):=by omega
 simp[s117,n0,n1,h3]
theorem new_ok(wl lim:Nat)(st:Store):(orcL S).call wl lim 18 [] st=some (.ptr st.length 0 0 0,st++[.rows 0 1 [[.nilSl]]]):=by
 refine call_run (sf:=s18) rfl rfl rfl ?_
 simp[s18]
end U10
