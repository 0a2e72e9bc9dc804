/- Part of a proof. -/
import Derived.Test.YtpnadocbfbbboaaGreatCode2
import Derived.Test.YtpnadocbfbbboaaGreatA6
import Derived.Test.YtpnadocbfbbboaaGreatD
import Derived.Test.YtpnadocbfbbboaaGreatR

set_option maxRecDepth 100000
set_option maxHeartbeats 4000000
namespace U10
open Ax Go Code11
@[simp] theorem eq_nn:eqK .ptr .nilPtr .nilPtr=some true:=rfl
@[simp] theorem eq_pn {id v i k:Nat}:eqK .ptr (.ptr id v i k) .nilPtr=some false:=rfl
structure Rp (st:Store)(p:Nat)(T:List (List Int))(q v:Nat)(ids:List Nat):Prop where
 len:ids.length=T.length
 obj:st[p]?=some (.rows 0 1 [[if T=[] then .nilSl else .mu q v]])
 lst:T≠[]->st[q]?=some (.rows v 1 (ids.map fun i=>[.mu i 0]))
 el:∀k (h:k<ids.length) (h2:k<T.length),st[ids[k]]?=some (.rows 0 1 (ints T[k]))
 pq:T≠[]->p≠q
 pn:p ∉ ids
 qn:T≠[]->q ∉ ids
 nd:ids.Nodup
variable {st:Store}{p q v:Nat}{T:List (List Int)}{ids:List Nat}
theorem Rp.obj0 (h:Rp st p [] q v ids):st[p]?=some (.rows 0 1 [[.nilSl]]):=h.obj
theorem Rp.obj1 (h:Rp st p T q v ids)(hT:T≠[]):st[p]?=some (.rows 0 1 [[.mu q v]]):=by have:=h.obj;rwa [if_neg hT]at this
def cellsV (T:List (List Int))(ids:List Nat)(ref:Int):AV:=if 1<=ref/\ref<=(T.length:Int) then .tup [.mu (ids.getD (ref-1).toNat 0) 0,.bool true] else .tup [.nilSl,.bool false]
theorem cells_ok (wl lim:Nat)(h:Rp st p T q v ids)(ref:Int)(hr:T.length<1000000000) :
  (orcL S).call wl lim 169 [.ptr p 0 0 0,.int .i64 ref] st=some (cellsV T ids ref,st):=by
 refine call_run (sf:=s169) rfl rfl rfl ?_
 unfold cellsV
 by_cases r0:ref<1
 ·have:¬(1<=ref/\ref<=(T.length:Int)):=by omega
  rw[if_neg this]
  simp[s169,r0]
 by_cases hT:T=[]
 ·subst hT
  have:¬(1<=ref/\ref<=(([]:List (List Int)).length:Int)):=by simp;omega
  rw[if_neg this]
  have h0:0<ref:=by omega
  simp[s169,r0,h.obj0,cut,h0]
 ·have ho:=h.obj1 hT
  have hl:=h.lst hT
  have hlen:=h.len
  by_cases r1:(T.length:Int)<ref
  ·have:¬(1<=ref/\ref<=(T.length:Int)):=by omega
   rw[if_neg this]
   simp[s169,r0,ho,hl,cut,hlen,r1]
  ·obtain⟨k,rfl⟩:∃k:Nat,ref=(k:Int)+1:=⟨(ref-1).toNat,by omega⟩
   have hk:k<ids.length:=by omega
   have hk2:k<T.length:=by omega
   have:1<=(k:Int)+1/\(k:Int)+1<=(T.length:Int):=by omega
   rw[if_pos this]
   have hw:IntKind.i64.wrap (k:Int)=(k:Int):=by rw[wrap64]<;>omega
   have e1:((k:Int)+1-1).toNat=k:=by omega
   have hg:ids[k]?.getD 0=ids[k]:=by simp[hk]
   simp[s169,r0,ho,hl,cut,hlen,r1,hw,hk2]
def trapOf (T:List (List Int))(ref i:Int):Int:=if 1<=ref/\ref<=(T.length:Int) then (if 0<=i/\i<((T.getD (ref-1).toNat []).length:Int) then 0 else 2) else 1
theorem cell_no (wl lim:Nat)(h:Rp st p T q v ids)(ref i:Int)(hr:T.length<1000000000)(ht:trapOf T ref i≠0) :
  (orcL S).call wl lim 156 [.ptr p 0 0 0,.int .i64 ref,.int .i64 i] st=some (.tup [.nilPtr,.int .i64 (trapOf T ref i)],st):=by
 have hc:=fun wl lim=>cells_ok wl lim h ref hr
 refine call_run (sf:=s156) rfl rfl rfl ?_
 unfold cellsV at hc
 unfold trapOf at ht ⊢
 by_cases c:1<=ref/\ref<=(T.length:Int)
 ·simp only[if_pos c]at hc ht ⊢
  obtain⟨k,rfl⟩:∃k:Nat,ref=(k:Int)+1:=⟨(ref-1).toNat,by omega⟩
  have hk2:k<T.length:=by omega
  have hk:k<ids.length:=by rw[h.len];exact hk2
  have e1:((k:Int)+1-1).toNat=k:=by omega
  have he:=h.el k hk hk2
  have hg:ids[k]?.getD 0=ids[k]:=by simp[hk]
  have hgt:T.getD k []=T[k]:=by simp[hk2]
  rw[e1]at hc ht ⊢
  rw[hgt]at ht ⊢
  by_cases i0:i<0
  ·have:¬(0<=i/\i<(T[k].length:Int)):=by omega
   rw[if_neg this]
   simp[s156,hc,i0]
  by_cases i1:(T[k].length:Int)<=i
  ·have:¬(0<=i/\i<(T[k].length:Int)):=by omega
   rw[if_neg this]
   simp[s156,hc,i0,hk,he,i1]
  ·exact absurd (if_pos ⟨by omega,by omega⟩) ht
 ·simp only[if_neg c]at hc ht ⊢
  simp[s156,hc]
theorem cell_at (wl lim:Nat)(h:Rp st p T q v ids)(k j:Nat)(hr:T.length<1000000000)(hk2:k<T.length)(hk:k<ids.length)(hj:j<T[k].length) :
  (orcL S).call wl lim 156 [.ptr p 0 0 0,.int .i64 ((k:Int)+1),.int .i64 j] st=some (.tup [.ptr ids[k] 0 j 0,.int .i64 0],st):=by
 have hc:=fun wl lim=>cells_ok wl lim h ((k:Int)+1) hr
 refine call_run (sf:=s156) rfl rfl rfl ?_
 unfold cellsV at hc
 have c:1<=(k:Int)+1/\(k:Int)+1<=(T.length:Int):=by omega
 simp only[if_pos c]at hc
 have e1:((k:Int)+1-1).toNat=k:=by omega
 have he:=h.el k hk hk2
 have hg:ids.getD k 0=ids[k]:=by simp[hk]
 rw[e1,hg]at hc
 have i1:¬((T[k].length:Int)<=(j:Int)):=by omega
 have j0:¬((j:Int)<0):=by omega
 simp[s156,hc,he,i1,hj,j0]
theorem len_ok (wl lim:Nat)(h:Rp st p T q v ids)(ref:Int)(hr:T.length<1000000000) :
  (orcL S).call wl lim 149 [.ptr p 0 0 0,.int .i64 ref] st=some (if 1<=ref/\ref<=(T.length:Int) then .tup [.int .i64 (T.getD (ref-1).toNat []).length,.int .i64 0] else .tup [.int .i64 0,.int .i64 1],st):=by
 have hc:=fun wl lim=>cells_ok wl lim h ref hr
 refine call_run (sf:=s149) rfl rfl rfl ?_
 unfold cellsV at hc
 by_cases c:1<=ref/\ref<=(T.length:Int)
 ·simp only[if_pos c]at hc ⊢
  obtain⟨k,rfl⟩:∃k:Nat,ref=(k:Int)+1:=⟨(ref-1).toNat,by omega⟩
  have hk2:k<T.length:=by omega
  have hk:k<ids.length:=by rw[h.len];exact hk2
  have e1:((k:Int)+1-1).toNat=k:=by omega
  have he:=h.el k hk hk2
  have hg:ids.getD k 0=ids[k]:=by simp[hk]
  have hgt:T.getD k []=T[k]:=by simp[hk2]
  rw[e1,hg]at hc
  rw[e1,hgt]
  simp[s149,hc,he]
 ·simp only[if_neg c]at hc ⊢
  simp[s149,hc]
theorem load_ok (wl lim:Nat)(h:Rp st p T q v ids)(ref i:Int)(hr:T.length<1000000000) :
  (orcL S).call wl lim 148 [.ptr p 0 0 0,.int .i64 ref,.int .i64 i] st=some (.tup [.int .i64 (if trapOf T ref i=0 then (T.getD (ref-1).toNat []).getD i.toNat 0 else 0),.int .i64 (trapOf T ref i)],st):=by
 refine call_run (sf:=s148) rfl rfl rfl ?_
 by_cases ht:trapOf T ref i=0
 ·obtain⟨k,hk2,rfl,j,hj,rfl⟩:∃k:Nat,∃hk:k<T.length,ref=(k:Int)+1/\∃j:Nat,j<T[k].length/\i=j:=by
   unfold trapOf at ht
   split at ht
   ·rename_i c
    split at ht
    ·rename_i d
     have hk:(ref-1).toNat<T.length:=by omega
     have:T.getD (ref-1).toNat []=T[(ref-1).toNat]:=by simp only[List.getD_eq_getElem?_getD,List.getElem?_eq_getElem hk,Option.getD_some]
     rw[this]at d
     exact⟨(ref-1).toNat,hk,by omega,i.toNat,by omega,by omega⟩
    ·cases ht
   ·cases ht
  have hk:k<ids.length:=by rw[h.len];exact hk2
  have hc:=fun wl lim=>cell_at wl lim h k j hr hk2 hk hj
  have he:=h.el k hk hk2
  have e1:((k:Int)+1-1).toNat=k:=by omega
  have hgt:T.getD k []=T[k]:=by simp[hk2]
  rw[if_pos ht,ht,e1,hgt]
  simp[s148,hc,he,cut,hj]
 ·have hc:=fun wl lim=>cell_no wl lim h ref i hr ht
  rw[if_neg ht]
  simp[s148,hc,ht]
def putT (T:List (List Int))(ref i x:Int):List (List Int):=if trapOf T ref i=0 then T.set (ref-1).toNat ((T.getD (ref-1).toNat []).set i.toNat x) else T
theorem nodup_ne {l:List Nat}(h:l.Nodup){a b:Nat}(ha:a<l.length)(hb:b<l.length)(e:l[a]=l[b]):a=b:=by
 have hp:=List.pairwise_iff_getElem.1 h
 rcases Nat.lt_trichotomy a b with h1|h1|h1
 ·exact absurd e (hp a b ha hb h1)
 ·exact h1
 ·exact absurd e.symm (hp b a hb ha h1)
theorem Rp.put (h:Rp st p T q v ids){k:Nat}(hk2:k<T.length)(hk:k<ids.length)(r:List Int):Rp (st.set ids[k] (.rows 0 1 (ints r))) p (T.set k r) q v ids:=by
 have hT:T≠[]:=by intro e;subst e;simp at hk2
 have hT2:T.set k r≠[]:=by
  intro e
  have:=congrArg List.length e
  rw[List.length_set]at this
  exact hT (List.eq_nil_of_length_eq_zero this)
 have hp:ids[k]≠p:=fun e=>h.pn (e ▸ List.getElem_mem hk)
 have hq:ids[k]≠q:=fun e=>h.qn hT (e ▸ List.getElem_mem hk)
 have hl:ids[k]<st.length:=(List.getElem?_eq_some_iff.1 (h.el k hk hk2)).1
 refine⟨by simpa using h.len,?_,fun _=>?_,fun m hm hm2=>?_,fun _=>h.pq hT,h.pn,fun _=>h.qn hT,h.nd⟩
 ·rw[if_neg hT2,List.getElem?_set_ne hp];exact h.obj1 hT
 ·rw[List.getElem?_set_ne hq];exact h.lst hT
 ·by_cases e:k=m
  ·subst e
   rw[List.getElem?_set_self hl]
   simp
  ·have:ids[k]≠ids[m]:=fun e2=>e (nodup_ne h.nd hk hm e2)
   rw[List.getElem?_set_ne this]
   have hm3:m<T.length:=by simpa using hm2
   rw[h.el m hm hm3]
   simp[e]
theorem trap_at {ref i:Int}(ht:trapOf T ref i=0):∃k:Nat,∃hk:k<T.length,ref=(k:Int)+1/\∃j:Nat,j<T[k].length/\i=j:=by
 unfold trapOf at ht
 split at ht
 ·rename_i c
  split at ht
  ·rename_i d
   have hk:(ref-1).toNat<T.length:=by omega
   have:T.getD (ref-1).toNat []=T[(ref-1).toNat]:=by simp only[List.getD_eq_getElem?_getD,List.getElem?_eq_getElem hk,Option.getD_some]
   rw[this]at d
   exact⟨(ref-1).toNat,hk,by omega,i.toNat,by omega,by omega⟩
  ·cases ht
 ·cases ht
def Fr (st st':Store)(F:List Nat):Prop:=st.length<=st'.length/\∀i,i<st.length->i ∉ F->st'[i]?=st[i]?
theorem put_ok (_lim:Nat)(h:Rp st p T q v ids)(ref i x:Int)(hr:T.length<1000000000) :
  ∃st',(∀lim,(orcL S).call 0 lim 125 [.ptr p 0 0 0,.int .i64 ref,.int .i64 i,.int .i64 x] st=some (.int .i64 (trapOf T ref i),st'))/\Rp st' p (putT T ref i x) q v ids/\Fr st st' ids/\st'.length=st.length:=by
 by_cases ht:trapOf T ref i=0
 ·obtain⟨k,hk2,rfl,j,hj,rfl⟩:=trap_at ht
  have hk:k<ids.length:=by rw[h.len];exact hk2
  have hc:=fun wl lim=>cell_at wl lim h k j hr hk2 hk hj
  have he:=h.el k hk hk2
  have e1:((k:Int)+1-1).toNat=k:=by omega
  have hgt:T.getD k []=T[k]:=by simp only[List.getD_eq_getElem?_getD,List.getElem?_eq_getElem hk2,Option.getD_some]
  have hs:(ints T[k]).set j [.int .i64 x]=ints (T[k].set j x):=by simp[ints,List.map_set]
  have hlt:ids[k]<st.length:=(List.getElem?_eq_some_iff.1 he).1
  have htk:∀y,List.take st.length (st.set ids[k] y)=st.set ids[k] y:=fun y=>List.take_of_length_le (by simp)
  refine⟨st.set ids[k] (.rows 0 1 (ints (T[k].set j x))),fun lim=>?_,?_,⟨by simp,fun i hi hn=>?_⟩,by simp⟩
  ·refine call_run (sf:=s125) rfl rfl rfl ?_
   rw[ht]
   simp[s125,hc,he,hj,mayWrite,AV.allPure,AV.isPure,paste,hs,htk]
  ·unfold putT
   rw[if_pos ht,e1,hgt]
   exact h.put hk2 hk _
  ·have:ids[k]≠i:=fun e=>hn (e ▸ List.getElem_mem hk)
   exact List.getElem?_set_ne this
 ·have hc:=fun wl lim=>cell_no wl lim h ref i hr ht
  refine⟨st,fun lim=>?_,?_,⟨Nat.le_refl _,fun _ _ _=>rfl⟩,rfl⟩
  ·refine call_run (sf:=s125) rfl rfl rfl ?_
   simp[s125,hc,ht]
  ·unfold putT;rw[if_neg ht];exact h
theorem app_some {i:Nat}{x:AObj}(h:st[i]?=some x)(l:Store):(st++l)[i]?=some x:=by
 rw[List.getElem?_append_left (List.getElem?_eq_some_iff.1 h).1];exact h
theorem app_set {i:Nat}{x:AObj}(h:st[i]?=some x)(l:Store)(y:AObj):(st++l).set i y=st.set i y++l:=List.set_append_left _ _ (List.getElem?_eq_some_iff.1 h).1
theorem a_litM {wl lim a:Nat}{st:Store}{bx:Boxes}:act0 wl lim (.litM 1 1 [.nilSl] [0]) [.val (.mu a 0)] st bx=some (.val (.mu st.length 0),st++[.rows 0 1 [[.mu a 0]]],bx):=rfl
theorem a_app0 {lim a b:Nat}{st:Store}{bx:Boxes}(h:st[b]?=some (.rows 0 1 [[.mu a 0]])) :
  act0 0 lim (.appendM 1 24) [.val .nilSl,.val (.mu b 0)] st bx=some (.val (.mu st.length 0),st++[.rows 0 1 [[.mu a 0]]],bx):=by
 simp[act0,appM,bringsOf,rowsOf,h,fits,AV.viewL,AV.view,room]
theorem a_appM {lim a b q v:Nat}{old:List (List AV)}{st:Store}{bx:Boxes}(h:st[b]?=some (.rows 0 1 [[.mu a 0]]))(h2:st[q]?=some (.rows v 1 old))(hr:(old.length+1)*24<=room)(hl:lim<=q) :
  act0 0 lim (.appendM 1 24) [.val (.mu q v),.val (.mu b 0)] st bx=some (.val (.mu q (v+1)),st.set q (.rows (v+1) 1 (old++[[.mu a 0]])),bx):=by
 simp[act0,appM,bringsOf,rowsOf,h,h2,fits,AV.viewL,AV.view,hr,hl]
theorem add_ok (h:Rp st p T q v ids)(n:Nat)(hr:T.length<1000000)(hn:n<=1000000) :
  ∃st' q' v',(∀lim,lim<=p->lim<=q->(orcL S).call 0 lim 170 [.ptr p 0 0 0,.int .i64 n] st=some (.int .i64 ((T.length:Int)+1),st'))/\Rp st' p (T++[List.replicate n 0]) q' v' (ids++[st.length])/\
   Fr st st' [p,q]/\(T≠[]->q'=q)/\(T=[]->st.length<=q'/\q'<st'.length):=by
 by_cases hT:T=[]
 ·subst hT
  have ho:=h.obj0
  have hoA:=fun l=>app_some ho l
  have hsA:=fun l y=>app_set ho l y
  have hpl0:p<st.length:=(List.getElem?_eq_some_iff.1 ho).1
  have hsp:∀x l,(st.set p x++l)[p]?=some x:=fun x l=>by
   rw[List.getElem?_append_left (by simpa using hpl0),List.getElem?_set_self hpl0]
  have hs2:∀x a b c,(st.set p x++[a,b,c])[st.length+2]?=some c:=fun x a b c=>by
   rw[List.getElem?_append_right (by simp)]
   simp
  refine⟨st.set p (.rows 0 1 [[.mu (st.length+2) 0]])++[.rows 0 1 (List.replicate n [.int .i64 0]),.rows 0 1 [[.mu st.length 0]],.rows 0 1 [[.mu st.length 0]]],st.length+2,0,fun lim hl1 hl2=>?_,?_⟩
  ·refine call_run (sf:=s170) rfl rfl rfl ?_
   have hc:(n:Int)*8<=room:=by unfold room;omega
   have hc2:n*8<=room:=by unfold room;omega
   simp[s170]
   rw[W_drawP]
   have g1:(st++[AObj.rows 0 1 (List.replicate n [.int .i64 0]),.rows 0 1 [[.mu st.length 0]]])[st.length+1]?=some (.rows 0 1 [[.mu st.length 0]]):=by simp
   have ga:=fun lim bx=>a_app0 (lim:=lim) (bx:=bx) g1
   simp[evalRec,ho,cut,hl1,hoA,hsA,hc,a_litM,ga,pairOk,readsSame,mayWrite,AV.allPure,AV.isPure,paste,boxOk,SOp.newBox]
   refine⟨_,_,⟨rfl,rfl⟩,?_⟩
   simp[ho,cut,hoA,oneOrAgg,AV.viewL,AV.view,Ent.same,AV.same,hsp]
  ·have hid:ids=[]:=List.eq_nil_of_length_eq_zero h.len
   subst hid
   have hpl:p<st.length:=(List.getElem?_eq_some_iff.1 ho).1
   refine⟨⟨by simp,?_,fun _=>?_,fun k hk hk2=>?_,fun _=>by omega,by simp;omega,fun _=>by simp,by simp⟩,⟨by simp,fun i hi hn=>?_⟩,fun h=>absurd rfl h,fun _=>⟨by omega,by simp⟩⟩
   ·simpa using hsp _ _
   ·simp
   ·have:k=0:=by simpa using hk
    subst this
    simp[ints]
   ·have hne:p≠i:=fun e=>hn (by simp[e])
    rw[List.getElem?_append_left (by simpa using hi),List.getElem?_set_ne hne]
 ·have ho:=h.obj1 hT
  have hl:=h.lst hT
  have hpq:=h.pq hT
  have hoA:=fun l=>app_some ho l
  have hlA:=fun l=>app_some hl l
  have hpl:p<st.length:=(List.getElem?_eq_some_iff.1 ho).1
  have hql:q<st.length:=(List.getElem?_eq_some_iff.1 hl).1
  have hsQ:=fun l y=>app_set hl l y
  have hoQ:∀y,(st.set q y)[p]?=some (.rows 0 1 [[.mu q v]]):=fun y=>by rw[List.getElem?_set_ne hpq.symm];exact ho
  have hoQA:=fun y l=>app_some (hoQ y) l
  have hsP:=fun y l z=>app_set (hoQ y) l z
  have hlen:=h.len
  have hsp:∀y x l,((st.set q y).set p x++l)[p]?=some x:=fun y x l=>by
   rw[List.getElem?_append_left (by simpa using hpl),List.getElem?_set_self (by simpa using hpl)]
  have hsq:∀y x l,((st.set q y).set p x++l)[q]?=some y:=fun y x l=>by
   rw[List.getElem?_append_left (by simpa using hql),List.getElem?_set_ne hpq,List.getElem?_set_self hql]
  refine⟨(st.set q (.rows (v+1) 1 (ids.map (fun i=>[.mu i 0])++[[.mu st.length 0]]))).set p (.rows 0 1 [[.mu q (v+1)]])++[.rows 0 1 (List.replicate n [.int .i64 0]),.rows 0 1 [[.mu st.length 0]]],q,v+1,fun lim hl1 hl2=>?_,?_⟩
  ·refine call_run (sf:=s170) rfl rfl rfl ?_
   have hc:(n:Int)*8<=room:=by unfold room;omega
   have hc2:n*8<=room:=by unfold room;omega
   simp[s170]
   rw[W_drawP]
   have g1:(st++[AObj.rows 0 1 (List.replicate n [.int .i64 0]),.rows 0 1 [[.mu st.length 0]]])[st.length+1]?=some (.rows 0 1 [[.mu st.length 0]]):=by simp
   have ga:=fun bx=>a_appM (lim:=lim) (bx:=bx) g1 (hlA _) (by simp[hlen,room];omega) hl2
   have hw:IntKind.i64.wrap (T.length:Int)=(T.length:Int):=by rw[wrap64]<;>omega
   simp[evalRec,ho,cut,hl1,hsQ,hoQA,hsP,hc,a_litM,ga,pairOk,readsSame,mayWrite,AV.allPure,AV.isPure,paste,boxOk,SOp.newBox]
   refine⟨_,_,⟨rfl,rfl⟩,?_⟩
   simp[ho,cut,hoA,oneOrAgg,AV.viewL,AV.view,Ent.same,AV.same,hsp,hsq,hlen]
  ·refine⟨⟨by simp[hlen],?_,fun _=>?_,fun k hk hk2=>?_,fun _=>hpq,?_,fun _=>?_,?_⟩,⟨by simp,fun i hi hn=>?_⟩,fun _=>rfl,fun e=>absurd e hT⟩
   ·simpa using hsp _ _ _
   ·simpa using hsq _ _ _
   ·by_cases e:k<ids.length
    ·have hk3:k<T.length:=by omega
     have h1:(ids++[st.length])[k]=ids[k]:=List.getElem_append_left e
     have h2:(T++[List.replicate n 0])[k]=T[k]:=List.getElem_append_left hk3
     have hp:p≠ids[k]:=fun e2=>h.pn (e2 ▸ List.getElem_mem e)
     have hq:q≠ids[k]:=fun e2=>h.qn hT (e2 ▸ List.getElem_mem e)
     have hi:=h.el k e hk3
     rw[h1,h2,List.getElem?_append_left (by simpa using (List.getElem?_eq_some_iff.1 hi).1),List.getElem?_set_ne hp,List.getElem?_set_ne hq]
     exact hi
    ·have:k=ids.length:=by simp at hk;omega
     subst this
     simp[ints,hlen]
   ·simp;exact⟨h.pn,by omega⟩
   ·simp;exact⟨h.qn hT,by omega⟩
   ·refine List.nodup_append.2 ⟨h.nd,by simp,fun a ha b hb=>?_⟩
    simp at hb
    subst hb
    intro e
    subst e
    obtain⟨k,hk,e⟩:=List.mem_iff_getElem.1 ha
    have:=(List.getElem?_eq_some_iff.1 (h.el k hk (by omega))).1
    omega
   ·have hne:p≠i:=fun e=>hn (by simp[e])
    have hne2:q≠i:=fun e=>hn (by simp[e])
    rw[List.getElem?_append_left (by simpa using hi),List.getElem?_set_ne hne,List.getElem?_set_ne hne2]
end U10
namespace U10
open Ax Go Code11
variable {st:Store}{p q v:Nat}{T:List (List Int)}{ids:List Nat}
def clampN (n:Int):Nat:=if n<0 then 0 else if 8<n then 8 else n.toNat
theorem rec_ok (h:Rp st p T q v ids)(n:Int)(hr:T.length<1000000) :
  ∃st' q' v',(∀lim,lim<=p->lim<=q->(orcL S).call 0 lim 150 [.ptr p 0 0 0,.int .i64 n] st=some (.int .i64 ((T.length:Int)+1),st'))/\Rp st' p (T++[List.replicate (clampN n) 0]) q' v' (ids++[st.length])/\
   Fr st st' [p,q]/\(T≠[]->q'=q)/\(T=[]->st.length<=q'/\q'<st'.length):=by
 obtain⟨st',q',v',h1,h2⟩:=add_ok h (clampN n) hr (by unfold clampN;split<;>(try split)<;>omega)
 refine⟨st',q',v',fun lim l1 l2=>?_,h2⟩
 have h3:=h1 lim l1 l2
 refine call_run (sf:=s150) rfl rfl rfl ?_
 unfold clampN at h3
 by_cases n0:n<0
 ·rw[if_pos n0]at h3
  have a:max n 0=0:=by omega
  have h4:(orcL S).call 0 lim 170 [.ptr p 0 0 0,.int .i64 0] st=_:=h3
  simp[s150,n0,h4]
 ·rw[if_neg n0]at h3
  have a:max n 0=n:=by omega
  by_cases n8:8<n
  ·rw[if_pos n8]at h3
   have b:min n 8=8:=by omega
   have h4:(orcL S).call 0 lim 170 [.ptr p 0 0 0,.int .i64 8] st=_:=h3
   simp[s150,n0,n8,h4]
  ·rw[if_neg n8]at h3
   have b:min n 8=n:=by omega
   have e:(n.toNat:Int)=n:=by omega
   rw[e]at h3
   simp[s150,n0,n8,h3]
theorem arr_no (wl lim:Nat)(n:Int)(st:Store)(hn:n<0\/50<n):(orcL S).call wl lim 151 [.ptr p 0 0 0,.int .i64 n] st=some (.tup [.int .i64 0,.int .i64 4],st):=by
 refine call_run (sf:=s151) rfl rfl rfl ?_
 by_cases n0:n<0
 ·simp[s151,n0]
 ·have n1:50<n:=by omega
  simp[s151,n0,n1]
theorem arr_ok (h:Rp st p T q v ids)(n:Nat)(hr:T.length<1000000)(hn:n<=50) :
  ∃st' q' v',(∀lim,lim<=p->lim<=q->(orcL S).call 0 lim 151 [.ptr p 0 0 0,.int .i64 n] st=some (.tup [.int .i64 ((T.length:Int)+1),.int .i64 0],st'))/\Rp st' p (T++[List.replicate n 0]) q' v' (ids++[st.length])/\
   Fr st st' [p,q]/\(T≠[]->q'=q)/\(T=[]->st.length<=q'/\q'<st'.length):=by
 obtain⟨st',q',v',h1,h2⟩:=add_ok h n hr (by omega)
 refine⟨st',q',v',fun lim l1 l2=>?_,h2⟩
 have h3:=h1 lim l1 l2
 refine call_run (sf:=s151) rfl rfl rfl ?_
 have n0:¬((n:Int)<0):=by omega
 have n1:¬((50:Int)<(n:Int)):=by omega
 simp[s151,n0,n1,h3]
theorem new_ok (wl lim:Nat)(st:Store):(orcL S).call wl lim 29 [] st=some (.ptr st.length 0 0 0,st++[.rows 0 1 [[.nilSl]]]):=by
 refine call_run (sf:=s29) rfl rfl rfl ?_
 simp[s29]
end U10
namespace E11
open Ax Go Code11 V7 Par Chk Run
inductive Lb|no|p|g|o|st|fr
 deriving DecidableEq
structure Ids where
 p:Nat
 s:Nat
 q:Nat
 v:Nat
 g:Nat
 o:Nat
 ov:Nat
 ids:List Nat
 fl:List (Nat×Nat)
 lab:Nat->Lb
 iv:AV
structure Px where
 H:Hd
 m:Int
 bs:List Bd
 fu:Nat
def rRow (T:Px)(s:Nat)(iv:AV)(g:Nat)(nf:Nat)(e code:Int)(out:AV)(steps:Nat):List AV:=
 [lstV 2 (T.H.shapes.map shRow),fdsV T.H.globals,lstV 6 (T.H.sigs.map Sg.row),.int .i64 T.m,lstV 3 (T.bs.map Bd.row),.ptr s 0 0 0,iv,.int .i64 T.fu,.mu g 0,.int .i64 nf,.int .i64 e,.int .i64 code,out,.int .i64 steps]
def fRow (f:Fm)(b:Nat):List AV:=[.mu b 0,.int .i64 f.res,.bool f.done]
def outV (r:Rs)(I:Ids):AV:=if r.out=[] then .nilSl else .mu I.o I.ov
def FrAt (st:Store):List Fm->List (Nat×Nat)->Prop
 |[],[]=>True
 |f::l,a::b=>st[a.1]?=some (.rows 0 3 [fRow f a.2])/\st[a.2]?=some (.rows 0 1 (ints f.vs))/\FrAt st l b
 |_,_=>False
def idsF (fl:List (Nat×Nat)):List Nat:=fl.flatMap fun a=>[a.1,a.2]
structure Rep (T:Px)(lim:Nat)(L:List Fm)(r:Rs)(I:Ids)(st:Store):Prop where
 P:st[I.p]?=some (.rows 0 14 [rRow T I.s I.iv I.g r.nf r.e r.code (outV r I) r.steps])
 iv:isI I.iv=true/\notOwn I.iv=true/\dI I.iv=r.inp
 S:U10.Rp st I.s r.s I.q I.v I.ids
 G:st[I.g]?=some (.rows 0 1 (ints r.g))
 FR:FrAt st L I.fl
 O:r.out≠[]->st[I.o]?=some (.rows I.ov 1 (ints r.out))
 lp:I.lab I.p=.p
 lg:I.lab I.g=.g
 lo:r.out≠[]->I.lab I.o=.o
 ls:I.lab I.s=.st
 lq:r.s≠[]->I.lab I.q=.st
 li:∀i∈I.ids,I.lab i=.st
 lr:∀i∈idsF I.fl,I.lab i=.fr
 nd:(idsF I.fl).Nodup
 low:∀i,I.lab i≠.no->lim<=i
variable {T:Px}{lim:Nat}{L:List Fm}{r:Rs}{I:Ids}{st st':Store}{f:Fm}
theorem FrAt.keep:∀{l:List Fm}{fl:List (Nat×Nat)},FrAt st l fl->(∀i∈idsF fl,st'[i]?=st[i]?)->FrAt st' l fl
 |[],[],_,_=>trivial
 |f::l,a::b,h,k=>⟨by rw[k a.1 (by simp[idsF])];exact h.1,by rw[k a.2 (by simp[idsF])];exact h.2.1,FrAt.keep h.2.2 fun i hi=>k i (by simp only[idsF,List.flatMap_cons,List.mem_append];exact .inr hi)⟩
 |[],_::_,h,_=>h.elim
 |_::_,[],h,_=>h.elim
theorem lt_of {i:Nat}{o:AObj}(h:st[i]?=some o):i<st.length:=(List.getElem?_eq_some_iff.1 h).1
theorem FrAt.lt:∀{l:List Fm}{fl:List (Nat×Nat)},FrAt st l fl->∀i∈idsF fl,i<st.length
 |[],[],_=>by simp[idsF]
 |_::_,a::b,h=>by
  intro i hi
  simp only[idsF,List.flatMap_cons,List.mem_append]at hi
  rcases hi with hi|hi
  ·simp at hi
   rcases hi with rfl|rfl
   ·exact lt_of h.1
   ·exact lt_of h.2.1
  ·exact FrAt.lt h.2.2 i hi
 |[],_::_,h=>h.elim
 |_::_,[],h=>h.elim
theorem ne_lab {L:Nat->Lb}{a b:Nat}{c d:Lb}(h1:L a=c)(h2:L b=d)(h:c≠d):a≠b:=fun e=>h (by rw[<-h1,<-h2,e])
theorem _root_.U10.Rp.keep {p q v:Nat}{T:List (List Int)}{ids:List Nat}(h:U10.Rp st p T q v ids)(h1:st'[p]?=st[p]?)(h2:T≠[]->st'[q]?=st[q]?)(h3:∀i∈ids,st'[i]?=st[i]?):U10.Rp st' p T q v ids:=
 ⟨h.len,by rw[h1];exact h.obj,fun hT=>by rw[h2 hT];exact h.lst hT,fun k hk hk2=>by rw[h3 _ (List.getElem_mem hk)];exact h.el k hk hk2,h.pq,h.pn,h.qn,h.nd⟩
theorem _root_.U10.Rp.lt {p q v:Nat}{T:List (List Int)}{ids:List Nat}(h:U10.Rp st p T q v ids):p<st.length/\(T≠[]->q<st.length)/\∀i∈ids,i<st.length:=
 ⟨lt_of h.obj,fun hT=>lt_of (h.lst hT),fun i hi=>by
  obtain⟨k,hk,rfl⟩:=List.mem_iff_getElem.1 hi
  exact lt_of (h.el k hk (by rw[<-h.len];exact hk))⟩
structure Lts (I:Ids)(r:Rs)(n:Nat):Prop where
 p:I.p<n
 g:I.g<n
 s:I.s<n
 q:r.s≠[]->I.q<n
 ids:∀i∈I.ids,i<n
 fr:∀i∈idsF I.fl,i<n
 o:r.out≠[]->I.o<n
theorem Rep.lts (h:Rep T lim L r I st):Lts I r st.length:=
 ⟨lt_of h.P,lt_of h.G,h.S.lt.1,h.S.lt.2.1,h.S.lt.2.2,h.FR.lt,fun e=>lt_of (h.O e)⟩
theorem Rep.lim_le (h:Rep T lim L r I st):lim<=I.p:=h.low _ (by rw[h.lp];decide)
theorem Rep.limN (h:Rep T lim L r I st):lim<=st.length:=Nat.le_trans h.lim_le (Nat.le_of_lt h.lts.p)
theorem Rep.keep (h:Rep T lim L r I st)(k:∀i,i<st.length->I.lab i≠.no->st'[i]?=st[i]?):Rep T lim L r I st':=by
 have B:=h.lts
 have kk:∀i,i<st.length->∀b,I.lab i=b->b≠Lb.no->st'[i]?=st[i]?:=fun i hi b hb hn=>k i hi (by rw[hb];exact hn)
 refine⟨?_,h.iv,h.S.keep (kk _ B.s _ h.ls (by decide)) (fun e=>kk _ (B.q e) _ (h.lq e) (by decide)) (fun i hi=>kk i (B.ids i hi) _ (h.li i hi) (by decide)),?_,h.FR.keep fun i hi=>kk i (B.fr i hi) _ (h.lr i hi) (by decide),fun e=>?_,h.lp,h.lg,h.lo,h.ls,h.lq,h.li,h.lr,h.nd,h.low⟩
 ·rw[kk _ B.p _ h.lp (by decide)];exact h.P
 ·rw[kk _ B.g _ h.lg (by decide)];exact h.G
 ·rw[kk _ (B.o e) _ (h.lo e) (by decide)];exact h.O e
theorem Rep.row (h:Rep T lim L r I st)(r':Rs)(iv':AV)(hs:r'.s=r.s)(hg:r'.g=r.g)(ho:r'.out=r.out)(hi:isI iv'=true/\notOwn iv'=true/\dI iv'=r'.inp) :
  Rep T lim L r' { I with iv:=iv' } (st.set I.p (.rows 0 14 [rRow T I.s iv' I.g r'.nf r'.e r'.code (outV r' I) r'.steps])):=by
 have k:∀i,I.lab i≠.p->(st.set I.p (.rows 0 14 [rRow T I.s iv' I.g r'.nf r'.e r'.code (outV r' I) r'.steps]))[i]?=st[i]?:=fun i hi=>
  List.getElem?_set_ne fun e=>hi (by rw[<-e];exact h.lp)
 refine⟨List.getElem?_set_self (lt_of h.P),hi,?_,?_,?_,fun e=>?_,h.lp,h.lg,by rw[ho];exact h.lo,h.ls,by rw[hs];exact h.lq,h.li,h.lr,h.nd,h.low⟩
 ·rw[hs]
  exact h.S.keep (k _ (by rw[h.ls];decide)) (fun e=>k _ (by rw[h.lq e];decide)) (fun i hi=>k i (by rw[h.li i hi];decide))
 ·rw[hg,k _ (by rw[h.lg];decide)];exact h.G
 ·exact h.FR.keep fun i hi=>k i (by rw[h.lr i hi];decide)
 ·have e':r.out≠[]:=by rw[<-ho];exact e
  exact(k I.o (by rw[h.lo e'];decide)).trans (by rw[ho];exact h.O e')
theorem Rep.top (h:Rep T lim (f::L) r I st):∃a b,I.fl=a::b/\st[a.1]?=some (.rows 0 3 [fRow f a.2])/\st[a.2]?=some (.rows 0 1 (ints f.vs))/\FrAt st L b/\a.1≠a.2/\I.lab a.1=.fr/\I.lab a.2=.fr/\
  (∀i∈idsF b,i≠a.1/\i≠a.2):=by
 have h1:=h.FR
 cases hf:I.fl with
 |nil=>rw[hf]at h1;exact h1.elim
 |cons a b=>
  rw[hf]at h1
  have h2:=h.nd
  have h3:=h.lr
  rw[hf]at h2 h3
  simp only[idsF,List.flatMap_cons,List.cons_append,List.nil_append,List.nodup_cons,List.mem_cons,not_or]at h2
  exact⟨a,b,rfl,h1.1,h1.2.1,h1.2.2,h2.1.1,h3 _ (by simp[idsF]),h3 _ (by simp[idsF]),fun i hi=>⟨fun e=>h2.1.2 (e ▸ hi),fun e=>h2.2.1 (e ▸ hi)⟩⟩
theorem Rep.frame (h:Rep T lim (f::L) r I st){f':Fm}{a:Nat×Nat}{b:List (Nat×Nat)}(ha:I.fl=a::b)(k:∀i,i≠a.1->i≠a.2->st'[i]?=st[i]?)
  (h1:st'[a.1]?=some (.rows 0 3 [fRow f' a.2])) (h2:st'[a.2]?=some (.rows 0 1 (ints f'.vs))):Rep T lim (f'::L) r I st':=by
 obtain⟨a',b',ha',g1,g2,g3,g4,g5,g6,g7⟩:=h.top
 rw[ha]at ha';cases ha'
 have k':∀i,I.lab i≠.fr->st'[i]?=st[i]?:=fun i hi=>k i (fun e=>hi (by rw[e];exact g5)) (fun e=>hi (by rw[e];exact g6))
 refine⟨?_,h.iv,h.S.keep (k' _ (by rw[h.ls];decide)) (fun e=>k' _ (by rw[h.lq e];decide)) (fun i hi=>k' i (by rw[h.li i hi];decide)),?_,?_,fun e=>?_,h.lp,h.lg,h.lo,h.ls,h.lq,h.li,h.lr,h.nd,h.low⟩
 ·rw[k' _ (by rw[h.lp];decide)];exact h.P
 ·rw[k' _ (by rw[h.lg];decide)];exact h.G
 ·rw[ha]
  exact⟨h1,h2,g3.keep fun i hi=>k i (g7 i hi).1 (g7 i hi).2⟩
 ·rw[k' _ (by rw[h.lo e];decide)];exact h.O e
theorem Rep.glob (h:Rep T lim L r I st)(g:List Int):Rep T lim L { r with g:=g } I (st.set I.g (.rows 0 1 (ints g))):=by
 have k:∀i,I.lab i≠.g->(st.set I.g (.rows 0 1 (ints g)))[i]?=st[i]?:=fun i hi=>List.getElem?_set_ne fun e=>hi (by rw[<-e];exact h.lg)
 refine⟨?_,h.iv,h.S.keep (k _ (by rw[h.ls];decide)) (fun e=>k _ (by rw[h.lq e];decide)) (fun i hi=>k i (by rw[h.li i hi];decide)),List.getElem?_set_self (lt_of h.G),h.FR.keep fun i hi=>k i (by rw[h.lr i hi];decide),fun e=>?_,h.lp,h.lg,h.lo,h.ls,h.lq,h.li,h.lr,h.nd,h.low⟩
 ·rw[k _ (by rw[h.lp];decide)];exact h.P
 ·rw[k _ (by rw[h.lo e];decide)];exact h.O e
theorem Rep.things (h:Rep T lim L r I st){X:List (List Int)}{q v:Nat}{ids:List Nat}{lab:Nat->Lb}(R:U10.Rp st' I.s X q v ids)(k:∀j,j<st.length->I.lab j≠.st->st'[j]?=st[j]?)
  (hl:∀j,j<st.length->lab j=I.lab j) (lq:X≠[]->lab q=.st) (li:∀j∈ids,lab j=.st) (low:∀j,lab j≠.no->lim<=j) :
  Rep T lim L { r with s:=X } { I with q:=q,v:=v,ids:=ids,lab:=lab } st':=by
 have b:=h.lts
 refine⟨?_,h.iv,R,?_,h.FR.keep fun j hj=>k j (b.fr j hj) (by rw[h.lr j hj];decide),fun e=>?_,(hl _ b.p).trans h.lp,(hl _ b.g).trans h.lg,fun e=>(hl _ (b.o e)).trans (h.lo e),(hl _ b.s).trans h.ls,lq,li,
  fun j hj=>(hl _ (b.fr j hj)).trans (h.lr j hj),h.nd,low⟩
 ·exact(k _ b.p (by rw[h.lp];decide)).trans h.P
 ·exact(k _ b.g (by rw[h.lg];decide)).trans h.G
 ·exact(k _ (b.o e) (by rw[h.lo e];decide)).trans (h.O e)
def q0 (r:Rs)(I:Ids):Nat:=if r.s=[] then I.s else I.q
theorem Rep.S0 (h:Rep T lim L r I st):U10.Rp st I.s r.s (q0 r I) I.v I.ids:=by
 unfold q0
 by_cases e:r.s=[]
 ·rw[if_pos e]
  have:=h.S
  exact⟨this.len,by rw[this.obj,if_pos e,if_pos e],fun c=>absurd e c,this.el,fun c=>absurd e c,this.pn,fun c=>absurd e c,this.nd⟩
 ·rw[if_neg e];exact h.S
theorem Rep.q0_lab (h:Rep T lim L r I st):I.lab (q0 r I)=.st:=by
 unfold q0
 by_cases e:r.s=[]
 ·rw[if_pos e];exact h.ls
 ·rw[if_neg e];exact h.lq e
def I2 (I:Ids)(n q v:Nat):Ids:={ I with q:=q,v:=v,ids:=I.ids++[n],lab:=fun j=>if n<=j then .st else I.lab j }
theorem Rep.alloc (h:Rep T lim L r I st){w:List Int}{q v:Nat}(R:U10.Rp st' I.s (r.s++[w]) q v (I.ids++[st.length]))(fr:U10.Fr st st' [I.s,q0 r I])(h1:r.s≠[]->q=q0 r I)(h2:r.s=[]->st.length<=q) :
  Rep T lim L { r with s:=r.s++[w] } (I2 I st.length q v) st':=by
 have B:=h.lts
 have hle:=h.limN
 refine h.things R (fun j hj hn=>fr.2 j hj fun hm=>?_) (fun j hj=>if_neg (by omega)) (fun _=>?_) (fun j hj=>?_) (fun j hj=>?_)
 ·simp only[List.mem_cons,List.not_mem_nil,or_false]at hm
  rcases hm with rfl|rfl
  ·exact hn h.ls
  ·exact hn h.q0_lab
 ·show (if st.length<=q then Lb.st else I.lab q)=.st
  by_cases e:r.s=[]
  ·rw[if_pos (h2 e)]
  ·have:=h1 e
   split
   ·rfl
   ·rw[this];exact h.q0_lab
 ·show (if st.length<=j then Lb.st else I.lab j)=.st
  rcases List.mem_append.1 hj with hj|hj
  ·rw[if_neg (by have:=B.ids j hj;omega)];exact h.li j hj
  ·simp at hj;subst hj;exact if_pos (Nat.le_refl _)
 ·by_cases q:st.length<=j
  ·omega
  ·rw[if_neg q]at hj;exact h.low j hj
theorem Rep.push (h:Rep T lim L r I st){a b:Nat}{g:Fm}(k:∀j,j<st.length->st'[j]?=st[j]?)
  (ha:st.length<=a) (hb:st.length<=b) (hab:a≠b) (h1:st'[b]?=some (.rows 0 3 [fRow g a])) (h2:st'[a]?=some (.rows 0 1 (ints g.vs))) :
  Rep T lim (g::L) r { I with fl:=(b,a)::I.fl,lab:=fun j=>if j=a\/j=b then .fr else I.lab j } st':=by
 have B:=h.lts
 have lb:∀j,j<st.length->(if j=a\/j=b then Lb.fr else I.lab j)=I.lab j:=fun j hj=>if_neg (by omega)
 have hle:=h.limN
 have h':=h.keep fun i hi _=>k i hi
 refine⟨h'.P,h.iv,h'.S,h'.G,⟨h1,h2,h'.FR⟩,h'.O,(lb _ B.p).trans h.lp,(lb _ B.g).trans h.lg,fun e=>(lb _ (B.o e)).trans (h.lo e),(lb _ B.s).trans h.ls,
  fun e=>(lb _ (B.q e)).trans (h.lq e),fun j hj=>(lb _ (B.ids j hj)).trans (h.li j hj),fun j hj=>?_,?_,fun j hj=>?_⟩
 ·simp only[idsF,List.flatMap_cons,List.cons_append,List.nil_append,List.mem_cons]at hj
  rcases hj with rfl|rfl|hj
  ·simp
  ·simp
  ·exact(lb _ (B.fr j hj)).trans (h.lr j hj)
 ·simp only[idsF,List.flatMap_cons,List.cons_append,List.nil_append,List.nodup_cons,List.mem_cons,not_or]
  exact⟨⟨fun q=>hab q.symm,fun q=>by have:=B.fr b q;omega⟩,fun q=>by have:=B.fr a q;omega,h.nd⟩
 ·simp only at hj
  by_cases q:j=a\/j=b
  ·omega
  ·rw[if_neg q]at hj;exact h.low j hj
theorem Rep.pop (h:Rep T lim (f::L) r I st){c:Nat×Nat}{fl:List (Nat×Nat)}(hc:I.fl=c::fl):Rep T lim L r { I with fl:=fl } st:=by
 have hs:∀j∈idsF fl,j∈idsF I.fl:=fun j hj=>by rw[hc];simp only[idsF,List.flatMap_cons,List.mem_append];exact .inr hj
 have hFR:=h.FR
 have hnd:=h.nd
 rw[hc]at hFR hnd
 simp only[idsF,List.flatMap_cons,List.cons_append,List.nil_append,List.nodup_cons]at hnd
 exact⟨h.P,h.iv,h.S,h.G,hFR.2.2,h.O,h.lp,h.lg,h.lo,h.ls,h.lq,h.li,fun j hj=>h.lr j (hs j hj),hnd.2.2,h.low⟩
theorem Rep.printed (h:Rep T lim L r I st){o ov:Nat}{out:List Int}(hne:out≠[])(hlo:(r.out≠[]/\o=I.o)\/st.length<=o)(k:∀j,j<st.length->j≠I.p->(r.out≠[]->j≠I.o)->st'[j]?=st[j]?)
  (hp:st'[I.p]?=some (.rows 0 14 [rRow T I.s I.iv I.g r.nf r.e r.code (.mu o ov) r.steps])) (ho:st'[o]?=some (.rows ov 1 (ints out))) :
  Rep T lim L { r with out:=out } { I with o:=o,ov:=ov,lab:=fun j=>if j=o then .o else I.lab j } st':=by
 have B:=h.lts
 have lb:∀j,j<st.length->(r.out≠[]->I.lab j≠.o)->(if j=o then Lb.o else I.lab j)=I.lab j:=fun j hj hn=>by
  by_cases q:j=o
  ·rcases hlo with⟨c,d⟩|d
   ·exact absurd (by rw[q,d];exact h.lo c) (hn c)
   ·omega
  ·exact if_neg q
 have k2:∀j,j<st.length->I.lab j≠.p->I.lab j≠.o->st'[j]?=st[j]?:=fun j hj n1 n2=>k j hj (fun q=>n1 (by rw[q];exact h.lp)) (fun c q=>n2 (by rw[q];exact h.lo c))
 have hle:=h.limN
 refine⟨?_,h.iv,h.S.keep (k2 _ B.s (by rw[h.ls];decide) (by rw[h.ls];decide)) (fun e=>k2 _ (B.q e) (by rw[h.lq e];decide) (by rw[h.lq e];decide)) (fun i hi=>k2 i (B.ids i hi) (by rw[h.li i hi];decide) (by rw[h.li i hi];decide)),?_,
  h.FR.keep fun i hi=>k2 i (B.fr i hi) (by rw[h.lr i hi];decide) (by rw[h.lr i hi];decide),fun _=>ho,(lb _ B.p fun _=>by rw[h.lp];decide).trans h.lp,(lb _ B.g fun _=>by rw[h.lg];decide).trans h.lg,fun _=>if_pos rfl,
  (lb _ B.s fun _=>by rw[h.ls];decide).trans h.ls,fun e=>(lb _ (B.q e) fun _=>by rw[h.lq e];decide).trans (h.lq e),fun j hj=>(lb _ (B.ids j hj) fun _=>by rw[h.li j hj];decide).trans (h.li j hj),
  fun j hj=>(lb _ (B.fr j hj) fun _=>by rw[h.lr j hj];decide).trans (h.lr j hj),h.nd,fun j hj=>?_⟩
 ·unfold outV;rw[if_neg hne];exact hp
 ·exact(k2 _ B.g (by rw[h.lg];decide) (by rw[h.lg];decide)).trans h.G
 ·simp only at hj
  by_cases q:j=o
  ·rcases hlo with⟨c,d⟩|d
   ·rw[q,d];exact h.low _ (by rw[h.lo c];decide)
   ·omega
  ·rw[if_neg q]at hj;exact h.low j hj
end E11
namespace E11
open Ax Go Code11 V7 Par Chk Run
variable {T:Px}{lim:Nat}{L:List Fm}{r:Rs}{I:Ids}{st st':Store}{f:Fm}
theorem ended_ok (wl li:Nat)(h:Rep T lim L r I st):(orcL S).call wl li 31 [.ptr I.p 0 0 0] st=some (.bool (decide (r.e≠0)),st):=by
 have hP:=h.P
 refine call_run (sf:=s31) rfl rfl rfl ?_
 simp[s31,hP,rRow,cut]
theorem trap_ok (h:Rep T lim L r I st)(c:Int) :
  ∃st',st'.length=st.length/\(∀li,(orcL S).call 0 li 48 [.ptr I.p 0 0 0,.int .i64 c] st=some (.tup [],st'))/\Rep T lim L (trapR r c) I st':=by
 have en:=fun wl li=>ended_ok wl li h
 by_cases c0:c=0
 ·subst c0
  refine⟨st,rfl,fun li=>?_,by simpa [trapR] using h⟩
  refine call_run (sf:=s48) rfl rfl rfl ?_
  simp[s48]
 by_cases e0:r.e=0
 ·have hP:=h.P
  have hlt:=lt_of hP
  have et:trapR r c={ r with e:=2,code:=c }:=by unfold trapR;rw[if_pos ⟨c0,e0⟩]
  have hr:=h.row { r with e:=2,code:=c } I.iv rfl rfl rfl h.iv
  rw[et]
  refine⟨_,?_,fun li=>?_,hr⟩
  ·simp
  ·refine call_run (sf:=s48) rfl rfl rfl ?_
   have htk:∀y,List.take st.length (st.set I.p y)=st.set I.p y:=fun y=>List.take_of_length_le (by simp)
   have hss:∀y z,(st.set I.p y).set I.p z=st.set I.p z:=fun y z=>List.set_set ..
   have hgs:∀y,(st.set I.p y)[I.p]?=some y:=fun y=>List.getElem?_set_self hlt
   simp[s48,en,c0,e0,hP,rRow,outV,mayWrite,AV.allPure,AV.isPure,paste,htk,hss,hgs]
 ·refine⟨st,rfl,fun li=>?_,by unfold trapR;rw[if_neg fun q=>e0 q.2];exact h⟩
  refine call_run (sf:=s48) rfl rfl rfl ?_
  simp[s48,en,c0,e0]
theorem step_ok (h:Rep T lim L r I st)(hfu:T.fu<1000000000)(C:Cx)(hC:C.fuel=T.fu) :
  ∃st',st'.length=st.length/\(∀li,(orcL S).call 0 li 98 [.ptr I.p 0 0 0] st=some (.bool (okR C r),st'))/\Rep T lim L (if okR C r=true then tick r else stop r) I st':=by
 have en:=fun wl li=>ended_ok wl li h
 have hP:=h.P
 have hlt:=lt_of hP
 have htk:∀y,List.take st.length (st.set I.p y)=st.set I.p y:=fun y=>List.take_of_length_le (by simp)
 have hss:∀y z,(st.set I.p y).set I.p z=st.set I.p z:=fun y z=>List.set_set ..
 have hgs:∀y,(st.set I.p y)[I.p]?=some y:=fun y=>List.getElem?_set_self hlt
 by_cases e0:r.e=0
 ·by_cases hs:r.steps<T.fu
  ·have ho:okR C r=true:=by simp[okR,e0,hC,hs]
   have hr:=h.row (tick r) I.iv rfl rfl rfl h.iv
   rw[ho,if_pos rfl]
   have hw:IntKind.i64.wrap ((r.steps:Int)+1)=((r.steps+1:Nat):Int):=by rw[wrap64]<;>omega
   have hn:¬(T.fu:Int)<=(r.steps:Int):=by omega
   refine⟨_,?_,fun li=>?_,hr⟩
   ·simp
   ·refine call_run (sf:=s98) rfl rfl rfl ?_
    simp[s98,en,e0,hP,rRow,cut,hn,hw,tick,outV,mayWrite,AV.allPure,AV.isPure,paste,htk,W_draw0,noBoxes]
  ·have ho:okR C r=false:=by simp[okR,e0,hC,hs]
   have es:stop r={ r with e:=3 }:=by unfold stop;rw[if_pos e0]
   have hr:=h.row { r with e:=3 } I.iv rfl rfl rfl h.iv
   rw[ho,if_neg (by simp),es]
   have hn:(T.fu:Int)<=(r.steps:Int):=by omega
   refine⟨_,?_,fun li=>?_,hr⟩
   ·simp
   ·refine call_run (sf:=s98) rfl rfl rfl ?_
    simp[s98,en,e0,hP,rRow,cut,hn,outV,mayWrite,AV.allPure,AV.isPure,paste,htk,W_draw0,noBoxes]
 ·have ho:okR C r=false:=by simp[okR,e0]
  have es:stop r=r:=by unfold stop;rw[if_neg e0]
  rw[ho,if_neg (by simp),es]
  refine⟨st,rfl,fun li=>?_,h⟩
  refine call_run (sf:=s98) rfl rfl rfl ?_
  simp[s98,en,e0]
theorem got_ok (h:Rep T lim L r I st)(v c:Int) :
  ∃st',st'.length=st.length/\(∀li,(orcL S).call 0 li 147 [.ptr I.p 0 0 0,.int .i64 v,.int .i64 c] st=some (.int .i64 v,st'))/\Rep T lim L (trapR r c) I st':=by
 obtain⟨s1,l1,t1,r1⟩:=trap_ok h c
 have htk:List.take st.length s1=s1:=List.take_of_length_le (by omega)
 refine⟨s1,l1,fun li=>?_,r1⟩
 refine call_run (sf:=s147) rfl rfl rfl ?_
 simp[s147,t1,htk]
theorem notOwn_sub {v:AV}(h:notOwn v=true)(a b:Nat):notOwn (subV v a b)=true:=by cases v<;>simp_all [notOwn,subV]
theorem read_ok (h:Rep T lim L r I st) :
  ∃st' I',st'.length=st.length/\(∀li,(orcL S).call 0 li 152 [.ptr I.p 0 0 0] st=some (.int .i64 (readR r).1,st'))/\I'.p=I.p/\I'.fl=I.fl/\Rep T lim L (readR r).2 I' st':=by
 have hP:=h.P
 obtain⟨g1,g2,g3⟩:=h.iv
 have gs:=isSl_I g1
 have gv:=view_notOwn g2 gs
 have gr:=rowsL_I g1
 have gz:=isSz_I g1
 have hlt:=lt_of hP
 have htk:∀y,List.take st.length (st.set I.p y)=st.set I.p y:=fun y=>List.take_of_length_le (by simp)
 cases hi:r.inp with
 |nil=>
  obtain⟨s1,l1,t1,r1⟩:=trap_ok h 5
  have htk1:List.take st.length s1=s1:=List.take_of_length_le (by omega)
  have er:readR r=(0,trapR r 5):=by unfold readR;rw[hi]
  rw[er]
  rw[hi]at g3
  refine⟨s1,I,l1,fun li=>?_,rfl,rfl,r1⟩
  refine call_run (sf:=s152) rfl rfl rfl ?_
  simp[s152,hP,rRow,cut,gs,gv,gr,g3,t1,htk1]
 |cons n l=>
  have er:readR r=(n,{ r with inp:=l }):=by unfold readR;rw[hi]
  rw[er]
  rw[hi]at g3
  have hsub:isI (subV I.iv 1 (l.length+1))=true/\notOwn (subV I.iv 1 (l.length+1))=true/\dI (subV I.iv 1 (l.length+1))=l:=by
   refine⟨isI_sub g1,notOwn_sub g2 _ _,?_⟩
   rw[dI_sub g1,g3]
   simp
  have hr:=h.row { r with inp:=l } (subV I.iv 1 (l.length+1)) rfl rfl rfl hsub
  have vs:=view_notOwn hsub.2.1 (isSl_I hsub.1)
  have ps:=pure_sl (isSl_I hsub.1)
  refine⟨st.set I.p (.rows 0 14 [rRow T I.s (subV I.iv 1 (l.length+1)) I.g r.nf r.e r.code (outV r I) r.steps]),{ I with iv:=subV I.iv 1 (l.length+1) },?_,fun li=>?_,rfl,rfl,hr⟩
  ·simp
  ·refine call_run (sf:=s152) rfl rfl rfl ?_
   have hne:¬(l.length:Int)+1=0:=by omega
   have h1:(1:Int)<=(l.length:Int)+1:=by omega
   simp[s152,hP,rRow,cut,gs,gv,gr,gz,g3,hne,h1,outV,mayWrite,AV.allPure,AV.isPure,paste,htk]
theorem var_g (wl li:Nat)(h:Rep T lim L r I st)(v:AV){k:Nat}(hk:k<r.g.length)(hb:r.g.length<1000000) :
  (orcL S).call wl li 101 [.ptr I.p 0 0 0,v,.int .i64 (-1-(k:Int))] st=some (.ptr I.g 0 k 0,st):=by
 have hP:=h.P
 have hG:=h.G
 have hn : -1-(k:Int)<0:=by omega
 have hw1:IntKind.i64.wrap (-1-(-1-(k:Int)))=(k:Int):=by rw[wrap64]<;>omega
 refine call_run (sf:=s101) rfl rfl rfl ?_
 simp[s101,hP,hG,rRow,cut,hn,hw1,hk]
theorem var_v (wl li:Nat)(h:Rep T lim (f::L) r I st){a:Nat×Nat}{b:List (Nat×Nat)}(ha:I.fl=a::b){k:Nat}(hk:k<f.vs.length) :
  (orcL S).call wl li 101 [.ptr I.p 0 0 0,.ptr a.1 0 0 0,.int .i64 (k:Int)] st=some (.ptr a.2 0 k 0,st):=by
 obtain⟨a',b',ha',h1,h2,_⟩:=h.top
 rw[ha]at ha';cases ha'
 have hn:¬(k:Int)<0:=by omega
 refine call_run (sf:=s101) rfl rfl rfl ?_
 simp[s101,h1,h2,fRow,cut,hn,hk]
theorem flag_ok (wl li:Nat)(b:Bool)(st:Store):(orcL S).call wl li 171 [.bool b] st=some (.int .i64 (flagI b),st):=by
 refine call_pure (sf:=s171) rfl rfl rfl rfl rfl ?_
 cases b<;>simp[s171,flagI]
theorem bin_ok (wl li:Nat)(op a b:Int)(st:Store):(orcL S).call wl li 154 [.int .i64 op,.int .i64 a,.int .i64 b] st=some (.tup [.int .i64 (binI op a b).1,.int .i64 (binI op a b).2],st):=by
 have hf:=fun wl li b st=>flag_ok wl li b st
 refine call_pure (sf:=s154) rfl rfl rfl rfl rfl ?_
 unfold binI
 by_cases h14:op=14
 ·subst h14;simp[s154]
 by_cases h15:op=15
 ·subst h15;simp[s154]
 by_cases h16:op=16
 ·subst h16;simp[s154]
 by_cases h17:op=17
 ·subst h17
  by_cases b0:b=0
  ·subst b0;simp[s154]
  ·simp[s154,b0]
 by_cases h18:op=18
 ·subst h18
  by_cases b0:b=0
  ·subst b0;simp[s154]
  ·simp[s154,b0]
 by_cases h19:op=19
 ·subst h19;simp[s154,hf]
 by_cases h20:op=20
 ·subst h20;simp[s154,hf]
 by_cases h21:op=21
 ·subst h21;simp[s154,hf]
 by_cases h22:op=22
 ·subst h22;simp[s154,hf]
 by_cases h23:op=23
 ·subst h23
  by_cases a0:a=0
  ·subst a0;simp[s154,hf]
  ·by_cases b0:b=0
   ·subst b0;simp[s154,hf,a0]
   ·simp[s154,hf,a0,b0]
 by_cases h24:op=24
 ·subst h24
  by_cases a0:a=0
  ·subst a0
   by_cases b0:b=0
   ·subst b0;simp[s154,hf]
   ·simp[s154,hf,b0]
  ·simp[s154,hf,a0]
 simp[s154,h14,h15,h16,h17,h18,h19,h20,h21,h22,h23,h24]
theorem un_ok (wl li:Nat)(op a:Int)(st:Store):(orcL S).call wl li 153 [.int .i64 op,.int .i64 a] st=some (.int .i64 (unI op a),st):=by
 have hf:=fun wl li b st=>flag_ok wl li b st
 refine call_pure (sf:=s153) rfl rfl rfl rfl rfl ?_
 unfold unI
 by_cases h12:op=12
 ·subst h12;simp[s153]
 by_cases h13:op=13
 ·subst h13;simp[s153,hf]
 simp[s153,h12,h13]
theorem load_eq (X:List (List Int))(r j:Int):loadS X r j=(if U10.trapOf X r j=0 then (X.getD (r-1).toNat []).getD j.toNat 0 else 0,U10.trapOf X r j):=by
 unfold loadS
 have:trapS X r j=U10.trapOf X r j:=rfl
 rw[this]
 split
 ·rename_i h;rw[h]
 ·rfl
theorem ld_ok (wl li:Nat)(h:Rep T lim L r I st)(hs:r.s.length<1000000)(a j:Int) :
  (orcL S).call wl li 148 [.ptr I.s 0 0 0,.int .i64 a,.int .i64 j] st=some (.tup [.int .i64 (loadS r.s a j).1,.int .i64 (loadS r.s a j).2],st):=by
 rw[load_eq]
 exact U10.load_ok wl li h.S a j (by omega)
theorem len_ok (wl li:Nat)(h:Rep T lim L r I st)(hs:r.s.length<1000000)(a:Int) :
  (orcL S).call wl li 149 [.ptr I.s 0 0 0,.int .i64 a] st=some (.tup [.int .i64 (lenS r.s a).1,.int .i64 (lenS r.s a).2],st):=by
 rw[U10.len_ok wl li h.S a (by omega)]
 unfold lenS
 split<;>rfl
theorem pt_ok (h:Rep T lim L r I st)(hs:r.s.length<1000000)(a j v:Int) :
  ∃st',st'.length=st.length/\(∀li,(orcL S).call 0 li 125 [.ptr I.s 0 0 0,.int .i64 a,.int .i64 j,.int .i64 v] st=some (.int .i64 (trapS r.s a j),st'))/\Rep T lim L { r with s:=putS r.s a j v } I st':=by
 obtain⟨s1,t1,r1,f1,l1⟩:=U10.put_ok 0 h.S a j v (by omega)
 have e1:∀X:List (List Int),X.length=r.s.length->(X≠[]↔r.s≠[]):=fun X hX=>by
  constructor
  ·intro a b;rw[b]at hX;exact a (List.eq_nil_of_length_eq_zero hX)
  ·intro a b;rw[b]at hX;exact a (List.eq_nil_of_length_eq_zero hX.symm)
 have hp:U10.putT r.s a j v=putS r.s a j v:=rfl
 refine⟨s1,l1,t1,?_⟩
 rw[hp]at r1
 exact h.things (st':=s1) r1 (fun k hk hne=>f1.2 k hk fun hm=>hne (h.li k hm)) (fun _ _=>rfl) (fun e=>h.lq ((e1 _ put_len).1 e)) h.li h.low
theorem rec_ok (h:Rep T lim L r I st)(hs:r.s.length<1000000)(n:Int) :
  ∃st' I',st.length<=st'.length/\(∀li,li<=lim->(orcL S).call 0 li 150 [.ptr I.s 0 0 0,.int .i64 n] st=some (.int .i64 (newR r (clampN n)).1,st'))/\I'.p=I.p/\I'.fl=I.fl/\Rep T lim L (newR r (clampN n)).2 I' st':=by
 obtain⟨s1,q1,v1,t1,r1,f1,a1,a2⟩:=U10.rec_ok h.S0 n hs
 have hlp:=h.low _ (show I.lab I.s≠.no by rw[h.ls];decide)
 have hlq:=h.low _ (show I.lab (q0 r I)≠.no by rw[h.q0_lab];decide)
 exact⟨s1,I2 I st.length q1 v1,f1.1,fun li hli=>t1 li (by omega) (by omega),rfl,rfl,h.alloc r1 f1 a1 (fun e=>(a2 e).1)⟩
theorem arr_ok (h:Rep T lim L r I st)(hs:r.s.length<1000000)(n:Int) :
  ∃st' I' v c,st.length<=st'.length/\(∀li,li<=lim->(orcL S).call 0 li 151 [.ptr I.s 0 0 0,.int .i64 n] st=some (.tup [.int .i64 v,.int .i64 c],st'))/\I'.p=I.p/\I'.fl=I.fl/\
   ((c=4/\v=0/\(n<0\/50<n)/\Rep T lim L r I' st')\/(c=0/\¬(n<0\/50<n)/\v=(newR r n.toNat).1/\Rep T lim L (newR r n.toNat).2 I' st')):=by
 by_cases hn:n<0\/50<n
 ·exact⟨st,I,0,4,Nat.le_refl _,fun li _=>U10.arr_no 0 li n st hn,rfl,rfl,.inl ⟨rfl,rfl,hn,h⟩⟩
 ·obtain⟨k,rfl⟩:∃k:Nat,n=k:=⟨n.toNat,by omega⟩
  obtain⟨s1,q1,w1,t1,r1,f1,a1,a2⟩:=U10.arr_ok h.S0 k hs (by omega)
  have hlp:=h.low _ (show I.lab I.s≠.no by rw[h.ls];decide)
  have hlq:=h.low _ (show I.lab (q0 r I)≠.no by rw[h.q0_lab];decide)
  exact⟨s1,I2 I st.length q1 w1,_,_,f1.1,fun li hli=>t1 li (by omega) (by omega),rfl,rfl,.inr ⟨rfl,hn,rfl,h.alloc r1 f1 a1 (fun e=>(a2 e).1)⟩⟩
end E11
