/- Part of a proof. -/
import Derived.Test.YtpnadocbfbbboaaGreatCode2
import Derived.Test.YtpnadocbfbbboaaGreatA6

set_option maxRecDepth 100000
set_option maxHeartbeats 1000000
namespace Df
open Ax Go bX
@[simp]theorem ao2:Ga .ptr .cY .cY=some true:=rfl
@[simp]theorem ao3{id v i k:Nat}:Ga .ptr (.ptr id v i k) .cY=some false:=rfl
structure Rp (st:ai)(p:Nat)(T:List (List Int))(q v:Nat)(gX:List Nat):Prop where
 len:gX.length=T.length
 bC:st[p]?=some (.rows 0 1 [[if T=[] then .U else .mu q v]])
 dc:T≠[]->st[q]?=some (.rows v 1 (gX.map λi=>[.mu i 0]))
 el:∀k (h:k<gX.length) (h2:k<T.length),st[gX[k]]?=some (.rows 0 1 (bp T[k]))
 pq:T≠[]->p≠q
 pn:p ∉ gX
 qn:T≠[]->q ∉ gX
 nd:gX.Nodup
variable {st:ai}{p q v:Nat}{T:List (List Int)}{gX:List Nat}
theorem Rp.aip(h:Rp st p [] q v gX):st[p]?=some (.rows 0 1 [[.U]]):=h.bC
theorem Rp.ad0(h:Rp st p T q v gX)(hT:T≠[]):st[p]?=some (.rows 0 1 [[.mu q v]]):=by have:=h.bC;rwa [if_neg hT]at this
def E3(T:List (List Int))(gX:List Nat)(ref:Int):AV:=if 1<=ref/\ref<=(T.length:Int) then .fF [.mu (gX.getD (ref-1).toNat 0) 0,.bool true] else .fF [.U,.bool false]
theorem E4(wl J:Nat)(h:Rp st p T q v gX)(ref:Int)(hr:T.length<1000000000) :
  (aT S).call wl J 169 [.ptr p 0 0 0,.int .i64 ref] st=some (E3 T gX ref,st):=by
 refine an (sf:=Q0) rfl rfl rfl ?_;unfold E3;by_cases r0:ref<1;have:¬(1<=ref/\ref<=(T.length:Int)):=by omega
 rw[if_neg this];simp[Q0,r0];by_cases hT:T=[];subst hT;have:¬(1<=ref/\ref<=(([]:List (List Int)).length:Int)):=by simp;omega
 rw[if_neg this];have h0:0<ref:=by omega
 simp[Q0,r0,h.aip,cut,h0];have ho:=h.ad0 hT;have hl:=h.dc hT;have hlen:=h.len;by_cases r1:(T.length:Int)<ref;have:¬(1<=ref/\ref<=(T.length:Int)):=by omega
 rw[if_neg this];simp[Q0,r0,ho,hl,cut,hlen,r1];obtain⟨k,rfl⟩:∃k:Nat,ref=(k:Int)+1:=⟨(ref-1).toNat,by omega⟩;have hk:k<gX.length:=by omega
 have se:k<T.length:=by omega
 have:1<=(k:Int)+1/\(k:Int)+1<=(T.length:Int):=by omega
 rw[if_pos this];have hw:IntKind.i64.wrap (k:Int)=(k:Int):=by rw[dn]<;>omega
 have e1:((k:Int)+1-1).toNat=k:=by omega
 have hg:gX[k]?.getD 0=gX[k]:=by simp[hk]
 simp[Q0,r0,ho,hl,cut,hlen,r1,hw,se]
def m9(T:List (List Int))(ref i:Int):Int:=if 1<=ref/\ref<=(T.length:Int) then (if 0<=i/\i<((T.getD (ref-1).toNat []).length:Int) then 0 else 2) else 1
theorem Pk(wl J:Nat)(h:Rp st p T q v gX)(ref i:Int)(hr:T.length<1000000000)(ht:m9 T ref i≠0) :
  (aT S).call wl J 156 [.ptr p 0 0 0,.int .i64 ref,.int .i64 i] st=some (.fF [.cY,.int .i64 (m9 T ref i)],st):=by
 have hc:=λwl J=>E4 wl J h ref hr;refine an (sf:=Ng) rfl rfl rfl ?_;unfold E3 at hc;unfold m9 at ht ⊢;by_cases c:1<=ref/\ref<=(T.length:Int);simp only[if_pos c]at hc ht ⊢;obtain⟨k,rfl⟩:∃k:Nat,ref=(k:Int)+1:=⟨(ref-1).toNat,by omega⟩;have se:k<T.length:=by omega
 have hk:k<gX.length:=by rw[h.len];exact se
 have e1:((k:Int)+1-1).toNat=k:=by omega
 have he:=h.el k hk se;have hg:gX[k]?.getD 0=gX[k]:=by simp[hk]
 have hgt:T.getD k []=T[k]:=by simp[se]
 rw[e1]at hc ht ⊢;rw[hgt]at ht ⊢;by_cases i0:i<0;have:¬(0<=i/\i<(T[k].length:Int)):=by omega
 rw[if_neg this];simp[Ng,hc,i0];by_cases i1:(T[k].length:Int)<=i;have:¬(0<=i/\i<(T[k].length:Int)):=by omega
 rw[if_neg this];simp[Ng,hc,i0,hk,he,i1];exact absurd (if_pos ⟨by omega,by omega⟩) ht;simp only[if_neg c]at hc ht ⊢;simp[Ng,hc]
theorem Pm(wl J:Nat)(h:Rp st p T q v gX)(k j:Nat)(hr:T.length<1000000000)(se:k<T.length)(hk:k<gX.length)(hj:j<T[k].length) :
  (aT S).call wl J 156 [.ptr p 0 0 0,.int .i64 ((k:Int)+1),.int .i64 j] st=some (.fF [.ptr gX[k] 0 j 0,.int .i64 0],st):=by
 have hc:=λwl J=>E4 wl J h ((k:Int)+1) hr;refine an (sf:=Ng) rfl rfl rfl ?_;unfold E3 at hc;have c:1<=(k:Int)+1/\(k:Int)+1<=(T.length:Int):=by omega
 simp only[if_pos c]at hc;have e1:((k:Int)+1-1).toNat=k:=by omega
 have he:=h.el k hk se;have hg:gX.getD k 0=gX[k]:=by simp[hk]
 rw[e1,hg]at hc;have i1:¬((T[k].length:Int)<=(j:Int)):=by omega
 have j0:¬((j:Int)<0):=by omega
 simp[Ng,hc,he,i1,hj,j0]
theorem NI(wl J:Nat)(h:Rp st p T q v gX)(ref:Int)(hr:T.length<1000000000) :
  (aT S).call wl J 149 [.ptr p 0 0 0,.int .i64 ref] st=some (if 1<=ref/\ref<=(T.length:Int) then .fF [.int .i64 (T.getD (ref-1).toNat []).length,.int .i64 0] else .fF [.int .i64 0,.int .i64 1],st):=by
 have hc:=λwl J=>E4 wl J h ref hr;refine an (sf:=Yr) rfl rfl rfl ?_;unfold E3 at hc;by_cases c:1<=ref/\ref<=(T.length:Int);simp only[if_pos c]at hc ⊢;obtain⟨k,rfl⟩:∃k:Nat,ref=(k:Int)+1:=⟨(ref-1).toNat,by omega⟩;have se:k<T.length:=by omega
 have hk:k<gX.length:=by rw[h.len];exact se
 have e1:((k:Int)+1-1).toNat=k:=by omega
 have he:=h.el k hk se;have hg:gX.getD k 0=gX[k]:=by simp[hk]
 have hgt:T.getD k []=T[k]:=by simp[se]
 rw[e1,hg]at hc;rw[e1,hgt];simp[Yr,hc,he];simp only[if_neg c]at hc ⊢;simp[Yr,hc]
theorem Zk(wl J:Nat)(h:Rp st p T q v gX)(ref i:Int)(hr:T.length<1000000000) :
  (aT S).call wl J 148 [.ptr p 0 0 0,.int .i64 ref,.int .i64 i] st=some (.fF [.int .i64 (if m9 T ref i=0 then (T.getD (ref-1).toNat []).getD i.toNat 0 else 0),.int .i64 (m9 T ref i)],st):=by
 refine an (sf:=Yq) rfl rfl rfl ?_;by_cases ht:m9 T ref i=0;obtain⟨k,se,rfl,j,hj,rfl⟩:∃k:Nat,∃hk:k<T.length,ref=(k:Int)+1/\∃j:Nat,j<T[k].length/\i=j:=by
  unfold m9 at ht;split at ht;rename_i c;split at ht;rename_i d;have hk:(ref-1).toNat<T.length:=by omega
  have:T.getD (ref-1).toNat []=T[(ref-1).toNat]:=by simp only[List.getD_eq_getElem?_getD,List.getElem?_eq_getElem hk,Option.getD_some]
  rw[this]at d;exact⟨(ref-1).toNat,hk,by omega,i.toNat,by omega,by omega⟩;cases ht;cases ht
 have hk:k<gX.length:=by rw[h.len];exact se
 have hc:=λwl J=>Pm wl J h k j hr se hk hj;have he:=h.el k hk se;have e1:((k:Int)+1-1).toNat=k:=by omega
 have hgt:T.getD k []=T[k]:=by simp[se]
 rw[if_pos ht,ht,e1,hgt];simp[Yq,hc,he,cut,hj];have hc:=λwl J=>Pk wl J h ref i hr ht;rw[if_neg ht];simp[Yq,hc,ht]
def Zl(T:List (List Int))(ref i x:Int):List (List Int):=if m9 T ref i=0 then T.set (ref-1).toNat ((T.getD (ref-1).toNat []).set i.toNat x) else T
theorem VI{l:List Nat}(h:l.Nodup){a b:Nat}(ha:a<l.length)(hb:b<l.length)(e:l[a]=l[b]):a=b:=by
 have hp:=List.pairwise_iff_getElem.1 h;rcases Nat.lt_trichotomy a b with h1|h1|h1;exact absurd e (hp a b ha hb h1);exact h1;exact absurd e.symm (hp b a hb ha h1)
theorem Rp.put(h:Rp st p T q v gX){k:Nat}(se:k<T.length)(hk:k<gX.length)(r:List Int):Rp (st.set gX[k] (.rows 0 1 (bp r))) p (T.set k r) q v gX:=by
 have hT:T≠[]:=by intro e;subst e;simp at se
 have hT2:T.set k r≠[]:=by
  intro e;have:=congrArg List.length e;rw[List.length_set]at this;exact hT (List.eq_nil_of_length_eq_zero this)
 have hp:gX[k]≠p:=λe=>h.pn (e ▸ List.getElem_mem hk);have hq:gX[k]≠q:=λe=>h.qn hT (e ▸ List.getElem_mem hk);have hl:gX[k]<st.length:=(List.getElem?_eq_some_iff.1 (h.el k hk se)).1;refine⟨by simpa using h.len,?_,λ_=>?_,λm hm Oy=>?_,λ_=>h.pq hT,h.pn,λ_=>h.qn hT,h.nd⟩;rw[if_neg hT2,List.getElem?_set_ne hp];exact h.ad0 hT;rw[List.getElem?_set_ne hq];exact h.dc hT;by_cases e:k=m;subst e;rw[List.getElem?_set_self hl];simp;have:gX[k]≠gX[m]:=λe2=>e (VI h.nd hk hm e2);rw[List.getElem?_set_ne this];have hm3:m<T.length:=by simpa using Oy
 rw[h.el m hm hm3];simp[e]
theorem Zm{ref i:Int}(ht:m9 T ref i=0):∃k:Nat,∃hk:k<T.length,ref=(k:Int)+1/\∃j:Nat,j<T[k].length/\i=j:=by
 unfold m9 at ht;split at ht;rename_i c;split at ht;rename_i d;have hk:(ref-1).toNat<T.length:=by omega
 have:T.getD (ref-1).toNat []=T[(ref-1).toNat]:=by simp only[List.getD_eq_getElem?_getD,List.getElem?_eq_getElem hk,Option.getD_some]
 rw[this]at d;exact⟨(ref-1).toNat,hk,by omega,i.toNat,by omega,by omega⟩;cases ht;cases ht
def Fr(st st':ai)(F:List Nat):Prop:=st.length<=st'.length/\∀i,i<st.length->i ∉ F->st'[i]?=st[i]?
theorem DO(_lim:Nat)(h:Rp st p T q v gX)(ref i x:Int)(hr:T.length<1000000000) :
  ∃st',(∀J,(aT S).call 0 J 125 [.ptr p 0 0 0,.int .i64 ref,.int .i64 i,.int .i64 x] st=some (.int .i64 (m9 T ref i),st'))/\Rp st' p (Zl T ref i x) q v gX/\Fr st st' gX/\st'.length=st.length:=by
 by_cases ht:m9 T ref i=0;obtain⟨k,se,rfl,j,hj,rfl⟩:=Zm ht;have hk:k<gX.length:=by rw[h.len];exact se
 have hc:=λwl J=>Pm wl J h k j hr se hk hj;have he:=h.el k hk se;have e1:((k:Int)+1-1).toNat=k:=by omega
 have hgt:T.getD k []=T[k]:=by simp only[List.getD_eq_getElem?_getD,List.getElem?_eq_getElem se,Option.getD_some]
 have hs:(bp T[k]).set j [.int .i64 x]=bp (T[k].set j x):=by simp[bp,List.map_set]
 have bw:gX[k]<st.length:=(List.getElem?_eq_some_iff.1 he).1;have CD:∀y,List.take st.length (st.set gX[k] y)=st.set gX[k] y:=λy=>List.take_of_length_le (by simp);refine⟨st.set gX[k] (.rows 0 1 (bp (T[k].set j x))),λJ=>?_,?_,⟨by simp,λi hi hn=>?_⟩,by simp⟩;refine an (sf:=Ux) rfl rfl rfl ?_;rw[ht];simp[Ux,hc,he,hj,bq,AV.af,AV.au,ah,hs,CD];unfold Zl;rw[if_pos ht,e1,hgt];exact h.put se hk _;have:gX[k]≠i:=λe=>hn (e ▸ List.getElem_mem hk);exact List.getElem?_set_ne this;have hc:=λwl J=>Pk wl J h ref i hr ht;refine⟨st,λJ=>?_,?_,⟨Nat.le_refl _,λ_ _ _=>rfl⟩,rfl⟩;refine an (sf:=Ux) rfl rfl rfl ?_;simp[Ux,hc,ht];unfold Zl;rw[if_neg ht];exact h
theorem Ap{i:Nat}{x:fq}(h:st[i]?=some x)(l:ai):(st++l)[i]?=some x:=by
 rw[List.getElem?_append_left (List.getElem?_eq_some_iff.1 h).1];exact h
theorem Jk{i:Nat}{x:fq}(h:st[i]?=some x)(l:ai)(y:fq):(st++l).set i y=st.set i y++l:=List.set_append_left _ _ (List.getElem?_eq_some_iff.1 h).1
theorem VJ{wl J a:Nat}{st:ai}{bx:aX}:aP wl J (.Qc 1 1 [.U] [0]) [.val (.mu a 0)] st bx=some (.val (.mu st.length 0),st++[.rows 0 1 [[.mu a 0]]],bx):=rfl
theorem ad2{J a b:Nat}{st:ai}{bx:aX}(h:st[b]?=some (.rows 0 1 [[.mu a 0]])) :
  aP 0 J (.kh 1 24) [.val .U,.val (.mu b 0)] st bx=some (.val (.mu st.length 0),st++[.rows 0 1 [[.mu a 0]]],bx):=by
 simp[aP,xY,cV,dD,h,bV,AV.cJ,AV.aa,dx]
theorem ad3{J a b q v:Nat}{old:List (List AV)}{st:ai}{bx:aX}(h:st[b]?=some (.rows 0 1 [[.mu a 0]]))(h2:st[q]?=some (.rows v 1 old))(hr:(old.length+1)*24<=dx)(hl:J<=q) :
  aP 0 J (.kh 1 24) [.val (.mu q v),.val (.mu b 0)] st bx=some (.val (.mu q (v+1)),st.set q (.rows (v+1) 1 (old++[[.mu a 0]])),bx):=by
 simp[aP,xY,cV,dD,h,h2,bV,AV.cJ,AV.aa,hr,hl]
theorem VK(h:Rp st p T q v gX)(n:Nat)(hr:T.length<1000000)(hn:n<=1000000) :
  ∃st' q' v',(∀J,J<=p->J<=q->(aT S).call 0 J 170 [.ptr p 0 0 0,.int .i64 n] st=some (.int .i64 ((T.length:Int)+1),st'))/\Rp st' p (T++[List.replicate n 0]) q' v' (gX++[st.length])/\
   Fr st st' [p,q]/\(T≠[]->q'=q)/\(T=[]->st.length<=q'/\q'<st'.length):=by
 by_cases hT:T=[];subst hT;have ho:=h.aip;have hoA:=λl=>Ap ho l;have hsA:=λl y=>Jk ho l y;have aiq:p<st.length:=(List.getElem?_eq_some_iff.1 ho).1;have oF:∀x l,(st.set p x++l)[p]?=some x:=λx l=>by
  rw[List.getElem?_append_left (by simpa using aiq),List.getElem?_set_self aiq]
 have AY:∀x a b c,(st.set p x++[a,b,c])[st.length+2]?=some c:=λx a b c=>by
  rw[List.getElem?_append_right (by simp)];simp
 refine⟨st.set p (.rows 0 1 [[.mu (st.length+2) 0]])++[.rows 0 1 (List.replicate n [.int .i64 0]),.rows 0 1 [[.mu st.length 0]],.rows 0 1 [[.mu st.length 0]]],st.length+2,0,λJ Of H9=>?_,?_⟩;refine an (sf:=UD) rfl rfl rfl ?_;have hc:(n:Int)*8<=dx:=by unfold dx;omega
 have hc2:n*8<=dx:=by unfold dx;omega
 simp[UD];rw[zO];have g1:(st++[fq.rows 0 1 (List.replicate n [.int .i64 0]),.rows 0 1 [[.mu st.length 0]]])[st.length+1]?=some (.rows 0 1 [[.mu st.length 0]]):=by simp
 have ga:=λJ bx=>ad2 (J:=J) (bx:=bx) g1;simp[eH,ho,cut,Of,hoA,hsA,hc,VJ,ga,jx,dV,bq,AV.af,AV.au,ah,bD,ir.b8];refine⟨_,_,⟨rfl,rfl⟩,?_⟩;simp[ho,cut,hoA,ck,AV.cJ,AV.aa,eO.jF,AV.jF,oF];have JP:gX=[]:=List.eq_nil_of_length_eq_zero h.len;subst JP;have Mh:p<st.length:=(List.getElem?_eq_some_iff.1 ho).1;refine⟨⟨by simp,?_,λ_=>?_,λk hk se=>?_,λ_=>by omega,by simp;omega,λ_=>by simp,by simp⟩,⟨by simp,λi hi hn=>?_⟩,λh=>absurd rfl h,λ_=>⟨by omega,by simp⟩⟩;simpa using oF _ _;simp;have:k=0:=by simpa using hk
 subst this;simp[bp];have iR:p≠i:=λe=>hn (by simp[e]);rw[List.getElem?_append_left (by simpa using hi),List.getElem?_set_ne iR];have ho:=h.ad0 hT;have hl:=h.dc hT;have Ob:=h.pq hT;have hoA:=λl=>Ap ho l;have hlA:=λl=>Ap hl l;have Mh:p<st.length:=(List.getElem?_eq_some_iff.1 ho).1;have RU:q<st.length:=(List.getElem?_eq_some_iff.1 hl).1;have hsQ:=λl y=>Jk hl l y;have hoQ:∀y,(st.set q y)[p]?=some (.rows 0 1 [[.mu q v]]):=λy=>by rw[List.getElem?_set_ne Ob.symm];exact ho
 have anl:=λy l=>Ap (hoQ y) l;have hsP:=λy l z=>Jk (hoQ y) l z;have hlen:=h.len;have oF:∀y x l,((st.set q y).set p x++l)[p]?=some x:=λy x l=>by
  rw[List.getElem?_append_left (by simpa using Mh),List.getElem?_set_self (by simpa using Mh)]
 have hsq:∀y x l,((st.set q y).set p x++l)[q]?=some y:=λy x l=>by
  rw[List.getElem?_append_left (by simpa using RU),List.getElem?_set_ne Ob,List.getElem?_set_self RU]
 refine⟨(st.set q (.rows (v+1) 1 (gX.map (λi=>[.mu i 0])++[[.mu st.length 0]]))).set p (.rows 0 1 [[.mu q (v+1)]])++[.rows 0 1 (List.replicate n [.int .i64 0]),.rows 0 1 [[.mu st.length 0]]],q,v+1,λJ Of H9=>?_,?_⟩;refine an (sf:=UD) rfl rfl rfl ?_;have hc:(n:Int)*8<=dx:=by unfold dx;omega
 have hc2:n*8<=dx:=by unfold dx;omega
 simp[UD];rw[zO];have g1:(st++[fq.rows 0 1 (List.replicate n [.int .i64 0]),.rows 0 1 [[.mu st.length 0]]])[st.length+1]?=some (.rows 0 1 [[.mu st.length 0]]):=by simp
 have ga:=λbx=>ad3 (J:=J) (bx:=bx) g1 (hlA _) (by simp[hlen,dx];omega) H9;have hw:IntKind.i64.wrap (T.length:Int)=(T.length:Int):=by rw[dn]<;>omega
 simp[eH,ho,cut,Of,hsQ,anl,hsP,hc,VJ,ga,jx,dV,bq,AV.af,AV.au,ah,bD,ir.b8];refine⟨_,_,⟨rfl,rfl⟩,?_⟩;simp[ho,cut,hoA,ck,AV.cJ,AV.aa,eO.jF,AV.jF,oF,hsq,hlen];refine⟨⟨by simp[hlen],?_,λ_=>?_,λk hk se=>?_,λ_=>Ob,?_,λ_=>?_,?_⟩,⟨by simp,λi hi hn=>?_⟩,λ_=>rfl,λe=>absurd e hT⟩;simpa using oF _ _ _;simpa using hsq _ _ _;by_cases e:k<gX.length;have hk3:k<T.length:=by omega
 have h1:(gX++[st.length])[k]=gX[k]:=List.getElem_append_left e;have h2:(T++[List.replicate n 0])[k]=T[k]:=List.getElem_append_left hk3;have hp:p≠gX[k]:=λe2=>h.pn (e2 ▸ List.getElem_mem e);have hq:q≠gX[k]:=λe2=>h.qn hT (e2 ▸ List.getElem_mem e);have hi:=h.el k e hk3;rw[h1,h2,List.getElem?_append_left (by simpa using (List.getElem?_eq_some_iff.1 hi).1),List.getElem?_set_ne hp,List.getElem?_set_ne hq];exact hi;have:k=gX.length:=by simp at hk;omega
 subst this;simp[bp,hlen];simp;exact⟨h.pn,by omega⟩;simp;exact⟨h.qn hT,by omega⟩;refine List.nodup_append.2 ⟨h.nd,by simp,λa ha b hb=>?_⟩;simp at hb;subst hb;intro e;subst e;obtain⟨k,hk,e⟩:=List.mem_iff_getElem.1 ha;have:=(List.getElem?_eq_some_iff.1 (h.el k hk (by omega))).1;omega;have iR:p≠i:=λe=>hn (by simp[e]);have adQ:q≠i:=λe=>hn (by simp[e]);rw[List.getElem?_append_left (by simpa using hi),List.getElem?_set_ne iR,List.getElem?_set_ne adQ]
end Df
namespace Df
open Ax Go bX
variable {st:ai}{p q v:Nat}{T:List (List Int)}{gX:List Nat}
def vv(n:Int):Nat:=if n<0 then 0 else if 8<n then 8 else n.toNat
theorem NJ(h:Rp st p T q v gX)(n:Int)(hr:T.length<1000000) :
  ∃st' q' v',(∀J,J<=p->J<=q->(aT S).call 0 J 150 [.ptr p 0 0 0,.int .i64 n] st=some (.int .i64 ((T.length:Int)+1),st'))/\Rp st' p (T++[List.replicate (vv n) 0]) q' v' (gX++[st.length])/\
   Fr st st' [p,q]/\(T≠[]->q'=q)/\(T=[]->st.length<=q'/\q'<st'.length):=by
 obtain⟨st',q',v',h1,h2⟩:=VK h (vv n) hr (by unfold vv;split<;>(try split)<;>omega);refine⟨st',q',v',λJ l1 l2=>?_,h2⟩;have h3:=h1 J l1 l2;refine an (sf:=Uz) rfl rfl rfl ?_;unfold vv at h3;by_cases n0:n<0;rw[if_pos n0]at h3;have a:max n 0=0:=by omega
 have h4:(aT S).call 0 J 170 [.ptr p 0 0 0,.int .i64 0] st=_:=h3;simp[Uz,n0,h4];rw[if_neg n0]at h3;have a:max n 0=n:=by omega
 by_cases n8:8<n;rw[if_pos n8]at h3;have b:min n 8=8:=by omega
 have h4:(aT S).call 0 J 170 [.ptr p 0 0 0,.int .i64 8] st=_:=h3;simp[Uz,n0,n8,h4];rw[if_neg n8]at h3;have b:min n 8=n:=by omega
 have e:(n.toNat:Int)=n:=by omega
 rw[e]at h3;simp[Uz,n0,n8,h3]
theorem ad4(wl J:Nat)(n:Int)(st:ai)(hn:n<0\/50<n):(aT S).call wl J 151 [.ptr p 0 0 0,.int .i64 n] st=some (.fF [.int .i64 0,.int .i64 4],st):=by
 refine an (sf:=QY) rfl rfl rfl ?_;by_cases n0:n<0;simp[QY,n0];have n1:50<n:=by omega
 simp[QY,n0,n1]
theorem NK(h:Rp st p T q v gX)(n:Nat)(hr:T.length<1000000)(hn:n<=50) :
  ∃st' q' v',(∀J,J<=p->J<=q->(aT S).call 0 J 151 [.ptr p 0 0 0,.int .i64 n] st=some (.fF [.int .i64 ((T.length:Int)+1),.int .i64 0],st'))/\Rp st' p (T++[List.replicate n 0]) q' v' (gX++[st.length])/\
   Fr st st' [p,q]/\(T≠[]->q'=q)/\(T=[]->st.length<=q'/\q'<st'.length):=by
 obtain⟨st',q',v',h1,h2⟩:=VK h n hr (by omega);refine⟨st',q',v',λJ l1 l2=>?_,h2⟩;have h3:=h1 J l1 l2;refine an (sf:=QY) rfl rfl rfl ?_;have n0:¬((n:Int)<0):=by omega
 have n1:¬((50:Int)<(n:Int)):=by omega
 simp[QY,n0,n1,h3]
theorem ad5(wl J:Nat)(st:ai):(aT S).call wl J 29 [] st=some (.ptr st.length 0 0 0,st++[.rows 0 1 [[.U]]]):=by
 refine an (sf:=s29) rfl rfl rfl ?_;simp[s29]
end Df
