/- Part of a proof. -/
import Derived.Test.YtpnadocbfbbboaaGreatCode2

open List renaming getD_eq_getElem?_getD->ado,getElem?_eq_getElem->aag,eq_nil_of_length_eq_zero->aaK,getElem_mem->aaq,getElem?_eq_some_iff->aad,getElem?_set_ne->aap,getElem?_set_self->aay,getElem?_append_left->aal,replicate->aak,getElem_append_left->afa
open Option renaming getD_some->adB
set_option maxRecDepth 100000
set_option maxHeartbeats 1000000
namespace tq
open Ax Go bY
@[simp]theorem anE:Gy .ptr .dV .dV=some true:=rfl
variable{i a:Nat}{bx:bG}
@[simp]theorem anF{id v k:Nat}:Gy .ptr (.ptr id v i k) .dV=some false:=rfl
structure Rp (st:ay)(p:Nat)(T:List (List Int))(q v:Nat)(fB:List Nat):Prop where
 len:fB.length=T.length
 aX:st[p]?=some (.rows 0 1 [[if T=[] then .af else .mu q v]])
 eE:T≠[]->st[q]?=some (.rows v 1 (fB.map λi=>[.mu i 0]))
 el:∀k (h:k<fB.length) (h2:k<T.length),st[fB[k]]?=some (.rows 0 1 (aO T[k]))
 pq:T≠[]->p≠q
 pn:p ∉ fB
 qn:T≠[]->q ∉ fB
 nd:fB.Nodup
variable {st:ay}{p q v:Nat}{T:List (List Int)}{fB:List Nat}
theorem Rp.ahj(h:Rp st p [] q v fB):st[p]?=some (.rows 0 1 [[.af]]):=h.aX
theorem Rp.acZ(h:Rp st p T q v fB)(hT:T≠[]):st[p]?=some (.rows 0 1 [[.mu q v]]):=by have:=h.aX;rwa [U hT]at this
def FH(T:List (List Int))(fB:List Nat)(ref:Int):AV:=if 1<=ref/\ref<=(T.length:Int) then .fK [.mu (fB.getD (ref-1).toNat 0) 0,.bool true] else .fK [.af,.bool false]
theorem FI(wl aa:Nat)(h:Rp st p T q v fB)(ref:Int)(hr:T.length<1000000000) :
  (aZ S).call wl aa 169 [.ptr p 0 0 0,.int .i64 ref] st=some (FH T fB ref,st):=by
 refine aA (sf:=Qo) rfl rfl rfl ?_;unfold FH;by_cases r0:ref<1;have:¬(1<=ref/\ref<=(T.length:Int)):=by omega
 rw[U this];simp[Qo,r0];by_cases hT:T=[];subst hT;have:¬(1<=ref/\ref<=(([]:List (List Int)).length:Int)):=by simp;omega
 rw[U this];have h0:0<ref:=by omega
 simp[Qo,r0,h.ahj,cut,h0];have ho:=h.acZ hT;have hl:=h.eE hT;have hlen:=h.len;by_cases r1:(T.length:Int)<ref;have:¬(1<=ref/\ref<=(T.length:Int)):=by omega
 rw[U this];simp[Qo,r0,ho,hl,cut,hlen,r1];obtain⟨k,rfl⟩:∃k:Nat,ref=(k:Int)+1:=⟨(ref-1).toNat,by omega⟩;have hk:k<fB.length:=by omega
 have lJ:k<T.length:=by omega
 have:1<=(k:Int)+1/\(k:Int)+1<=(T.length:Int):=by omega
 rw[ah this];have hw:IntKind.i64.wrap (k:Int)=(k:Int):=by rw[eR]<;>omega
 have e1:((k:Int)+1-1).toNat=k:=by omega
 have hg:fB[k]?.getD 0=fB[k]:=by simp[hk]
 simp[Qo,r0,ho,hl,cut,hlen,r1,hw,lJ]
def nK(T:List (List Int))(ref i:Int):Int:=if 1<=ref/\ref<=(T.length:Int) then (if 0<=i/\i<((T.getD (ref-1).toNat []).length:Int) then 0 else 2) else 1
theorem O8(wl aa:Nat)(h:Rp st p T q v fB)(ref i:Int)(hr:T.length<1000000000)(ht:nK T ref i≠0) :
  (aZ S).call wl aa 156 [.ptr p 0 0 0,.int .i64 ref,.int .i64 i] st=some (.fK [.dV,.int .i64 (nK T ref i)],st):=by
 have hc:=λwl aa=>FI wl aa h ref hr;refine aA (sf:=MQ) rfl rfl rfl ?_;unfold FH at hc;unfold nK at ht ⊢;by_cases c:1<=ref/\ref<=(T.length:Int);simp only[ah c]at hc ht ⊢;obtain⟨k,rfl⟩:∃k:Nat,ref=(k:Int)+1:=⟨(ref-1).toNat,by omega⟩;have lJ:k<T.length:=by omega
 have hk:k<fB.length:=by rw[h.len];exact lJ
 have e1:((k:Int)+1-1).toNat=k:=by omega
 have he:=h.el k hk lJ;have hg:fB[k]?.getD 0=fB[k]:=by simp[hk]
 have hgt:T.getD k []=T[k]:=by simp[lJ]
 rw[e1]at hc ht ⊢;rw[hgt]at ht ⊢;by_cases i0:i<0;have:¬(0<=i/\i<(T[k].length:Int)):=by omega
 rw[U this];simp[MQ,hc,i0];by_cases i1:(T[k].length:Int)<=i;have:¬(0<=i/\i<(T[k].length:Int)):=by omega
 rw[U this];simp[MQ,hc,i0,hk,he,i1];exact aU (ah ⟨by omega,by omega⟩) ht;simp only[U c]at hc ht ⊢;simp[MQ,hc]
theorem O9(wl aa:Nat)(h:Rp st p T q v fB)(k j:Nat)(hr:T.length<1000000000)(lJ:k<T.length)(hk:k<fB.length)(hj:j<T[k].length) :
  (aZ S).call wl aa 156 [.ptr p 0 0 0,.int .i64 ((k:Int)+1),.int .i64 j] st=some (.fK [.ptr fB[k] 0 j 0,.int .i64 0],st):=by
 have hc:=λwl aa=>FI wl aa h ((k:Int)+1) hr;refine aA (sf:=MQ) rfl rfl rfl ?_;unfold FH at hc;have c:1<=(k:Int)+1/\(k:Int)+1<=(T.length:Int):=by omega
 simp only[ah c]at hc;have e1:((k:Int)+1-1).toNat=k:=by omega
 have he:=h.el k hk lJ;have hg:fB.getD k 0=fB[k]:=by simp[hk]
 rw[e1,hg]at hc;have i1:¬((T[k].length:Int)<=(j:Int)):=by omega
 have j0:¬((j:Int)<0):=by omega
 simp[MQ,hc,he,i1,hj,j0]
theorem B6(wl aa:Nat)(h:Rp st p T q v fB)(ref:Int)(hr:T.length<1000000000) :
  (aZ S).call wl aa 149 [.ptr p 0 0 0,.int .i64 ref] st=some (if 1<=ref/\ref<=(T.length:Int) then .fK [.int .i64 (T.getD (ref-1).toNat []).length,.int .i64 0] else .fK [.int .i64 0,.int .i64 1],st):=by
 have hc:=λwl aa=>FI wl aa h ref hr;refine aA (sf:=Xx) rfl rfl rfl ?_;unfold FH at hc;by_cases c:1<=ref/\ref<=(T.length:Int);simp only[ah c]at hc ⊢;obtain⟨k,rfl⟩:∃k:Nat,ref=(k:Int)+1:=⟨(ref-1).toNat,by omega⟩;have lJ:k<T.length:=by omega
 have hk:k<fB.length:=by rw[h.len];exact lJ
 have e1:((k:Int)+1-1).toNat=k:=by omega
 have he:=h.el k hk lJ;have hg:fB.getD k 0=fB[k]:=by simp[hk]
 have hgt:T.getD k []=T[k]:=by simp[lJ]
 rw[e1,hg]at hc;rw[e1,hgt];simp[Xx,hc,he];simp only[U c]at hc ⊢;simp[Xx,hc]
theorem Be(wl aa:Nat)(h:Rp st p T q v fB)(ref i:Int)(hr:T.length<1000000000) :
  (aZ S).call wl aa 148 [.ptr p 0 0 0,.int .i64 ref,.int .i64 i] st=some (.fK [.int .i64 (if nK T ref i=0 then (T.getD (ref-1).toNat []).getD i.toNat 0 else 0),.int .i64 (nK T ref i)],st):=by
 refine aA (sf:=Xw) rfl rfl rfl ?_;by_cases ht:nK T ref i=0;obtain⟨k,lJ,rfl,j,hj,rfl⟩:∃k:Nat,∃hk:k<T.length,ref=(k:Int)+1/\∃j:Nat,j<T[k].length/\i=j:=by
  unfold nK at ht;split at ht;rename_i c;split at ht;rename_i d;have hk:(ref-1).toNat<T.length:=by omega
  have:T.getD (ref-1).toNat []=T[(ref-1).toNat]:=by simp only[ado,aag hk,adB]
  rw[this]at d;exact⟨(ref-1).toNat,hk,by omega,i.toNat,by omega,by omega⟩;cases ht;cases ht
 have hk:k<fB.length:=by rw[h.len];exact lJ
 have hc:=λwl aa=>O9 wl aa h k j hr lJ hk hj;have he:=h.el k hk lJ;have e1:((k:Int)+1-1).toNat=k:=by omega
 have hgt:T.getD k []=T[k]:=by simp[lJ]
 rw[ah ht,ht,e1,hgt];simp[Xw,hc,he,cut,hj];have hc:=λwl aa=>O8 wl aa h ref i hr ht;rw[U ht];simp[Xw,hc,ht]
def YB(T:List (List Int))(ref i x:Int):List (List Int):=if nK T ref i=0 then T.set (ref-1).toNat ((T.getD (ref-1).toNat []).set i.toNat x) else T
theorem U9{l:List Nat}(h:l.Nodup){b:Nat}(ha:a<l.length)(hb:b<l.length)(e:l[a]=l[b]):a=b:=by
 have hp:=List.pairwise_iff_getElem.1 h;rcases Nat.lt_trichotomy a b with h1|h1|h1;exact aU e (hp a b ha hb h1);exact h1;exact aU e.symm (hp b a hb ha h1)
theorem Rp.put(h:Rp st p T q v fB){k:Nat}(lJ:k<T.length)(hk:k<fB.length)(r:List Int):Rp (st.set fB[k] (.rows 0 1 (aO r))) p (T.set k r) q v fB:=by
 have hT:T≠[]:=by intro e;subst e;simp at lJ
 have hT2:T.set k r≠[]:=by
  intro e;have:=congrArg List.length e;rw[List.length_set]at this;exact hT (aaK this)
 have hp:fB[k]≠p:=λe=>h.pn (e ▸ aaq hk);have hq:fB[k]≠q:=λe=>h.qn hT (e ▸ aaq hk);have hl:fB[k]<st.length:=(aad.1 (h.el k hk lJ)).1;refine⟨by simpa using h.len,?_,λ_=>?_,λm hm Oj=>?_,λ_=>h.pq hT,h.pn,λ_=>h.qn hT,h.nd⟩;rw[U hT2,aap hp];exact h.acZ hT;rw[aap hq];exact h.eE hT;by_cases e:k=m;subst e;rw[aay hl];simp;have:fB[k]≠fB[m]:=λe2=>e (U9 h.nd hk hm e2);rw[aap this];have hm3:m<T.length:=by simpa using Oj
 rw[h.el m hm hm3];simp[e]
theorem YC{ref i:Int}(ht:nK T ref i=0):∃k:Nat,∃hk:k<T.length,ref=(k:Int)+1/\∃j:Nat,j<T[k].length/\i=j:=by
 unfold nK at ht;split at ht;rename_i c;split at ht;rename_i d;have hk:(ref-1).toNat<T.length:=by omega
 have:T.getD (ref-1).toNat []=T[(ref-1).toNat]:=by simp only[ado,aag hk,adB]
 rw[this]at d;exact⟨(ref-1).toNat,hk,by omega,i.toNat,by omega,by omega⟩;cases ht;cases ht
def Fr(st st':ay)(F:List Nat):Prop:=st.length<=st'.length/\∀i,i<st.length->i ∉ F->st'[i]?=st[i]?
theorem xh(_lim:Nat)(h:Rp st p T q v fB)(ref i x:Int)(hr:T.length<1000000000) :
  ∃st',(∀aa,(aZ S).call 0 aa 125 [.ptr p 0 0 0,.int .i64 ref,.int .i64 i,.int .i64 x] st=some (.int .i64 (nK T ref i),st'))/\Rp st' p (YB T ref i x) q v fB/\Fr st st' fB/\st'.length=st.length:=by
 by_cases ht:nK T ref i=0;obtain⟨k,lJ,rfl,j,hj,rfl⟩:=YC ht;have hk:k<fB.length:=by rw[h.len];exact lJ
 have hc:=λwl aa=>O9 wl aa h k j hr lJ hk hj;have he:=h.el k hk lJ;have e1:((k:Int)+1-1).toNat=k:=by omega
 have hgt:T.getD k []=T[k]:=by simp only[ado,aag lJ,adB]
 have hs:(aO T[k]).set j [.int .i64 x]=aO (T[k].set j x):=by simp[aO,List.map_set]
 have bC:fB[k]<st.length:=(aad.1 he).1;have yw:∀y,List.take st.length (st.set fB[k] y)=st.set fB[k] y:=λy=>List.take_of_length_le (by simp);refine⟨st.set fB[k] (.rows 0 1 (aO (T[k].set j x))),λaa=>?_,?_,⟨by simp,λi hi hn=>?_⟩,by simp⟩;refine aA (sf:=T7) rfl rfl rfl ?_;rw[ht];simp[T7,hc,he,hj,aV,AV.ax,AV.aB,au,hs,yw];unfold YB;rw[ah ht,e1,hgt];exact h.put lJ hk _;have:fB[k]≠i:=λe=>hn (e ▸ aaq hk);exact aap this;have hc:=λwl aa=>O8 wl aa h ref i hr ht;refine⟨st,λaa=>?_,?_,⟨Nat.le_refl _,λ_ _ _=>rfl⟩,rfl⟩;refine aA (sf:=T7) rfl rfl rfl ?_;simp[T7,hc,ht];unfold YB;rw[U ht];exact h
theorem mC{x:dA}(h:st[i]?=some x)(l:ay):(st++l)[i]?=some x:=by
 rw[aal (aad.1 h).1];exact h
theorem rI{x:dA}(h:st[i]?=some x)(l:ay)(y:dA):(st++l).set i y=st.set i y++l:=List.set_append_left _ _ (aad.1 h).1
theorem B7{wl aa:Nat}{st:ay}:bn wl aa (.JF 1 1 [.af] [0]) [.val (.mu a 0)] st bx=some (.val (.mu st.length 0),st++[.rows 0 1 [[.mu a 0]]],bx):=rfl
theorem Ns{aa b:Nat}{st:ay}(h:st[b]?=some (.rows 0 1 [[.mu a 0]])) :
  bn 0 aa (.gu 1 24) [.val .af,.val (.mu b 0)] st bx=some (.val (.mu st.length 0),st++[.rows 0 1 [[.mu a 0]]],bx):=by
 simp[bn,r9,dx,ff,h,cn,AV.cW,AV.ai,cN]
theorem Nt{aa b q v:Nat}{js:List (List AV)}{st:ay}(h:st[b]?=some (.rows 0 1 [[.mu a 0]]))(h2:st[q]?=some (.rows v 1 js))(hr:(js.length+1)*24<=cN)(hl:aa<=q) :
  bn 0 aa (.gu 1 24) [.val (.mu q v),.val (.mu b 0)] st bx=some (.val (.mu q (v+1)),st.set q (.rows (v+1) 1 (js++[[.mu a 0]])),bx):=by
 simp[bn,r9,dx,ff,h,h2,cn,AV.cW,AV.ai,hr,hl]
theorem Va(h:Rp st p T q v fB)(n:Nat)(hr:T.length<1000000)(hn:n<=1000000) :
  ∃st' q' v',(∀aa,aa<=p->aa<=q->(aZ S).call 0 aa 170 [.ptr p 0 0 0,.int .i64 n] st=some (.int .i64 ((T.length:Int)+1),st'))/\Rp st' p (T++[aak n 0]) q' v' (fB++[st.length])/\
   Fr st st' [p,q]/\(T≠[]->q'=q)/\(T=[]->st.length<=q'/\q'<st'.length):=by
 by_cases hT:T=[];subst hT;have ho:=h.ahj;have Lo:=λl=>mC ho l;have hsA:=λl y=>rI ho l y;have C9:p<st.length:=(aad.1 ho).1;have lI:∀x l,(st.set p x++l)[p]?=some x:=λx l=>by
  rw[aal (by simpa using C9),aay C9]
 have xx:∀x a b c,(st.set p x++[a,b,c])[st.length+2]?=some c:=λx a b c=>by
  rw[List.getElem?_append_right (by simp)];simp
 refine⟨st.set p (.rows 0 1 [[.mu (st.length+2) 0]])++[.rows 0 1 (aak n [.int .i64 0]),.rows 0 1 [[.mu st.length 0]],.rows 0 1 [[.mu st.length 0]]],st.length+2,0,λaa Gm F6=>?_,?_⟩;refine aA (sf:=Uh) rfl rfl rfl ?_;have hc:(n:Int)*8<=cN:=by unfold cN;omega
 have FD:n*8<=cN:=by unfold cN;omega
 simp[Uh];rw[ny];have g1:(st++[dA.rows 0 1 (aak n [.int .i64 0]),.rows 0 1 [[.mu st.length 0]]])[st.length+1]?=some (.rows 0 1 [[.mu st.length 0]]):=by simp
 have ga:=λaa bx=>Ns (aa:=aa) (bx:=bx) g1;simp[eG,ho,cut,Gm,Lo,hsA,hc,B7,ga,iG,dH,aV,AV.ax,AV.aB,au,bO,gq.bV];refine⟨_,_,⟨rfl,rfl⟩,?_⟩;simp[ho,cut,Lo,cm,AV.cW,AV.ai,fL.gi,AV.gi,lI];have Bw:fB=[]:=aaK h.len;subst Bw;have GH:p<st.length:=(aad.1 ho).1;refine⟨⟨by simp,?_,λ_=>?_,λk hk lJ=>?_,λ_=>by omega,by simp;omega,λ_=>by simp,by simp⟩,⟨by simp,λi hi hn=>?_⟩,λh=>aU rfl h,λ_=>⟨by omega,by simp⟩⟩;simpa using lI _ _;simp;have:k=0:=by simpa using hk
 subst this;simp[aO];have fy:p≠i:=λe=>hn (by simp[e]);rw[aal (by simpa using hi),aap fy];have ho:=h.acZ hT;have hl:=h.eE hT;have F3:=h.pq hT;have Lo:=λl=>mC ho l;have Nq:=λl=>mC hl l;have GH:p<st.length:=(aad.1 ho).1;have JA:q<st.length:=(aad.1 hl).1;have hsQ:=λl y=>rI hl l y;have VP:∀y,(st.set q y)[p]?=some (.rows 0 1 [[.mu q v]]):=λy=>by rw[aap F3.symm];exact ho
 have Nu:=λy l=>mC (VP y) l;have hsP:=λy l z=>rI (VP y) l z;have hlen:=h.len;have lI:∀y x l,((st.set q y).set p x++l)[p]?=some x:=λy x l=>by
  rw[aal (by simpa using GH),aay (by simpa using GH)]
 have hsq:∀y x l,((st.set q y).set p x++l)[q]?=some y:=λy x l=>by
  rw[aal (by simpa using JA),aap F3,aay JA]
 refine⟨(st.set q (.rows (v+1) 1 (fB.map (λi=>[.mu i 0])++[[.mu st.length 0]]))).set p (.rows 0 1 [[.mu q (v+1)]])++[.rows 0 1 (aak n [.int .i64 0]),.rows 0 1 [[.mu st.length 0]]],q,v+1,λaa Gm F6=>?_,?_⟩;refine aA (sf:=Uh) rfl rfl rfl ?_;have hc:(n:Int)*8<=cN:=by unfold cN;omega
 have FD:n*8<=cN:=by unfold cN;omega
 simp[Uh];rw[ny];have g1:(st++[dA.rows 0 1 (aak n [.int .i64 0]),.rows 0 1 [[.mu st.length 0]]])[st.length+1]?=some (.rows 0 1 [[.mu st.length 0]]):=by simp
 have ga:=λbx=>Nt (aa:=aa) (bx:=bx) g1 (Nq _) (by simp[hlen,cN];omega) F6;have hw:IntKind.i64.wrap (T.length:Int)=(T.length:Int):=by rw[eR]<;>omega
 simp[eG,ho,cut,Gm,hsQ,Nu,hsP,hc,B7,ga,iG,dH,aV,AV.ax,AV.aB,au,bO,gq.bV];refine⟨_,_,⟨rfl,rfl⟩,?_⟩;simp[ho,cut,Lo,cm,AV.cW,AV.ai,fL.gi,AV.gi,lI,hsq,hlen];refine⟨⟨by simp[hlen],?_,λ_=>?_,λk hk lJ=>?_,λ_=>F3,?_,λ_=>?_,?_⟩,⟨by simp,λi hi hn=>?_⟩,λ_=>rfl,λe=>aU e hT⟩;simpa using lI _ _ _;simpa using hsq _ _ _;by_cases e:k<fB.length;have hk3:k<T.length:=by omega
 have h1:(fB++[st.length])[k]=fB[k]:=afa e;have h2:(T++[aak n 0])[k]=T[k]:=afa hk3;have hp:p≠fB[k]:=λe2=>h.pn (e2 ▸ aaq e);have hq:q≠fB[k]:=λe2=>h.qn hT (e2 ▸ aaq e);have hi:=h.el k e hk3;rw[h1,h2,aal (by simpa using (aad.1 hi).1),aap hp,aap hq];exact hi;have:k=fB.length:=by simp at hk;omega
 subst this;simp[aO,hlen];simp;exact⟨h.pn,by omega⟩;simp;exact⟨h.qn hT,by omega⟩;refine List.nodup_append.2 ⟨h.nd,by simp,λa ha b hb=>?_⟩;simp at hb;subst hb;intro e;subst e;obtain⟨k,hk,e⟩:=List.mem_iff_getElem.1 ha;have:=(aad.1 (h.el k hk (by omega))).1;omega;have fy:p≠i:=λe=>hn (by simp[e]);have acI:q≠i:=λe=>hn (by simp[e]);rw[aal (by simpa using hi),aap fy,aap acI]
end tq
namespace tq
open Ax Go bY
variable {st:ay}{p q v:Nat}{T:List (List Int)}{fB:List Nat}
def k7(n:Int):Nat:=if n<0 then 0 else if 8<n then 8 else n.toNat
theorem FJ(h:Rp st p T q v fB)(n:Int)(hr:T.length<1000000) :
  ∃st' q' v',(∀aa,aa<=p->aa<=q->(aZ S).call 0 aa 150 [.ptr p 0 0 0,.int .i64 n] st=some (.int .i64 ((T.length:Int)+1),st'))/\Rp st' p (T++[aak (k7 n) 0]) q' v' (fB++[st.length])/\
   Fr st st' [p,q]/\(T≠[]->q'=q)/\(T=[]->st.length<=q'/\q'<st'.length):=by
 obtain⟨st',q',v',h1,h2⟩:=Va h (k7 n) hr (by unfold k7;split<;>(try split)<;>omega);refine⟨st',q',v',λaa l1 l2=>?_,h2⟩;have h3:=h1 aa l1 l2;refine aA (sf:=Uc) rfl rfl rfl ?_;unfold k7 at h3;by_cases n0:n<0;rw[ah n0]at h3;have a:max n 0=0:=by omega
 have h4:(aZ S).call 0 aa 170 [.ptr p 0 0 0,.int .i64 0] st=_:=h3;simp[Uc,n0,h4];rw[U n0]at h3;have a:max n 0=n:=by omega
 by_cases n8:8<n;rw[ah n8]at h3;have b:min n 8=8:=by omega
 have h4:(aZ S).call 0 aa 170 [.ptr p 0 0 0,.int .i64 8] st=_:=h3;simp[Uc,n0,n8,h4];rw[U n8]at h3;have b:min n 8=n:=by omega
 have e:(n.toNat:Int)=n:=by omega
 rw[e]at h3;simp[Uc,n0,n8,h3]
theorem Nv(wl aa:Nat)(n:Int)(st:ay)(hn:n<0\/50<n):(aZ S).call wl aa 151 [.ptr p 0 0 0,.int .i64 n] st=some (.fK [.int .i64 0,.int .i64 4],st):=by
 refine aA (sf:=Ql) rfl rfl rfl ?_;by_cases n0:n<0;simp[Ql,n0];have n1:50<n:=by omega
 simp[Ql,n0,n1]
theorem FK(h:Rp st p T q v fB)(n:Nat)(hr:T.length<1000000)(hn:n<=50) :
  ∃st' q' v',(∀aa,aa<=p->aa<=q->(aZ S).call 0 aa 151 [.ptr p 0 0 0,.int .i64 n] st=some (.fK [.int .i64 ((T.length:Int)+1),.int .i64 0],st'))/\Rp st' p (T++[aak n 0]) q' v' (fB++[st.length])/\
   Fr st st' [p,q]/\(T≠[]->q'=q)/\(T=[]->st.length<=q'/\q'<st'.length):=by
 obtain⟨st',q',v',h1,h2⟩:=Va h n hr (by omega);refine⟨st',q',v',λaa l1 l2=>?_,h2⟩;have h3:=h1 aa l1 l2;refine aA (sf:=Ql) rfl rfl rfl ?_;have n0:¬((n:Int)<0):=by omega
 have n1:¬((50:Int)<(n:Int)):=by omega
 simp[Ql,n0,n1,h3]
theorem ac2(wl aa:Nat)(st:ay):(aZ S).call wl aa 29 [] st=some (.ptr st.length 0 0 0,st++[.rows 0 1 [[.af]]]):=by
 refine aA (sf:=s29) rfl rfl rfl ?_;simp[s29]
end tq
