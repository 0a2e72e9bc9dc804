/- Part of a proof. -/
import Derived.Test.YtgblgbgjmgjfkaaGreatCode1
import Derived.Test.YtgblgbgjmgjfkaaGreatA6

open List renaming length->Q
open Option renaming some->Z
open Bool renaming true->Y,false->X
open List renaming getD_eq_getElem?_getD->aay,getElem?_eq_getElem->aae,getElem_mem->aah,getElem?_eq_some_iff->aad,getElem?_set_ne->aao,replicate->aag,getElem_append_left->ais
open Option renaming getD_some->afA
set_option maxRecDepth 100000
set_option maxHeartbeats 1000000
namespace xI
open Ax Go aM
@[simp]theorem aBv:NC .ptr .ff .ff=Z Y:=rfl
@[simp]theorem aBw{id v i k}:NC .ptr (.ptr id v i k) .ff=Z X:=rfl
structure Rp (st:aO)(p:Nat)(T:List (List Int))(q v:Nat)(gm:List Nat):Prop where
 len:gm.length=T.length
 bX:st[p]?=some (.rows 0 1 [[if T=[] then .aF else .mu q v]])
 eE:T≠[]->st[q]?=some (.rows v 1 (gm.map λi=>[.mu i 0]))
 el:∀k (h:k<gm.length) (h2:k<T.length),st[gm[k]]?=some (.rows 0 1 (aT T[k]))
 pq:T≠[]->p≠q
 pn:p ∉ gm
 qn:T≠[]->q ∉ gm
 nd:gm.Nodup
variable {st:aO}{p q v:Nat}{T:List (List Int)}{gm:List Nat}
theorem Rp.atq(h:Rp st p [] q v gm):st[p]?=Z (.rows 0 1 [[.aF]]):=h.bX
theorem Rp.aoe(h:Rp st p T q v gm)(H:T≠[]):st[p]?=Z (.rows 0 1 [[.mu q v]]):=by have:=h.bX;grind
def xB(T:List (List Int))(gm:List Nat)(ref:Int):AV:=if 1<=ref/\ref<=(Q T:Int) then .fC [.mu (gm.getD (ref-1).toNat 0) 0,.bool Y] else .fC [.aF,.bool X]
theorem Cr(C j)(h:Rp st p T q v gm)(ref)(s:Q T<1000000000):
  (bh S).call C j 145 [.ptr p 0 0 0,.int .i64 ref] st=Z (xB T gm ref,st):=by
 refine aG (sf:=YN) rfl rfl rfl ?_;unfold xB;by_cases r0:ref<1;have:¬(1<=ref/\ref<=(Q T:Int)):=by omega
 simp_all [YN];by_cases H:T=[];subst H;have:¬(1<=ref/\ref<=(Q ([]:List (List Int)):Int)):=by simp;omega
 rw[U this];have B:0<ref:=by omega
 simp[YN,r0,h.atq,cut,B];have z:=h.aoe H;have g:=h.eE H;have m:=h.len;by_cases R:(Q T:Int)<ref;have:¬(1<=ref/\ref<=(Q T:Int)):=by omega
 rw[U this];simp[YN,r0,z,g,cut,m,R];obtain⟨k,rfl⟩:∃k:Nat,ref=(k:Int)+1:=⟨(ref-1).toNat,by omega⟩;have l:k<Q gm:=by omega
 have r:k<Q T:=by omega
 have:1<=(k:Int)+1/\(k:Int)+1<=(Q T:Int):=by omega
 rw[af this];have n:IntKind.i64.wrap (k:Int)=(k:Int):=by rw[dg]<;>omega
 have E:((k:Int)+1-1).toNat=k:=by omega
 have o:gm[k]?.getD 0=gm[k]:=by simp[l]
 simp[YN,r0,z,g,cut,m,R,n,r]
def qX(T:List (List Int))(ref i:Int):Int:=if 1<=ref/\ref<=(Q T:Int) then (if 0<=i/\i<(Q (T.getD (ref-1).toNat []):Int) then 0 else 2) else 1
theorem XG(C j)(h:Rp st p T q v gm)(ref i)(n:Q T<1000000000)(g:qX T ref i≠0):
  (bh S).call C j 144 [.ptr p 0 0 0,.int .i64 ref,.int .i64 i] st=Z (.fC [.ff,.int .i64 (qX T ref i)],st):=by
 have H:=λC j=>Cr C j h ref n;refine aG (sf:=Ug) rfl rfl rfl ?_;unfold xB at H;unfold qX at g ⊢;by_cases c:1<=ref/\ref<=(Q T:Int);simp only[af c]at H g ⊢;obtain⟨k,rfl⟩:∃k:Nat,ref=(k:Int)+1:=⟨(ref-1).toNat,by omega⟩;have R:k<Q T:=by omega
 have m:k<Q gm:=by rw[h.len];exact R
 have E:((k:Int)+1-1).toNat=k:=by omega
 have B:=h.el k m R;have o:gm[k]?.getD 0=gm[k]:=by simp[m]
 have l:T.getD k []=T[k]:=by simp[R]
 rw[E]at H g ⊢;rw[l]at g ⊢;by_cases I:i<0;simp_all [Ug];by_cases D:(Q T[k]:Int)<=i;have:¬(0<=i/\i<(Q T[k]:Int)):=by omega
 rw[U this];simp[Ug,H,I,m,B,D]
 grind
 simp_all [U,Ug]
theorem XH(C g)(h:Rp st p T q v gm)(k j)(n:Q T<1000000000)(R)(m:k<Q gm)(l:j<Q T[k]):
  (bh S).call C g 144 [.ptr p 0 0 0,.int .i64 (k+1),.int .i64 j] st=Z (.fC [.ptr gm[k] 0 j 0,.int .i64 0],st):=by
 have H:=λC g=>Cr C g h ((k:Int)+1) n;refine aG (sf:=Ug) rfl rfl rfl ?_;unfold xB at H;have c:1<=(k:Int)+1/\(k:Int)+1<=(Q T:Int):=by omega
 simp only[af c]at H;have E:((k:Int)+1-1).toNat=k:=by omega
 have B:=h.el k m R;have U:gm.getD k 0=gm[k]:=by simp[m]
 rw[E,U]at H;have D:¬((Q T[k]:Int)<=(j:Int)):=by omega
 have J:¬((j:Int)<0):=by omega
 simp[Ug,H,B,D,l,J]
theorem Ht(C g)(h:Rp st p T q v gm)(ref)(j:Q T<1000000000):
  (bh S).call C g 115 [.ptr p 0 0 0,.int .i64 ref] st=Z (if 1<=ref/\ref<=Q T then .fC [.int .i64 (Q (T.getD (ref-1).toNat [])),.int .i64 0] else .fC [.int .i64 0,.int .i64 1],st):=by
 have H:=λC g=>Cr C g h ref j;refine aG (sf:=ahi) rfl rfl rfl ?_;unfold xB at H;by_cases c:1<=ref/\ref<=(Q T:Int);simp only[af c]at H ⊢;obtain⟨k,rfl⟩:∃k:Nat,ref=(k:Int)+1:=⟨(ref-1).toNat,by omega⟩;have R:k<Q T:=by omega
 have m:k<Q gm:=by rw[h.len];exact R
 have E:((k:Int)+1-1).toNat=k:=by omega
 have B:=h.el k m R;simp_all [ahi];simp_all [ahi]
theorem AZ(C g)(h:Rp st p T q v gm)(ref i)(l:Q T<1000000000):
  (bh S).call C g 112 [.ptr p 0 0 0,.int .i64 ref,.int .i64 i] st=Z (.fC [.int .i64 (if qX T ref i=0 then (T.getD (ref-1).toNat []).getD i.toNat 0 else 0),.int .i64 (qX T ref i)],st):=by
 refine aG (sf:=ahf) rfl rfl rfl ?_;by_cases H:qX T ref i=0;obtain⟨k,R,rfl,j,o,rfl⟩:∃k:Nat,∃m:k<Q T,ref=(k:Int)+1/\∃j:Nat,j<Q T[k]/\i=j:=by
  unfold qX at H;split at H;rename_i c;split at H;rename_i d;have m:(ref-1).toNat<Q T:=by omega
  have:T.getD (ref-1).toNat []=T[(ref-1).toNat]:=by simp only[aay,aae m,afA]
  rw[this]at d;exact⟨(ref-1).toNat,m,by omega,i.toNat,by omega,by omega⟩;cases H;cases H
 have m:k<Q gm:=by rw[h.len];exact R
 have n:=λC g=>XH C g h k j l R m o;have B:=h.el k m R;simp_all [ahf];have n:=λC g=>XG C g h ref i l H;simp_all [ahf]
def aiK(T:List (List Int))(ref i x:Int):List (List Int):=if qX T ref i=0 then T.set (ref-1).toNat ((T.getD (ref-1).toNat []).set i.toNat x) else T
theorem aeO{l:List Nat}(h:l.Nodup){a b}(H)(g:b<Q l)(e:l[a]=l[b]):a=b:=by
 grind [List.pairwise_iff_getElem]
theorem Rp.put(h:Rp st p T q v gm){k}(R:k<Q T)(g r):Rp (st.set gm[k] (.rows 0 1 (aT r))) p (T.set k r) q v gm:=by
 have H:T≠[]:=by grind
 have j:T.set k r≠[]:=by
  simp_all
 have o:gm[k]≠p:=λe=>h.pn (e ▸ aah g);have s:gm[k]≠q:=λe=>h.qn H (e ▸ aah g);have t:gm[k]<Q st:=(aad.1 (h.el k g R)).1;refine⟨by simpa using h.len,?_,λ_=>?_,λm n y=>?_,λ_=>h.pq H,h.pn,λ_=>h.qn H,h.nd⟩;rw[U j,aao o];exact h.aoe H;rw[aao s];exact h.eE H;by_cases e:k=m
 grind
 have:gm[k]≠gm[m]:=λE=>e (aeO h.nd g n E);rw[aao this];have l:m<Q T:=by grind
 rw[h.el m n l];simp[e]
theorem aiL{ref i}(H:qX T ref i=0):∃k:Nat,∃m,ref=k+1/\∃j,j<Q T[k]/\i=j:=by
 unfold qX at H;split at H;rename_i c;split at H;rename_i d;have m:(ref-1).toNat<Q T:=by omega
 have:T.getD (ref-1).toNat []=T[(ref-1).toNat]:=by simp only[aay,aae m,afA]
 rw[this]at d;exact⟨(ref-1).toNat,m,by omega,i.toNat,by omega,by omega⟩;cases H;cases H
def Fr(st s:aO)(F:List Nat):Prop:=Q st<=Q s/\∀i,i<Q st->i ∉ F->s[i]?=st[i]?
theorem yF(_lim:Nat)(h:Rp st p T q v gm)(ref i x)(o:Q T<1000000000):
  ∃st',(∀g,(bh S).call 0 g 114 [.ptr p 0 0 0,.int .i64 ref,.int .i64 i,.int .i64 x] st=Z (.int .i64 (qX T ref i),st'))/\Rp st' p (aiK T ref i x) q v gm/\Fr st st' gm/\Q st'=Q st:=by
 by_cases H:qX T ref i=0;obtain⟨k,R,rfl,j,r,rfl⟩:=aiL H;have m:k<Q gm:=by rw[h.len];exact R
 have n:=λC g=>XH C g h k j o R m r;have B:=h.el k m R;have E:((k:Int)+1-1).toNat=k:=by omega
 have l:T.getD k []=T[k]:=by grind
 have z:(aT T[k]).set j [.int .i64 x]=aT (T[k].set j x):=by simp[aT,List.map_set]
 have s:gm[k]<Q st:=(aad.1 B).1;have U:∀y,List.take (Q st) (st.set gm[k] y)=st.set gm[k] y:=λy=>List.take_of_length_le (by simp);refine⟨st.set gm[k] (.rows 0 1 (aT (T[k].set j x))),λg=>?_,?_,⟨by simp,λi t w=>?_⟩,by simp⟩;refine aG (sf:=acW) rfl rfl rfl ?_;simp_all [acW];unfold aiK;rw[af H,E,l];exact h.put R m _
 grind
 have n:=λC g=>XG C g h ref i o H;refine⟨st,λg=>?_,?_,⟨Nat.le_refl _,λ_ _ _=>rfl⟩,rfl⟩;refine aG (sf:=acW) rfl rfl rfl ?_;simp[acW,n,H];simp_all [aiK]
theorem pM{i:Nat}{x}(h:st[i]?=Z x)(l):(st++l)[i]?=Z x:=by
 grind
theorem v8{i x}(h:st[i]?=Z x)(l y):(st++l).set i y=st.set i y++l:=by grind
theorem Hu{C ai a st bx}:bD C ai (.Ts 1 1 [.aF] [0]) [.val (.mu a 0)] st bx=Z (.val (.mu (Q st) 0),st++[.rows 0 1 [[.mu a 0]]],bx):=rfl
theorem Vk{ai a b st bx}(h:st[b]?=Z (.rows 0 1 [[.mu a 0]])):
  bD 0 ai (.j8 1 24) [.val .aF,.val (.mu b 0)] st bx=Z (.val (.mu (Q st) 0),st++[.rows 0 1 [[.mu a 0]]],bx):=by
 simp[bD,uN,dO,fO,h,cy,AV.cP,AV.aj,dj]
theorem Vl{ai a b q v kF st bx}(h:st[b]?=Z (.rows 0 1 [[.mu a 0]]))(H:st[q]?=Z (.rows v 1 kF))(j:(Q kF+1)*24<=dj)(g:ai<=q):
  bD 0 ai (.j8 1 24) [.val (.mu q v),.val (.mu b 0)] st bx=Z (.val (.mu q (v+1)),st.set q (.rows (v+1) 1 (kF++[[.mu a 0]])),bx):=by
 simp[bD,uN,dO,fO,h,H,cy,AV.cP,AV.aj,j,g]
theorem pC(h:Rp st p T q v gm)(n:Nat)(hr:Q T<1000000)(P:n<=1000000):
  ∃s r v',(∀ai,ai<=p->ai<=q->(bh S).call 0 ai 146 [.ptr p 0 0 0,.int .i64 n] st=Z (.int .i64 (Q T+1),s))/\Rp s p (T++[aag n 0]) r v' (gm++[Q st])/\
   Fr st s [p,q]/\(T≠[]->r=q)/\(T=[]->Q st<=r/\r<Q s):=by
 by_cases g:T=[];subst g;have H:=h.atq;have N:=λl=>pM H l;have J:=λl y=>v8 H l y;have ZW:p<Q st:=(aad.1 H).1;have oQ:∀x l,(st.set p x++l)[p]?=Z x:=λx l=>by
  grind
 have E2:∀x a b c,(st.set p x++[a,b,c])[Q st+2]?=Z c:=λx a b c=>by
  grind
 refine⟨st.set p (.rows 0 1 [[.mu (Q st+2) 0]])++[.rows 0 1 (aag n [.int .i64 0]),.rows 0 1 [[.mu (Q st) 0]],.rows 0 1 [[.mu (Q st) 0]]],Q st+2,0,λai t R=>?_,?_⟩;refine aG (sf:=acf) rfl rfl rfl ?_;have B:(n:Int)*8<=dj:=by unfold dj;omega
 have W:n*8<=dj:=by grind
 simp[acf];rw[iu];have G:(st++[iW.rows 0 1 (aag n [.int .i64 0]),.rows 0 1 [[.mu (Q st) 0]]])[Q st+1]?=Z (.rows 0 1 [[.mu (Q st) 0]]):=by simp
 have w:=λai bx=>Vk (ai:=ai) (bx:=bx) G;simp[cY,H,cut,t,N,J,B,Hu,w,fh,cA,bw,AV.aD,AV.aH,aB,bP,eu.aX];refine⟨_,_,⟨rfl,rfl⟩,?_⟩;simp_all [kz.de,AV.de];have U:gm=[]:=List.eq_nil_of_length_eq_zero h.len;subst U;have Qa:p<Q st:=(aad.1 H).1;refine⟨⟨by simp,?_,λ_=>?_,λk D rI=>?_,λ_=>by omega,by simp;omega,λ_=>by simp,by simp⟩,⟨by simp,λi C P=>?_⟩,λh=>bH rfl h,λ_=>⟨by omega,by simp⟩⟩
 grind
 simp;simp_all [aT]
 grind
 have H:=h.aoe g;have F:=h.eE g;have Qy:=h.pq g;have N:=λl=>pM H l;have I:=λl=>pM F l;have Qa:p<Q st:=(aad.1 H).1;have Tl:q<Q st:=(aad.1 F).1;have M:=λl y=>v8 F l y;have o:∀y,(st.set q y)[p]?=Z (.rows 0 1 [[.mu q v]]):=λy=>by grind
 have Vn:=λy l=>pM (o y) l;have L:=λy l z=>v8 (o y) l z;have m:=h.len;have oQ:∀y x l,((st.set q y).set p x++l)[p]?=Z x:=λy x l=>by
  grind
 have hsq:∀y x l,((st.set q y).set p x++l)[q]?=Z y:=λy x l=>by
  grind
 refine⟨(st.set q (.rows (v+1) 1 (gm.map (λi=>[.mu i 0])++[[.mu (Q st) 0]]))).set p (.rows 0 1 [[.mu q (v+1)]])++[.rows 0 1 (aag n [.int .i64 0]),.rows 0 1 [[.mu (Q st) 0]]],q,v+1,λai t R=>?_,?_⟩;refine aG (sf:=acf) rfl rfl rfl ?_;have B:(n:Int)*8<=dj:=by unfold dj;omega
 have W:n*8<=dj:=by grind
 simp[acf];rw[iu];have G:(st++[iW.rows 0 1 (aag n [.int .i64 0]),.rows 0 1 [[.mu (Q st) 0]]])[Q st+1]?=Z (.rows 0 1 [[.mu (Q st) 0]]):=by simp
 have w:=λbx=>Vl (ai:=ai) (bx:=bx) G (I _) (by simp[m,dj];omega) R;have hw:IntKind.i64.wrap (Q T:Int)=(Q T:Int):=by rw[dg]<;>omega
 simp[cY,H,cut,t,M,Vn,L,B,Hu,w,fh,cA,bw,AV.aD,AV.aH,aB,bP,eu.aX];refine⟨_,_,⟨rfl,rfl⟩,?_⟩;simp_all [kz.de,AV.de];refine⟨⟨by simp[m],?_,λ_=>?_,λk D rI=>?_,λ_=>Qy,?_,λ_=>?_,?_⟩,⟨by simp,λi C P=>?_⟩,λ_=>rfl,λe=>bH e g⟩;simp_all
 grind
 by_cases e:k<Q gm;have j:k<Q T:=by omega
 have h1:(gm++[Q st])[k]=gm[k]:=ais e;have h2:(T++[aag n 0])[k]=T[k]:=ais j;have hp:p≠gm[k]:=λE=>h.pn (E ▸ aah e);have hq:q≠gm[k]:=λE=>h.qn g (E ▸ aah e);have C:=h.el k e j;rw[h1,h2,List.getElem?_append_left (by grind),aao hp,aao hq];exact C;simp_all [aT];simp;exact⟨h.pn,by omega⟩;simp;exact⟨h.qn g,by omega⟩;refine List.nodup_append.2 ⟨h.nd,by simp,λa ha b O=>?_⟩;simp at O;subst O;intro e;subst e;obtain⟨k,D,e⟩:=List.mem_iff_getElem.1 ha;have:=(aad.1 (h.el k D (by omega))).1;omega
 grind
end xI
namespace xI
open Ax Go aM
variable {st:aO}{p q v:Nat}{T:List (List Int)}{gm:List Nat}
def lX(n:Int):Nat:=if n<0 then 0 else if 8<n then 8 else n.toNat
theorem Vo(h:Rp st p T q v gm)(n)(r:Q T<1000000):
  ∃s k j,(∀ai,ai<=p->ai<=q->(bh S).call 0 ai 116 [.ptr p 0 0 0,.int .i64 n] st=Z (.int .i64 (Q T+1),s))/\Rp s p (T++[aag (lX n) 0]) k j (gm++[Q st])/\
   Fr st s [p,q]/\(T≠[]->k=q)/\(T=[]->Q st<=k/\k<Q s):=by
 obtain⟨s,k,j,H,o⟩:=pC h (lX n) r (by unfold lX;split<;>(try split)<;>omega);refine⟨s,k,j,λai L t=>?_,o⟩;have l:=H ai L t;refine aG (sf:=acz) rfl rfl rfl ?_;unfold lX at l;by_cases N:n<0;rw[af N]at l;have a:max n 0=0:=by omega
 have m:(bh S).call 0 ai 146 [.ptr p 0 0 0,.int .i64 0] st=_:=l;simp[acz,N,m];rw[U N]at l;have a:max n 0=n:=by omega
 by_cases g:8<n;rw[af g]at l;have b:min n 8=8:=by omega
 have m:(bh S).call 0 ai 146 [.ptr p 0 0 0,.int .i64 8] st=_:=l;simp[acz,N,g,m];rw[U g]at l;have b:min n 8=n:=by omega
 have e:(n.toNat:Int)=n:=by omega
 rw[e]at l;simp[acz,N,g,l]
theorem Vp(C g n st)(H:n<0\/50<n):(bh S).call C g 117 [.ptr p 0 0 0,.int .i64 n] st=Z (.fC [.int .i64 0,.int .i64 4],st):=by
 refine aG (sf:=YL) rfl rfl rfl ?_;by_cases N:n<0;simp[YL,N];have h:50<n:=by omega
 simp[YL,N,h]
theorem Vq(h:Rp st p T q v gm)(n:Nat)(m:Q T<1000000)(t:n<=50):
  ∃s k g,(∀ai,ai<=p->ai<=q->(bh S).call 0 ai 117 [.ptr p 0 0 0,.int .i64 n] st=Z (.fC [.int .i64 (Q T+1),.int .i64 0],s))/\Rp s p (T++[aag n 0]) k g (gm++[Q st])/\
   Fr st s [p,q]/\(T≠[]->k=q)/\(T=[]->Q st<=k/\k<Q s):=by
 obtain⟨s,k,g,H,j⟩:=pC h n m (by omega);refine⟨s,k,g,λai L o=>?_,j⟩;have l:=H ai L o;refine aG (sf:=YL) rfl rfl rfl ?_;have N:¬((n:Int)<0):=by omega
 have r:¬((50:Int)<(n:Int)):=by omega
 simp[YL,N,r,l]
theorem aog(wl ai st):(bh S).call wl ai 18 [] st=Z (.ptr (Q st) 0 0 0,st++[.rows 0 1 [[.aF]]]):=by
 refine aG (sf:=s18) rfl rfl rfl ?_;simp[s18]
end xI
