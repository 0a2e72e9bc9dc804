/- Part of a proof. -/
import Derived.Test.YtgblgbgjmgjfkaaGreatCode1
import Derived.Test.YtgblgbgjmgjfkaaGreatA6

open List renaming getD_eq_getElem?_getD->aen,getElem?_eq_getElem->aas,getElem_mem->acH,getElem?_eq_some_iff->aac,getElem?_set_ne->ad6,replicate->acp,getElem_append_left->ajr
open Option renaming getD_some->ahB
set_option maxRecDepth 100000
set_option maxHeartbeats 1000000
namespace wT
open Ax Go aO
@[simp]theorem azM:MM .ptr .eP .eP=some true:=rfl
variable{i a:Nat}{bx:bK}
@[simp]theorem azN{id v k:Nat}:MM .ptr (.ptr id v i k) .eP=some false:=rfl
structure Rp (st:aj)(p:Nat)(T:List (List Int))(q v:Nat)(fP:List Nat):Prop where
 len:fP.length=T.length
 bO:st[p]?=some (.rows 0 1 [[if T=[] then .aF else .mu q v]])
 dV:T≠[]->st[q]?=some (.rows v 1 (fP.map λi=>[.mu i 0]))
 el:∀k (h:k<fP.length) (h2:k<T.length),st[fP[k]]?=some (.rows 0 1 (aP T[k]))
 pq:T≠[]->p≠q
 pn:p ∉ fP
 qn:T≠[]->q ∉ fP
 nd:fP.Nodup
variable {st:aj}{p q v:Nat}{T:List (List Int)}{fP:List Nat}
theorem Rp.arJ(h:Rp st p [] q v fP):st[p]?=some (.rows 0 1 [[.aF]]):=h.bO
theorem Rp.amD(h:Rp st p T q v fP)(g:T≠[]):st[p]?=some (.rows 0 1 [[.mu q v]]):=by have:=h.bO;grind
def wN(T:List (List Int))(fP:List Nat)(ref:Int):AV:=if 1<=ref/\ref<=(T.length:Int) then .eY [.mu (fP.getD (ref-1).toNat 0) 0,.bool true] else .eY [.aF,.bool false]
theorem By(w j:Nat)(h:Rp st p T q v fP)(ref:Int)(o:T.length<1000000000) :
  (aZ S).call w j 145 [.ptr p 0 0 0,.int .i64 ref] st=some (wN T fP ref,st):=by
 refine aG (sf:=XL) rfl rfl rfl ?_;unfold wN;by_cases r0:ref<1;have:¬(1<=ref/\ref<=(T.length:Int)):=by omega
 simp_all [XL];by_cases g:T=[];subst g;have:¬(1<=ref/\ref<=(([]:List (List Int)).length:Int)):=by simp;omega
 rw[U this];have r:0<ref:=by omega
 simp[XL,r0,h.arJ,cut,r];have z:=h.amD g;have H:=h.dV g;have m:=h.len;by_cases R:(T.length:Int)<ref;have:¬(1<=ref/\ref<=(T.length:Int)):=by omega
 rw[U this];simp[XL,r0,z,H,cut,m,R];obtain⟨k,rfl⟩:∃k:Nat,ref=(k:Int)+1:=⟨(ref-1).toNat,by omega⟩;have l:k<fP.length:=by omega
 have Q:k<T.length:=by omega
 have:1<=(k:Int)+1/\(k:Int)+1<=(T.length:Int):=by omega
 rw[af this];have n:IntKind.i64.wrap (k:Int)=(k:Int):=by rw[dY]<;>omega
 have E:((k:Int)+1-1).toNat=k:=by omega
 have O:fP[k]?.getD 0=fP[k]:=by simp[l]
 simp[XL,r0,z,H,cut,m,R,n,Q]
def qp(T:List (List Int))(ref i:Int):Int:=if 1<=ref/\ref<=(T.length:Int) then (if 0<=i/\i<((T.getD (ref-1).toNat []).length:Int) then 0 else 2) else 1
theorem WD(w g:Nat)(h:Rp st p T q v fP)(ref i:Int)(n:T.length<1000000000)(X:qp T ref i≠0) :
  (aZ S).call w g 144 [.ptr p 0 0 0,.int .i64 ref,.int .i64 i] st=some (.eY [.eP,.int .i64 (qp T ref i)],st):=by
 have H:=λw g=>By w g h ref n;refine aG (sf:=Tx) rfl rfl rfl ?_;unfold wN at H;unfold qp at X ⊢;by_cases c:1<=ref/\ref<=(T.length:Int);simp only[af c]at H X ⊢;obtain⟨k,rfl⟩:∃k:Nat,ref=(k:Int)+1:=⟨(ref-1).toNat,by omega⟩;have Q:k<T.length:=by omega
 have l:k<fP.length:=by rw[h.len];exact Q
 have E:((k:Int)+1-1).toNat=k:=by omega
 have m:=h.el k l Q;have O:fP[k]?.getD 0=fP[k]:=by simp[l]
 have j:T.getD k []=T[k]:=by simp[Q]
 rw[E]at H X ⊢;rw[j]at X ⊢;by_cases I:i<0;simp_all [Tx];by_cases C:(T[k].length:Int)<=i;have:¬(0<=i/\i<(T[k].length:Int)):=by omega
 rw[U this];simp[Tx,H,I,l,m,C]
 grind
 simp_all [U,Tx]
theorem WG(w g:Nat)(h:Rp st p T q v fP)(k j:Nat)(m:T.length<1000000000)(Q:k<T.length)(l:k<fP.length)(X:j<T[k].length) :
  (aZ S).call w g 144 [.ptr p 0 0 0,.int .i64 ((k:Int)+1),.int .i64 j] st=some (.eY [.ptr fP[k] 0 j 0,.int .i64 0],st):=by
 have H:=λw g=>By w g h ((k:Int)+1) m;refine aG (sf:=Tx) rfl rfl rfl ?_;unfold wN at H;have c:1<=(k:Int)+1/\(k:Int)+1<=(T.length:Int):=by omega
 simp only[af c]at H;have E:((k:Int)+1-1).toNat=k:=by omega
 have U:=h.el k l Q;have O:fP.getD k 0=fP[k]:=by simp[l]
 rw[E,O]at H;have C:¬((T[k].length:Int)<=(j:Int)):=by omega
 have N:¬((j:Int)<0):=by omega
 simp[Tx,H,U,C,X,N]
theorem Gl(w g:Nat)(h:Rp st p T q v fP)(ref:Int)(l:T.length<1000000000) :
  (aZ S).call w g 115 [.ptr p 0 0 0,.int .i64 ref] st=some (if 1<=ref/\ref<=(T.length:Int) then .eY [.int .i64 (T.getD (ref-1).toNat []).length,.int .i64 0] else .eY [.int .i64 0,.int .i64 1],st):=by
 have H:=λw g=>By w g h ref l;refine aG (sf:=af1) rfl rfl rfl ?_;unfold wN at H;by_cases c:1<=ref/\ref<=(T.length:Int);simp only[af c]at H ⊢;obtain⟨k,rfl⟩:∃k:Nat,ref=(k:Int)+1:=⟨(ref-1).toNat,by omega⟩;have Q:k<T.length:=by omega
 have j:k<fP.length:=by rw[h.len];exact Q
 have E:((k:Int)+1-1).toNat=k:=by omega
 have U:=h.el k j Q;simp_all [af1];simp_all [af1]
theorem Aa(w g:Nat)(h:Rp st p T q v fP)(ref i:Int)(l:T.length<1000000000) :
  (aZ S).call w g 112 [.ptr p 0 0 0,.int .i64 ref,.int .i64 i] st=some (.eY [.int .i64 (if qp T ref i=0 then (T.getD (ref-1).toNat []).getD i.toNat 0 else 0),.int .i64 (qp T ref i)],st):=by
 refine aG (sf:=af5) rfl rfl rfl ?_;by_cases X:qp T ref i=0;obtain⟨k,Q,rfl,j,n,rfl⟩:∃k:Nat,∃H:k<T.length,ref=(k:Int)+1/\∃j:Nat,j<T[k].length/\i=j:=by
  unfold qp at X;split at X;rename_i c;split at X;rename_i d;have H:(ref-1).toNat<T.length:=by omega
  have:T.getD (ref-1).toNat []=T[(ref-1).toNat]:=by simp only[aen,aas H,ahB]
  rw[this]at d;exact⟨(ref-1).toNat,H,by omega,i.toNat,by omega,by omega⟩;cases X;cases X
 have H:k<fP.length:=by rw[h.len];exact Q
 have m:=λw g=>WG w g h k j l Q H n;have U:=h.el k H Q;simp_all [af5];have m:=λw g=>WD w g h ref i l X;simp_all [af5]
def ahq(T:List (List Int))(ref i x:Int):List (List Int):=if qp T ref i=0 then T.set (ref-1).toNat ((T.getD (ref-1).toNat []).set i.toNat x) else T
theorem adC{l:List Nat}(h:l.Nodup){b:Nat}(H:a<l.length)(g:b<l.length)(e:l[a]=l[b]):a=b:=by
 grind [List.pairwise_iff_getElem]
theorem Rp.put(h:Rp st p T q v fP){k:Nat}(Q:k<T.length)(j:k<fP.length)(r:List Int):Rp (st.set fP[k] (.rows 0 1 (aP r))) p (T.set k r) q v fP:=by
 have g:T≠[]:=by grind
 have H:T.set k r≠[]:=by
  simp_all
 have o:fP[k]≠p:=λe=>h.pn (e ▸ acH j);have s:fP[k]≠q:=λe=>h.qn g (e ▸ acH j);have t:fP[k]<st.length:=(aac.1 (h.el k j Q)).1;refine⟨by simpa using h.len,?_,λ_=>?_,λm n X=>?_,λ_=>h.pq g,h.pn,λ_=>h.qn g,h.nd⟩;rw[U H,ad6 o];exact h.amD g;rw[ad6 s];exact h.dV g;by_cases e:k=m
 grind
 have:fP[k]≠fP[m]:=λE=>e (adC h.nd j n E);rw[ad6 this];have l:m<T.length:=by grind
 rw[h.el m n l];simp[e]
theorem ahr{ref i:Int}(X:qp T ref i=0):∃k:Nat,∃h:k<T.length,ref=(k:Int)+1/\∃j:Nat,j<T[k].length/\i=j:=by
 unfold qp at X;split at X;rename_i c;split at X;rename_i d;have h:(ref-1).toNat<T.length:=by omega
 have:T.getD (ref-1).toNat []=T[(ref-1).toNat]:=by simp only[aen,aas h,ahB]
 rw[this]at d;exact⟨(ref-1).toNat,h,by omega,i.toNat,by omega,by omega⟩;cases X;cases X
def Fr(st s:aj)(F:List Nat):Prop:=st.length<=s.length/\∀i,i<st.length->i ∉ F->s[i]?=st[i]?
theorem xS(_lim:Nat)(h:Rp st p T q v fP)(ref i x:Int)(n:T.length<1000000000) :
  ∃st',(∀g,(aZ S).call 0 g 114 [.ptr p 0 0 0,.int .i64 ref,.int .i64 i,.int .i64 x] st=some (.int .i64 (qp T ref i),st'))/\Rp st' p (ahq T ref i x) q v fP/\Fr st st' fP/\st'.length=st.length:=by
 by_cases X:qp T ref i=0;obtain⟨k,Q,rfl,j,o,rfl⟩:=ahr X;have l:k<fP.length:=by rw[h.len];exact Q
 have m:=λw g=>WG w g h k j n Q l o;have U:=h.el k l Q;have E:((k:Int)+1-1).toNat=k:=by omega
 have H:T.getD k []=T[k]:=by grind
 have t:(aP T[k]).set j [.int .i64 x]=aP (T[k].set j x):=by simp[aP,List.map_set]
 have F:fP[k]<st.length:=(aac.1 U).1;have z:∀y,List.take st.length (st.set fP[k] y)=st.set fP[k] y:=λy=>List.take_of_length_le (by simp);refine⟨st.set fP[k] (.rows 0 1 (aP (T[k].set j x))),λg=>?_,?_,⟨by simp,λi r s=>?_⟩,by simp⟩;refine aG (sf:=abl) rfl rfl rfl ?_;simp_all [abl];unfold ahq;rw[af X,E,H];exact h.put Q l _
 grind
 have m:=λw g=>WD w g h ref i n X;refine⟨st,λg=>?_,?_,⟨Nat.le_refl _,λ_ _ _=>rfl⟩,rfl⟩;refine aG (sf:=abl) rfl rfl rfl ?_;simp[abl,m,X];simp_all [ahq]
theorem oG{x:dJ}(h:st[i]?=some x)(l:aj):(st++l)[i]?=some x:=by
 grind
theorem u7{x:dJ}(h:st[i]?=some x)(l:aj)(y:dJ):(st++l).set i y=st.set i y++l:=by grind
theorem Gm{w ah:Nat}{st:aj}:bz w ah (.Sv 1 1 [.aF] [0]) [.val (.mu a 0)] st bx=some (.val (.mu st.length 0),st++[.rows 0 1 [[.mu a 0]]],bx):=rfl
theorem Uu{ah b:Nat}{st:aj}(h:st[b]?=some (.rows 0 1 [[.mu a 0]])) :
  bz 0 ah (.jH 1 24) [.val .aF,.val (.mu b 0)] st bx=some (.val (.mu st.length 0),st++[.rows 0 1 [[.mu a 0]]],bx):=by
 simp[bz,tR,dG,fA,h,cr,AV.cC,AV.ai,cZ]
theorem Uv{ah b q v:Nat}{jf:List (List AV)}{st:aj}(h:st[b]?=some (.rows 0 1 [[.mu a 0]]))(H:st[q]?=some (.rows v 1 jf))(j:(jf.length+1)*24<=cZ)(g:ah<=q) :
  bz 0 ah (.jH 1 24) [.val (.mu q v),.val (.mu b 0)] st bx=some (.val (.mu q (v+1)),st.set q (.rows (v+1) 1 (jf++[[.mu a 0]])),bx):=by
 simp[bz,tR,dG,fA,h,H,cr,AV.cC,AV.ai,j,g]
theorem ou(h:Rp st p T q v fP)(n:Nat)(hr:T.length<1000000)(K:n<=1000000) :
  ∃s Q v',(∀ah,ah<=p->ah<=q->(aZ S).call 0 ah 146 [.ptr p 0 0 0,.int .i64 n] st=some (.int .i64 ((T.length:Int)+1),s))/\Rp s p (T++[acp n 0]) Q v' (fP++[st.length])/\
   Fr st s [p,q]/\(T≠[]->Q=q)/\(T=[]->st.length<=Q/\Q<s.length):=by
 by_cases g:T=[];subst g;have H:=h.arJ;have U:=λl=>oG H l;have D:=λl y=>u7 H l y;have YX:p<st.length:=(aac.1 H).1;have nU:∀x l,(st.set p x++l)[p]?=some x:=λx l=>by
  grind
 have Al:∀x a b c,(st.set p x++[a,b,c])[st.length+2]?=some c:=λx a b c=>by
  grind
 refine⟨st.set p (.rows 0 1 [[.mu (st.length+2) 0]])++[.rows 0 1 (acp n [.int .i64 0]),.rows 0 1 [[.mu st.length 0]],.rows 0 1 [[.mu st.length 0]]],st.length+2,0,λah N L=>?_,?_⟩;refine aG (sf:=abj) rfl rfl rfl ?_;have r:(n:Int)*8<=cZ:=by unfold cZ;omega
 have P:n*8<=cZ:=by grind
 simp[abj];rw[gO];have V:(st++[dJ.rows 0 1 (acp n [.int .i64 0]),.rows 0 1 [[.mu st.length 0]]])[st.length+1]?=some (.rows 0 1 [[.mu st.length 0]]):=by simp
 have G:=λah bx=>Uu (ah:=ah) (bx:=bx) V;simp[cR,H,cut,N,U,D,r,Gm,G,eR,cw,bu,AV.aB,AV.aH,ay,di,fZ.bM];refine⟨_,_,⟨rfl,rfl⟩,?_⟩;simp_all [fz.cU,AV.cU];have M:fP=[]:=List.eq_nil_of_length_eq_zero h.len;subst M;have O:p<st.length:=(aac.1 H).1;refine⟨⟨by simp,?_,λ_=>?_,λk w qI=>?_,λ_=>by omega,by simp;omega,λ_=>by simp,by simp⟩,⟨by simp,λi t K=>?_⟩,λh=>au rfl h,λ_=>⟨by omega,by simp⟩⟩
 grind
 simp;simp_all [aP]
 grind
 have H:=h.amD g;have B:=h.dV g;have R:=h.pq g;have U:=λl=>oG H l;have C:=λl=>oG B l;have O:p<st.length:=(aac.1 H).1;have Va:q<st.length:=(aac.1 B).1;have I:=λl y=>u7 B l y;have o:∀y,(st.set q y)[p]?=some (.rows 0 1 [[.mu q v]]):=λy=>by grind
 have W:=λy l=>oG (o y) l;have F:=λy l z=>u7 (o y) l z;have m:=h.len;have nU:∀y x l,((st.set q y).set p x++l)[p]?=some x:=λy x l=>by
  grind
 have hsq:∀y x l,((st.set q y).set p x++l)[q]?=some y:=λy x l=>by
  grind
 refine⟨(st.set q (.rows (v+1) 1 (fP.map (λi=>[.mu i 0])++[[.mu st.length 0]]))).set p (.rows 0 1 [[.mu q (v+1)]])++[.rows 0 1 (acp n [.int .i64 0]),.rows 0 1 [[.mu st.length 0]]],q,v+1,λah N L=>?_,?_⟩;refine aG (sf:=abj) rfl rfl rfl ?_;have r:(n:Int)*8<=cZ:=by unfold cZ;omega
 have P:n*8<=cZ:=by grind
 simp[abj];rw[gO];have V:(st++[dJ.rows 0 1 (acp n [.int .i64 0]),.rows 0 1 [[.mu st.length 0]]])[st.length+1]?=some (.rows 0 1 [[.mu st.length 0]]):=by simp
 have G:=λbx=>Uv (ah:=ah) (bx:=bx) V (C _) (by simp[m,cZ];omega) L;have hw:IntKind.i64.wrap (T.length:Int)=(T.length:Int):=by rw[dY]<;>omega
 simp[cR,H,cut,N,I,W,F,r,Gm,G,eR,cw,bu,AV.aB,AV.aH,ay,di,fZ.bM];refine⟨_,_,⟨rfl,rfl⟩,?_⟩;simp_all [fz.cU,AV.cU];refine⟨⟨by simp[m],?_,λ_=>?_,λk w qI=>?_,λ_=>R,?_,λ_=>?_,?_⟩,⟨by simp,λi t K=>?_⟩,λ_=>rfl,λe=>au e g⟩;simp_all
 grind
 by_cases e:k<fP.length;have j:k<T.length:=by omega
 have X:(fP++[st.length])[k]=fP[k]:=ajr e;have Y:(T++[acp n 0])[k]=T[k]:=ajr j;have hp:p≠fP[k]:=λE=>h.pn (E ▸ acH e);have hq:q≠fP[k]:=λE=>h.qn g (E ▸ acH e);have t:=h.el k e j;rw[X,Y,List.getElem?_append_left (by grind),ad6 hp,ad6 hq];exact t;simp_all [aP];simp;exact⟨h.pn,by omega⟩;simp;exact⟨h.qn g,by omega⟩;refine List.nodup_append.2 ⟨h.nd,by simp,λa Z b J=>?_⟩;simp at J;subst J;intro e;subst e;obtain⟨k,w,e⟩:=List.mem_iff_getElem.1 Z;have:=(aac.1 (h.el k w (by omega))).1;omega
 grind
end wT
namespace wT
open Ax Go aO
variable {st:aj}{p q v:Nat}{T:List (List Int)}{fP:List Nat}
def kU(n:Int):Nat:=if n<0 then 0 else if 8<n then 8 else n.toNat
theorem Uy(h:Rp st p T q v fP)(n:Int)(m:T.length<1000000) :
  ∃s Q V,(∀ah,ah<=p->ah<=q->(aZ S).call 0 ah 116 [.ptr p 0 0 0,.int .i64 n] st=some (.int .i64 ((T.length:Int)+1),s))/\Rp s p (T++[acp (kU n) 0]) Q V (fP++[st.length])/\
   Fr st s [p,q]/\(T≠[]->Q=q)/\(T=[]->st.length<=Q/\Q<s.length):=by
 obtain⟨s,Q,V,H,k⟩:=ou h (kU n) m (by unfold kU;split<;>(try split)<;>omega);refine⟨s,Q,V,λah L o=>?_,k⟩;have j:=H ah L o;refine aG (sf:=aby) rfl rfl rfl ?_;unfold kU at j;by_cases N:n<0;rw[af N]at j;have a:max n 0=0:=by omega
 have l:(aZ S).call 0 ah 146 [.ptr p 0 0 0,.int .i64 0] st=_:=j;simp[aby,N,l];rw[U N]at j;have a:max n 0=n:=by omega
 by_cases g:8<n;rw[af g]at j;have b:min n 8=8:=by omega
 have l:(aZ S).call 0 ah 146 [.ptr p 0 0 0,.int .i64 8] st=_:=j;simp[aby,N,g,l];rw[U g]at j;have b:min n 8=n:=by omega
 have e:(n.toNat:Int)=n:=by omega
 rw[e]at j;simp[aby,N,g,j]
theorem Uz(w k:Nat)(n:Int)(st:aj)(h:n<0\/50<n):(aZ S).call w k 117 [.ptr p 0 0 0,.int .i64 n] st=some (.eY [.int .i64 0,.int .i64 4],st):=by
 refine aG (sf:=XO) rfl rfl rfl ?_;by_cases N:n<0;simp[XO,N];have g:50<n:=by omega
 simp[XO,N,g]
theorem UA(h:Rp st p T q v fP)(n:Nat)(k:T.length<1000000)(o:n<=50) :
  ∃s Q V,(∀ah,ah<=p->ah<=q->(aZ S).call 0 ah 117 [.ptr p 0 0 0,.int .i64 n] st=some (.eY [.int .i64 ((T.length:Int)+1),.int .i64 0],s))/\Rp s p (T++[acp n 0]) Q V (fP++[st.length])/\
   Fr st s [p,q]/\(T≠[]->Q=q)/\(T=[]->st.length<=Q/\Q<s.length):=by
 obtain⟨s,Q,V,H,g⟩:=ou h n k (by omega);refine⟨s,Q,V,λah l L=>?_,g⟩;have j:=H ah l L;refine aG (sf:=XO) rfl rfl rfl ?_;have N:¬((n:Int)<0):=by omega
 have m:¬((50:Int)<(n:Int)):=by omega
 simp[XO,N,m,j]
theorem amF(wl ah:Nat)(st:aj):(aZ S).call wl ah 18 [] st=some (.ptr st.length 0 0 0,st++[.rows 0 1 [[.aF]]]):=by
 refine aG (sf:=s18) rfl rfl rfl ?_;simp[s18]
end wT
