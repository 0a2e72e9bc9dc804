/- Part of a proof. -/
import Derived.Test.YtgblgbgjmgjfkaaGreatA3
import Derived.Orders

open List renaming map_cons->aei,eq_of_mem_replicate->aem,getElem?_eq_getElem->aas,replicate->acp,getElem?_take->aeq,length_replicate->akF,foldl_cons->al6,mem_cons->aev,nodup_cons->aiY,mem_iff_getElem->aec,getElem?_eq_some_iff->aac,all_eq_true->ac3,getElem?_append_left->acJ,getElem?_set->aek,mem_append->aed,mem_of_mem_take->agM,mem_of_mem_drop->agN,nodup_nil->apq,contains_eq_mem->aiU,length_cons->aeo,range->aiI,mem_range->anY
open Option renaming map_eq_some_iff->aex,getD_some->ahB
open Nat renaming mul_le_mul_right->aez,le_refl->acO,le_trans->aeM,lt_of_lt_of_le->akE,lt_or_ge->aiM,eq_zero_or_pos->aiN
open Int renaming mul_le_mul_of_nonneg_left->ajy
open Bool renaming and_eq_true->Ee,false_eq_true->acC,or_eq_true->aet,not_eq_true'->afh
open Array renaming ext'->aol,getElem?_eq_some_iff->ael
namespace Ax
open Go
variable {P:Program}{w w':World}{G G':bD}{β jm:List qh}{ρ:Operand->Value}{o:Oper}
variable {S:Nat->Option aL}{so:ct}{vals:List fz}{wl ah:Nat}{st st':aj}{bx iz:bK}{cO:Nat->Nat}{r:fz}
variable{v:Value}{parts:Array (Nat×Operand)}{sz:Nat}
theorem lC.le{cO C:Nat->Nat}(h:lC w G β st bx cO w' G' jm st' iz r v)(H:∀b,cO b<=C b):lC w G β st bx C w' G' jm st' iz r v:=
 { h with iw:=λb=>by have g:=h.iw b;have j:=H b;omega,AQ:=λb l=>h.AQ b (by have:=H b;omega) }
theorem ajz{t e:TypeId}(z:o.op=.buildSlice t 0 parts)(g:P.underlying t=some (.slice e))(E:dA P e sz=true)(j:parts = #[]) :
  (execOp ρ o).run P w=.ok (.value (.slice (some ⟨w.heap.size,0,none⟩) 0 0)) (w.alloc (.cells #[] e)):=by
 obtain⟨i,H,k,_⟩:=nW E;subst j;have h:(Array.range 0).map (λ_:Nat=>(default:Value)) = #[]:=by apply aol;simp
 simp[execOp,z,Instr.buildSlice,cn g,Go.sizeOf,typeInfo,H,Instr.fill,newRow];rw[h]
theorem aii{t:TypeId}{n n':Nat}{zero:List AV}{Q:List Nat}{mu:Bool}(T:o.op=.buildSlice t n parts)(R:n=n')
  (z:match P.underlying t with
   |some (.slice e)=>(dA P e sz&&decide (n*sz<=16777216)&&rK P e zero&&decide (0<sz)&&(zero.length==sz)&&parts.toList.map (·.1)==Q)=true|_=>False) (L:lN w G st) (J:mD w G β bx)
  (M:nD w G β vals ((parts.toList.map (·.2)).map ρ)) (g:∀b,oZ b vals ((parts.toList.map (·.2)).map ρ)<=cO b) (H:bz wl ah (if mu then .Sv sz n' zero Q else .lit sz n' zero Q) vals st bx=some (r,st',iz)) :
  lY P ρ o w G β st bx cO none r st' iz:=by
 subst R;split at z;rename_i e N;simp only[Ee,aA,cD]at z;obtain⟨⟨⟨⟨⟨I,SH⟩,Z⟩,j⟩,US⟩,y⟩:=z;have MW:(parts.toList.map (·.2)).map ρ=parts.toList.map λp=>ρ p.2:=by simp
 rw[MW]at M g;cases mu with
 |true=>
  simp only[bh]at H;unfold bz at H;simp only at H;split at H;rename_i vs D;split at H;rename_i rows Y;split at H;rename_i h;simp only[Ee,aA]at h;cases H;obtain⟨q,Jc⟩:=M.Xk D;obtain⟨cells,E,C,e3,F,e5,e6⟩:=aib (w:=w) T N I SH Z j US y Y h.2 q;obtain⟨G',hA,_⟩:=AR (sz:=sz) (cap:=n) (rows:=rows) (c:=cells) (e:=e) (xs:=cells.toList) (w':=w.alloc (.cells cells e)) (cO:=cO) L J rfl rfl rfl F (D9 h.1) C h.2 (by omega) (by omega) (by simp)
   (λb=>by have h1:=e3 b;have h2:=g b;rw[Jc]at h2;omega)
  exact⟨_,_,_,G',β,E,.inl rfl,hA,gx.refl _ _⟩;cases H;cases H;cases H
 |false=>
  simp only[acC,br]at H;unfold bz at H;simp only at H;split at H;rename_i vs D;split at H;rename_i rows Y;split at H;rename_i h;simp only[Ee]at h;cases H;obtain⟨q,Jc⟩:=M.Xk D;by_cases hn:n=0;subst hn;rw[af rfl];have B:parts = #[]:=by
   cases MU:parts.toList with
   |nil=>exact Array.toList_eq_nil_iff.1 MU|cons p l=>
    rw[MU]at y;subst y;simp only[aei,List.replicate_zero]at Y;cases Sj:AV.cC vs with
    |nil=>rw[Sj]at Y;simp[iK]at Y|cons v l'=>rw[Sj]at Y;simp[iK]at Y
  exact⟨_,_,_,_,β,ajz T N I B,.inl rfl,H6 (w':=w.alloc (.cells #[] e)) rfl rfl rfl none L J (.oI _) λb=>by simp[iw],gx.refl _ _⟩;rw[U hn];have Lc:0<n:=by omega
  obtain⟨cells,E,C,e3,F,e5,e6⟩:=aib (w:=w) T N I SH Z j US y Y Lc q.ai;have ee:∀r∈rows,AV.fJ r=true:=by
   obtain⟨_,_,_,_,_,Pu,_⟩:=oK Z w G;have:=Ea (sz:=sz) (p:=λc=>c.de=true) Q (AV.cC vs) _ rows (λr W c h=>by
    rw[aem W]at h;exact(Pu c h).1) (λv q=>P7 (P8 vs v q)) Y
   exact λr W=>(dD r).2 (this r W)
  have X:=MZ (G:=G.new w.heap.size (some (rows.length*sz)) []) (w:=w.alloc (.cells cells e)) (cap:=n) (off:=0) F (D9 h.2) ee (P6 h.1) (C.push (w':=w.alloc (.cells cells e)) rfl _ _) (vM rfl) (by omega) (by omega) (by simp[bD.new]) (λk x hk=>by rw[Nat.zero_add];simpa using hk);exact⟨_,_,_,_,β,E,.inl rfl,H6 (w':=w.alloc (.cells cells e)) rfl rfl rfl (some (rows.length*sz)) L J X.ai λb=>by simp[iw],gx.refl _ _⟩;cases H;cases H;cases H
 exact z.elim
theorem y9{g:Type}{l:List g}(h:l.length=2):∃x y,l=[x,y]:=by
 match l,h with
 |[x,y],_=>exact⟨x,y,rfl⟩
theorem HC{vals:List fz}(wl ah:Nat):bz wl ah (.indexAddr sz) vals st bx=bz 0 0 (.indexAddr sz) vals st bx:=rfl
theorem aoY{w:World}{G:bD}{b:Bool}(h:bF w G (.bool b) v):v=.bool b:=h.l6
theorem ajB(q:mOp S P o so=true)(E:lN w G st)(I:mD w G β bx)(hX:∀b,cO b+iJ b β bx+cV b G.ls st<=1)
  (L:∀xs,iM xs so.args=true->nD w G β vals (xs.map ρ)/\∀b,oZ b vals (xs.map ρ)<=cO b)(H:bz wl ah so.op vals st bx=some (r,st',iz)) :
  lY P ρ o w G β st bx cO so.op.bM r st' iz:=by
 unfold mOp at q;rw[Ee]at q;replace q:=q.2;generalize hso:so.op=sop at q H;split at q;rename_i x C;obtain⟨B,D⟩:=L _ q;unfold bz at H;simp only at H;split at H;cases H;exact lY.qw E I (u:=ρ x) (by simp[execOp,C]) B.1 λb=>by have:=D b;simp only[aei,oZ]at this;omega
 cases H;rename_i x C;obtain⟨B,D⟩:=L _ q;unfold bz at H;simp only at H;split at H;cases H;exact lY.qw E I (u:=ρ x) (by simp[execOp,C]) B.1 λb=>by have:=D b;simp only[aei,oZ]at this;omega
 cases H;rename_i c x y C;obtain⟨B,D⟩:=L _ q;unfold bz at H;simp only at H;split at H;rename_i b x' y';cases H;obtain⟨N,Q,Y,_⟩:=B;have hb:=aoY N;refine lY.qw E I (u:=if b then ρ x else ρ y) (by simp[execOp,C,hb,asBool]) ?_ λd=>?_;cases b;exact Y;exact Q;have:=D d;simp only[aei,oZ]at this;cases b;simp;omega;simp;omega;cases H;rename_i op t x y yt op' C;simp only[Ee,cD]at q;obtain⟨rfl,q⟩:=q;obtain⟨B,D⟩:=L _ q;unfold bz at H;simp only at H;split at H;split at H;rename_i v hv;cases H;obtain⟨u,F,J,T⟩:=aoA C hv B.1 B.2.1;exact lY.de E I F J T;cases H;cases H;rename_i op t x y yt k neg C;simp only[Ee,cD]at q;obtain⟨⟨rfl,q⟩,X⟩:=q;obtain⟨B,D⟩:=L _ q;unfold bz at H;simp only at H;split at H;split at H;rename_i b hb;cases H;obtain⟨u,F,J⟩:=aoB C X hb B.1 B.2.1;exact lY.de E I F J rfl;cases H;cases H;rename_i op t x y yt neg C;simp only[Ee,cD]at q;obtain⟨⟨rfl,q⟩,X⟩:=q;obtain⟨B,D⟩:=L _ q;unfold bz at H;simp only at H;split at H;rename_i id cW;split at H;rename_i v sz rows iH;split at H;rename_i mI;cases H;exact lY.de E I (aeE C X E iH mI B.1 B.2.1) (.bool _) rfl;cases H;cases H;cases H;rename_i op t x op' C;simp only[Ee,cD]at q;obtain⟨rfl,q⟩:=q;obtain⟨B,D⟩:=L _ q;unfold bz at H;simp only at H;split at H;split at H;rename_i v hv;cases H;obtain⟨u,F,J,T⟩:=atU C hv B.1;exact lY.de E I F J T;cases H;cases H;rename_i s d x k C;simp only[Ee]at q;obtain⟨q,X⟩:=q;obtain⟨B,D⟩:=L _ q;unfold bz at H;simp only at H;split at H;cases H;split at X;rename_i k1 k2 N Q;simp only[cD]at X;subst X;exact lY.de E I (ajq C N Q B.1) (.int _ _) rfl;cases X;cases H;rename_i x C;obtain⟨B,D⟩:=L _ q;unfold bz at H;simp only at H;split at H;cases H;obtain⟨g,b,N,Q,Y⟩:=B.1;exact lY.qw E I (Ds C Y) ⟨g,b,N,Q,Y⟩ λd=>by simp[dz]
 split at H;cases H;have hp:∃a,ρ x=.pointer (some a):=by
  have h:=B.1;simp only[mX]at h;cases h with|ptr _ _ _ _ _ _ hp=>exact hp
 obtain⟨a,hp⟩:=hp;exact lY.qw E I (Ds C hp) B.1 λd=>by simp[dz,iw]
 cases H;have hp:∃a,ρ x=.pointer (some a):=by
  have h:=B.1;simp only[mX]at h;generalize ρ x=v at h;cases h;exact⟨_,rfl⟩
 obtain⟨a,hp⟩:=hp;exact lY.qw E I (Ds C hp) B.1 λd=>by simp[dz,iw]
 cases H;cases H;rename_i x i j C;simp only[Ee,cD]at q;obtain⟨rfl,q⟩:=q;obtain⟨B,D⟩:=L _ q;unfold bz at H;simp only at H;split at H;split at H;rename_i v hv;cases H;obtain⟨u,F,J,T⟩:=W6 C hv B.1;exact lY.qw E I F J λb=>by have N:=D b;have Q:=T b;simp only[aei,oZ,dz]at N ⊢;omega
 cases H;cases H;rename_i t x f off n agg C;simp only[Ee]at q;obtain⟨q,X⟩:=q;obtain⟨B,D⟩:=L _ q;split at X;rename_i fs M;split at X;rename_i fd hf;simp only[Ee,cD]at X;obtain⟨⟨N,Q⟩,Y⟩:=X;unfold bz at H;simp only at H;split at H;split at H;rename_i cs Z0;split at H;rename_i v hv;cases H;obtain⟨u,F,J,T⟩:=aeH C M hf N Q Y Z0 hv B.1;exact lY.qw E I F J λb=>by have N:=D b;have Q:=T b;simp only[aei,oZ,dz]at N ⊢;omega
 cases H;cases H;cases H;cases X;cases X;rename_i t parts zero qs C;simp only[Ee]at q;obtain⟨⟨q,hz⟩,X⟩:=q;obtain⟨B,D⟩:=L _ q;have MW:(parts.toList.map (·.2)).map ρ=parts.toList.map λp=>ρ p.2:=by simp
 rw[MW]at B D;split at X;rename_i fs M;split at X;rename_i is KY;unfold bz at H;simp only at H;split at H;rename_i vs Dq;split at H;rename_i cs ym;cases H;obtain⟨hv,Jc⟩:=B.Xk Dq;obtain⟨u,F,J,T⟩:=aeI C M KY hz X ym hv;exact lY.qw E I F J λb=>by have N:=D b;have Q:=T b;have Y:=Jc b;simp only[dz];omega
 cases H;cases H;cases X;cases X;rename_i t n parts sz n' zero qs C;simp only[Ee,cD]at q;obtain⟨⟨hn,q⟩,X⟩:=q;obtain⟨B,D⟩:=L _ q;refine aii (mu:=false) C hn ?_ E I B D H;split at X;rename_i he;rw[he];simpa using X;cases X;rename_i t n parts sz n' zero qs C;simp only[Ee,cD]at q;obtain⟨⟨hn,q⟩,X⟩:=q;obtain⟨B,D⟩:=L _ q;refine aii (mu:=true) C hn ?_ E I B D H;split at X;rename_i he;rw[he];simpa using X;cases X;rename_i t x f off C;simp only[Ee]at q;obtain⟨q,X⟩:=q;obtain⟨B,D⟩:=L _ q;split at X;rename_i fs M;split at X;rename_i fd hf;simp only[Ee,cD]at X;obtain⟨N,Q⟩:=X;subst N;split at Q;rename_i i hi;have hs:i.size≠0:=by simpa using Q
 unfold bz at H;simp only at H;split at H;rename_i j k;cases H;obtain⟨g,b,g1,g2,g3⟩:=B.1;refine lY.qw E I (AO C M hf hi hs g3) ⟨g,b,g1,g2,?_⟩ λd=>by simp[dz]
 rw[nY];rename_i id cW i' k;cases H;obtain⟨a,F,J⟩:=C2 B.1 (.inl ⟨id,cW,i',k,rfl,rfl⟩);exact lY.de E I (AO C M hf hi hs F) J rfl;rename_i sz rows i' k;cases H;obtain⟨a,F,J⟩:=C2 B.1 (.inr ⟨sz,rows,i',k,rfl,rfl⟩);exact lY.de E I (AO C M hf hi hs F) J rfl;cases H;cases Q;cases X;cases X;rename_i t x y sz C;simp only[Ee]at q;obtain⟨q,X⟩:=q;obtain⟨B,D⟩:=L _ q;split at X;rename_i e M;rw[HC]at H;have R:=H;unfold bz at H;simp only at H;split at H;obtain⟨rfl,rfl,p,u,rfl,F,J,T⟩:=Pw C M X E R B.1 (bF.iN B.2.1);exact lY.de E I F J T;cases H;cases X;rename_i t x y C;simp only[Ee]at q;obtain⟨q,X⟩:=q;obtain⟨B,D⟩:=L _ q;split at X;rename_i M;unfold bz at H;simp only at H;split at H;split at H;rename_i h0;split at H;rename_i b hb;cases H;exact lY.de E I (aeK C M h0 hb B.1 (bF.iN B.2.1)) (.int _ _) rfl;cases H;cases H;cases H;cases X;rename_i t x lo hi mx AG l h m sz C;simp only[Ee,cD]at q;obtain⟨⟨⟨⟨⟨q,rfl⟩,rfl⟩,rfl⟩,hmh⟩,X⟩:=q;obtain⟨B,D⟩:=L _ q;refine ae7 C (λh=>by rw[h]at hmh;simpa using hmh) ?_ E I B D H;split at X;rename_i he;rw[he];exact X;rename_i he;rw[he];exact X;cases X;rename_i t x hi sz C;simp only[Ee]at q;obtain⟨q,X⟩:=q;obtain⟨B,D⟩:=L _ q;split at X;rename_i e M;have R:=H;unfold bz at H;simp only at H;split at H;obtain⟨v,G',F,J⟩:=Z1 C M X E I hX B.1 B.2.1 R;exact⟨_,_,_,_,_,F,.inl rfl,J,gx.refl _ _⟩;cases H;cases X;rename_i t x agg n take C;simp only[Ee]at q;obtain⟨⟨⟨q,hn⟩,xR⟩,nZ⟩:=q;obtain⟨B,D⟩:=L _ q;have UY:qO P t=some agg:=by simpa using xR
 have UZ:agg=false->n=1:=λh=>by subst h;simpa using nZ
 have R:=H;unfold bz at H;simp only at H;split at H;rename_i p;cases take with
 |true=>
  obtain⟨v,F,J⟩:=SQ C hn UY UZ E I hX B.1 R;exact⟨_,_,_,_,_,F,.inl rfl,J,gx.refl _ _⟩
 |false=>
  split at H;rename_i cs Jd;simp only[acC,br]at H;split at H;rename_i v hv;cases H;obtain⟨b,off,xs,N,Q,Y,h4⟩:=Py E Jd B.1;obtain⟨u,F,J,T⟩:=MY C hn UY UZ N Q Y.ai h4 hv;exact lY.qw E I F J λd=>by
   simp only[dz,T d];rw[eZ d _ _ (iV cs)];omega
  cases H;cases H
 cases H;rename_i t x j agg n take C;simp only[Ee]at q;obtain⟨⟨⟨q,hn⟩,xR⟩,nZ⟩:=q;obtain⟨B,D⟩:=L _ q;have UY:qO P t=some agg:=by simpa using xR
 have UZ:agg=false->n=1:=λh=>by subst h;simpa using nZ
 have R:=H;unfold bz at H;simp only at H;split at H;obtain⟨v,F,J⟩:=ae2 C hn UY UZ E I hX B.1 R;exact⟨_,_,_,_,_,F,.inl rfl,J,gx.refl _ _⟩;cases H;rename_i t x y n C;simp only[Ee]at q;obtain⟨q,hn⟩:=q;obtain⟨B,D⟩:=L _ q;have R:=H;unfold bz at H;simp only at H;split at H;obtain⟨w',G',F,J⟩:=aeZ C hn E I hX B.1 B.2.1 (λb=>by have:=D b;simp only[aei,oZ,dz]at this;omega) R;exact⟨_,_,_,_,_,F,.inr ⟨rfl,rfl⟩,J,gx.refl _ _⟩;cases H;rename_i t x y j n C;simp only[Ee]at q;obtain⟨q,hn⟩:=q;obtain⟨B,D⟩:=L _ q;have R:=H;unfold bz at H;simp only at H;split at H;obtain⟨w',G',jm,F,J,T⟩:=ZZ C hn E I hX B.1 B.2.1 (λb=>by have:=D b;simp only[aei,oZ]at this;simp only[dz]at this ⊢;omega) R;exact⟨_,_,_,_,_,F,.inr ⟨rfl,rfl⟩,J,T⟩;cases H;rename_i t zero C;simp only[Ee]at q;obtain⟨_,hz⟩:=q;obtain⟨i,z,hi,ZI,Za,Pu,UO⟩:=oK hz w G;unfold bz at H;simp only at H;split at H;cases H;obtain⟨G',P9⟩:=Xb (t:=t) (cO:=cO) E I Za Pu UO;exact⟨_,_,_,_,_,UR C hi ZI,.inl rfl,P9,gx.refl _ _⟩;cases H;rename_i t j zero C;simp only[Ee]at q;obtain⟨_,hz⟩:=q;obtain⟨i,z,hi,ZI,Za,Pu,UO⟩:=oK hz w G;unfold bz at H;simp only at H;split at H;split at H;rename_i hj;cases H;have hb:j<β.length:=by rw[I.len];exact hj
 refine⟨_,_,_,_,_,UR C hi ZI,.inl rfl,UQ (c:=z.cells) (e:=t) (w':=w.alloc (.cells z.cells t)) E I rfl rfl rfl hj Za UO (λb=>by rw[LO Pu];omega),?_⟩;exact gx.set (aas hb) λh=>au rfl h;cases H;cases H;rename_i t x n C;obtain⟨B,D⟩:=L _ q;unfold bz at H;simp only at H;split at H;split at H;rename_i mI;simp only[Ee,aA]at mI;cases H;obtain⟨G',P9⟩:=ZM (t:=t) (cO:=cO) E I B.1 mI.1 mI.2 (λb=>by have:=D b;simp only[aei,oZ,dz]at this;omega);exact⟨_,_,_,_,_,aia C,.inl rfl,P9,gx.refl _ _⟩;cases H;cases H;rename_i t x j n C;obtain⟨B,D⟩:=L _ q;unfold bz at H;simp only at H;split at H;split at H;rename_i mI;simp only[Ee,aA]at mI;cases H;have hb:j<β.length:=by rw[I.len];exact mI.1.1
 obtain⟨Jc,UM⟩:=bF.cells B.1;refine⟨_,_,_,_,_,aia C,.inl rfl,UQ (c:=(ρ x).cells) (e:=t) (w':=w.alloc (.cells (ρ x).cells t)) E I rfl rfl rfl mI.1.1 Jc mI.2 (λb=>by have:=D b;simp only[aei,oZ,dz]at this;rw[UM];omega),?_⟩;exact gx.set (aas hb) λh=>au rfl h;cases H;cases H;rename_i t x y sz bytes zero mt C;simp only[Ee]at q;obtain⟨q,X⟩:=q;obtain⟨B,D⟩:=L _ q;split at X;rename_i e M;simp only[Ee,aA]at X;obtain⟨⟨⟨⟨N,Q⟩,Y⟩,h4⟩,h5⟩:=X;unfold bz at H;simp only at H;split at H;rename_i n c;split at H;rename_i mI;obtain⟨c1,c2,c3,c4⟩:=mI;have vU:c<=9223372036854775807:=by
  have:c*1<=c*bytes:=ajy (by omega) (by omega);simp only[cZ]at c3;omega
 obtain⟨cells,F,J,T,e4⟩:=PI (w:=w) (G:=G) C M N Q Y h4 c4 (bF.iN B.1) (bF.iN B.2.1) c1 c2 c3 vU;obtain⟨_,_,_,_,_,Pu,UO⟩:=oK Y w G;have hle:n.toNat*sz<=c.toNat*sz:=aez _ (by omega);have cm:cr sz (acp n.toNat zero)=true:=dj.2 λr hr=>by rw[aem hr,c4]
 have kD:∀r∈acp n.toNat zero,AV.bC r=true:=λr hr=>by rw[aem hr];exact UO
 have W:∀(k:Nat) x,(cells.toList.take (n.toNat*sz))[k]?=some x->cells[k]?=some x:=λk x hk=>by
  rw[aeq]at hk;split at hk;simpa using hk;cases hk
 split at H;cases H;by_cases M3:c.toNat=0;have Lc:n.toNat=0:=by omega
 rw[Lc,M3]at F;rw[Lc];have hA0:lC w G β st bx cO (w.alloc (.cells cells e)) (G.new w.heap.size (some 0) [⟨some ⟨w.heap.size,0,none⟩,0,0,sz,0,false,[]⟩]) β (st++[.rows 0 sz []]) bx (.val (.mu st.length 0)) (.slice (some ⟨w.heap.size,0,none⟩) 0 0):=by
  have hl:(G.new w.heap.size (some 0) [⟨some ⟨w.heap.size,0,none⟩,0,0,sz,0,false,[]⟩]).ls[st.length]?=some ⟨some ⟨w.heap.size,0,none⟩,0,0,sz,0,false,[]⟩:=by
   simp only[bD.new];rw[List.getElem?_append_right (by rw[E.len];exact acO _),E.len];simp
  exact w8 (w':=w.alloc (.cells cells e)) (ao:=.rows 0 sz []) (ob:=.cells cells e) rfl rfl rfl E I ⟨rfl,rfl,by simp[cr],by simp,rfl,rfl,rfl,λi r xs h=>by simp at h,.inl ⟨rfl,rfl,rfl⟩⟩ (.mu _ _ _ _ ⟨_,_,_,rfl⟩ hl (acO _) λ_=>rfl) rfl λb=>by simp[j8,nM.kC,iC]
 exact⟨_,_,_,_,_,F,.inl rfl,hA0,gx.refl _ _⟩;obtain⟨G',P9,_⟩:=AR (sz:=sz) (cap:=c.toNat) (rows:=acp n.toNat zero) (c:=cells) (e:=e) (xs:=cells.toList.take (n.toNat*sz)) (w':=w.alloc (.cells cells e)) (cO:=cO) E I rfl rfl rfl cm kD T (by omega) (by omega) (by simp;omega) W (λb=>by rw[e4];omega);rw[akF]at P9;exact⟨_,_,_,_,_,F,.inl rfl,P9,gx.refl _ _⟩;split at H;rename_i hpz;cases H;obtain⟨G',P9⟩:=M0 (sz:=sz) (cap:=c.toNat) (rows:=acp n.toNat zero) (c:=cells) (e:=e) (xs:=cells.toList.take (n.toNat*sz)) (w':=w.alloc (.cells cells e)) (cO:=cO) E I rfl rfl rfl cm kD
  (λr hr=>by rw[aem hr];exact(dD zero).2 λc D=>(Pu c D).1) (λr hr=>by rw[aem hr];exact hpz) T (by omega) (by simp;omega) W
 rw[akF]at P9;exact⟨_,_,_,_,_,F,.inl rfl,P9,gx.refl _ _⟩;cases H;cases H;cases H;cases X;rename_i t C;unfold bz at H;simp only at H;split at H;cases H;obtain⟨G',P9⟩:=aeS (cO:=cO) E I;exact⟨_,_,_,_,_,by simp only[execOp,C,Option.map_none,cj,show (Instr.makeMap t none).run P w=.ok (.map (some w.heap.size)) (w.alloc (.map #[] 0)) from rfl,dy,Sem.run_pure],.inl rfl,P9,gx.refl _ _⟩;cases H;rename_i t m k x kk C;simp only[Ee]at q;obtain⟨q,X⟩:=q;obtain⟨B,D⟩:=L _ q;split at X;rename_i kt et M;have R:=H;unfold bz at H;simp only at H;split at H;obtain⟨w',G',F,J⟩:=GK (.inl C) M X E I hX B.1 B.2.1 B.2.2.1 R;exact⟨_,_,_,_,_,F,.inr ⟨rfl,rfl⟩,J,gx.refl _ _⟩;cases H;cases X;rename_i t m k x kk C;simp only[Ee]at q;obtain⟨q,X⟩:=q;obtain⟨B,D⟩:=L _ q;split at X;rename_i kt et M;have R:=H;unfold bz at H;simp only at H;split at H;obtain⟨w',G',F,J⟩:=GK (.inr C) M X E I hX B.1 B.2.1 B.2.2.1 R;exact⟨_,_,_,_,_,F,.inr ⟨rfl,rfl⟩,J,gx.refl _ _⟩;cases H;cases X;rename_i t m k ok kk zero ok' C;simp only[Ee,cD]at q;obtain⟨⟨rfl,q⟩,X⟩:=q;obtain⟨B,D⟩:=L _ q;split at X;rename_i kt et M;simp only[Ee]at X;obtain⟨X,hz⟩:=X;split at hz;rename_i ie hie;split at hz;rename_i z hzz;unfold bz at H;simp only at H;split at H;rename_i am ak;split at H;cases H;rename_i es mZ;split at H;split at H;cases H;rename_i res hf;cases H;have aud:(am=.gu/\es=[])\/∃id,am=.map id/\st[id]?=some (.map es):=by
  split at mZ;cases mZ;exact .inl ⟨rfl,rfl⟩;rename_i id;split at mZ;rename_i iH;cases mZ;exact .inr ⟨id,rfl,iH⟩;cases mZ;cases mZ
 obtain⟨u,F,J,T⟩:=ZK C M X hie hzz hz E aud hf B.1 B.2.1;refine lY.de E I F J ?_;cases ok;exact T;simp[AV.de,AV.fJ,T];cases H;cases H;cases hz;cases hz;cases X;rename_i f first nO f' n C
 simp only[Ee,cD,aA]at q;obtain⟨⟨⟨rfl,q⟩,rfl⟩,hf⟩:=q;obtain⟨B,D⟩:=L _ q;unfold bz at H;simp only at H;split at H;rename_i vs Dq;cases H;obtain⟨hv,Jc⟩:=B.Xk Dq;obtain⟨F,J⟩:=SB (P:=P) hf C hv;exact lY.de E I F J rfl;cases H;rename_i c k C;simp only[Ee,cD]at q;obtain⟨⟨q,eO⟩,X⟩:=q;obtain⟨B,D⟩:=L _ q;obtain⟨x,W⟩:∃x,c.args.toList=[x]:=List.length_eq_one_iff.1 (by simpa using eO);rw[W]at B D;split at X;rename_i t tW DR;unfold bz at H;simp only at H;split at H;split at H;rename_i n hn;cases H;refine lY.de E I (aoC C tW W DR (k:=k) ?_ E hn B.1) (.int _ _) rfl;split at X
 assumption
 exact⟨_,by assumption⟩;exact⟨_,_,by assumption⟩;cases X;cases H;cases H;cases X;rename_i c mx C;simp only[Ee,cD]at q;obtain⟨⟨q,eO⟩,X⟩:=q;obtain⟨B,D⟩:=L _ q;obtain⟨x,y,W⟩:∃x y,c.args.toList=[x,y]:=y9 (by simpa using eO);rw[W]at B D;unfold bz at H;simp only at H;split at H;split at H;rename_i hk;subst hk;cases H;split at X;rename_i tW;rw[af X];exact lY.de E I (aoD C tW W B.1 B.2.1) (.int _ _) rfl;rename_i tW;rw[U (by simpa using X)];exact lY.de E I (aoE C tW W B.1 B.2.1) (.int _ _) rfl;cases X;cases H;cases H;rename_i c sz bytes C;simp only[Ee,cD]at q;obtain⟨⟨⟨q,eO⟩,SW⟩,X⟩:=q;obtain⟨B,D⟩:=L _ q;obtain⟨x,y,W⟩:∃x y,c.args.toList=[x,y]:=y9 (by simpa using eO);rw[W]at B D;split at X;rename_i t u tW Sk U0;simp only[Ee]at X;obtain⟨Z,Al⟩:=X;split at Z;rename_i e M;simp only[Ee,aA]at Z;obtain⟨⟨⟨⟨N,Q⟩,Y⟩,h4⟩,h5⟩:=Z;split at h5;rename_i i hi;split at h5;rename_i z hz;simp only[cD]at h5;have hT:SL P t u e sz bytes i z:=by
  refine⟨M,hi,hz,?_,?_,h5,Y,h4,?_⟩;obtain⟨i',j7,KY,_⟩:=nW N;rw[hi]at j7;cases j7;exact KY;simpa [sL,hi] using Q;split at Al;exact .inl ⟨_,by assumption⟩;exact .inr (by assumption);cases Al
 have R:=H;unfold bz at H;simp only at H;split at H;obtain⟨v,w',G',F,J⟩:=ZQ (ty:=o.type) hT E I hX B.1 B.2.1 (λb=>by have:=D b;simp only[aei,oZ,dz]at this;omega) R;refine⟨_,_,_,_,_,?_,.inl rfl,J,gx.refl _ _⟩;simp only[execOp,C,resolve,tW,cj,Sem.run_pure,dy,invoke,builtin,rL W,BZ SW Sk U0];simp[F];cases H;cases h5;cases h5;cases Z;cases X;rename_i c sz bytes C;simp only[Ee,cD]at q;obtain⟨⟨⟨q,eO⟩,SW⟩,X⟩:=q;obtain⟨B,D⟩:=L _ q;obtain⟨x,y,W⟩:∃x y,c.args.toList=[x,y]:=y9 (by simpa using eO);rw[W]at B D;split at X;rename_i t u tW Sk U0;simp only[Ee]at X;obtain⟨Z,Al⟩:=X;split at Z;rename_i e M;simp only[Ee,aA]at Z;obtain⟨⟨⟨⟨N,Q⟩,Y⟩,h4⟩,h5⟩:=Z;split at h5;rename_i i hi;split at h5;rename_i z hz;simp only[cD]at h5;have hT:SL P t u e sz bytes i z:=by
  refine⟨M,hi,hz,?_,?_,h5,Y,h4,?_⟩;obtain⟨i',j7,KY,_⟩:=nW N;rw[hi]at j7;cases j7;exact KY;simpa [sL,hi] using Q;split at Al;exact .inl ⟨_,by assumption⟩;exact .inr (by assumption);cases Al
 have R:=H;unfold bz at H;simp only at H;split at H;obtain⟨v,w',G',F,J⟩:=Xf (ty:=o.type) hT E I hX B.1 B.2.1 R;refine⟨_,_,_,_,_,?_,.inl rfl,J,gx.refl _ _⟩;simp only[execOp,C,resolve,tW,cj,Sem.run_pure,dy,invoke,builtin,rL W,BZ SW Sk U0];simp[F];cases H;cases h5;cases h5;cases Z;cases X;rename_i c sz C;simp only[Ee,cD]at q;obtain⟨⟨⟨q,eO⟩,SW⟩,X⟩:=q;obtain⟨B,D⟩:=L _ q;obtain⟨x,y,W⟩:∃x y,c.args.toList=[x,y]:=y9 (by simpa using eO);rw[W]at B D;split at X;rename_i t u tW Sk U0;simp only[Ee]at X;obtain⟨Z,Al⟩:=X;split at Z;rename_i e M;have hk:(∃e',P.underlying u=some (.slice e'))\/P.underlying u=some .string:=by
  split at Al;exact .inl ⟨_,by assumption⟩;exact .inr (by assumption);cases Al
 have R:=H;unfold bz at H;simp only at H;split at H;obtain⟨v,w',G',F,J⟩:=ajw (ty:=o.type) M Z hk E I hX B.1 B.2.1 R;refine⟨_,_,_,_,_,?_,.inl rfl,J,gx.refl _ _⟩;simp only[execOp,C,resolve,tW,cj,Sem.run_pure,dy,invoke,builtin,rL W,BZ SW Sk U0];simp[F];cases H;cases Z;cases X;unfold bz at H;cases H;unfold bz at H;cases H;rename_i t x y sz bytes zero C;simp only[Ee]at q;obtain⟨q,X⟩:=q;obtain⟨B,D⟩:=L _ q;split at X;rename_i e M;simp only[Ee,aA]at X;obtain⟨⟨⟨⟨N,Q⟩,Y⟩,h4⟩,h5⟩:=X;unfold bz at H;simp only at H;split at H;rename_i n c;split at H;rename_i mI;obtain⟨c1,c2,c3,c4,hpz⟩:=mI;have vU:c<=9223372036854775807:=by
  have:c*1<=c*bytes:=ajy (by omega) (by omega);simp only[cZ]at c3;omega
 obtain⟨cells,F,J,T,e4⟩:=PI (w:=w) (G:=G) C M N Q Y h4 c4 (bF.iN B.1) (bF.iN B.2.1) c1 c2 c3 vU;obtain⟨_,_,_,_,_,Pu,UO⟩:=oK Y w G;have hle:n.toNat*sz<=c.toNat*sz:=aez _ (by omega);have cm:cr sz (acp n.toNat zero)=true:=dj.2 λr hr=>by rw[aem hr,c4]
 have kD:∀r∈acp n.toNat zero,AV.bC r=true:=λr hr=>by rw[aem hr];exact UO
 have W:∀(k:Nat) x,(cells.toList.take (n.toNat*sz))[k]?=some x->cells[k]?=some x:=λk x hk=>by
  rw[aeq]at hk;split at hk;simpa using hk;cases hk
 cases H;obtain⟨G',P9⟩:=aeP (sz:=sz) (cap:=c.toNat) (rows:=acp n.toNat zero) (c:=cells) (e:=e) (xs:=cells.toList.take (n.toNat*sz)) (w':=w.alloc (.cells cells e)) (cO:=cO) E I rfl rfl rfl cm kD
  (λr hr=>by rw[aem hr];exact(dD zero).2 λc D=>(Pu c D).1) (λr hr=>by rw[aem hr];exact hpz) T (by omega) (by simp;omega) W
 rw[akF]at P9;exact⟨_,_,_,_,_,F,.inl rfl,P9,gx.refl _ _⟩;cases H;cases H;cases X;rename_i c sz bytes zero C;simp only[Ee,cD]at q;obtain⟨⟨⟨q,eO⟩,SW⟩,X⟩:=q;obtain⟨B,D⟩:=L _ q;obtain⟨x,y,W⟩:∃x y,c.args.toList=[x,y]:=y9 (by simpa using eO);rw[W]at B D;split at X;rename_i t u tW Sk U0;simp only[Ee]at X;obtain⟨Z,Al⟩:=X;split at Z;rename_i e M;simp only[Ee,aA]at Z;obtain⟨⟨⟨⟨N,Q⟩,Y⟩,h4⟩,h5⟩:=Z;have hk:∃k,P.underlying u=some (.int k):=by
  split at Al;exact⟨_,by assumption⟩;cases Al
 have R:=H;unfold bz at H;simp only at H;split at H;obtain⟨v,w',G',F,J⟩:=Xg (ty:=o.type) M hk N Q Y h4 h5 E I hX B.1 B.2.1 R;refine⟨_,_,_,_,_,?_,.inl rfl,J,gx.refl _ _⟩;simp only[execOp,C,resolve,tW,cj,Sem.run_pure,dy,invoke,builtin,rL W,BZ SW Sk U0];simp[F];cases H;cases Z;cases X;have h0:so.args=[]:=by simpa using q
 have hv:=(L [] (by rw[h0];rfl)).1;cases vals with
 |nil=>unfold bz at H;simp at H|cons a l=>simp[nD]at hv
 cases q
end Ax
namespace Ax
open Go
variable {P:Program}{w w':World}{G G':bD}{β jm:List qh}
theorem AY(d:Nat)(e:fz)(t:Nat):∀env:tN,dZ (AF env d e) t=if t=d then e else dZ env t
 |[]=>by
  simp only[AF,dZ];by_cases h:d=t;rw[af h,af h.symm];rw[U h,U (show ¬t=d from λe=>h e.symm)]
 |(k,x)::r=>by
  have I:=AY d e t r;unfold AF;split;simp only[dZ];by_cases h:d=t;rw[af h,af h.symm];rw[U h,U (show ¬t=d from λe=>h e.symm)];split;rename_i j;subst j;simp only[dZ];by_cases h:d=t;rw[af h,af h.symm];rw[U h,U (show ¬t=d from λe=>h e.symm),U h];simp only[dZ,I];by_cases h:k=t;rw[af h,af h,U (by omega)];rw[U h,U h]
theorem Jk(d t:Nat):∀env:tN,dZ (Hu env d) t=if t=d then .none else dZ env t
 |[]=>by simp[Hu,dZ]|(k,x)::r=>by
  have I:=Jk d t r;unfold Hu;split;rename_i h;rw[I];simp only[dZ];by_cases H:t=d;rw[af H,af H];rw[U H,U H,U (by omega)];simp only[dZ,I];by_cases H:t=d;rw[af H,af H];rw[U (by omega)];rw[U H,U H]
def uM:List Src->List Nat
 |[]=>[]
 |.tmp t true::r=>t::uM r|_::r=>uM r
theorem yp(t:Nat):∀(g:List Src)(env:tN),dZ (g.foldl pG env) t=if t∈uM g then .none else dZ env t
 |[],env=>by simp[uM]|.tmp u true::r,env=>by
  simp only[al6,pG,uM,yp t r,Jk,aev];by_cases h:t∈uM r;simp[h];by_cases H:t=u;simp[H];simp[h,H]
 |.tmp u false::r,env=>by rw[al6,yp t r];rfl|.const a::r,env=>by rw[al6,yp t r];rfl
theorem zd(t:Nat):∀(l:List Nat)(env:tN),dZ (kB l env) t=if t∈l then .none else dZ env t
 |[],env=>by simp[kB]|u::l,env=>by
  simp only[kB,zd t l,Jk,aev];by_cases h:t∈l;simp[h];by_cases H:t=u;simp[H];simp[h,H]
theorem LU(t:Nat):∀(k:Nat)(l:List AV),dZ (LI k l) t=if k<=t then (match l[t-k]? with|some v=>.val v|none=>.none) else .none
 |k,[]=>by simp[LI,dZ]|k,v::r=>by
  simp only[LI,dZ,LU t (k+1) r];by_cases h:k=t;subst h;simp;rw[U h];by_cases H:k<=t;rw[af H,af (by omega),show t-k=(t-(k+1))+1 by omega];simp;rw[U H,U (by omega)]
theorem Jl{j:Nat}:∀{env:tN},AI j env=true->∀t,(dZ env t).s9 j=true
 |[],_,_=>rfl|(k,x)::r,h,t=>by
  simp only[AI,List.all_cons,Ee]at h;simp only[dZ];split;exact h.1;exact Jl (env:=r) (by simpa [AI] using h.2) t
def jh(f:Nat->Nat):Nat->Nat
 |0=>0|n+1=>jh f n+f n
theorem rM{f g:Nat->Nat}:∀{n:Nat},(∀t,t<n->f t=g t)->jh f n=jh g n
 |0,_=>rfl|n+1,h=>by simp only[jh];rw[rM λt X=>h t (by omega),h n (by omega)]
theorem H9{f g:Nat->Nat}:∀{n:Nat},(∀t,t<n->f t<=g t)->jh f n<=jh g n
 |0,_=>acO _|n+1,h=>by
  simp only[jh];have H:=H9 (f:=f) (g:=g) (n:=n) λt X=>h t (by omega);have j:=h n (by omega);omega
theorem yq{f g:Nat->Nat}{d:Nat}:∀{n:Nat},d<n->(∀t,t≠d->f t=g t)->jh f n+g d=jh g n+f d
 |0,h,_=>by omega|n+1,h,U=>by
  simp only[jh];by_cases H:d=n;subst H;rw[rM (f:=f) (g:=g) λt X=>U t (by omega)];omega;have:=yq (f:=f) (g:=g) (n:=n) (d:=d) (by omega) U;rw[U n λe=>H e.symm];omega
theorem AZ{f:Nat->Nat}{t n:Nat}(h:t<n):f t<=jh f n:=by
 have:=yq (f:=λu=>if u=t then 0 else f u) (g:=f) (d:=t) h λu H=>U H;simp only[bh]at this;omega
theorem LW{n:Nat}:jh (λ_=>0) n=0:=by
 induction n with
 |zero=>rfl|succ n I=>simp[jh,I]
def tX(f:Nat->Nat):List Nat->Nat
 |[]=>0|t::l=>f t+tX f l
theorem Eb{f:Nat->Nat}{n:Nat}(H:∀t,n<=t->f t=0):∀(l:List Nat),l.Nodup->tX f l+jh (λt=>if t∈l then 0 else f t) n<=jh f n
 |[],_=>by simp[tX]|t::l,h=>by
  have I:=Eb H l (aiY.1 h).2;have k:=(aiY.1 h).1;simp only[tX];by_cases X:t<n;have:=yq (f:=λu=>if u∈t::l then 0 else f u) (g:=λu=>if u∈l then 0 else f u) (d:=t) X λu j=>by simp[j]
  simp only[aev,true_or,bh,U k]at this;simp only[aev];omega;rw[H t (by omega)];rw[rM (f:=λu=>if u∈t::l then 0 else f u) (g:=λu=>if u∈l then 0 else f u) λu j=>by simp[show u≠t by omega]];omega
mutual
def AV.under(n:Nat):AV->Bool
 |.mu i _|.ptr i _ _ _|.map i=>decide (i<n)|.agg C|.eY C=>AV.rN n C|.fn _ a b=>AV.rN n a&&AV.rN n b|_=>true
def AV.rN(n:Nat):List AV->Bool
 |[]=>true|v::r=>v.under n&&AV.rN n r
end
theorem jn(n:Nat):∀C:List AV,AV.rN n C=true↔∀c∈C,c.under n=true
 |[]=>by simp[AV.rN]|c::C=>by simp[AV.rN,jn n C]
mutual
theorem kE(n:Nat):∀a:AV,a.aH=true->a.under n=true
 |.mu _ _,h=>by simp[AV.aH]at h|.ptr _ _ _ _,h=>by simp[AV.aH]at h|.map _,h=>by simp[AV.aH]at h|.agg C,h=>by simp only[AV.aH,AV.under]at *;exact tq n C h|.eY C,h=>by simp only[AV.aH,AV.under]at *;exact tq n C h|.fn _ a b,h=>by simp only[AV.aH,AV.under,Ee]at *;exact⟨tq n a h.1,tq n b h.2⟩|.undef,_|.gone,_|.bool _,_|.int _ _,_|.str _,_|.eP,_|.aF,_|.gu,_|.je,_|.lz,_|.dV _ _,_|.ju _ _,_|.raw _ _,_|.oI,_|.tM _ _ _ _,_=>by simp[AV.under]
theorem tq(n:Nat):∀C:List AV,AV.aB C=true->AV.rN n C=true
 |[],_=>rfl|c::C,h=>by
  simp only[AV.aB,Ee]at h;simp only[AV.rN,kE n c h.1,tq n C h.2,Bool.and_self]
end
mutual
theorem SX{m n:Nat}(H:m<=n):∀a:AV,a.under m=true->a.under n=true
 |.mu _ _,h|.ptr _ _ _ _,h|.map _,h=>by simp only[AV.under,aA]at *;omega|.agg C,h=>by simp only[AV.under]at *;exact tr H C h|.eY C,h=>by simp only[AV.under]at *;exact tr H C h|.fn _ a b,h=>by simp only[AV.under,Ee]at *;exact⟨tr H a h.1,tr H b h.2⟩|.undef,_|.gone,_|.bool _,_|.int _ _,_|.str _,_|.eP,_|.aF,_|.gu,_|.je,_|.lz,_|.dV _ _,_|.ju _ _,_|.raw _ _,_|.oI,_|.tM _ _ _ _,_=>by simp[AV.under]
theorem tr{m n:Nat}(H:m<=n):∀C:List AV,AV.rN m C=true->AV.rN n C=true
 |[],_=>rfl|c::C,h=>by
  simp only[AV.rN,Ee]at *;exact⟨SX H c h.1,tr H C h.2⟩
end
variable{v:Value}
theorem bF.Ec{a:AV}(h:bF w G a v):a.under G.ls.length=true:=by
 induction h with
 |agg C vs H h I=>
  simp only[AV.under];refine(jn _ C).2 λc g=>?_;obtain⟨i,j,rfl⟩:=aec.1 g;have J:i<vs.size:=by omega
  exact I i C[i] vs[i] (aas j) (by simp[J])
 |eY C vs H h I=>
  simp only[AV.under];refine(jn _ C).2 λc g=>?_;obtain⟨i,j,rfl⟩:=aec.1 g;have J:i<vs.size:=by omega
  exact I i C[i] vs[i] (aas j) (by simp[J])
 |mu id p v loc t H x U=>simpa [AV.under] using (aac.1 H).1|ptr id p i k v loc t H x U=>simpa [AV.under] using (aac.1 H).1|map id loc b H q z=>simpa [AV.under] using (aac.1 H).1|fn f first N T l H q B h k I y=>
  simp only[AV.under,Ee];refine⟨(jn _ first).2 λc g=>?_,(jn _ N).2 λc g=>?_⟩;obtain⟨i,j,rfl⟩:=aec.1 g;have J:i<T.size:=by omega
  exact I i first[i] T[i] (aas j) (by simp[J])
  obtain⟨i,j,rfl⟩:=aec.1 g;have J:i<l.size:=by omega
  exact y i N[i] l[i] (aas j) (by simp[J])
 |_=>simp[AV.under]
def bD.cut(G:bD)(n:Nat):bD:=⟨G.ls.take n,G.oY⟩
theorem Ia{n i:Nat}{loc:nM}(h:G.ls[i]?=some loc)(H:i<n):(G.cut n).ls[i]?=some loc:=by
 simp only[bD.cut];rw[aeq,af H];exact h
theorem bF.Jm{n:Nat}{a:AV}(h:bF w G a v):a.under n=true->bF w (G.cut n) a v:=by
 induction h with
 |undef=>exact λ_=>.undef|gone v h=>exact λ_=>.gone v h|bool b=>exact λ_=>.bool b|int k n=>exact λ_=>.int k n|str l s h=>exact λ_=>.str l s h|eP=>exact λ_=>.eP|aF=>exact λ_=>.aF|gu=>exact λ_=>.gu|je=>exact λ_=>.je|lz=>exact λ_=>.lz|agg y vs q h I=>exact λp=>.agg y vs q λi c v H g=>I i c v H g ((jn n y).1 (by simpa [AV.under] using p) c (eB H))|eY y vs q h I=>exact λp=>.eY y vs q λi c v H g=>I i c v H g ((jn n y).1 (by simpa [AV.under] using p) c (eB H))|dV x rows a cap D N J E t C B R I=>
  exact λ_=>.dV x rows a cap D N J E t C B λi r j c v H g z=>I i r j c v H g z (kE n c ((iW r).1 (t r (eB H)) c (eB g)))
 |ju x rows a cap D N J E t C B R Z Y I=>
  exact λ_=>.ju x rows a cap D N J E t C B (λi r j c v H g z=>I i r j c v H g z (kE n c ((iW r).1 (t r (eB H)) c (eB g)))) Z Y
 |raw x rows a cap D N J E t C B R Z Y I=>
  exact λ_=>.raw x rows a cap D N J E t C B (λi r j c v H g z=>I i r j c v H g z (kE n c ((iW r).1 (t r (eB H)) c (eB g)))) Z Y
 |oI a=>exact λ_=>.oI a|mu id F v loc M q Q U=>exact λp=>.mu id F v loc M (Ia q (by simpa [AV.under] using p)) Q U|ptr id F i k v loc M q Q U=>exact λp=>.ptr id F i k v loc M (Ia q (by simpa [AV.under] using p)) Q U|tM x rows i k a cap hs I=>exact λ_=>.tM x rows i k a cap (I (by simp[AV.under]))|map id loc b q L p=>exact λqH=>.map id loc b (Ia q (by simpa [AV.under] using qH)) L p|fn f first T vf vc q L W h k I X=>
  intro p;simp only[AV.under,Ee]at p;exact .fn f first T vf vc q L W (λi c v H g=>I i c v H g ((jn n first).1 p.1 c (eB H))) λi c v H g=>X i c v H g ((jn n T).1 p.2 c (eB H))
def dJ.under(n:Nat):dJ->Bool
 |.rows _ _ rs=>rs.all (AV.rN n)|.map E=>E.all λe=>e.1.under n&&e.2.under n
theorem tU.Jm{n:Nat}{p:dJ}{loc:nM}(h:tU w G p loc)(l:p.under n=true):tU w (G.cut n) p loc:=by
 cases p with
 |rows L N rows=>
  obtain⟨t,x,H⟩:=h;simp only[dJ.under,ac3]at l;refine⟨t,x,H.yT,H.HY,H.len,H.size,H.xQ,λi r X E q=>?_,H.tT⟩;obtain⟨y,B⟩:=H.yh i r X E q;exact⟨y,λj c v g W=>(B j c v g W).Jm ((jn n r).1 (l r (eB E)) c (eB g))⟩
 |map M=>
  obtain⟨t,x,b,z,clock,H,C,D,F,I⟩:=h;simp only[dJ.under,ac3,Ee]at l;refine⟨t,x,b,z,clock,H,C,D,F,λi k v e E q=>?_⟩;obtain⟨g,W,Y,J⟩:=I i k v e E q;have:=l (k,v) (eB E);exact⟨g.Jm this.1,W.Jm this.2,Y,J⟩
theorem tU.Ec{l:dJ}{loc:nM}(h:tU w G l loc):l.under G.ls.length=true:=by
 cases l with
 |rows F N rows=>
  obtain⟨t,v,g⟩:=h;simp only[dJ.under,ac3];intro r B;obtain⟨i,H,rfl⟩:=aec.1 B;have J:i<loc.vals.length:=by rw[g.xQ];exact H
  obtain⟨D,p⟩:=g.yh i rows[i] loc.vals[i] (aas H) (aas J);refine(jn _ _).2 λc y=>?_;obtain⟨j,X,rfl⟩:=aec.1 y;have k:j<loc.vals[i].length:=by omega
  exact(p j _ _ (aas X) (aas k)).Ec
 |map E=>
  obtain⟨t,v,b,z,clock,g,I,L,M,Y⟩:=h;simp only[dJ.under,ac3,Ee];intro x C;obtain⟨i,H,rfl⟩:=aec.1 C;have J:i<z.size:=by omega
  obtain⟨q,W,_,_⟩:=Y i E[i].1 E[i].2 z[i] (aas H) (by simp[J]);exact⟨q.Ec,W.Ec⟩
def LX(l:Nat)(st:aj):Prop:=∀(id:Nat) g,id<l->st[id]?=some g->g.under l=true
theorem lN.aoZ{st:aj}(h:lN w G st):LX st.length st:=by
 intro id k _ H;obtain⟨loc,j,g⟩:=h.loc H;rw[<-h.len];exact g.Ec
theorem lN.Jm{st:aj}{n:Nat}(h:lN w G st)(hl:LX n st):lN w (G.cut n) (st.take n) where
 len:=by simp[bD.cut,h.len]
 bO:=λid k loc H g=>by
  simp only[bD.cut]at g;rw[aeq]at H g;split at H;rename_i j;rw[af j]at g;exact(h.bO id k loc H g).Jm (hl id k j H);cases H
 qi:=h.qi
theorem ae9{n:Nat}(h:wZ w G w' G')(hn:G.ls.length<=n):wZ w G w' (G'.cut n) where
 ZD:=h.ZD
 fP:=λid loc hl=>by
  obtain⟨l,j,a2,g⟩:=h.fP id loc hl;exact⟨l,Ia j (by have:=(aac.1 hl).1;omega),a2,g⟩
theorem LY(b:Nat):∀(n:Nat)(L:List nM)(st:aj),cV b (L.take n) (st.take n)<=cV b L st
 |0,L,st=>by simp[cV]|n+1,[],st=>by simp[cV]|n+1,l::L,[]=>by simp[cV]|n+1,l::L,o::st=>by
  have:=LY b n L st;simp only[List.take_succ_cons,cV];omega
end Ax
namespace Ax
open Go
structure eK (wl ah:Nat)(st st':aj):Prop where
 len:st.length<=st'.length
 low:∀id,id<wl->id<st.length->st'[id]?=st[id]?
 ah:∀l,l<=ah->l<=st.length->LX l st->LX l st'
variable {wl ah:Nat}{st st' WY:aj}
theorem eK.refl(wl ah:Nat)(st:aj):eK wl ah st st:=⟨acO _,λ_ _ _=>rfl,λ_ _ _ h=>h⟩
theorem eK.trans(h:eK wl ah st st')(k:eK wl ah st' WY):eK wl ah st WY:=
 ⟨aeM h.len k.len,λid H g=>(k.low id H (akE g h.len)).trans (h.low id H g),λl H g j=>k.ah l H (aeM g h.len) (h.ah l H g j)⟩
theorem eK.push(wl ah:Nat)(st:aj)(k:dJ):eK wl ah st (st++[k]) where
 len:=by simp
 low:=λid _ h=>by rw[acJ h]
 ah:=λl _ q H id p j g=>H id p j (by rwa [acJ (by omega)]at g)
theorem eK.set{id:Nat}{ob p:dJ}(I:st[id]?=some ob)(v:wl<=id)(h:∀l,l<=ah->id<l->ob.under l=true->p.under l=true):eK wl ah st (st.set id p) where
 len:=by simp
 low:=λi k _=>by rw[aek,U (by omega)]
 ah:=λl k t q i j g H=>by
  rw[aek]at H;split at H;rename_i e;subst e;split at H;cases H;exact h l k g (q _ ob g I);cases H;exact q i j g H
theorem ze{l C g:Nat}{rs:List (List AV)}:(dJ.rows C g rs).under l=true↔∀r∈rs,∀c∈r,c.under l=true:=by
 simp only[dJ.under,ac3];exact⟨λh r H=>(jn l r).1 (h r H),λh r H=>(jn l r).2 (h r H)⟩
theorem Xl{g:Type}{as vs:List g}{k:Nat}{x:g}(h:k+vs.length<=as.length)(l:x∈ay as k vs):x∈as\/x∈vs:=by
 rw[l7 _ _ _ h]at l;rcases aed.1 l with l|l;rcases aed.1 l with l|l;exact .inl (agM l);exact .inr l;exact .inl (agN l)
theorem zf{p:AV}{cells:List AV}(h:fR wl ah st p cells=some st')(D:∀id t i k,p=.ptr id t i k->True:=λ_ _ _ _ _=>trivial):eK wl ah st st':=by
 unfold fR at h;split at h;split at h;rename_i v E rows I;split at h;rename_i M;simp only[Ee,aA,bu,aet]at M;obtain⟨_,y,H⟩:=M;split at h;rename_i r x;split at h;rename_i J;cases h;refine eK.set I y λl z B j=>?_;rw[ze]at j ⊢;intro R Z c C;rcases List.mem_or_eq_of_mem_set Z with g|g;exact j R g c C;subst g;rcases Xl J C with q|q;exact j r (eB x) c q;rcases H with H|H;omega;exact kE l c ((iW cells).1 H c q);cases h;cases h;cases h;cases h;cases h
theorem Jn{t bytes:Nat}{s:AV}{new:List (List AV)}{bx iz:bK}{r:fz}(h:tR wl ah t bytes s new st bx=some (r,st',iz)):eK wl ah st st':=by
 unfold tR at h;split at h;split at h;split at h;cases h;exact eK.refl _ _ _;split at h;cases h;exact eK.push _ _ _ _;cases h;split at h;cases h;exact eK.push _ _ _ _;cases h;split at h;rename_i I;split at h;rename_i j;simp only[Ee,aA,aet,ac3]at j;cases h;refine eK.set I j.1.2 λl v x k=>?_;rw[ze]at k ⊢;intro r q c H;rcases aed.1 q with g|g;exact k r g c H;rcases j.2 with p|p;omega;exact kE l c ((iW r).1 (p r g) c H);cases h;cases h;cases h;cases h
theorem SY{op:fZ}{vals:List fz}{bx iz:bK}{r:fz}(h:bz wl ah op vals st bx=some (r,st',iz)):eK wl ah st st':=by
 cases op
 case load agg n T=>
  unfold bz at h;simp only at h;split at h;split at h;split at h;split at h;rename_i B _;cases h;exact zf B;cases h;split at h;cases h;exact eK.refl _ _ _;cases h;cases h;cases h
 case store n=>
  unfold bz at h;simp only at h;split at h;split at h;split at h;rename_i B;cases h;exact zf B;cases h;cases h;cases h
 case vF C=>
  unfold bz at h;simp only at h;split at h;split at h;rename_i I;split at h;rename_i g;simp only[Ee,aA]at g;cases h;refine eK.set I g.2 λl _ _ j=>?_;rw[ze]at j ⊢;exact λr y=>j r (agM y);cases h;cases h;cases h
 case jH C bytes=>
  unfold bz at h;simp only at h;split at h;split at h;cases h;exact Jn h;cases h
 case wU C bytes zero=>
  unfold bz at h;simp only at h;split at h;split at h;exact Jn h;cases h;cases h
 case copy C=>
  unfold bz at h;simp only at h;split at h;split at h;rename_i I U;split at h;rename_i g;simp only[Ee,aA,aet,ac3]at g;cases h;refine eK.set I g.1.2 λl J L j=>?_;rw[ze]at j ⊢;intro r y c q;rcases aed.1 y with t|t;rcases g.2 with p|p;omega;exact kE l c ((iW r).1 (p r t) c q);exact j r (agN t) c q;cases h;cases h;cases h
 case mapUpdate kk=>
  unfold bz at h;simp only at h;split at h;rename_i id k v;split at h;rename_i E I;split at h;rename_i g;simp only[Ee,bu,aA,aet]at g;split at h;rename_i z X;cases h;refine eK.set I g.2.1 λl J L j=>?_;have D:k.under l=true:=by
   have:=g.1;unfold LH at this;split at this<;>first|rfl|cases this
  have F:v.ai.under l=true:=by
   rcases g.2.2 with p|p;omega;simp only[AV.aB,Bool.and_true]at p;exact kE l _ (AU v p)
  clear I;simp only[dJ.under,ac3,Ee]at j ⊢;have key:∀(E z:List (AV×AV)),(∀x∈E,x.1.under l=true/\x.2.under l=true)->IF kk k v.ai E=some z->∀x∈z,x.1.under l=true/\x.2.under l=true:=by
   intro E;induction E with
   |nil=>intro z _ h x H;simp[IF]at h;subst h;simp at H;subst H;exact⟨D,F⟩|cons c E N=>
    intro z M h;obtain⟨a,u⟩:=c;simp only[IF]at h;split at h;cases h;intro x H;rcases aev.1 H with rfl|H;exact⟨D,F⟩;exact M x (by simp[H]);split at h;rename_i R Z;cases h;intro x H;rcases aev.1 H with rfl|H;exact M _ (by simp);exact N R (λx H=>M x (by simp[H])) Z x H;cases h;cases h
  exact key E z j X;cases h;cases h;cases h;cases h
 all_goals
  unfold bz at h;simp only at h;repeat' split at h
 all_goals first
  |(cases h;exact eK.refl _ _ _)
  |(cases h;exact eK.push _ _ _ _)
  |cases h
structure vW (O:mC):Prop where
 call:∀wl ah f args st v st',O.call wl ah f args st=some (v,st')->eK wl ah st st'
 loop:∀wl ah rs c s x s',O.loop wl ah rs c s=some (x,s')->eK wl ah s.st s'.st
variable {O:mC}
theorem Xm(l:vW O){op:fZ}{vals:List fz}{bx iz:bK}{r:fz}(h:xO O wl ah op vals st bx=some (r,st',iz)):eK wl ah st st':=by
 have call:∀x,iF O wl ah x st bx=some (r,st',iz)->eK wl ah st st':=by
  intro x h;unfold iF at h;split at h;split at h;rename_i H;cases h;exact l.call _ _ _ _ _ _ _ H;cases h;cases h
 unfold xO at h;split at h;exact call _ h;exact call _ h;exact SY h
theorem Ed(l:vW O){o:ct}{s s':St}(h:jA O wl ah o s=some s'):eK wl ah s.st s'.st:=by
 unfold jA at h;split at h;cases h;cases h;exact eK.refl _ _ _;split at h;cases h;rename_i H;have j:=Xm l H;split at h;cases h;exact j;split at h;cases h;exact j;cases h
theorem C6(H:vW O):∀{l:List ct}{s s':St},g8 O wl ah l s=some s'->eK wl ah s.st s'.st
 |[],s,s',h=>by simp only[g8,bw]at h;subst h;exact eK.refl _ _ _|o::l,s,s',h=>by
  simp only[g8]at h;split at h;rename_i j g;exact(Ed H g).trans (C6 H h);cases h
theorem C7(H:vW O):∀{l:List ct}{s s':St}{lX:List St},cR O wl ah l s=some (s',lX)->eK wl ah s.st s'.st
 |[],s,s',lX,h=>by simp only[cR,bw,cL]at h;obtain⟨rfl,_⟩:=h;exact eK.refl _ _ _|o::l,s,s',lX,h=>by
  simp only[cR]at h;split at h;rename_i k g;split at h;rename_i j;cases h;exact(Ed H g).trans (C7 H j);cases h;cases h
theorem Jo(H:vW O){l:List ct}{cA:List (Nat×Nat)}{s s':St}(h:iL O wl ah l cA s=some s'):eK wl ah s.st s'.st:=by
 unfold iL at h;split at h;cases h;rename_i g;split at h;cases h;exact C7 H g;cases h
theorem Lh{a g:AV}(h:mM wl a st=some (g,st')):eK wl ah st st':=by
 unfold mM at h;split at h;split at h;rename_i I;split at h;rename_i H;simp only[Ee,aA]at H;cases h;exact eK.set I H.2 λl _ _ _=>by simp[dJ.under]
 cases h;cases h;split at h;cases h;exact eK.refl _ _ _;cases h
theorem C8:∀{l g:List AV}{st st':aj},lB wl l st=some (g,st')->eK wl ah st st'
 |[],g,st,st',h=>by simp only[lB,bw,cL]at h;obtain⟨_,rfl⟩:=h;exact eK.refl _ _ _|a::l,g,st,st',h=>by
  simp only[lB]at h;split at h;rename_i H;split at h;rename_i j;cases h;exact(Lh H).trans (C8 j);cases h;cases h
theorem A4:∀{l g:List (List AV)}{st st':aj},jV wl l st=some (g,st')->eK wl ah st st'
 |[],g,st,st',h=>by simp only[jV,bw,cL]at h;obtain⟨_,rfl⟩:=h;exact eK.refl _ _ _|a::l,g,st,st',h=>by
  simp only[jV]at h;split at h;rename_i H;split at h;rename_i j;cases h;exact(C8 H).trans (A4 j);cases h;cases h
theorem xT{a g:AV}(h:jw wl a st=some (g,st')):eK wl ah st st':=by
 unfold jw at h;split at h;split at h;rename_i I;split at h;rename_i H;simp only[Ee,aA]at H;split at h;rename_i j;cases h;exact(eK.set (ah:=ah) I H.2 λl _ _ _=>by simp[dJ.under]).trans (A4 j);cases h;cases h;cases h;cases h;exact eK.refl _ _ _;cases h
theorem Li{a g:AV}(h:qM wl a st=some (g,st')):eK wl ah st st':=by
 unfold qM at h;split at h;cases h;exact eK.push _ _ _ _;exact xT h
theorem mc(l:vW O){rs:List jv}:∀{c:aT}{s:St}{x:Ex}{s':St},jU O wl ah rs c s=some (x,s')->eK wl ah s.st s'.st
 |.skip,s,x,s',h=>by simp only[jU,bw,cL]at h;obtain⟨_,rfl⟩:=h;exact eK.refl _ _ _|.region dK D T,s,x,s',h=>by
  simp only[jU]at h;split at h;rename_i p H;cases h;show eK wl ah s.st p.st;cases D with
  |none=>exact C6 l (by simpa only using H)|some cA=>exact Jo l (by simpa only using H)
  cases h
 |.seq a b,s,x,s',h=>by
  simp only[jU]at h;split at h;rename_i p H;exact(mc l H).trans (mc l h);exact mc l h
 |.cond c q a y b,s,x,s',h=>by
  simp only[jU]at h;split at h;have:=mc (c:=a) l h;exact this;have:=mc (c:=b) l h;exact this;cases h
 |.block id c,s,x,s',h=>by
  simp only[jU]at h;split at h;rename_i H;split at h<;>(cases h;exact mc l H);exact mc l h
 |.loop c,s,x,s',h=>by simp only[jU]at h;exact l.loop _ _ _ _ _ _ _ h|.exit id,s,x,s',h=>by simp only[jU,bw,cL]at h;obtain⟨_,rfl⟩:=h;exact eK.refl _ _ _|.ret,s,x,s',h=>by
  simp only[jU]at h;split at h;cases h;exact eK.refl _ _ _;cases h
 |.ZB t,s,x,s',h=>by
  simp only[jU]at h;split at h;split at h;rename_i g;cases h;exact xT g;cases h;cases h
 |.IE j k,s,x,s',h=>by
  simp only[jU]at h;split at h;split at h;split at h;rename_i g;cases h;exact xT g;cases h;cases h;cases h
 |.qL t off,s,x,s',h=>by
  obtain⟨_,id,C,i,k,v,z,qg,pg,_,_,Y,J,rfl⟩:=IK h;exact(Li Y).trans (zf J)
theorem SZ:∀m:Mode,m=.pure\/m=.mH\/m=.AA:=by
 intro m;cases m<;>simp
variable{args:List AV}
theorem HD(z:vW O){q:aL}{v:AV}(h:eN O wl ah q args st=some (v,st')):eK wl ah st st':=by
 unfold eN at h;split at h;split at h;rename_i x s B;split at h;rename_i u D;have j:=mc z B;simp only[uG]at j;rcases SZ q.mode with g|g|g;rw[g]at h;simp only[Mode.oJ]at h;split at h;cases h;exact eK.refl _ _ _;cases h;rw[g]at h j;simp only[Mode.oJ]at h;simp only[Mode.AJ,Mode.tf]at j;split at h;cases h;refine⟨by rw[List.length_take];have:=j.len;omega,λid p H=>?_,λl p H t id C y k=>?_⟩;rw[aeq,af H];exact j.low id p H;rw[aeq]at k;split at k;exact j.ah l H H t id C y k;cases k;cases h;rw[g]at h j;simp only[Mode.oJ]at h;cases h;exact j;cases h;cases h;cases h
theorem Jp(l:vW O){g:aL}{v:AV}(h:fU O wl ah g args st=some (v,st')):eK wl ah st st':=by
 unfold fU at h;split at h;simp only[aex]at h;obtain⟨x,_,H⟩:=h;cases H;exact eK.refl _ _ _;exact HD l h
theorem LZ(S:Nat->Option aL):∀n,vW (tS S n)
 |0=>⟨λ_ _ _ _ _ _ _ h=>by simp[tS]at h,λ_ _ _ _ _ _ _ h=>by simp[tS]at h⟩
 |n+1=>by
  have I:=LZ S n;refine⟨λwl ah f args st v st' h=>?_,λwl ah rs c s x s' h=>?_⟩;simp only[tS]at h;split at h;exact Jp I h;cases h;simp only[tS]at h;split at h;rename_i j H;exact(mc I H).trans (I.loop _ _ _ _ _ _ _ h);exact mc I h
end Ax
namespace Ax
open Go
variable {P:Program}{w w':World}{G G':bD}{β jm:List qh}
abbrev n7(a:Act)(t:Nat):Value:=a.tmps.getD t undef
structure FS (w:World)(G:bD)(β:List qh)(a:Act)(η:Nat->fz)(bx:bK)(st:aj)(n:Nat):Prop where
 Qa:a.defers=[]
 size:n<=a.tmps.size
 yb:∀t,mX w G β (η t) (n7 a t)
 lt:∀t,n<=t->η t=.none
 inv:lN w G st
 box:mD w G β bx
def Ae(β:List qh)(a:Act)(η:Nat->fz)(bx:bK)(st:aj)(G:bD)(n:Nat)(b:Nat):Nat:=
 jh (λt=>dz b (η t) (n7 a t)) n+iJ b β bx+cV b G.ls st
structure Mv (w:World)(G:bD)(A:Nat->Nat)(w':World)(G':bD)(A':Nat->Nat):Prop where
 kV:wZ w G w' G'
 iw:∀b,b<w.heap.size->A' b<=A b
 one:∀b,A' b<=1
 AQ:∀b,b<w.heap.size->A b=0->fM w G w' G' b
 size:w.heap.size<=w'.heap.size
 os:w'.os=w.os
 out:w'.output=w.output
theorem Mv.refl{A:Nat->Nat}(h:∀b,A b<=1):Mv w G A w G A:=⟨wZ.refl w G,λ_ _=>acO _,h,λ_ _ _=>⟨rfl,rfl⟩,acO _,rfl,rfl⟩
theorem fM.trans{W p q:World}{g j l:bD}{b:Nat}(h:fM W g p j b)(k:fM p j q l b):fM W g q l b:=⟨k.1.trans h.1,k.2.trans h.2⟩
theorem Mv.trans{A p g:Nat->Nat}{W:World}{j:bD}(h:Mv w G A w' G' p)(k:Mv w' G' p W j g):Mv w G A W j g where
 kV:=h.kV.trans k.kV
 iw:=λb l=>aeM (k.iw b (akE l h.size)) (h.iw b l)
 one:=k.one
 AQ:=λb l H=>(h.AQ b l H).trans (k.AQ b (akE l h.size) (by have:=h.iw b l;omega))
 size:=aeM h.size k.size
 os:=k.os.trans h.os
 out:=k.out.trans h.out
theorem Mv.Z4{A p B g:Nat->Nat}(h:Mv w G A w' G' p)(j:∀b,A b<=B b)(H:∀b,b<w.heap.size->g b<=B b)(z:∀b,g b<=1):Mv w G B w' G' g:=
 ⟨h.kV,H,z,λb l k=>h.AQ b l (by have:=j b;omega),h.size,h.os,h.out⟩
variable{v:Value}
theorem L0{e:fz}{b:Nat}(h:mX w G β e v)(l:0<dz b e v):b<w.heap.size:=by
 cases e with
 |none=>simp[dz]at l|fp j k=>simp[dz]at l|val a=>exact bF.held h l
section
variable {a:Act}{η:Nat->fz}{bx:bK}{st:aj}{n:Nat}
theorem FS.held(h:FS w G β a η bx st n){b:Nat}(l:0<Ae β a η bx st G n b):b<w.heap.size:=by
 unfold Ae at l;by_cases g:0<iJ b β bx;exact h.box.held g;by_cases j:0<cV b G.ls st;exact h.inv.held j;have k:0<jh (λt=>dz b (η t) (n7 a t)) n:=by omega
 have key:∀n,0<jh (λt=>dz b (η t) (n7 a t)) n->∃t,0<dz b (η t) (n7 a t):=by
  intro n;induction n with
  |zero=>intro h;simp[jh]at h|succ n I=>
   intro h;simp only[jh]at h;by_cases H:0<dz b (η n) (n7 a n);exact⟨n,H⟩;exact I (by omega)
 obtain⟨t,X⟩:=key n k;exact L0 (h.yb t) X
end
theorem mX.bx{e:fz}{nb:Option Nat}(h:mX w G β e v)(x:gx nb β jm)(y:∀j,nb=some j->e.s9 j=true):mX w G jm e v:=by
 cases e with
 |none=>trivial|val a=>exact h|fp j k=>
  obtain⟨g,b,H,q,t⟩:=h;obtain⟨g',l,p⟩:=x j g H;refine⟨g',b,l,(p λe=>?_).trans q,t⟩;have:=y j e;simp[fz.s9]at this
theorem mX.kV{e:fz}{v:Value}(h:mX w G β e v)(H:wZ w G w' G')(g:∀b,0<dz b e v->fM w G w' G' b):mX w' G' β e v:=by
 cases e with
 |none=>trivial|val a=>exact bF.kV h H g|fp j k=>exact h
def Fl(η:Nat->fz):Src->fz
 |.tmp t true=>η t|.tmp t false=>(η t).ai|.const a=>.val a
theorem Ib(env:tN)(s:Src):O9 env s=Fl (dZ env) s:=by
 cases s with
 |tmp t M=>cases M<;>rfl|const a=>rfl
def zg(η:Nat->fz):Option (Nat×Bool)->Option Bool
 |none=>some true|some (t,b)=>match η t with
  |.val (.bool c)=>some (c==b)|.val .undef=>some false|_=>none
theorem L2(env:tN)(g:Option (Nat×Bool)):pZ env g=zg (dZ env) g:=by
 cases g with
 |none=>rfl|some x=>rfl
def mO(η:Nat->fz)(dst:Option Nat)(e:fz):Nat->fz:=λt=>if dst=some t then e else η t
def lU(η:Nat->fz)(l:List Nat):Nat->fz:=λt=>if t∈l then .none else η t
theorem U1{a:Act}{η:Nat->fz}(H:∀t,mX w G β (η t) (n7 a t)):∀{x:Operand}{s:Src},Sy x s=true->mX w G β (Fl η s) (a.eval x)/\∀b,dz b (Fl η s) (a.eval x)<=tX (λt=>dz b (η t) (n7 a t)) (uM [s])
 |.tmp t,.tmp u true,h=>by
  simp only[Sy,cD]at h;subst h;exact⟨H t,λb=>by simp only[uM,tX,Fl];exact acO _⟩
 |.tmp t,.tmp u false,h=>by
  simp only[Sy,cD]at h;subst h;exact⟨(H t).ai,λb=>by simp only[Fl,LM];omega⟩
 |.const v,.const c,h=>by
  simp only[Sy]at h;obtain⟨j,k,_⟩:=Dr h w G;exact⟨j,λb=>by simp only[Fl,dz,gw b c _ k];omega⟩
 |.func f,.const (.fn g [] []),h=>by
  simp only[Sy,Ee,cD,aA]at h;obtain⟨rfl,l⟩:=h;exact⟨bF.fn f [] [] #[] #[] rfl rfl ⟨rfl,rfl,l⟩ (λi c v h=>by simp at h) (λi c v h=>by simp at h),λb=>by simp[Fl,dz,iw]⟩
theorem Z6(s:Src)(r:List Src):uM (s::r)=uM [s]++uM r:=by
 cases s with
 |tmp t M=>cases M<;>rfl|const a=>rfl
theorem GO(f:Nat->Nat):∀(l m:List Nat),tX f (l++m)=tX f l+tX f m
 |[],m=>by simp[tX]|t::l,m=>by simp only[List.cons_append,tX,GO f l m];omega
theorem Qb{a:Act}{η:Nat->fz}(H:∀t,mX w G β (η t) (n7 a t)):∀{X:List Operand}{g:List Src},iM X g=true->nD w G β (g.map (Fl η)) (X.map a.eval)/\
  ∀b,oZ b (g.map (Fl η)) (X.map a.eval)<=tX (λt=>dz b (η t) (n7 a t)) (uM g)
 |[],[],_=>⟨trivial,λb=>by simp[oZ]⟩
 |x::X,s::g,h=>by
  simp only[iM,Ee]at h;obtain⟨j,k⟩:=U1 H h.1;obtain⟨l,p⟩:=Qb H h.2;refine⟨⟨j,l⟩,λb=>?_⟩;have E:=k b;have q:=p b;rw[Z6,GO];simp only[aei,oZ];omega
 |[],_::_,h=>by simp[iM]at h|_::_,[],h=>by simp[iM]at h
def S1(dK:Array Oper)(o:Oper)(so:ct):Bool:=
 match o.guard,so.guard with
 |none,none=>true|some (j,b),some (t,c)=>b==c&&(match dK[j]? with|some q=>q.dst==some t|none=>false)|_,_=>false
def A5:List Nat->Bool
 |[]=>true|t::l=>!(l.contains t)&&A5 l
theorem B1:∀{l:List Nat},A5 l=true->l.Nodup
 |[],_=>apq|t::l,h=>by
  simp only[A5,Ee,afh,aiU,decide_eq_false_iff_not]at h;exact aiY.2 ⟨h.1,B1 h.2⟩
def L3(S:Nat->Option aL)(P:Program)(dK:Array Oper)(n:Nat)(o:Oper)(so:ct):Bool:=
 mOp S P o so&&S1 dK o so&&(match so.dst with|some d=>decide (d<n)|none=>true)&&A5 (uM so.args)
theorem Xn{dK:Array Oper}{o:Oper}{so:ct}{a:Act}{η:Nat->fz}{n:Nat}(H:S1 dK o so=true)(D:∀t,mX w G β (η t) (n7 a t))(F:∀t,n<=t->η t=.none)(I:n<=a.tmps.size){b:Bool}
  (g:zg η so.guard=some b):Region.wanted o (yielded dK a.tmps)=b:=by
 unfold S1 at H;split at H;rename_i x y;rw[y]at g;simp only[zg]at g;cases g;simp[Region.wanted,x];rename_i j E t c x y;simp only[Ee,cD]at H;obtain⟨rfl,H⟩:=H;split at H;rename_i q C;simp only[cD]at H;rw[y]at g;simp only[zg]at g;have B:yielded dK a.tmps j=match a.tmps[t]? with|some (.bool b)=>some b|_=>none:=by
  simp only[yielded,C,Option.bind_some,H]
  rfl
 have J:=D t;split at g;rename_i c k;cases g;have X:t<n:=by
  rcases aiM t n with h|h;exact h;rw[F t h]at k;cases k
 rw[k]at J;have z:=bF.l6 J;have l:a.tmps[t]?=some (.bool c):=by
  have p:t<a.tmps.size:=by omega
  have:a.tmps.getD t undef=a.tmps[t]:=by simp[Array.getD,p]
  rw[<-z,n7,this];simp[p]
 simp only[Region.wanted,x,B,l]
 rfl
 rename_i k;cases g;have X:t<n:=by
  rcases aiM t n with h|h;exact h;rw[F t h]at k;cases k
 rw[k]at J;have z:n7 a t=undef:=by
  generalize n7 a t=v at J;cases J;rfl
 have l:a.tmps[t]?=some undef:=by
  have p:t<a.tmps.size:=by omega
  have:a.tmps.getD t undef=a.tmps[t]:=by simp[Array.getD,p]
  rw[<-z,n7,this];simp[p]
 simp only[Region.wanted,x,B,l]
 rfl
 cases g;cases H;cases H
end Ax
namespace Ax
open Go
variable {P:Program}{w w':World}{G G':bD}{β jm:List qh}
def Xo (P : Program) (f : FuncId) : Prop := ∃ fn, P.funcs[f]? = some fn ∧ (fn.name == "runtime.NumGoroutine") = false ∧ fn.body.isNone = false
def me(S:Nat->Option aL)(P:Program)(O:mC):Prop:=
 ∀wl ah f args st v st',O.call wl ah f args st=some (v,st')->∃g,S f=some g/\Xo P g.Sc/\(f<100000->g.Sc=f)/\
  ∀(w:World) (G:bD) (vs:List Value),dg w G args vs->lN w G st->(∀b,cP b args vs+cV b G.ls st<=1)->
   Calls P g.Sc vs.toArray w λe w'=>∃u G',e=.returned u/\bF w' G' v u/\lN w' G' st'/\
    Mv w G (λb=>cP b args vs+cV b G.ls st) w' G' (λb=>iw b v u+cV b G'.ls st')
variable{f:FuncId}
theorem Jr(h:Xo P f)(args:Array Value)(w:World):(callFunc f args).run P w=.ok (.enter f args) w:=by
 obtain⟨fn,h1,h2,h3⟩:=h;have h4 : ¬ fn.name = "runtime.NumGoroutine" := by simpa using h2
 have h5:¬fn.body=none:=by intro h;rw[h]at h3;simp at h3
 simp[callFunc,h1,h4,h5]
theorem L4{ρ:Operand->Value}{o:Oper}{c:Call}{T v:Array Value}{x:Operand}(z:o.op=.call c)(H:c.callee=.value x)(l:ρ x=.func (.func f) T v)(h:Xo P f)(w:World) :
  (execOp ρ o).run P w=.ok (.enter f (T++c.args.map ρ++v)) w:=by
 simp only[execOp,z,resolve,H,l,Deferred.ofValue,cj,Sem.run_pure,dy,invoke,Jr h]
theorem Xp{l:List fz}{x:Nat×List AV}(h:pH .wV l=some x):∃f first N g vs,l=.val (.fn f first N)::g/\kS g=some vs/\x=(f,first++vs++N):=by
 unfold pH at h;split at h;rename_i heq;cases heq;rename_i f first N g _
 split at h;rename_i vs D;cases h;exact⟨f,first,N,g,vs,rfl,D,rfl⟩;cases h;cases h
section
variable {S:Nat->Option aL}{O:mC}{dK:Array Oper}{n:Nat}{o:Oper}{so:ct}{a:Act}{η:Nat->fz}{bx iz:bK}{st st':aj}{wl ah:Nat}{e:fz}
theorem FS.after(l:FS w G β a η bx st n)(z:∀b,Ae β a η bx st G n b<=1){cO:Nat->Nat}(I:∀b,cO b=tX (λt=>dz b (η t) (n7 a t)) (uM so.args))(T:(uM so.args).Nodup)(x:∀d,so.dst=some d->d<n){v:Value}
  (L:lC w G β st bx cO w' G' jm st' iz e v)(hB:gx so.op.bM β jm)(W:∀j,so.op.bM=some j->∀t,so.dst≠some t->t ∉ uM so.args->(η t).s9 j=true) :
  FS w' G' jm (a.put so.dst v) (mO (lU η (uM so.args)) so.dst e) iz st' n/\Mv w G (Ae β a η bx st G n) w' G' (Ae jm (a.put so.dst v) (mO (lU η (uM so.args)) so.dst e) iz st' G' n):=by
 have Q:∀t,n7 (a.put so.dst v) t=if so.dst=some t then (if t<n then v else n7 (a.put so.dst v) t) else n7 a t:=by
  intro t;cases F:so.dst with
  |none=>simp[Act.put]|some d=>
   have y:=x d F;have J:d<a.tmps.size:=akE y l.size;by_cases X:d=t;subst X;simp[Act.put,n7,y,J];simp[X,Act.put,n7]
 have Z:∀t,t<n->so.dst=some t->n7 (a.put so.dst v) t=v:=λt z H=>by rw[Q t,af H,af z]
 have q:∀t,so.dst≠some t->n7 (a.put so.dst v) t=n7 a t:=λt h=>by rw[Q t,U h]
 have B:∀b,cO b+jh (λt=>if t∈uM so.args then 0 else dz b (η t) (n7 a t)) n<=jh (λt=>dz b (η t) (n7 a t)) n:=λb=>by
  rw[I];exact Eb (λt X=>by rw[l.lt t X];rfl) _ T
 have nZ:∀b t,so.dst≠some t->t ∉ uM so.args->0<dz b (η t) (n7 a t)->cO b+iJ b β bx+cV b G.ls st=0:=by
  intro b t H k C;have M:t<n:=by
   rcases aiM t n with h|h;exact h;rw[l.lt t h]at C;simp[dz]at C
  have D:=AZ (f:=λt=>if t∈uM so.args then 0 else dz b (η t) (n7 a t)) M;simp only[U k]at D;have R:=B b;have h7:=z b;unfold Ae at h7;omega
 have Y:∀t,so.dst≠some t->t ∉ uM so.args->mX w' G' jm (η t) (n7 a t):=λt H k=>
  ((l.yb t).kV L.kV λb p=>L.AQ b (nZ b t H k p) (L0 (l.yb t) p)).bx hB λj hj=>W j hj t H k
 have E:FS w' G' jm (a.put so.dst v) (mO (lU η (uM so.args)) so.dst e) iz st' n:=by
  refine⟨?_,?_,λt=>?_,λt X=>?_,L.inv,L.box⟩;cases F:so.dst<;>simp[Act.put,l.Qa];cases F:so.dst<;>simp[Act.put,l.size];simp only[mO,lU];by_cases H:so.dst=some t;rw[af H,Z t (x t H) H];exact L.yb;rw[U H,q t H];by_cases k:t∈uM so.args;rw[af k];trivial;rw[U k];exact Y t H k;simp only[mO,lU];rw[U (λh=>by have:=x t h;omega)];rw[l.lt t X];simp
 have N:∀b,Ae jm (a.put so.dst v) (mO (lU η (uM so.args)) so.dst e) iz st' G' n b<=Ae β a η bx st G n b+(if w.heap.size<=b then 1 else 0):=by
  intro b;have H:=L.iw b;have k:=B b;have C:jh (λt=>dz b (mO (lU η (uM so.args)) so.dst e t) (n7 (a.put so.dst v) t)) n<=jh (λt=>if t∈uM so.args then 0 else dz b (η t) (n7 a t)) n+dz b e v:=by
   cases F:so.dst with
   |none=>
    rw[F]at q;have:jh (λt=>dz b (mO (lU η (uM so.args)) none e t) (n7 (a.put none v) t)) n=jh (λt=>if t∈uM so.args then 0 else dz b (η t) (n7 a t)) n:=rM λt _=>by
     rw[q t (by simp)];simp only[mO,lU];rw[U (by simp)];split<;>rfl
    rw[this];omega
   |some d=>
    rw[F]at q Z;have D:=yq (f:=λt=>dz b (mO (lU η (uM so.args)) (some d) e t) (n7 (a.put (some d) v) t)) (g:=λt=>if t∈uM so.args then 0 else dz b (η t) (n7 a t)) (d:=d) (x d F) λt X=>by
     rw[q t (by simpa using λh=>X h.symm)];simp only[mO,lU];rw[U (by simpa using λh=>X h.symm)];split<;>rfl
    have R:dz b (mO (lU η (uM so.args)) (some d) e d) (n7 (a.put (some d) v) d)=dz b e v:=by
     rw[Z d (x d F) rfl];simp[mO]
    rw[R]at D;omega
  unfold Ae;omega
 refine⟨E,L.kV,λb p=>?_,λb=>?_,λb p h0=>L.AQ b ?_ p,L.size,L.os,L.out⟩;have:=N b;rw[U (by omega)]at this;exact this;have H:=N b;by_cases p:w.heap.size<=b;rw[af p]at H;have k:Ae β a η bx st G n b=0:=by
  rcases aiN (Ae β a η bx st G n b) with h|h;exact h;have:=l.held h;omega
 omega;rw[U p]at H;have:=z b;omega;have H:=B b;unfold Ae at h0;omega
theorem Z8{v:AV}{u:Value}{args:List AV}{vs:List Value}{cO:Nat->Nat}(j:mD w G β bx)(z:∀b,cO b+iJ b β bx+cV b G.ls st<=1)(hc:∀b,cP b args vs<=cO b)(hr:bF w' G' v u)(H:lN w' G' st')
  (hM:Mv w G (λb=>cP b args vs+cV b G.ls st) w' G' (λb=>iw b v u+cV b G'.ls st')):lC w G β st bx cO w' G' β st' bx (.val v) u where
 kV:=hM.kV
 inv:=H
 box:=qx j hM.kV λb l=>hM.AQ b (j.held l) (by have g:=z b;have k:=hc b;omega)
 yb:=hr
 iw:=λb=>by
  simp only[dz];by_cases l:w.heap.size<=b;rw[af l];have g:=hM.one b;have k:iJ b β bx=0:=by
   rcases aiN (iJ b β bx) with h|h;exact h;have:=j.held h;omega
  omega;rw[U l];have g:=hM.iw b (by omega);have k:=hc b;omega
 AQ:=λb p l=>hM.AQ b l (by have:=hc b;omega)
 size:=hM.size
 os:=hM.os
 out:=hM.out
theorem U3{Q:Exit->Act->World->Prop}{i:Nat}(hi:dK[i]?=some o)(H:L3 S P dK n o so=true)(hO:me S P O)(p:FS w G β a η bx st n)(g:∀b,Ae β a η bx st G n b<=1){K:Act->World->Prop}{b:Bool}
  (hw:zg η so.guard=some b)
  (ee:b=false->∀(q:Act),FS w G β q (mO η so.dst (.val .undef)) bx st n->Mv w G (Ae β a η bx st G n) w G (Ae β q (mO η so.dst (.val .undef)) bx st G n)->K q w)
  (ajD:b=true->∃e st' iz,xO O wl ah so.op (so.args.map (Fl η)) st bx=some (e,st',iz)/\(∀j,so.op.bM=some j->∀t,so.dst≠some t->t ∉ uM so.args->(η t).s9 j=true)/\
   ∀(w':World) (G':bD) (jm:List qh) (q:Act),FS w' G' jm q (mO (lU η (uM so.args)) so.dst e) iz st' n->Mv w G (Ae β a η bx st G n) w' G' (Ae jm q (mO (lU η (uM so.args)) so.dst e) iz st' G' n)->K q w') :
  wpOp P dK Q i K a w:=by
 unfold L3 at H;simp only[Ee]at H;obtain⟨⟨⟨H,hg⟩,Z⟩,T⟩:=H;have Y:∀d,so.dst=some d->d<n:=λd Y=>by rw[Y]at Z;simpa using Z
 have T:=B1 T;have FF:o.dst=so.dst:=by
  unfold mOp at H;rw[Ee]at H;have:=H.1;split at this;rename_i g h;simp only[cD]at this;rw[g,h,this];rename_i g h;rw[g,h];cases this
 have ao2:=Xn hg p.yb p.lt p.size hw;unfold wpOp;rw[hi];simp only[ao2];cases b with
 |false=>
  simp only[acC,br];rw[FF];have U:lC w G β st bx (λb=>tX (λt=>dz b (η t) (n7 a t)) (uM ([]:List Src))) w G β st bx (.val .undef) undef:=lC.qw p.inv p.box .undef λb=>by simp[dz,iw]
  obtain⟨F,D⟩:=FS.after (so:=⟨so.dst,.move,[],none⟩) p g (λb=>rfl) apq Y U (gx.refl _ _) (λj hj=>by simp[fZ.bM]at hj);have I:lU η (uM ([]:List Src))=η:=by funext t;simp[lU,uM]
  simp only[I]at F D;exact ee rfl _ F D
 |true=>
  obtain⟨e,st',iz,k,W7,hK⟩:=ajD rfl;simp only[bh];refine .inl ?_;have hX:∀b,tX (λt=>dz b (η t) (n7 a t)) (uM so.args)+iJ b β bx+cV b G.ls st<=1:=λb=>by
   have h:=Eb (f:=λt=>dz b (η t) (n7 a t)) (n:=n) (λt ht=>by rw[p.lt t ht];rfl) _ T;have h3:=g b;unfold Ae at h3;omega
  have U:∀xs,iM xs so.args=true->nD w G β (so.args.map (Fl η)) (xs.map a.eval)/\∀b,oZ b (so.args.map (Fl η)) (xs.map a.eval)<=tX (λt=>dz b (η t) (n7 a t)) (uM so.args):=λxs hxs=>Qb p.yb hxs;have plain:bz wl ah so.op (so.args.map (Fl η)) st bx=some (e,st',iz)->o.wp P a w K Q:=by
   intro k;obtain⟨nx,v,w',G',jm,M,N,e3,e4⟩:=ajB H p.inv p.box hX U k;obtain⟨F,D⟩:=FS.after p g (λb=>rfl) T Y e3 e4 W7;have I:=hK w' G' jm _ F D;unfold Oper.wp;rw[M];rcases N with rfl|⟨rfl,rfl⟩;rw[Oper.upon_value,FF];exact I;rw[Oper.upon_skip,FF];exact I
  have call:∀(f i:Nat) (vs:List AV) (us:List Value) (G0:Prop),iF O wl ah (some (i,vs)) st bx=some (e,st',iz)->dg w G vs us->(∀b,cP b vs us<=tX (λt=>dz b (η t) (n7 a t)) (uM so.args))->so.op.bM=none->
    (∀C,S i=some C->(i<100000->C.Sc=i)->C.Sc=f)->(Xo P f->(execOp a.eval o).run P w=.ok (.enter f us.toArray) w)->o.wp P a w K Q:=by
   intro f i vs us _ X fG UM hnb hsf hex;unfold iF at X;simp only at X;split at X;rename_i v qg fD;cases X;obtain⟨C,s1,s2,s3,s4⟩:=hO _ _ _ _ _ _ _ fD;have hf:=hsf C s1 s3;rw[hf]at s2 s4;have ajE:=s4 w G us fG p.inv λb=>by have h:=hX b;have h3:=UM b;omega
   unfold Oper.wp;rw[hex s2,Oper.upon_enter];refine ajE.mono λen w' hen=>?_;obtain⟨u,G',rfl,R,r2,r3⟩:=hen;have hA1:=Z8 p.box hX UM R r2 r3;obtain⟨F,D⟩:=FS.after p g (λb=>rfl) T Y hA1 (gx.refl _ _) W7;have I:=hK w' G' β _ F D;simp only;rw[FF];exact I;cases X
  unfold xO at k;split at k;rename_i i J;unfold mOp at H;rw[Ee]at H;replace H:=H.2;rw[J]at H;simp only[pH]at k;cases L:kS (so.args.map (Fl η)) with
  |none=>rw[L]at k;simp[iF]at k|some vs=>
   rw[L]at k;split at H<;>first|(rename_i g h;cases h;done)|(rename_i h;cases h;done)|(rename_i g h;cases g;done)|skip
   rename_i c i' B heq;cases heq;split at H;rename_i f tW;simp only[Ee]at H;obtain⟨S4,hmf⟩:=H;obtain⟨W,E⟩:=U _ S4;obtain⟨R,r2⟩:=W.Xk L;refine call f i vs _ True k R (λb=>by rw[<-r2];exact E b) (by rw[J];rfl) (λC g h=>?_) λhF=>?_;rw[g]at hmf;simpa using hmf;have:=L4 (ρ:=a.eval) B tW (show a.eval (.func f)=.func (.func f) #[] #[] from rfl) hF w;rw[this];congr 2;apply aol;simp;cases H;cases H
  ·rename_i J;unfold mOp at H;rw[Ee]at H;replace H:=H.2;rw[J]at H;split at H<;>first|(rename_i g h;cases h;done)|(rename_i h;cases h;done)|(rename_i g h;cases g;done)|skip
   ·rename_i c B heq;split at H
    ·rename_i x tW;obtain⟨W,E⟩:=U _ H;cases Jc:pH .wV (so.args.map (Fl η)) with
     |none=>rw[Jc]at k;simp[iF]at k|some y=>
      rw[Jc]at k;obtain⟨f,first,nO,l,vs,Sj,L,rfl⟩:=Xp Jc;rw[Sj]at W E;simp only[aei]at W E;obtain⟨z,hRl⟩:=W;obtain⟨R,r2⟩:=nD.Xk hRl L;simp only[mX]at z;generalize Pr:a.eval x=xv at z E;cases z with
      |fn _ _ _ vf vc hl hm' hn hh vR=>
      refine call f f (first++vs++nO) (vf.toList++c.args.toList.map a.eval++vc.toList) True k ((dg.append ⟨by simpa using hl,λi c v M N=>hh i c v M (by simpa using N)⟩ R).append ⟨by simpa using hm',λi c v M N=>vR i c v M (by simpa using N)⟩) (λb=>?_) (by rw[J];rfl) (λC g h=>h hn.2.2) λhF=>?_;rw[iB b _ _ _ _ (by simp only[List.length_append,hl,R.1];simp),iB b _ _ _ _ (by simpa using hl),eZ b _ _ hn.1,eZ b _ _ hn.2.1];have h:=E b;have h3:=r2 b;simp only[oZ]at h;omega;have:=L4 (ρ:=a.eval) B tW Pr hF w;rw[this];congr 2;apply aol;simp
    cases H
   cases H
  exact plain k
end
end Ax
namespace Ax
open Go
variable {P:Program}{w w':World}{G G':bD}{β jm:List qh}
variable {S:Nat->Option aL}{O:mC}{a:Act}{bx:bK}{st:aj}{n wl ah:Nat}{s s':St}{η:Nat->fz}
abbrev FT(w:World)(G:bD)(β:List qh)(a:Act)(s:St)(n:Nat):Prop:=FS w G β a (dZ s.env) s.bx s.st n
abbrev jo(β:List qh)(a:Act)(s:St)(G:bD)(n:Nat):Nat->Nat:=Ae β a (dZ s.env) s.bx s.st G n
variable{z:Nat->fz}
theorem FS.congr(h:FS w G β a η bx st n)(U:∀t,z t=η t):FS w G β a z bx st n:=by
 have:z=η:=funext U;rw[this];exact h
theorem FS.aab(h:FS w G β a η bx st n)(U:∀t,z t=η t\/z t=.none):FS w G β a z bx st n/\∀b,Ae β a z bx st G n b<=Ae β a η bx st G n b:=by
 refine⟨⟨h.Qa,h.size,λt=>?_,λt X=>?_,h.inv,h.box⟩,λb=>?_⟩;rcases U t with e|e;rw[e];exact h.yb t;rw[e];trivial;rcases U t with e|e;rw[e];exact h.lt t X;exact e;unfold Ae;have:=H9 (f:=λt=>dz b (z t) (n7 a t)) (g:=λt=>dz b (η t) (n7 a t)) (n:=n) λt _=>by
  rcases U t with e|e;rw[e];exact acO _;rw[e];simp[dz]
 omega
theorem mJ(env:tN)(dst:Option Nat)(e:fz):dZ (CB env dst e)=mO (dZ env) dst e:=by
 funext t;cases dst with
 |none=>simp[CB,mO]|some d=>
  simp only[CB,mO,AY,bw];by_cases h:t=d;rw[af h,af h.symm];rw[U h,U λe=>h e.symm]
theorem zh(env:tN)(g:List Src):dZ (g.foldl pG env)=lU (dZ env) (uM g):=by
 funext t;rw[yp]
 rfl
theorem Xq{dK:Array Oper}{o:Oper}{so:ct}{Q:Exit->Act->World->Prop}{i:Nat}(y:dK[i]?=some o)(z:L3 S P dK n o so=true)(v:me S P O)(B:FT w G β a s n)(q:∀b,jo β a s G n b<=1){K:Act->World->Prop}
  (H:jA O wl ah so s=some s')(D:∀(w':World)(G':bD)(jm:List qh)(g:Act),FT w' G' jm g s' n->Mv w G (jo β a s G n) w' G' (jo jm g s' G' n)->K g w'):wpOp P dK Q i K a w:=by
 unfold jA at H;rw[L2]at H;split at H;cases H;rename_i p;cases H;refine U3 (wl:=wl) (ah:=ah) y z v B q p (λ_ g F k=>?_) (λh=>by cases h);refine D w G β g ?_ ?_;rw[FT,mJ];exact F;rw[show jo β g { s with env:=CB s.env so.dst (.val .undef) } G n=Ae β g (mO (dZ s.env) so.dst (.val .undef)) s.bx s.st G n by rw[jo,mJ]];exact k;rename_i p;have J:so.args.map (O9 s.env)=so.args.map (Fl (dZ s.env)):=List.map_congr_left λx _=>Ib s.env x;rw[J]at H;split at H;cases H;rename_i e st' iz E;have I:∀(w':World) (G':bD) (jm:List qh) (g:Act),s'=⟨CB (so.args.foldl pG s.env) so.dst e,iz,st'⟩->FS w' G' jm g (mO (lU (dZ s.env) (uM so.args)) so.dst e) iz st' n->
   Mv w G (Ae β a (dZ s.env) s.bx s.st G n) w' G' (Ae jm g (mO (lU (dZ s.env) (uM so.args)) so.dst e) iz st' G' n)->K g w':=by
  intro w' G' jm g R F k;subst R;refine D w' G' jm g ?_ ?_;rw[FT,mJ,zh];exact F;rw[show jo jm g ⟨CB (so.args.foldl pG s.env) so.dst e,iz,st'⟩ G' n=Ae jm g (mO (lU (dZ s.env) (uM so.args)) so.dst e) iz st' G' n by rw[jo,mJ,zh]];exact k
 split at H;rename_i l;cases H;exact U3 y z v B q p (λh=>by cases h) λ_=>⟨e,st',iz,E,(λj X=>by rw[l]at X;cases X),λw' G' jm g F k=>I w' G' jm g rfl F k⟩;rename_i j l;split at H;rename_i W;cases H;refine U3 y z v B q p (λh=>by cases h) λ_=>⟨e,st',iz,E,λM X t L C=>?_,λw' G' jm g F k=>I w' G' jm g rfl F k⟩;rw[l]at X;cases X;have:=Jl W t;rw[mJ,zh]at this;simp only[mO,lU]at this;rw[U L,U C]at this;exact this;cases H
def vY(S:Nat->Option aL)(P:Program)(dK:Array Oper)(n:Nat):List Oper->List ct->Bool
 |[],[]=>true|o::l,so::m=>L3 S P dK n o so&&vY S P dK n l m|_,_=>false
theorem Js{dK:Array Oper}{Q:Exit->Act->World->Prop}(x:me S P O):∀(l:List Oper)(m:List ct)(k:Nat)(w:World)(G:bD)(β:List qh)(a:Act)(s:St),dK.toList.drop k=l->vY S P dK n l m=true->
  FT w G β a s n->(∀b,jo β a s G n b<=1)->g8 O wl ah m s=some s'->(∀(w':World) (G':bD) (jm:List qh) (h:Act),FT w' G' jm h s' n->Mv w G (jo β a s G n) w' G' (jo jm h s' G' n)->Q .normal h w')->
  wpOps P dK Q (List.range' k l.length) a w
 |[],[],k,w,G,β,a,s,p,H,q,g,U,j=>by
  simp only[g8,bw]at U;subst U;simp only[List.length_nil,List.range'_zero,wpOps];exact j w G β a q (Mv.refl g)
 |o::l,so::m,k,w,G,β,a,s,p,H,q,g,U,j=>by
  simp only[vY,Ee]at H;simp only[g8]at U;split at U;rename_i J Z;simp only[aeo,List.range'_succ];rw[wpOps_cons];have I:dK[k]?=some o:=by
   have:(dK.toList.drop k)[0]?=some o:=by rw[p];rfl
   rw[List.getElem?_drop]at this;simpa using this
  refine Xq I H.1 x q g Z λL y t B D F=>?_;refine Js x l m (k+1) L y t B J ?_ H.2 D F.one U λM z v C E W=>j M z v C E (F.trans W);rw[show k+1=k+1 from rfl,<-List.drop_drop,p]
  rfl
  cases U
 |[],_::_,_,_,_,_,_,_,_,H,_,_,_,_=>by simp[vY]at H|_::_,[],_,_,_,_,_,_,_,H,_,_,_,_=>by simp[vY]at H
def DA(P:Program):List ResultVar->List jv->Bool
 |[],[]=>true|.tmp t::l,.tmp u _::m=>t==u&&DA P l m|.cell t T::l,.box u _ n agg::m=>t==u&&dA P T n&&qO P T==some agg&&(agg||n==1)&&DA P l m|.cell t T::l,.cell u n agg::m=>t==u&&dA P T n&&qO P T==some agg&&(agg||n==1)&&DA P l m|_,_=>false
def Am:List jv->List Nat
 |[]=>[]
 |.tmp t true::l=>t::Am l|_::l=>Am l
def A6:List jv->List Nat
 |[]=>[]
 |.box _ j _ _::l=>j::A6 l|_::l=>A6 l
end Ax
namespace Ax
open Go
variable {P:Program}{w w':World}{G G':bD}{β jm:List qh}
variable {a:Act}{bx:bK}{st:aj}{n:Nat}{s:St}
def Jt(tmps:Array Value):ResultVar->Sem Value
 |.tmp t=>pure (tmps.getD t undef)|.cell c t=>do loadVar t (<-asAddr (tmps.getD c undef))
def Xr(U:List Value):Value:=match U with | [u]=>u|_=>.tuple U.toArray
theorem Qd{fn:Func}{tmps:Array Value}{U:List Value}(h:(fn.results.toList.mapM (Jt tmps)).run P w=.ok U w):(results fn tmps).run P w=.ok (Xr U) w:=by
 have H:(fn.results.mapM (Jt tmps)).run P w=.ok U.toArray w:=by
  have e:fn.results.mapM (Jt tmps)=List.toArray <$> fn.results.toList.mapM (Jt tmps):=by
   rw[Array.mapM_eq_mapM_toList]
  rw[e,map_eq_pure_bind,cj,h]
  rfl
 have k:results fn tmps=(fn.results.mapM (Jt tmps)).bind λvs=>Pure.pure (if h:vs.size=1 then vs[0] else .tuple vs):=rfl;rw[k];show Sem.run P (fn.results.mapM (Jt tmps) >>= λvs=>Pure.pure (if h:vs.size=1 then vs[0] else .tuple vs)) w=_;rw[cj,H];simp only[dy,Sem.run_pure];congr 1;match U with
 |[]=>simp[Xr]|[u]=>simp[Xr]|_::_::_=>simp[Xr]
def yu(b:Nat)(β:List qh)(bx:bK)(j:Nat):Nat:=match β[j]?,bx[j]? with|some g,some r=>cP b r g.vals|_,_=>0
theorem Qe(b:Nat):∀(β:List qh)(bx:bK),jh (yu b β bx) bx.length<=iJ b β bx
 |β,[]=>by simp[jh]|[],r::bx=>by
  have:jh (yu b [] (r::bx)) (r::bx).length=jh (λ_=>0) (r::bx).length:=rM λt _=>by simp[yu]
  rw[this,LW];omega
 |g::β,r::bx=>by
  have I:=Qe b β bx;have h:∀m,jh (yu b (g::β) (r::bx)) (m+1)=yu b (g::β) (r::bx) 0+jh (yu b β bx) m:=by
   intro m;induction m with
   |zero=>simp[jh]|succ m I=>
    have:jh (yu b (g::β) (r::bx)) (m+1+1)=jh (yu b (g::β) (r::bx)) (m+1)+yu b (g::β) (r::bx) (m+1):=rfl;rw[this,I];have e:yu b (g::β) (r::bx) (m+1)=yu b β bx m:=(by simp[yu]);rw[e];simp only[jh];omega
  simp only[aeo];rw[h];have e:yu b (g::β) (r::bx) 0=cP b r g.vals:=by simp[yu]
  rw[e];simp only[iJ];omega
theorem dg.cons{a:AV}{as:List AV}{x:Value}{xs:List Value}(h:bF w G a x)(k:dg w G as xs):dg w G (a::as) (x::xs):=
 ⟨by simp[k.1],λi c v E q=>by
  cases i with
  |zero=>simp at E q;subst E;subst q;exact h|succ i=>exact k.2 i c v (by simpa using E) (by simpa using q)⟩
theorem GP{t:TypeId}{n:Nat}{agg:Bool}(g:dA P t n=true)(k:qO P t=some agg){b off:Nat}{X:List Value}(h:X.length=n)(N:agg=false->n=1)
  (H:∀(j:Nat) x,X[j]?=some x->w.cell? ⟨b,off+j,none⟩=some x):(loadVar t ⟨b,off,none⟩).run P w=.ok (if agg then .agg X.toArray else X.headD undef) w:=by
 have:=IV (P:=P) g k h N H;simpa [Instr.loadAt,Instr.sureAddr] using this
theorem L5(y:FT w G β a s n):∀(l:List ResultVar)(rs:List jv)(vs:List AV),DA P l rs=true->Dp s rs=some vs->
  ∃U,(l.mapM (Jt a.tmps)).run P w=.ok U w/\dg w G vs U/\∀b,cP b vs U<=tX (λt=>dz b (dZ s.env t) (n7 a t)) (Am rs)+tX (yu b β s.bx) (A6 rs)
 |[],[],vs,_,q=>by
  simp only[Dp,bw]at q;subst q;exact⟨[],rfl,⟨rfl,λi c v h=>by simp at h⟩,λb=>by simp[cP]⟩
 |x::l,r::rs,vs,H,q=>by
  simp only[Dp]at q;split at q;rename_i v W J N;cases q;have one:∃u,(Jt a.tmps x).run P w=.ok u w/\bF w G v u/\DA P l rs=true/\∀b,iw b v u+(tX (λt=>dz b (dZ s.env t) (n7 a t)) (Am rs)+tX (yu b β s.bx) (A6 rs))<=
    tX (λt=>dz b (dZ s.env t) (n7 a t)) (Am (r::rs))+tX (yu b β s.bx) (A6 (r::rs)):=by
   cases x with
   |tmp t=>
    cases r with
    |tmp u R=>
     simp only[DA,Ee,cD]at H;obtain⟨rfl,H⟩:=H;simp only[IG]at J;rw[Ib]at J;split at J;rename_i v' k;cases J;have F:=y.yb t;refine⟨n7 a t,by simp[Jt],?_,H,λb=>?_⟩;cases R with
     |true=>simp only[Fl]at k;rw[k]at F;exact F|false=>have:=F.ai;simp only[Fl]at k;rw[k]at this;exact this
     cases R with
     |true=>simp only[Fl]at k;simp only[Am,A6,tX,k,dz];omega|false=>
      simp only[Fl]at k;have h0:=LM b (dZ s.env t) (n7 a t);rw[k]at h0;simp only[dz]at h0;simp only[Am,A6];omega
     cases J
    |box u j m agg=>simp[DA]at H|cell u m agg=>simp[DA]at H
   |cell t ty=>
    cases r with
    |tmp u R=>simp[DA]at H|box u j m agg=>
     simp only[DA,Ee,cD]at H;obtain⟨⟨⟨⟨rfl,L⟩,X⟩,T⟩,H⟩:=H;simp only[IG]at J;split at J;rename_i i aI W7 g9;split at J;rename_i Z;simp only[Ee,aA]at Z;obtain⟨rfl,z⟩:=Z;have B:=y.yb t;rw[W7]at B;obtain⟨g,E,c,e,hg,iG,PN,Y,gK,hle,jW,fB⟩:=M9 y.box B g9;obtain⟨u,Q,C,D,_⟩:=HZ J Y.yb;have I:=GP (P:=P) L X (by rw[<-Y.yb.1];exact z) (λh=>by subst h;simpa using T) (b:=E) (off:=0) (λj x hx=>by rw[Nat.zero_add];exact fB j x hx);refine⟨u,?_,C,H,λb=>?_⟩;simp only[Jt,cj];rw[show a.tmps.getD t undef=.pointer (some ⟨E,0,none⟩) from PN];simp only[asAddr,Sem.run_pure,dy,I,Q];rw[D b];simp only[Am,A6,tX,yu,hg,g9];omega;cases J;cases J
    |cell u m agg=>
     simp only[DA,Ee,cD]at H;obtain⟨⟨⟨⟨rfl,L⟩,X⟩,T⟩,H⟩:=H;simp only[IG]at J;split at J;rename_i p M;split at J;rename_i cs Jd;have B:=y.yb t;rw[M]at B;obtain⟨E,off,xs,g1,g2,g3,g4⟩:=Py y.inv Jd B;obtain⟨u,Q,C,D,_⟩:=HZ J g3.ai;have I:=GP (P:=P) L X g2 (λh=>by subst h;simpa using T) g4;refine⟨u,?_,C,H,λb=>?_⟩;simp only[Jt,cj];rw[show a.tmps.getD t undef=.pointer (some ⟨E,off,none⟩) from g1];simp only[asAddr,Sem.run_pure,dy,I,Q];rw[D b,eZ b _ _ (iV cs)];simp only[Am,A6];omega;cases J;cases J
  obtain⟨u,h1,h2,h3,h4⟩:=one;obtain⟨U,C,D,k3⟩:=L5 y l rs W h3 N;refine⟨u::U,?_,dg.cons h2 D,λb=>?_⟩;rw[List.mapM_cons];simp only[cj,h1,dy,C,Sem.run_pure];have e1:=h4 b;have e2:=k3 b;simp only[cP];omega;cases q
 |[],_::_,_,H,_=>by simp[DA]at H|x::_,[],_,H,_=>by cases x<;>simp[DA]at H
end Ax
namespace Ax
open Go
section
variable {K V:Type}
def tu(init:K->V)(DS:Nat->K->Option V)(D:Nat->Bool):Nat->K->V
 |0,x=>init x|k+1,x=>if D k then (DS k x).getD (tu init DS D k x) else tu init DS D k x
variable {init:K->V}{DS:Nat->K->Option V}
theorem qy{D D':Nat->Bool}{x:K}:∀{N:Nat},(∀k,k<N->D k≠D' k->DS k x=none)->tu init DS D N x=tu init DS D' N x
 |0,_=>rfl|N+1,h=>by
  have I:=qy (N:=N) λk l=>h k (by omega);have j:=h N (by omega);simp only[tu,I];cases H:D N<;>cases g:D' N
  rfl
  rw[j (by rw[H,g];simp)];simp;rw[j (by rw[H,g];simp)];simp
  rfl
theorem FG{D:Nat->Bool}{x:K}{j:Nat}:∀{N:Nat},j<=N->(∀k,j<=k->k<N->D k=true->DS k x=none)->tu init DS D N x=tu init DS D j x
 |0,X,_=>by
  have:j=0:=by omega
  subst this;rfl
 |N+1,X,h=>by
  by_cases H:j=N+1;subst H;rfl;have I:=FG (N:=N) (j:=j) (by omega) λk g p=>h k g (by omega);simp only[tu];cases l:D N;simpa using I;rw[h N (by omega) (by omega) l];simpa using I
theorem Qf{D D':Nat->Bool}{x:K}{j N:Nat}(X:j<N)(y:D j=false)(H:∀k,D' k=if k=j then true else D k)(h:∀k,j<k->k<N->D k=true->DS j x≠none->DS k x=none) :
  tu init DS D' N x=(DS j x).getD (tu init DS D N x):=by
 cases l:DS j x with
 |none=>
  simp only[Option.getD_none];refine qy λk B M=>?_;have:=H k;by_cases g:k=j;subst g;exact l;rw[U g]at this;exact au this M
 |some v=>
  simp only[ahB];have p:tu init DS D' N x=tu init DS D' (j+1) x:=FG (by omega) λk p q t=>by
   refine h k (by omega) q ?_ (by rw[l];simp);have:=H k;rw[U (by omega)]at this;rw[<-this];exact t
  rw[p];have z:D' j=true:=by rw[H j,af rfl]
  simp only[tu,z,bh,l,ahB]
theorem FH{st:Nat->K->V}{N:Nat}(h:∀x,st 0 x=init x)(l:∀k,k<N->∀x,st (k+1) x=(DS k x).getD (st k x)):∀{j:Nat},j<=N->∀x,tu init DS (λk=>decide (k<j)) N x=st j x:=by
 have key:∀m,m<=N->∀x,tu init DS (λ_=>true) m x=st m x:=by
  intro m;induction m with
  |zero=>intro _ x;exact(h x).symm|succ m I=>
   intro t x;simp only[tu,bh];rw[I (by omega) x,l m (by omega) x]
 intro j X x;rw[FG (j:=j) X λk p q H=>by simp at H;omega];rw[qy (D':=λ_=>true) λk g M=>by simp[g]at M];exact key j X x
end
end Ax
namespace Ax
open Go
def fZ.tO(S:Nat->Option aL):fZ->Bool
 |.Sv .. | .alloc _|.box _|.store _|.jH .. | .wU .. | .makeMap|.mapUpdate _|.vF _|.copy _|.wV=>true|.load _ _ t=>t|.yV _ _ _ mt=>mt|.call f=>match S f with|some g=>(match g.mode with|.pure=>false|_=>true)|none=>true
 |_=>false
def fZ.S5:fZ->Bool
 |.move|.pick|.bin _|.eqv .. | .un _|.conv _|.Fu _|.nilCheck|.extract _|.field .. | .build .. | .lit .. | .fieldAddr _|.index|.yc .. | .xM .. | .xN .. | .K4 .. | .append .. | .makeFunc .. | .DZ .. | .aey=>true|.yV _ _ _ mt=>!mt|_=>false
def fZ.bA:fZ->Option Nat
 |.yc j _ _ _|.xM j _|.xN j _|.K4 j _=>some j|_=>none
def fZ.bW:fZ->Option Nat
 |.yc j _ _ t=>if t then some j else none
 |.xM j _|.xN j _|.K4 j _=>some j|_=>none
variable {wl ah:Nat}{st st':aj}{bx iz:bK}{vals:List fz}{e:fz}{S:Nat->Option aL}{O:mC}{op:fZ}
theorem aad(H:op.tO S=false)(h:bz wl ah op vals st bx=some (e,st',iz)):st'=st:=by
 cases op
 case load agg n t=>
  simp only[fZ.tO]at H;subst H;unfold bz at h;simp only[acC,br]at h;repeat' split at h
  all_goals first|(cases h;rfl)|cases h
 case yV g bytes zero mt=>
  simp only[fZ.tO]at H;subst H;unfold bz at h;simp only[acC,br]at h;repeat' split at h
  all_goals first|(cases h;rfl)|cases h
 all_goals first
  |(simp[fZ.tO]at H;done)
  |(unfold bz at h;simp only at h;repeat' split at h)
 all_goals first|(cases h;rfl)|cases h
theorem aae(g:op.S5=true)(pg:aj):bz wl ah op vals pg bx=(bz wl ah op vals st bx).map λx=>(x.1,pg,x.2.2):=by
 cases op
 case yV h bytes zero mt=>
  simp only[fZ.S5,afh]at g;subst g;unfold bz;simp only[acC,br];repeat' split
  all_goals rfl
 all_goals first
  |(simp[fZ.S5]at g;done)
  |(unfold bz;(try unfold tR);simp only;repeat' split)
 all_goals first|rfl|simp_all
theorem Qg(l:op.bA=none)(D:bK):bz wl ah op vals st D=(bz wl ah op vals st bx).map λx=>(x.1,x.2.1,D):=by
 cases op;all_goals first
  |(simp[fZ.bA]at l;done)
  |(unfold bz;(try unfold tR);simp only;repeat' split)
 all_goals first|rfl|simp_all
structure GQ (S:Nat->Option aL)(O:mC):Prop where
 call:∀wl ah f args st v st' sf,O.call wl ah f args st=some (v,st')->S f=some sf->sf.mode=.pure->st'=st
theorem Qh(S:Nat->Option aL)(n:Nat):GQ S (tS S n):=by
 refine⟨λwl ah f args st v st' j h H g=>?_⟩;cases n with
 |zero=>simp[tS]at h|succ n=>
  simp only[tS,H]at h;unfold fU at h;split at h;simp only[aex]at h;obtain⟨x,_,l⟩:=h;cases l
  rfl
  unfold eN at h;split at h;split at h;split at h;rw[g]at h;simp only[Mode.oJ]at h;split at h;cases h;rfl;cases h;cases h;cases h;cases h
theorem U4(l:GQ S O)(H:op.tO S=false)(h:xO O wl ah op vals st bx=some (e,st',iz)):st'=st:=by
 unfold xO at h;split at h;rename_i f;simp only[fZ.tO]at H;split at H;rename_i q j;split at H;rename_i p;unfold iF at h;split at h;rename_i B vs g;have k:B=f:=by
  simp only[pH]at g;split at g;cases g;rfl;cases g
 subst k;split at h;rename_i F;cases h;exact l.call _ _ _ _ _ _ _ _ F j p;cases h;cases h;cases H;cases H;simp[fZ.tO]at H;exact aad H h
theorem afa(g:op.S5=true)(pg:aj)(h:xO O wl ah op vals st bx=some (e,st',iz)):xO O wl ah op vals pg bx=some (e,pg,iz):=by
 unfold xO at h ⊢;split at h;simp[fZ.S5]at g;simp[fZ.S5]at g;rename_i H j;rw[aae g pg,h];rfl
theorem Ng(l:op.bA=none)(DB:bK)(h:xO O wl ah op vals st bx=some (e,st',iz)):iz=bx/\xO O wl ah op vals st DB=some (e,st',DB):=by
 have call:∀x,iF O wl ah x st bx=some (e,st',iz)->iz=bx/\iF O wl ah x st DB=some (e,st',DB):=by
  intro x h;unfold iF at h ⊢;split at h;rename_i f vs;cases H:O.call wl ah f vs st with
  |none=>rw[H]at h;cases h|some y=>rw[H]at h;cases h;exact⟨rfl,rfl⟩
  cases h
 unfold xO at h ⊢;split at h;exact call _ h;exact call _ h;rename_i g j;have E:=Qg (wl:=wl) (ah:=ah) (vals:=vals) (st:=st) (bx:=bx) l bx;rw[h]at E;simp only[Option.map_some,bw,cL,true_and]at E;refine⟨E,?_⟩;rw[Qg l DB,h];rfl
theorem Qi{DB:bK}(R:DB.length=bx.length)(N:∀b,op.bA=some b->DB[b]?=bx[b]?)(h:xO O wl ah op vals st bx=some (e,st',iz)) :
  ∃p,xO O wl ah op vals st DB=some (e,st',p)/\iz.length=bx.length/\p.length=DB.length/\(∀b,op.bW=some b->p[b]?=iz[b]?)/\(∀b,op.bW≠some b->p[b]?=DB[b]?)/\(∀b,op.bW≠some b->iz[b]?=bx[b]?):=by
 cases l:op.bA with
 |none=>
  obtain⟨rfl,M⟩:=Ng l DB h;refine⟨DB,M,rfl,rfl,λb h=>?_,λ_ _=>rfl,λ_ _=>rfl⟩;cases op<;>simp_all [fZ.bA,fZ.bW]
 |some j=>
  have X:=N j l;have E:∀(g:List AV),j<bx.length->(bx.set j g).length=bx.length/\(DB.set j g).length=DB.length/\(DB.set j g)[j]?=(bx.set j g)[j]?/\(∀b,j≠b->(DB.set j g)[b]?=DB[b]?)/\(∀b,j≠b->(bx.set j g)[b]?=bx[b]?):=by
   intro g F;refine⟨by simp,by simp,?_,λb l=>?_,λb l=>?_⟩;rw[aek,aek,af rfl,af rfl,af F,af (by omega)];rw[aek,U l];rw[aek,U l]
  cases op<;>simp only[fZ.bA]at l<;>try cases l
  case some.yc.refl agg n T=>
   simp only[xO]at h ⊢;unfold bz at h ⊢;simp only at h ⊢;split at h;rename_i J k;split at h;rename_i C;subst C;split at h;rename_i g B;have F:=(aac.1 B).1;rw[af rfl,X,B];simp only;split at h;rename_i L Z;cases T with
   |true=>
    simp only[bh]at h ⊢;split at h;rename_i v Q;cases h;obtain⟨q,t,x,y,z⟩:=E (ay g k (L.map AV.gi)) F;exact⟨_,rfl,q,t,λb l=>by simp[fZ.bW]at l;subst l;exact x,λb l=>y b (by simpa [fZ.bW] using l),λb l=>z b (by simpa [fZ.bW] using l)⟩;cases h
   |false=>
    simp only[acC,br]at h ⊢;split at h;rename_i v Q;cases h;exact⟨_,rfl,rfl,rfl,λb l=>by simp[fZ.bW]at l,λ_ _=>rfl,λ_ _=>rfl⟩;cases h
   cases h;cases h;cases h;cases h
  case some.xM.refl n=>
   simp only[xO]at h ⊢;unfold bz at h ⊢;simp only at h ⊢;split at h;rename_i J k v;split at h;rename_i H;have C:j=J:=(by simp only[Ee,aA]at H;exact H.1.1);split at h;rename_i g B;have F:=(aac.1 B).1;rw[af H,X,B];simp only;split at h;rename_i I;cases h;rw[af I];obtain⟨q,t,x,y,z⟩:=E (ay g k v.cells) F;exact⟨_,rfl,q,t,λb l=>by simp[fZ.bW]at l;subst l;exact x,λb l=>y b (by simpa [fZ.bW] using l),λb l=>z b (by simpa [fZ.bW] using l)⟩;cases h;cases h;cases h;cases h
  case some.xN.refl zero=>
   simp only[xO]at h ⊢;unfold bz at h ⊢;simp only at h ⊢;split at h;split at h;rename_i F;cases h;rw[af (by omega)];obtain⟨q,t,x,y,z⟩:=E zero F;exact⟨_,rfl,q,t,λb l=>by simp[fZ.bW]at l;subst l;exact x,λb l=>y b (by simpa [fZ.bW] using l),λb l=>z b (by simpa [fZ.bW] using l)⟩;cases h;cases h
  case some.K4.refl n=>
   simp only[xO]at h ⊢;unfold bz at h ⊢;simp only at h ⊢;split at h;rename_i v;split at h;rename_i H;have D:=H;simp only[Ee,aA]at D;cases h;rw[af (by simp only[Ee,aA];exact⟨⟨by omega,D.1.2⟩,D.2⟩)];obtain⟨q,t,x,y,z⟩:=E v.cells D.1.1;exact⟨_,rfl,q,t,λb l=>by simp[fZ.bW]at l;subst l;exact x,λb l=>y b (by simpa [fZ.bW] using l),λb l=>z b (by simpa [fZ.bW] using l)⟩;cases h;cases h
theorem ajF{b:Nat}(h:xO O wl ah op vals st bx=some (e,st',iz))(p:∀x∈vals,x.s9 b=true)(g:op.bM≠some b):e.s9 b=true:=by
 have call:∀x,iF O wl ah x st bx=some (e,st',iz)->e.s9 b=true:=by
  intro x h;unfold iF at h;repeat' split at h
  all_goals first|(cases h;rfl)|cases h
 have val:∀a:AV,(fz.val a).s9 b=true:=λ_=>rfl;unfold xO at h;split at h;exact call _ h;exact call _ h
 ·cases op
  case move=>
   unfold bz at h;simp only at h;split at h;cases h;exact p _ (by simp);cases h
  case pick=>
   unfold bz at h;simp only at h;split at h;rename_i c x y;cases h;cases c;exact p _ (by simp);exact p _ (by simp);cases h
  case nilCheck=>
   unfold bz at h;simp only at h;split at h;cases h;exact p _ (by simp);split at h<;>first|(cases h;rfl)|cases h
   cases h
  case fieldAddr off=>
   unfold bz at h;simp only at h;split at h;rename_i j k;cases h;have:=p (.fp j k) (by simp);simpa [fz.s9] using this;cases h;rfl;cases h;rfl;cases h
  case xN j zero=>
   unfold bz at h;simp only at h;split at h;split at h;cases h;simp only[fZ.bM,ne_eq,bw]at g;simpa [fz.s9] using g;cases h;cases h
  case K4 j n=>
   unfold bz at h;simp only at h;split at h;split at h;cases h;simp only[fZ.bM,ne_eq,bw]at g;simpa [fz.s9] using g;cases h;cases h
  all_goals
   unfold bz at h
   (try unfold tR at h)
   simp only at h;repeat' split at h
  all_goals first|(cases h;rfl)|cases h
end Ax
namespace Ax
open Go
def rO(o:Oper):List Nat:=(o.after.toList.filter (Region.binds .any)).map (·.on)
def bms:List Oper->List Nat->List Nat
 |[],g=>g|o::l,g=>bms l (g++[(rO o).foldl (λm p=>m ||| (1 <<< p) ||| g.getD p 0) 0])
def bef(B:List Nat)(i j:Nat):Bool:=(B.getD j 0).testBit i
def vZ(so:ct):List Nat:=so.dst.toList++uM so.args
def afc:List Src->List Nat
 |[]=>[]
 |.tmp t _::l=>t::afc l|_::l=>afc l
def DC(so:ct):List Nat:=afc so.args++(match so.guard with|some (t,_)=>[t]|none=>[])
def nG(S:Nat->Option aL)(cA:List (Nat×Nat))(i j:Nat)(a b:ct):Bool:=
 (vZ a).all (λt=>!(DC b).contains t && !(vZ b).contains t)&&(vZ b).all (λt=>!(DC a).contains t) &&
 (match a.op.bW with|some x=>b.op.bA != some x|none=>true)&&(match b.op.bW with|some x=>a.op.bA != some x|none=>true) &&
 (!(a.op.tO S&&b.op.tO S)||cA.contains (100000+i,j))&&(a.op.S5 || !(b.op.tO S)||a.op.tO S||cA.contains (i,j))&&(b.op.S5 || !(a.op.tO S)||b.op.tO S||cA.contains (j,i))
def Jv(n:Nat)(f:Nat->Nat->Bool):Bool:=(aiI n).all λj=>(aiI j).all λi=>f i j
def Ic:fZ->Bool
 |.store _=>true|_=>false
def ail(S:Nat->Option aL)(m:List ct)(cA:List (Nat×Nat)):Nat×Nat->Bool
 |(c,q)=>if 100000<=c&&decide (c<200000) then
   let p:=c-100000
   (match m[p]?,m[q]? with|some a,some b=>Ic a.op&&Ic b.op&&a.guard.isNone&&b.guard.isNone|_,_=>false) &&
   decide (p<q)&&(aiI (q-p-1)).all (λd=>match m[p+1+d]? with|some o=>!(o.op.tO S)|none=>false) &&
   cA.all (λx=>decide (100000<=x.1) || !(x.2==p||x.2==q)||cA.contains (100000*(x.1+2)+p,q)) &&
   cA.all (λx=>!(decide (100000<=x.1)&&decide (x.1<200000))||(x.1==c&&x.2==q))
  else true
def U6(S:Nat->Option aL)(P:Program)(dK:Array Oper)(n:Nat)(m:List ct)(cA:List (Nat×Nat)):Bool:=
 let B:=bms dK.toList []
 P.follows .mixedOrders&&vY S P dK n dK.toList m&&(decide (dK.size<100000)&&cA.all (ail S m cA)) &&
 (aiI dK.size).all (λj=>match dK[j]? with
  |some o=>(rO o).all (λp=>decide (p<j))&&(aiI dK.size).all λi=>!bef B i j||(rO o).any λp=>i==p||bef B i p
  |none=>true) &&
 Jv dK.size (λi j=>match m[i]?,m[j]? with
  |some a,some b=>(bef B i j||nG S cA i j a b)&&(match a.op.bM,b.op.bM with|some x,some y=>x != y|_,_=>true)|_,_=>true)
theorem A7{n:Nat}{f:Nat->Nat->Bool}(h:Jv n f=true){i j:Nat}(H:i<j)(g:j<n):f i j=true:=by
 simp only[Jv,ac3,anY]at h;exact h j g i H
end Ax
namespace Ax
open Go
variable {S:Nat->Option aL}{P:Program}{dK:Array Oper}{n:Nat}{m:List ct}{cA:List (Nat×Nat)}
theorem Jw:∀{l:List Oper}{m:List ct},vY S P dK n l m=true->l.length=m.length/\∀(i:Nat) o so,l[i]?=some o->m[i]?=some so->L3 S P dK n o so=true
 |[],[],_=>⟨rfl,λi o so h=>by simp at h⟩
 |o::l,so::m,h=>by
  simp only[vY,Ee]at h;obtain⟨E,q⟩:=Jw h.2;refine⟨by simp[E],λi k j H g=>?_⟩;cases i with
  |zero=>simp at H g;subst H;subst g;exact h.1|succ i=>exact q i k j (by simpa using H) (by simpa using g)
 |[],_::_,h=>by simp[vY]at h|_::_,[],h=>by simp[vY]at h
def aaf(dK:Array Oper)(D:Nat->Bool):Prop:=∀(j:Nat) o,dK[j]?=some o->D j=true->∀p∈rO o,D p=true
structure aim (S:Nat->Option aL)(P:Program)(dK:Array Oper)(n:Nat)(m:List ct)(cA:List (Nat×Nat)):Prop where
 fol:P.follows .mixedOrders=true
 len:m.length=dK.size
 get:∀(i:Nat) o so,dK[i]?=some o->m[i]?=some so->L3 S P dK n o so=true
 lt:∀(j:Nat) o,dK[j]?=some o->∀p∈rO o,p<j
 apA:∀(D:Nat->Bool),aaf dK D->∀(j:Nat) o,dK[j]?=some o->(∀p∈rO o,D p=true)->∀(k:Nat) a b,k<j->D k=false->m[k]?=some a->m[j]?=some b->nG S cA k j a b=true
 apB:∀(D:Nat->Bool),aaf dK D->∀(j k:Nat) a b,j<k->D j=false->D k=true->m[j]?=some a->m[k]?=some b->nG S cA j k a b=true
 Jx:m.length<100000
 xt:∀p q,p<100000->(100000+p,q)∈cA->p<q/\(∃a b,m[p]?=some a/\m[q]?=some b/\Ic a.op=true/\Ic b.op=true/\a.guard=none/\b.guard=none)/\(∀(j:Nat) o,p<j->j<q->m[j]?=some o->o.op.tO S=false)/\
  (∀k w,(k,w)∈cA->k<100000->w=p\/w=q->(100000*(k+2)+p,q)∈cA)/\∀i j,i<100000->(100000+i,j)∈cA->i=p/\j=q
 ain:∀(i j:Nat) a b x,i<j->m[i]?=some a->m[j]?=some b->a.op.bM=some x->b.op.bM≠some x
theorem aag(h:U6 S P dK n m cA=true):aim S P dK n m cA:=by
 unfold U6 at h;simp only[Ee,ac3,anY]at h;obtain⟨⟨⟨⟨h1,h2⟩,H,F⟩,h3⟩,L⟩:=h;obtain⟨e1,e2⟩:=Jw h2;have g:m.length=dK.size:=by rw[<-e1];simp
 have Z:∀(j:Nat) o,dK[j]?=some o->∀p∈rO o,p<j:=λj o z p y=>by
  have:=h3 j (ael.1 z).1;rw[z]at this;simp only[Ee,ac3,aA]at this;exact this.1 p y
 have Y:∀(D:Nat->Bool),aaf dK D->∀(j:Nat) o,dK[j]?=some o->(∀p∈rO o,D p=true)->∀i,i<dK.size->bef (bms dK.toList []) i j=true->D i=true:=by
  intro D C j;induction j using Nat.strongRecOn with
  |_ j ih=>
   intro o z y i M l;have:=h3 j (ael.1 z).1;rw[z]at this;simp only[Ee,ac3,anY,aet,afh,List.any_eq_true,cD]at this;rcases this.2 i M with H|⟨p,B,F⟩;rw[l]at H;cases H;rcases F with rfl|F;exact y i B;have N:=Z j o z p B;have Q:p<dK.size:=(by have:=(ael.1 z).1;omega);have U:dK[p]?=some dK[p]:=(by simp[Q]);exact ih p N dK[p] U (λq hq=>C p dK[p] U (y p B) q hq) i M F
 refine⟨h1,g,λi o so z R=>e2 i o so (by simpa using z) R,Z,λD C j o z y k a b E t v l=>?_,λD C j k a b uy I t v l=>?_,by rw[g];simpa using H,λp q y PK=>?_,λi j a b x J v l hx hy=>?_⟩;have X:=(ael.1 z).1;have:=A7 L E X;rw[v,l]at this;simp only[Ee,aet]at this;rcases this.1 with H|H;rw[Y D C j o z y k (by omega) H]at t;cases t;exact H;have E:k<dK.size:=by rw[<-g];exact(aac.1 l).1
 have:=A7 L uy E;rw[v,l]at this;simp only[Ee,aet]at this;have W:dK[k]?=some dK[k]:=by simp[E]
 rcases this.1 with H|H;rw[Y D C k dK[k] W (C k dK[k] W t) j (by omega) H]at I;cases I;exact H;have:=F _ PK;simp only[ail]at this;rw[af (by simp;omega)]at this;simp only[Nat.add_sub_cancel_left,Ee,aA,ac3,anY,aet,afh,Bool.or_eq_false_iff,aiU,Prod.forall,Bool.and_eq_false_iff,cD,beq_eq_false_iff_ne,decide_eq_false_iff_not]at this;obtain⟨⟨⟨⟨T,t2⟩,t3⟩,t4⟩,t5⟩:=this;refine⟨t2,?_,λj o DT Ao z=>?_,λk w E qI hw=>?_,λi j M J=>?_⟩;split at T;rename_i a b v l;simp only[Ee,Option.isNone_iff_eq_none]at T;exact⟨a,b,v,l,T.1.1.1,T.1.1.2,T.1.2,T.2⟩;cases T;have:=t3 (j-p-1) (by omega);rw[show p+1+(j-p-1)=j by omega,z]at this;simpa using this;rcases t4 k w E with (h|h)|h;omega;exfalso;rcases hw with e|e
 exact h.1 e;exact h.2 e;exact h;rcases t5 _ _ J with h|h;omega;exact⟨by omega,h.2⟩;have X:j<dK.size:=by rw[<-g];exact(aac.1 l).1
 have:=A7 L J X;rw[v,l]at this;simp only[Ee]at this;have H:=this.2;rw[hx,hy]at H;simp at H
end Ax
