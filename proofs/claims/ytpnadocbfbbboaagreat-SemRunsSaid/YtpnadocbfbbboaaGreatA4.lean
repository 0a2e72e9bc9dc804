/- Part of a proof. -/
import Derived.Test.YtpnadocbfbbboaaGreatA3
import Derived.Orders

open List renaming map_cons->abn,eq_of_mem_replicate->abt,getElem?_eq_getElem->aag,replicate->aak,getElem?_take->acv,length_replicate->age,length_eq_one_iff->ahx,foldl_cons->agt,mem_cons->ac1,nodup_cons->aeU,mem_iff_getElem->abo,getElem?_eq_some_iff->aad,all_eq_true->aaB,getElem?_append_left->aal,getElem?_set->abp,mem_append->abw,mem_of_mem_take->adz,mem_of_mem_drop->adA,nodup_nil->aiU,contains_eq_mem->aeC,length_cons->abr,range->ahd,mem_range->ahp
open Option renaming map_eq_some_iff->acs,getD_some->adB
open Nat renaming mul_le_mul_right->acw,le_refl->aau,le_trans->ac9,lt_of_lt_of_le->afr,lt_or_ge->agi,eq_zero_or_pos->ae3
open Int renaming mul_le_mul_of_nonneg_left->afe
open Bool renaming and_eq_true->aac,false_eq_true->aan,or_eq_true->acJ,not_eq_true'->adu
open Array renaming ext'->ahX,getElem?_eq_some_iff->abq
namespace Ax
open Go
variable {P:Program}{w w':World}{G G':bD}{β iM:List nD}{ρ:Operand->Value}{o:Oper}
variable {S:Nat->Option aL}{so:aR}{vals:List fL}{wl aa:Nat}{st st':ay}{bx gX:bG}{cO:Nat->Nat}{r:fL}
variable{v:Value}{parts:Array (Nat×Operand)}{sz:Nat}
theorem jZ.le{cO cO':Nat->Nat}(h:jZ w G β st bx cO w' G' iM st' gX r v)(hc:∀b,cO b<=cO' b):jZ w G β st bx cO' w' G' iM st' gX r v:=
 { h with gT:=λb=>by have h1:=h.gT b;have h2:=hc b;omega,w8:=λb hb=>h.w8 b (by have:=hc b;omega) }
theorem aav{t e:TypeId}(ho:o.op=.buildSlice t 0 parts)(hu:P.underlying t=some (.slice e))(dM:di P e sz=true)(hp:parts = #[]) :
  (execOp ρ o).run P w=.ok (.value (.slice (some ⟨w.heap.size,0,none⟩) 0 0)) (w.alloc (.cells #[] e)):=by
 obtain⟨i,hi,F0,_⟩:=me dM;subst hp;have h0:(Array.range 0).map (λ_:Nat=>(default:Value)) = #[]:=by apply ahX;simp
 simp[execOp,ho,Instr.buildSlice,cj hu,Go.sizeOf,typeInfo,hi,Instr.fill,newRow];rw[h0]
theorem Zp{t:TypeId}{n n':Nat}{zero:List AV}{qs:List Nat}{mu:Bool}(ho:o.op=.buildSlice t n parts)(hn':n=n')
  (hu:match P.underlying t with
   |some (.slice e)=>(di P e sz&&decide (n*sz<=16777216)&&o4 P e zero&&decide (0<sz)&&(zero.length==sz)&&parts.toList.map (·.1)==qs)=true|_=>False) (hI:j8 w G st) (hB:kM w G β bx)
  (hR:lN w G β vals ((parts.toList.map (·.2)).map ρ)) (hcO:∀b,mS b vals ((parts.toList.map (·.2)).map ρ)<=cO b) (ha:bn wl aa (if mu then .JF sz n' zero qs else .lit sz n' zero qs) vals st bx=some (r,st',gX)) :
  kh P ρ o w G β st bx cO none r st' gX:=by
 subst hn';split at hu;rename_i e Il;simp only[aac,aK,cz]at hu;obtain⟨⟨⟨⟨⟨dM,L6⟩,hz⟩,Wd⟩,RI⟩,hq⟩:=hu;have H6:(parts.toList.map (·.2)).map ρ=parts.toList.map λp=>ρ p.2:=by simp
 rw[H6]at hR hcO;cases mu with
 |true=>
  simp only[aQ]at ha;unfold bn at ha;simp only at ha;split at ha;rename_i vs CQ;split at ha;rename_i rows uL;split at ha;rename_i hc;simp only[aac,aK]at hc;cases ha;obtain⟨hv,F5⟩:=hR.PL CQ;obtain⟨cells,e1,e2,e3,e4,e5,e6⟩:=Zh (w:=w) ho Il dM L6 hz Wd RI hq uL hc.2 hv;obtain⟨G',hA,_⟩:=w9 (sz:=sz) (cap:=n) (rows:=rows) (c:=cells) (e:=e) (xs:=cells.toList) (w':=w.alloc (.cells cells e)) (cO:=cO) hI hB rfl rfl rfl e4 (Ai hc.1) e2 hc.2 (by omega) (by omega) (by simp)
   (λb=>by have h1:=e3 b;have h2:=hcO b;rw[F5]at h2;omega)
  exact⟨_,_,_,G',β,e1,.inl rfl,hA,fW.refl _ _⟩;cases ha;cases ha;cases ha
 |false=>
  simp only[aan,aS]at ha;unfold bn at ha;simp only at ha;split at ha;rename_i vs CQ;split at ha;rename_i rows uL;split at ha;rename_i hc;simp only[aac]at hc;cases ha;obtain⟨hv,F5⟩:=hR.PL CQ;by_cases hn:n=0;subst hn;rw[ah rfl];have aaw:parts = #[]:=by
   cases GH:parts.toList with
   |nil=>exact Array.toList_eq_nil_iff.1 GH|cons p l=>
    rw[GH]at hq;subst hq;simp only[abn,List.replicate_zero]at uL;cases N5:AV.cW vs with
    |nil=>rw[N5]at uL;simp[iu]at uL|cons v l'=>rw[N5]at uL;simp[iu]at uL
  exact⟨_,_,_,_,β,aav ho Il dM aaw,.inl rfl,Df (w':=w.alloc (.cells #[] e)) rfl rfl rfl none hI hB (.mE _) λb=>by simp[gT],fW.refl _ _⟩;rw[U hn];have Gi:0<n:=by omega
  obtain⟨cells,e1,e2,e3,e4,e5,e6⟩:=Zh (w:=w) ho Il dM L6 hz Wd RI hq uL Gi hv.ai;have iI:∀r∈rows,AV.fq r=true:=by
   obtain⟨_,_,_,_,_,JM,_⟩:=mG hz w G;have:=Aj (sz:=sz) (p:=λc=>c.cS=true) qs (AV.cW vs) _ rows (λr hr c hc=>by
    rw[abt hr]at hc;exact(JM c hc).1) (λv hv=>J7 (J8 vs v hv)) uL
   exact λr hr=>(dm r).2 (this r hr)
  have hrv:=H9 (G:=G.new w.heap.size (some (rows.length*sz)) []) (w:=w.alloc (.cells cells e)) (cap:=n) (off:=0) e4 (Ai hc.2) iI (J6 hc.1) (e2.push (w':=w.alloc (.cells cells e)) rfl _ _) (sx rfl) (by omega) (by omega) (by simp[bD.new]) (λk x hk=>by rw[Nat.zero_add];simpa using hk);exact⟨_,_,_,_,β,e1,.inl rfl,Df (w':=w.alloc (.cells cells e)) rfl rfl rfl (some (rows.length*sz)) hI hB hrv.ai λb=>by simp[gT],fW.refl _ _⟩;cases ha;cases ha;cases ha
 exact hu.elim
theorem Ee{α:Type}{l:List α}(h:l.length=2):∃x y,l=[x,y]:=by
 match l,h with
 |[x,y],_=>exact⟨x,y,rfl⟩
theorem CZ{vals:List fL}(wl aa:Nat):bn wl aa (.indexAddr sz) vals st bx=bn 0 0 (.indexAddr sz) vals st bx:=rfl
theorem ae5{w:World}{G:bD}{b:Bool}(h:bF w G (.bool b) v):v=.bool b:=h.kA
theorem aax(hm:mOp S P o so=true)(hI:j8 w G st)(hB:kM w G β bx)(hX:∀b,cO b+ir b β bx+cR b G.ls st<=1)
  (hA:∀xs,iq xs so.args=true->lN w G β vals (xs.map ρ)/\∀b,mS b vals (xs.map ρ)<=cO b)(ha:bn wl aa so.op vals st bx=some (r,st',gX)) :
  kh P ρ o w G β st bx cO so.op.bV r st' gX:=by
 unfold mOp at hm;rw[aac]at hm;replace hm:=hm.2;generalize VH:so.op=sop at hm ha;split at hm;rename_i x ho;obtain⟨hR,hc⟩:=hA _ hm;unfold bn at ha;simp only at ha;split at ha;cases ha;exact kh.nM hI hB (u:=ρ x) (by simp[execOp,ho]) hR.1 λb=>by have:=hc b;simp only[abn,mS]at this;omega
 cases ha;rename_i x ho;obtain⟨hR,hc⟩:=hA _ hm;unfold bn at ha;simp only at ha;split at ha;cases ha;exact kh.nM hI hB (u:=ρ x) (by simp[execOp,ho]) hR.1 λb=>by have:=hc b;simp only[abn,mS]at this;omega
 cases ha;rename_i c x y ho;obtain⟨hR,hc⟩:=hA _ hm;unfold bn at ha;simp only at ha;split at ha;rename_i b x' y';cases ha;obtain⟨h1,h2,h3,_⟩:=hR;have hb:=ae5 h1;refine kh.nM hI hB (u:=if b then ρ x else ρ y) (by simp[execOp,ho,hb,asBool]) ?_ λd=>?_;cases b;exact h3;exact h2;have:=hc d;simp only[abn,mS]at this;cases b;simp;omega;simp;omega;cases ha;rename_i op t x y yt op' ho;simp only[aac,cz]at hm;obtain⟨rfl,hm⟩:=hm;obtain⟨hR,hc⟩:=hA _ hm;unfold bn at ha;simp only at ha;split at ha;split at ha;rename_i v hv;cases ha;obtain⟨u,e1,e2,e3⟩:=aeI ho hv hR.1 hR.2.1;exact kh.cS hI hB e1 e2 e3;cases ha;cases ha;rename_i op t x y yt k neg ho;simp only[aac,cz]at hm;obtain⟨⟨rfl,hm⟩,ht⟩:=hm;obtain⟨hR,hc⟩:=hA _ hm;unfold bn at ha;simp only at ha;split at ha;split at ha;rename_i b hb;cases ha;obtain⟨u,e1,e2⟩:=aeJ ho ht hb hR.1 hR.2.1;exact kh.cS hI hB e1 e2 rfl;cases ha;cases ha;rename_i op t x y yt neg ho;simp only[aac,cz]at hm;obtain⟨⟨rfl,hm⟩,ht⟩:=hm;obtain⟨hR,hc⟩:=hA _ hm;unfold bn at ha;simp only at ha;split at ha;rename_i id cQ;split at ha;rename_i v sz rows ja;split at ha;rename_i kP;cases ha;exact kh.cS hI hB (V1 ho ht hI ja kP hR.1 hR.2.1) (.bool _) rfl;cases ha;cases ha;cases ha;rename_i op t x op' ho;simp only[aac,cz]at hm;obtain⟨rfl,hm⟩:=hm;obtain⟨hR,hc⟩:=hA _ hm;unfold bn at ha;simp only at ha;split at ha;split at ha;rename_i v hv;cases ha;obtain⟨u,e1,e2,e3⟩:=ai9 ho hv hR.1;exact kh.cS hI hB e1 e2 e3;cases ha;cases ha;rename_i s d x k ho;simp only[aac]at hm;obtain⟨hm,ht⟩:=hm;obtain⟨hR,hc⟩:=hA _ hm;unfold bn at ha;simp only at ha;split at ha;cases ha;split at ht;rename_i k1 k2 h1 h2;simp only[cz]at ht;subst ht;exact kh.cS hI hB (aaj ho h1 h2 hR.1) (.int _ _) rfl;cases ht;cases ha;rename_i x ho;obtain⟨hR,hc⟩:=hA _ hm;unfold bn at ha;simp only at ha;split at ha;cases ha;obtain⟨g,b,h1,h2,h3⟩:=hR.1;exact kh.nM hI hB (zn ho h3) ⟨g,b,h1,h2,h3⟩ λd=>by simp[dg]
 split at ha;cases ha;have hp:∃a,ρ x=.pointer (some a):=by
  have h:=hR.1;simp only[lf]at h;cases h with|ptr _ _ _ _ _ _ hp=>exact hp
 obtain⟨a,hp⟩:=hp;exact kh.nM hI hB (zn ho hp) hR.1 λd=>by simp[dg,gT]
 cases ha;have hp:∃a,ρ x=.pointer (some a):=by
  have h:=hR.1;simp only[lf]at h;generalize ρ x=v at h;cases h;exact⟨_,rfl⟩
 obtain⟨a,hp⟩:=hp;exact kh.nM hI hB (zn ho hp) hR.1 λd=>by simp[dg,gT]
 cases ha;cases ha;rename_i x i j ho;simp only[aac,cz]at hm;obtain⟨rfl,hm⟩:=hm;obtain⟨hR,hc⟩:=hA _ hm;unfold bn at ha;simp only at ha;split at ha;split at ha;rename_i v hv;cases ha;obtain⟨u,e1,e2,e3⟩:=Pr ho hv hR.1;exact kh.nM hI hB e1 e2 λb=>by have h1:=hc b;have h2:=e3 b;simp only[abn,mS,dg]at h1 ⊢;omega
 cases ha;cases ha;rename_i t x f off n agg ho;simp only[aac]at hm;obtain⟨hm,ht⟩:=hm;obtain⟨hR,hc⟩:=hA _ hm;split at ht;rename_i fs hu;split at ht;rename_i fd hf;simp only[aac,cz]at ht;obtain⟨⟨h1,h2⟩,h3⟩:=ht;unfold bn at ha;simp only at ha;split at ha;split at ha;rename_i cs RZ;split at ha;rename_i v hv;cases ha;obtain⟨u,e1,e2,e3⟩:=V4 ho hu hf h1 h2 h3 RZ hv hR.1;exact kh.nM hI hB e1 e2 λb=>by have h1:=hc b;have h2:=e3 b;simp only[abn,mS,dg]at h1 ⊢;omega
 cases ha;cases ha;cases ha;cases ht;cases ht;rename_i t parts zero qs ho;simp only[aac]at hm;obtain⟨⟨hm,hz⟩,ht⟩:=hm;obtain⟨hR,hc⟩:=hA _ hm;have H6:(parts.toList.map (·.2)).map ρ=parts.toList.map λp=>ρ p.2:=by simp
 rw[H6]at hR hc;split at ht;rename_i fs hu;split at ht;rename_i is F0;unfold bn at ha;simp only at ha;split at ha;rename_i vs CQ;split at ha;rename_i cs uL;cases ha;obtain⟨hv,F5⟩:=hR.PL CQ;obtain⟨u,e1,e2,e3⟩:=V5 ho hu F0 hz ht uL hv;exact kh.nM hI hB e1 e2 λb=>by have h1:=hc b;have h2:=e3 b;have h3:=F5 b;simp only[dg];omega
 cases ha;cases ha;cases ht;cases ht;rename_i t n parts sz n' zero qs ho;simp only[aac,cz]at hm;obtain⟨⟨hn,hm⟩,ht⟩:=hm;obtain⟨hR,hc⟩:=hA _ hm;refine Zp (mu:=false) ho hn ?_ hI hB hR hc ha;split at ht;rename_i he;rw[he];simpa using ht;cases ht;rename_i t n parts sz n' zero qs ho;simp only[aac,cz]at hm;obtain⟨⟨hn,hm⟩,ht⟩:=hm;obtain⟨hR,hc⟩:=hA _ hm;refine Zp (mu:=true) ho hn ?_ hI hB hR hc ha;split at ht;rename_i he;rw[he];simpa using ht;cases ht;rename_i t x f off ho;simp only[aac]at hm;obtain⟨hm,ht⟩:=hm;obtain⟨hR,hc⟩:=hA _ hm;split at ht;rename_i fs hu;split at ht;rename_i fd hf;simp only[aac,cz]at ht;obtain⟨h1,h2⟩:=ht;subst h1;split at h2;rename_i i hi;have hs:i.size≠0:=by simpa using h2
 unfold bn at ha;simp only at ha;split at ha;rename_i j k;cases ha;obtain⟨g,b,g1,g2,g3⟩:=hR.1;refine kh.nM hI hB (w6 ho hu hf hi hs g3) ⟨g,b,g1,g2,?_⟩ λd=>by simp[dg]
 rw[mj];rename_i id cQ i' k;cases ha;obtain⟨a,e1,e2⟩:=yX hR.1 (.inl ⟨id,cQ,i',k,rfl,rfl⟩);exact kh.cS hI hB (w6 ho hu hf hi hs e1) e2 rfl;rename_i sz rows i' k;cases ha;obtain⟨a,e1,e2⟩:=yX hR.1 (.inr ⟨sz,rows,i',k,rfl,rfl⟩);exact kh.cS hI hB (w6 ho hu hf hi hs e1) e2 rfl;cases ha;cases h2;cases ht;cases ht;rename_i t x y sz ho;simp only[aac]at hm;obtain⟨hm,ht⟩:=hm;obtain⟨hR,hc⟩:=hA _ hm;split at ht;rename_i e hu;rw[CZ]at ha;have Di:=ha;unfold bn at ha;simp only at ha;split at ha;obtain⟨rfl,rfl,p,u,rfl,e1,e2,e3⟩:=JO ho hu ht hI Di hR.1 (bF.iz hR.2.1);exact kh.cS hI hB e1 e2 e3;cases ha;cases ht;rename_i t x y ho;simp only[aac]at hm;obtain⟨hm,ht⟩:=hm;obtain⟨hR,hc⟩:=hA _ hm;split at ht;rename_i hu;unfold bn at ha;simp only at ha;split at ha;split at ha;rename_i h0;split at ha;rename_i b hb;cases ha;exact kh.cS hI hB (V8 ho hu h0 hb hR.1 (bF.iz hR.2.1)) (.int _ _) rfl;cases ha;cases ha;cases ha;cases ht;rename_i t x lo hi mx wV l h m sz ho;simp only[aac,cz]at hm;obtain⟨⟨⟨⟨⟨hm,rfl⟩,rfl⟩,rfl⟩,hmh⟩,ht⟩:=hm;obtain⟨hR,hc⟩:=hA _ hm;refine Wt ho (λh=>by rw[h]at hmh;simpa using hmh) ?_ hI hB hR hc ha;split at ht;rename_i he;rw[he];exact ht;rename_i he;rw[he];exact ht;cases ht;rename_i t x hi sz ho;simp only[aac]at hm;obtain⟨hm,ht⟩:=hm;obtain⟨hR,hc⟩:=hA _ hm;split at ht;rename_i e hu;have Di:=ha;unfold bn at ha;simp only at ha;split at ha;obtain⟨v,G',e1,e2⟩:=R7 ho hu ht hI hB hX hR.1 hR.2.1 Di;exact⟨_,_,_,_,_,e1,.inl rfl,e2,fW.refl _ _⟩;cases ha;cases ht;rename_i t x agg n take ho;simp only[aac]at hm;obtain⟨⟨⟨hm,hn⟩,ug⟩,lU⟩:=hm;obtain⟨hR,hc⟩:=hA _ hm;have N6:nY P t=some agg:=by simpa using ug
 have N8:agg=false->n=1:=λh=>by subst h;simpa using lU
 have Di:=ha;unfold bn at ha;simp only at ha;split at ha;rename_i p;cases take with
 |true=>
  obtain⟨v,e1,e2⟩:=Me ho hn N6 N8 hI hB hX hR.1 Di;exact⟨_,_,_,_,_,e1,.inl rfl,e2,fW.refl _ _⟩
 |false=>
  split at ha;rename_i cs D8;simp only[aan,aS]at ha;split at ha;rename_i v hv;cases ha;obtain⟨b,off,xs,h1,h2,h3,h4⟩:=JP hI D8 hR.1;obtain⟨u,e1,e2,e3⟩:=H8 ho hn N6 N8 h1 h2 h3.ai h4 hv;exact kh.nM hI hB e1 e2 λd=>by
   simp only[dg,e3 d];rw[eS d _ _ (iD cs)];omega
  cases ha;cases ha
 cases ha;rename_i t x j agg n take ho;simp only[aac]at hm;obtain⟨⟨⟨hm,hn⟩,ug⟩,lU⟩:=hm;obtain⟨hR,hc⟩:=hA _ hm;have N6:nY P t=some agg:=by simpa using ug
 have N8:agg=false->n=1:=λh=>by subst h;simpa using lU
 have Di:=ha;unfold bn at ha;simp only at ha;split at ha;obtain⟨v,e1,e2⟩:=Wn ho hn N6 N8 hI hB hX hR.1 Di;exact⟨_,_,_,_,_,e1,.inl rfl,e2,fW.refl _ _⟩;cases ha;rename_i t x y n ho;simp only[aac]at hm;obtain⟨hm,hn⟩:=hm;obtain⟨hR,hc⟩:=hA _ hm;have Di:=ha;unfold bn at ha;simp only at ha;split at ha;obtain⟨w',G',e1,e2⟩:=Wl ho hn hI hB hX hR.1 hR.2.1 (λb=>by have:=hc b;simp only[abn,mS,dg]at this;omega) Di;exact⟨_,_,_,_,_,e1,.inr ⟨rfl,rfl⟩,e2,fW.refl _ _⟩;cases ha;rename_i t x y j n ho;simp only[aac]at hm;obtain⟨hm,hn⟩:=hm;obtain⟨hR,hc⟩:=hA _ hm;have Di:=ha;unfold bn at ha;simp only at ha;split at ha;obtain⟨w',G',iM,e1,e2,e3⟩:=RX ho hn hI hB hX hR.1 hR.2.1 (λb=>by have:=hc b;simp only[abn,mS]at this;simp only[dg]at this ⊢;omega) Di;exact⟨_,_,_,_,_,e1,.inr ⟨rfl,rfl⟩,e2,e3⟩;cases ha;rename_i t zero ho;simp only[aac]at hm;obtain⟨_,hz⟩:=hm;obtain⟨i,z,hi,RC,oL,JM,LH⟩:=mG hz w G;unfold bn at ha;simp only at ha;split at ha;cases ha;obtain⟨G',J9⟩:=Py (t:=t) (cO:=cO) hI hB oL JM LH;exact⟨_,_,_,_,_,NY ho hi RC,.inl rfl,J9,fW.refl _ _⟩;cases ha;rename_i t j zero ho;simp only[aac]at hm;obtain⟨_,hz⟩:=hm;obtain⟨i,z,hi,RC,oL,JM,LH⟩:=mG hz w G;unfold bn at ha;simp only at ha;split at ha;split at ha;rename_i hj;cases ha;have hb:j<β.length:=by rw[hB.len];exact hj
 refine⟨_,_,_,_,_,NY ho hi RC,.inl rfl,NX (c:=z.cells) (e:=t) (w':=w.alloc (.cells z.cells t)) hI hB rfl rfl rfl hj oL LH (λb=>by rw[GK JM];omega),?_⟩;exact fW.set (aag hb) λh=>aU rfl h;cases ha;cases ha;rename_i t x n ho;obtain⟨hR,hc⟩:=hA _ hm;unfold bn at ha;simp only at ha;split at ha;split at ha;rename_i kP;simp only[aac,aK]at kP;cases ha;obtain⟨G',J9⟩:=RH (t:=t) (cO:=cO) hI hB hR.1 kP.1 kP.2 (λb=>by have:=hc b;simp only[abn,mS,dg]at this;omega);exact⟨_,_,_,_,_,Zg ho,.inl rfl,J9,fW.refl _ _⟩;cases ha;cases ha;rename_i t x j n ho;obtain⟨hR,hc⟩:=hA _ hm;unfold bn at ha;simp only at ha;split at ha;split at ha;rename_i kP;simp only[aac,aK]at kP;cases ha;have hb:j<β.length:=by rw[hB.len];exact kP.1.1
 obtain⟨F5,NT⟩:=bF.cells hR.1;refine⟨_,_,_,_,_,Zg ho,.inl rfl,NX (c:=(ρ x).cells) (e:=t) (w':=w.alloc (.cells (ρ x).cells t)) hI hB rfl rfl rfl kP.1.1 F5 kP.2 (λb=>by have:=hc b;simp only[abn,mS,dg]at this;rw[NT];omega),?_⟩;exact fW.set (aag hb) λh=>aU rfl h;cases ha;cases ha;rename_i t x y sz bytes zero mt ho;simp only[aac]at hm;obtain⟨hm,ht⟩:=hm;obtain⟨hR,hc⟩:=hA _ hm;split at ht;rename_i e hu;simp only[aac,aK]at ht;obtain⟨⟨⟨⟨h1,h2⟩,h3⟩,h4⟩,h5⟩:=ht;unfold bn at ha;simp only at ha;split at ha;rename_i n c;split at ha;rename_i kP;obtain⟨c1,c2,c3,c4⟩:=kP;have hcm:c<=9223372036854775807:=by
  have:c*1<=c*bytes:=afe (by omega) (by omega);simp only[cN]at c3;omega
 obtain⟨cells,e1,e2,e3,e4⟩:=JT (w:=w) (G:=G) ho hu h1 h2 h3 h4 c4 (bF.iz hR.1) (bF.iz hR.2.1) c1 c2 c3 hcm;obtain⟨_,_,_,_,_,JM,LH⟩:=mG h3 w G;have hle:n.toNat*sz<=c.toNat*sz:=acw _ (by omega);have dL:cn sz (aak n.toNat zero)=true:=cV.2 λr hr=>by rw[abt hr,c4]
 have jC:∀r∈aak n.toNat zero,AV.bw r=true:=λr hr=>by rw[abt hr];exact LH
 have hx:∀(k:Nat) x,(cells.toList.take (n.toNat*sz))[k]?=some x->cells[k]?=some x:=λk x hk=>by
  rw[acv]at hk;split at hk;simpa using hk;cases hk
 split at ha;cases ha;by_cases VE:c.toNat=0;have Gi:n.toNat=0:=by omega
 rw[Gi,VE]at e1;rw[Gi];have hA0:jZ w G β st bx cO (w.alloc (.cells cells e)) (G.new w.heap.size (some 0) [⟨some ⟨w.heap.size,0,none⟩,0,0,sz,0,false,[]⟩]) β (st++[.rows 0 sz []]) bx (.val (.mu st.length 0)) (.slice (some ⟨w.heap.size,0,none⟩) 0 0):=by
  have hl:(G.new w.heap.size (some 0) [⟨some ⟨w.heap.size,0,none⟩,0,0,sz,0,false,[]⟩]).ls[st.length]?=some ⟨some ⟨w.heap.size,0,none⟩,0,0,sz,0,false,[]⟩:=by
   simp only[bD.new];rw[List.getElem?_append_right (by rw[hI.len];exact aau _),hI.len];simp
  exact tK (w':=w.alloc (.cells cells e)) (ao:=.rows 0 sz []) (ob:=.cells cells e) rfl rfl rfl hI hB ⟨rfl,rfl,by simp[cn],by simp,rfl,rfl,rfl,λi r xs h=>by simp at h,.inl ⟨rfl,rfl,rfl⟩⟩ (.mu _ _ _ _ ⟨_,_,_,rfl⟩ hl (aau _) λ_=>rfl) rfl λb=>by simp[jm,lY.jB,g8]
 exact⟨_,_,_,_,_,e1,.inl rfl,hA0,fW.refl _ _⟩;obtain⟨G',J9,_⟩:=w9 (sz:=sz) (cap:=c.toNat) (rows:=aak n.toNat zero) (c:=cells) (e:=e) (xs:=cells.toList.take (n.toNat*sz)) (w':=w.alloc (.cells cells e)) (cO:=cO) hI hB rfl rfl rfl dL jC e3 (by omega) (by omega) (by simp;omega) hx (λb=>by rw[e4];omega);rw[age]at J9;exact⟨_,_,_,_,_,e1,.inl rfl,J9,fW.refl _ _⟩;split at ha;rename_i hpz;cases ha;obtain⟨G',J9⟩:=Ia (sz:=sz) (cap:=c.toNat) (rows:=aak n.toNat zero) (c:=cells) (e:=e) (xs:=cells.toList.take (n.toNat*sz)) (w':=w.alloc (.cells cells e)) (cO:=cO) hI hB rfl rfl rfl dL jC
  (λr hr=>by rw[abt hr];exact(dm zero).2 λc hc=>(JM c hc).1) (λr hr=>by rw[abt hr];exact hpz) e3 (by omega) (by simp;omega) hx
 rw[age]at J9;exact⟨_,_,_,_,_,e1,.inl rfl,J9,fW.refl _ _⟩;cases ha;cases ha;cases ha;cases ht;rename_i t ho;unfold bn at ha;simp only at ha;split at ha;cases ha;obtain⟨G',J9⟩:=Wf (cO:=cO) hI hB;exact⟨_,_,_,_,_,by simp only[execOp,ho,Option.map_none,cg,show (Instr.makeMap t none).run P w=.ok (.map (some w.heap.size)) (w.alloc (.map #[] 0)) from rfl,cZ,Sem.run_pure],.inl rfl,J9,fW.refl _ _⟩;cases ha;rename_i t m k x kk ho;simp only[aac]at hm;obtain⟨hm,ht⟩:=hm;obtain⟨hR,hc⟩:=hA _ hm;split at ht;rename_i kt et hu;have Di:=ha;unfold bn at ha;simp only at ha;split at ha;obtain⟨w',G',e1,e2⟩:=Cm (.inl ho) hu ht hI hB hX hR.1 hR.2.1 hR.2.2.1 Di;exact⟨_,_,_,_,_,e1,.inr ⟨rfl,rfl⟩,e2,fW.refl _ _⟩;cases ha;cases ht;rename_i t m k x kk ho;simp only[aac]at hm;obtain⟨hm,ht⟩:=hm;obtain⟨hR,hc⟩:=hA _ hm;split at ht;rename_i kt et hu;have Di:=ha;unfold bn at ha;simp only at ha;split at ha;obtain⟨w',G',e1,e2⟩:=Cm (.inr ho) hu ht hI hB hX hR.1 hR.2.1 hR.2.2.1 Di;exact⟨_,_,_,_,_,e1,.inr ⟨rfl,rfl⟩,e2,fW.refl _ _⟩;cases ha;cases ht;rename_i t m k ok kk zero ok' ho;simp only[aac,cz]at hm;obtain⟨⟨rfl,hm⟩,ht⟩:=hm;obtain⟨hR,hc⟩:=hA _ hm;split at ht;rename_i kt et hu;simp only[aac]at ht;obtain⟨ht,hz⟩:=ht;split at hz;rename_i ie hie;split at hz;rename_i z hzz;unfold bn at ha;simp only at ha;split at ha;rename_i am ak;split at ha;cases ha;rename_i es jj;split at ha;split at ha;cases ha;rename_i cH hf;cases ha;have ajp:(am=.hY/\es=[])\/∃id,am=.map id/\st[id]?=some (.map es):=by
  split at jj;cases jj;exact .inl ⟨rfl,rfl⟩;rename_i id;split at jj;rename_i ja;cases jj;exact .inr ⟨id,rfl,ja⟩;cases jj;cases jj
 obtain⟨u,e1,e2,e3⟩:=RD ho hu ht hie hzz hz hI ajp hf hR.1 hR.2.1;refine kh.cS hI hB e1 e2 ?_;cases ok;exact e3;simp[AV.cS,AV.fq,e3];cases ha;cases ha;cases hz;cases hz;cases ht;rename_i f first l7 f' n ho
 simp only[aac,cz,aK]at hm;obtain⟨⟨⟨rfl,hm⟩,rfl⟩,hf⟩:=hm;obtain⟨hR,hc⟩:=hA _ hm;unfold bn at ha;simp only at ha;split at ha;rename_i vs CQ;cases ha;obtain⟨hv,F5⟩:=hR.PL CQ;obtain⟨e1,e2⟩:=L3 (P:=P) hf ho hv;exact kh.cS hI hB e1 e2 rfl;cases ha;rename_i c k ho;simp only[aac,cz]at hm;obtain⟨⟨hm,dM⟩,ht⟩:=hm;obtain⟨hR,hc⟩:=hA _ hm;obtain⟨x,hx⟩:∃x,c.args.toList=[x]:=ahx.1 (by simpa using dM);rw[hx]at hR hc;split at ht;rename_i t o6 Zq;unfold bn at ha;simp only at ha;split at ha;split at ha;rename_i n hn;cases ha;refine kh.cS hI hB (aeK ho o6 hx Zq (k:=k) ?_ hI hn hR.1) (.int _ _) rfl;split at ht
 assumption
 exact⟨_,by assumption⟩;exact⟨_,_,by assumption⟩;cases ht;cases ha;cases ha;cases ht;rename_i c mx ho;simp only[aac,cz]at hm;obtain⟨⟨hm,dM⟩,ht⟩:=hm;obtain⟨hR,hc⟩:=hA _ hm;obtain⟨x,y,hx⟩:∃x y,c.args.toList=[x,y]:=Ee (by simpa using dM);rw[hx]at hR hc;unfold bn at ha;simp only at ha;split at ha;split at ha;rename_i hk;subst hk;cases ha;split at ht;rename_i o6;rw[ah ht];exact kh.cS hI hB (aeL ho o6 hx hR.1 hR.2.1) (.int _ _) rfl;rename_i o6;rw[U (by simpa using ht)];exact kh.cS hI hB (aeM ho o6 hx hR.1 hR.2.1) (.int _ _) rfl;cases ht;cases ha;cases ha;rename_i c sz bytes ho;simp only[aac,cz]at hm;obtain⟨⟨⟨hm,dM⟩,Mh⟩,ht⟩:=hm;obtain⟨hR,hc⟩:=hA _ hm;obtain⟨x,y,hx⟩:∃x y,c.args.toList=[x,y]:=Ee (by simpa using dM);rw[hx]at hR hc;split at ht;rename_i t u o6 ht0 Gn;simp only[aac]at ht;obtain⟨yQ,xx⟩:=ht;split at yQ;rename_i e hu;simp only[aac,aK]at yQ;obtain⟨⟨⟨⟨h1,h2⟩,h3⟩,h4⟩,h5⟩:=yQ;split at h5;rename_i i hi;split at h5;rename_i z hz;simp only[cz]at h5;have hT:L8 P t u e sz bytes i z:=by
  refine⟨hu,hi,hz,?_,?_,h5,h3,h4,?_⟩;obtain⟨i',rN,F0,_⟩:=me h1;rw[hi]at rN;cases rN;exact F0;simpa [pT,hi] using h2;split at xx;exact .inl ⟨_,by assumption⟩;exact .inr (by assumption);cases xx
 have Di:=ha;unfold bn at ha;simp only at ha;split at ha;obtain⟨v,w',G',e1,e2⟩:=RM (ty:=o.type) hT hI hB hX hR.1 hR.2.1 (λb=>by have:=hc b;simp only[abn,mS,dg]at this;omega) Di;refine⟨_,_,_,_,_,?_,.inl rfl,e2,fW.refl _ _⟩;simp only[execOp,ho,resolve,o6,cg,Sem.run_pure,cZ,invoke,builtin,o5 hx,ye Mh ht0 Gn];simp[e1];cases ha;cases h5;cases h5;cases yQ;cases ht;rename_i c sz bytes ho;simp only[aac,cz]at hm;obtain⟨⟨⟨hm,dM⟩,Mh⟩,ht⟩:=hm;obtain⟨hR,hc⟩:=hA _ hm;obtain⟨x,y,hx⟩:∃x y,c.args.toList=[x,y]:=Ee (by simpa using dM);rw[hx]at hR hc;split at ht;rename_i t u o6 ht0 Gn;simp only[aac]at ht;obtain⟨yQ,xx⟩:=ht;split at yQ;rename_i e hu;simp only[aac,aK]at yQ;obtain⟨⟨⟨⟨h1,h2⟩,h3⟩,h4⟩,h5⟩:=yQ;split at h5;rename_i i hi;split at h5;rename_i z hz;simp only[cz]at h5;have hT:L8 P t u e sz bytes i z:=by
  refine⟨hu,hi,hz,?_,?_,h5,h3,h4,?_⟩;obtain⟨i',rN,F0,_⟩:=me h1;rw[hi]at rN;cases rN;exact F0;simpa [pT,hi] using h2;split at xx;exact .inl ⟨_,by assumption⟩;exact .inr (by assumption);cases xx
 have Di:=ha;unfold bn at ha;simp only at ha;split at ha;obtain⟨v,w',G',e1,e2⟩:=PC (ty:=o.type) hT hI hB hX hR.1 hR.2.1 Di;refine⟨_,_,_,_,_,?_,.inl rfl,e2,fW.refl _ _⟩;simp only[execOp,ho,resolve,o6,cg,Sem.run_pure,cZ,invoke,builtin,o5 hx,ye Mh ht0 Gn];simp[e1];cases ha;cases h5;cases h5;cases yQ;cases ht;rename_i c sz ho;simp only[aac,cz]at hm;obtain⟨⟨⟨hm,dM⟩,Mh⟩,ht⟩:=hm;obtain⟨hR,hc⟩:=hA _ hm;obtain⟨x,y,hx⟩:∃x y,c.args.toList=[x,y]:=Ee (by simpa using dM);rw[hx]at hR hc;split at ht;rename_i t u o6 ht0 Gn;simp only[aac]at ht;obtain⟨yQ,xx⟩:=ht;split at yQ;rename_i e hu;have hk:(∃e',P.underlying u=some (.slice e'))\/P.underlying u=some .string:=by
  split at xx;exact .inl ⟨_,by assumption⟩;exact .inr (by assumption);cases xx
 have Di:=ha;unfold bn at ha;simp only at ha;split at ha;obtain⟨v,w',G',e1,e2⟩:=aas (ty:=o.type) hu yQ hk hI hB hX hR.1 hR.2.1 Di;refine⟨_,_,_,_,_,?_,.inl rfl,e2,fW.refl _ _⟩;simp only[execOp,ho,resolve,o6,cg,Sem.run_pure,cZ,invoke,builtin,o5 hx,ye Mh ht0 Gn];simp[e1];cases ha;cases yQ;cases ht;unfold bn at ha;cases ha;unfold bn at ha;cases ha;rename_i t x y sz bytes zero ho;simp only[aac]at hm;obtain⟨hm,ht⟩:=hm;obtain⟨hR,hc⟩:=hA _ hm;split at ht;rename_i e hu;simp only[aac,aK]at ht;obtain⟨⟨⟨⟨h1,h2⟩,h3⟩,h4⟩,h5⟩:=ht;unfold bn at ha;simp only at ha;split at ha;rename_i n c;split at ha;rename_i kP;obtain⟨c1,c2,c3,c4,hpz⟩:=kP;have hcm:c<=9223372036854775807:=by
  have:c*1<=c*bytes:=afe (by omega) (by omega);simp only[cN]at c3;omega
 obtain⟨cells,e1,e2,e3,e4⟩:=JT (w:=w) (G:=G) ho hu h1 h2 h3 h4 c4 (bF.iz hR.1) (bF.iz hR.2.1) c1 c2 c3 hcm;obtain⟨_,_,_,_,_,JM,LH⟩:=mG h3 w G;have hle:n.toNat*sz<=c.toNat*sz:=acw _ (by omega);have dL:cn sz (aak n.toNat zero)=true:=cV.2 λr hr=>by rw[abt hr,c4]
 have jC:∀r∈aak n.toNat zero,AV.bw r=true:=λr hr=>by rw[abt hr];exact LH
 have hx:∀(k:Nat) x,(cells.toList.take (n.toNat*sz))[k]?=some x->cells[k]?=some x:=λk x hk=>by
  rw[acv]at hk;split at hk;simpa using hk;cases hk
 cases ha;obtain⟨G',J9⟩:=Wc (sz:=sz) (cap:=c.toNat) (rows:=aak n.toNat zero) (c:=cells) (e:=e) (xs:=cells.toList.take (n.toNat*sz)) (w':=w.alloc (.cells cells e)) (cO:=cO) hI hB rfl rfl rfl dL jC
  (λr hr=>by rw[abt hr];exact(dm zero).2 λc hc=>(JM c hc).1) (λr hr=>by rw[abt hr];exact hpz) e3 (by omega) (by simp;omega) hx
 rw[age]at J9;exact⟨_,_,_,_,_,e1,.inl rfl,J9,fW.refl _ _⟩;cases ha;cases ha;cases ht;rename_i c sz bytes zero ho;simp only[aac,cz]at hm;obtain⟨⟨⟨hm,dM⟩,Mh⟩,ht⟩:=hm;obtain⟨hR,hc⟩:=hA _ hm;obtain⟨x,y,hx⟩:∃x y,c.args.toList=[x,y]:=Ee (by simpa using dM);rw[hx]at hR hc;split at ht;rename_i t u o6 ht0 Gn;simp only[aac]at ht;obtain⟨yQ,xx⟩:=ht;split at yQ;rename_i e hu;simp only[aac,aK]at yQ;obtain⟨⟨⟨⟨h1,h2⟩,h3⟩,h4⟩,h5⟩:=yQ;have hk:∃k,P.underlying u=some (.int k):=by
  split at xx;exact⟨_,by assumption⟩;cases xx
 have Di:=ha;unfold bn at ha;simp only at ha;split at ha;obtain⟨v,w',G',e1,e2⟩:=PI (ty:=o.type) hu hk h1 h2 h3 h4 h5 hI hB hX hR.1 hR.2.1 Di;refine⟨_,_,_,_,_,?_,.inl rfl,e2,fW.refl _ _⟩;simp only[execOp,ho,resolve,o6,cg,Sem.run_pure,cZ,invoke,builtin,o5 hx,ye Mh ht0 Gn];simp[e1];cases ha;cases yQ;cases ht;rename_i c ho;simp only[aac,cz]at hm;obtain⟨⟨hm,dM⟩,ht⟩:=hm;obtain⟨hR,hc⟩:=hA _ hm;obtain⟨x,hx⟩:∃x,c.args.toList=[x]:=ahx.1 (by simpa using dM);rw[hx]at hR hc;split at ht;rename_i t o6 Zq;split at ht;rename_i e hu;unfold bn at ha;simp only at ha;split at ha;cases ha;refine kh.cS hI hB ?_ (.int _ _) rfl;have e1:∃n,ρ x=.slice none n 0:=by
  have h1:bF w G .af (ρ x):=hR.1;generalize ρ x=v at h1;cases h1;exact⟨_,rfl⟩
 obtain⟨n,e1⟩:=e1;simp[execOp,ho,resolve,o6,invoke,builtin,L0 hx,Builtin.cap_,Zq,cj hu,e1,goInt];cases ha;cases ht;cases ht;have h0:so.args=[]:=by simpa using hm
 have hv:=(hA [] (by rw[h0];rfl)).1;cases vals with
 |nil=>unfold bn at ha;simp at ha|cons a l=>simp[lN]at hv
 cases hm
end Ax
namespace Ax
open Go
variable {P:Program}{w w':World}{G G':bD}{β iM:List nD}
theorem xy(d:Nat)(e:fL)(t:Nat):∀env:qz,dK (wK env d e) t=if t=d then e else dK env t
 |[]=>by
  simp only[wK,dK];by_cases h:d=t;rw[ah h,ah h.symm];rw[U h,U (show ¬t=d from λe=>h e.symm)]
 |(k,x)::r=>by
  have ih:=xy d e t r;unfold wK;split;simp only[dK];by_cases h:d=t;rw[ah h,ah h.symm];rw[U h,U (show ¬t=d from λe=>h e.symm)];split;rename_i hk;subst hk;simp only[dK];by_cases h:d=t;rw[ah h,ah h.symm];rw[U h,U (show ¬t=d from λe=>h e.symm),U h];simp only[dK,ih];by_cases h:k=t;rw[ah h,ah h,U (by omega)];rw[U h,U h]
theorem Ef(d t:Nat):∀env:qz,dK (CO env d) t=if t=d then .none else dK env t
 |[]=>by simp[CO,dK]|(k,x)::r=>by
  have ih:=Ef d t r;unfold CO;split;rename_i h;rw[ih];simp only[dK];by_cases h2:t=d;rw[ah h2,ah h2];rw[U h2,U h2,U (by omega)];simp only[dK,ih];by_cases h2:t=d;rw[ah h2,ah h2];rw[U (by omega)];rw[U h2,U h2]
def q7:List Src->List Nat
 |[]=>[]
 |.tmp t true::r=>t::q7 r|_::r=>q7 r
theorem uN(t:Nat):∀(ss:List Src)(env:qz),dK (ss.foldl nc env) t=if t∈q7 ss then .none else dK env t
 |[],env=>by simp[q7]|.tmp u true::r,env=>by
  simp only[agt,nc,q7,uN t r,Ef,ac1];by_cases h1:t∈q7 r;simp[h1];by_cases h2:t=u;simp[h2];simp[h1,h2]
 |.tmp u false::r,env=>by rw[agt,uN t r];rfl|.const a::r,env=>by rw[agt,uN t r];rfl
theorem vE(t:Nat):∀(l:List Nat)(env:qz),dK (jA l env) t=if t∈l then .none else dK env t
 |[],env=>by simp[jA]|u::l,env=>by
  simp only[jA,vE t l,Ef,ac1];by_cases h1:t∈l;simp[h1];by_cases h2:t=u;simp[h2];simp[h1,h2]
theorem GQ(t:Nat):∀(k:Nat)(l:List AV),dK (GA k l) t=if k<=t then (match l[t-k]? with|some v=>.val v|none=>.none) else .none
 |k,[]=>by simp[GA,dK]|k,v::r=>by
  simp only[GA,dK,GQ t (k+1) r];by_cases h:k=t;subst h;simp;rw[U h];by_cases h2:k<=t;rw[ah h2,ah (by omega),show t-k=(t-(k+1))+1 by omega];simp;rw[U h2,U (by omega)]
theorem Eg{j:Nat}:∀{env:qz},mF j env=true->∀t,(dK env t).qa j=true
 |[],_,_=>rfl|(k,x)::r,h,t=>by
  simp only[mF,List.all_cons,aac]at h;simp only[dK];split;exact h.1;exact Eg (env:=r) (by simpa [mF] using h.2) t
def iK(f:Nat->Nat):Nat->Nat
 |0=>0|n+1=>iK f n+f n
theorem o7{f g:Nat->Nat}:∀{n:Nat},(∀t,t<n->f t=g t)->iK f n=iK g n
 |0,_=>rfl|n+1,h=>by simp only[iK];rw[o7 λt ht=>h t (by omega),h n (by omega)]
theorem Dj{f g:Nat->Nat}:∀{n:Nat},(∀t,t<n->f t<=g t)->iK f n<=iK g n
 |0,_=>aau _|n+1,h=>by
  simp only[iK];have h1:=Dj (f:=f) (g:=g) (n:=n) λt ht=>h t (by omega);have h2:=h n (by omega);omega
theorem uP{f g:Nat->Nat}{d:Nat}:∀{n:Nat},d<n->(∀t,t≠d->f t=g t)->iK f n+g d=iK g n+f d
 |0,h,_=>by omega|n+1,h,he=>by
  simp only[iK];by_cases hd:d=n;subst hd;rw[o7 (f:=f) (g:=g) λt ht=>he t (by omega)];omega;have:=uP (f:=f) (g:=g) (n:=n) (d:=d) (by omega) he;rw[he n λe=>hd e.symm];omega
theorem xz{f:Nat->Nat}{t n:Nat}(h:t<n):f t<=iK f n:=by
 have:=uP (f:=λu=>if u=t then 0 else f u) (g:=f) (d:=t) h λu hu=>U hu;simp only[aQ]at this;omega
theorem GR{n:Nat}:iK (λ_=>0) n=0:=by
 induction n with
 |zero=>rfl|succ n ih=>simp[iK,ih]
def qF(f:Nat->Nat):List Nat->Nat
 |[]=>0|t::l=>f t+qF f l
theorem Ak{f:Nat->Nat}{n:Nat}(hf:∀t,n<=t->f t=0):∀(l:List Nat),l.Nodup->qF f l+iK (λt=>if t∈l then 0 else f t) n<=iK f n
 |[],_=>by simp[qF]|t::l,h=>by
  have ih:=Ak hf l (aeU.1 h).2;have hn:=(aeU.1 h).1;simp only[qF];by_cases ht:t<n;have:=uP (f:=λu=>if u∈t::l then 0 else f u) (g:=λu=>if u∈l then 0 else f u) (d:=t) ht λu hu=>by simp[hu]
  simp only[ac1,true_or,aQ,U hn]at this;simp only[ac1];omega;rw[hf t (by omega)];rw[o7 (f:=λu=>if u∈t::l then 0 else f u) (g:=λu=>if u∈l then 0 else f u) λu hu=>by simp[show u≠t by omega]];omega
mutual
def AV.under(n:Nat):AV->Bool
 |.mu i _|.ptr i _ _ _|.map i=>decide (i<n)|.agg cs|.fK cs=>AV.o8 n cs|.fn _ a b=>AV.o8 n a&&AV.o8 n b|_=>true
def AV.o8(n:Nat):List AV->Bool
 |[]=>true|v::r=>v.under n&&AV.o8 n r
end
theorem iN(n:Nat):∀cs:List AV,AV.o8 n cs=true↔∀c∈cs,c.under n=true
 |[]=>by simp[AV.o8]|c::cs=>by simp[AV.o8,iN n cs]
mutual
theorem jD(n:Nat):∀a:AV,a.aB=true->a.under n=true
 |.mu _ _,h=>by simp[AV.aB]at h|.ptr _ _ _ _,h=>by simp[AV.aB]at h|.map _,h=>by simp[AV.aB]at h|.agg cs,h=>by simp only[AV.aB,AV.under]at *;exact qk n cs h|.fK cs,h=>by simp only[AV.aB,AV.under]at *;exact qk n cs h|.fn _ a b,h=>by simp only[AV.aB,AV.under,aac]at *;exact⟨qk n a h.1,qk n b h.2⟩|.undef,_|.gone,_|.bool _,_|.int _ _,_|.str _,_|.dV,_|.af,_|.hY,_|.jz,_|.kO,_|.eE _ _,_|.k8 _ _,_|.raw _ _,_|.mE,_|.qP _ _ _ _,_=>by simp[AV.under]
theorem qk(n:Nat):∀cs:List AV,AV.ax cs=true->AV.o8 n cs=true
 |[],_=>rfl|c::cs,h=>by
  simp only[AV.ax,aac]at h;simp only[AV.o8,jD n c h.1,qk n cs h.2,Bool.and_self]
end
mutual
theorem Mi{m n:Nat}(hmn:m<=n):∀a:AV,a.under m=true->a.under n=true
 |.mu _ _,h|.ptr _ _ _ _,h|.map _,h=>by simp only[AV.under,aK]at *;omega|.agg cs,h=>by simp only[AV.under]at *;exact qm hmn cs h|.fK cs,h=>by simp only[AV.under]at *;exact qm hmn cs h|.fn _ a b,h=>by simp only[AV.under,aac]at *;exact⟨qm hmn a h.1,qm hmn b h.2⟩|.undef,_|.gone,_|.bool _,_|.int _ _,_|.str _,_|.dV,_|.af,_|.hY,_|.jz,_|.kO,_|.eE _ _,_|.k8 _ _,_|.raw _ _,_|.mE,_|.qP _ _ _ _,_=>by simp[AV.under]
theorem qm{m n:Nat}(hmn:m<=n):∀cs:List AV,AV.o8 m cs=true->AV.o8 n cs=true
 |[],_=>rfl|c::cs,h=>by
  simp only[AV.o8,aac]at *;exact⟨Mi hmn c h.1,qm hmn cs h.2⟩
end
variable{v:Value}
theorem bF.Al{a:AV}(h:bF w G a v):a.under G.ls.length=true:=by
 induction h with
 |agg cs vs hl h ih=>
  simp only[AV.under];refine(iN _ cs).2 λc hc=>?_;obtain⟨i,hi,rfl⟩:=abo.1 hc;have rN:i<vs.size:=by omega
  exact ih i cs[i] vs[i] (aag hi) (by simp[rN])
 |fK cs vs hl h ih=>
  simp only[AV.under];refine(iN _ cs).2 λc hc=>?_;obtain⟨i,hi,rfl⟩:=abo.1 hc;have rN:i<vs.size:=by omega
  exact ih i cs[i] vs[i] (aag hi) (by simp[rN])
 |mu id cQ v loc hp hl hv he=>simpa [AV.under] using (aad.1 hl).1|ptr id cQ i k v loc hp hl hv he=>simpa [AV.under] using (aad.1 hl).1|map id loc b hl hm hb=>simpa [AV.under] using (aad.1 hl).1|fn f first l7 vf vc hl hm hn h k ih ik=>
  simp only[AV.under,aac];refine⟨(iN _ first).2 λc hc=>?_,(iN _ l7).2 λc hc=>?_⟩;obtain⟨i,hi,rfl⟩:=abo.1 hc;have rN:i<vf.size:=by omega
  exact ih i first[i] vf[i] (aag hi) (by simp[rN])
  obtain⟨i,hi,rfl⟩:=abo.1 hc;have rN:i<vc.size:=by omega
  exact ik i l7[i] vc[i] (aag hi) (by simp[rN])
 |_=>simp[AV.under]
def bD.cut(G:bD)(n:Nat):bD:=⟨G.ls.take n,G.mR⟩
theorem Dk{n i:Nat}{loc:lY}(h:G.ls[i]?=some loc)(hi:i<n):(G.cut n).ls[i]?=some loc:=by
 simp only[bD.cut];rw[acv,ah hi];exact h
theorem bF.Eh{n:Nat}{a:AV}(h:bF w G a v):a.under n=true->bF w (G.cut n) a v:=by
 induction h with
 |undef=>exact λ_=>.undef|gone v h=>exact λ_=>.gone v h|bool b=>exact λ_=>.bool b|int k n=>exact λ_=>.int k n|str l s h=>exact λ_=>.str l s h|dV=>exact λ_=>.dV|af=>exact λ_=>.af|hY=>exact λ_=>.hY|jz=>exact λ_=>.jz|kO=>exact λ_=>.kO|agg cs vs hl h ih=>exact λhb=>.agg cs vs hl λi c v h1 h2=>ih i c v h1 h2 ((iN n cs).1 (by simpa [AV.under] using hb) c (dR h1))|fK cs vs hl h ih=>exact λhb=>.fK cs vs hl λi c v h1 h2=>ih i c v h1 h2 ((iN n cs).1 (by simpa [AV.under] using hb) c (dR h1))|eE sz rows a cap lI gY dL iI qf x7 hc hr ih=>
  exact λ_=>.eE sz rows a cap lI gY dL iI qf x7 hc λi r j c v h1 h2 h3=>ih i r j c v h1 h2 h3 (jD n c ((iE r).1 (qf r (dR h1)) c (dR h2)))
 |k8 sz rows a cap lI gY dL iI qf x7 hc hr jl ig ih=>
  exact λ_=>.k8 sz rows a cap lI gY dL iI qf x7 hc (λi r j c v h1 h2 h3=>ih i r j c v h1 h2 h3 (jD n c ((iE r).1 (qf r (dR h1)) c (dR h2)))) jl ig
 |raw sz rows a cap lI gY dL iI qf x7 hc hr jl ig ih=>
  exact λ_=>.raw sz rows a cap lI gY dL iI qf x7 hc (λi r j c v h1 h2 h3=>ih i r j c v h1 h2 h3 (jD n c ((iE r).1 (qf r (dR h1)) c (dR h2)))) jl ig
 |mE a=>exact λ_=>.mE a|mu id cQ v loc hp hl hv he=>exact λhb=>.mu id cQ v loc hp (Dk hl (by simpa [AV.under] using hb)) hv he|ptr id cQ i k v loc hp hl hv he=>exact λhb=>.ptr id cQ i k v loc hp (Dk hl (by simpa [AV.under] using hb)) hv he|qP sz rows i k a cap hs ih=>exact λ_=>.qP sz rows i k a cap (ih (by simp[AV.under]))|map id loc b hl hm hb=>exact λnV=>.map id loc b (Dk hl (by simpa [AV.under] using nV)) hm hb|fn f first l7 vf vc hl hm hn h k ih ik=>
  intro hb;simp only[AV.under,aac]at hb;exact .fn f first l7 vf vc hl hm hn (λi c v h1 h2=>ih i c v h1 h2 ((iN n first).1 hb.1 c (dR h1))) λi c v h1 h2=>ik i c v h1 h2 ((iN n l7).1 hb.2 c (dR h1))
def dA.under(n:Nat):dA->Bool
 |.rows _ _ rs=>rs.all (AV.o8 n)|.map es=>es.all λe=>e.1.under n&&e.2.under n
theorem qE.Eh{n:Nat}{ob:dA}{loc:lY}(h:qE w G ob loc)(hb:ob.under n=true):qE w (G.cut n) ob loc:=by
 cases ob with
 |rows cQ sz rows=>
  obtain⟨h1,h2,h3⟩:=h;simp only[dA.under,aaB]at hb;refine⟨h1,h2,h3.GF,h3.Dd,h3.len,h3.size,h3.uf,λi r xs e1 e2=>?_,h3.qD⟩;obtain⟨a1,a2⟩:=h3.uI i r xs e1 e2;exact⟨a1,λj c v g1 g2=>(a2 j c v g1 g2).Eh ((iN n r).1 (hb r (dR e1)) c (dR g1))⟩
 |map es=>
  obtain⟨h1,h2,b,wW,clock,h3,h4,h5,h6,h7⟩:=h;simp only[dA.under,aaB,aac]at hb;refine⟨h1,h2,b,wW,clock,h3,h4,h5,h6,λi k v e e1 e2=>?_⟩;obtain⟨g1,g2,g3,g4⟩:=h7 i k v e e1 e2;have:=hb (k,v) (dR e1);exact⟨g1.Eh this.1,g2.Eh this.2,g3,g4⟩
theorem qE.Al{ob:dA}{loc:lY}(h:qE w G ob loc):ob.under G.ls.length=true:=by
 cases ob with
 |rows cQ sz rows=>
  obtain⟨h1,h2,h3⟩:=h;simp only[dA.under,aaB];intro r hr;obtain⟨i,hi,rfl⟩:=abo.1 hr;have rN:i<loc.vals.length:=by rw[h3.uf];exact hi
  obtain⟨a1,a2⟩:=h3.uI i rows[i] loc.vals[i] (aag hi) (aag rN);refine(iN _ _).2 λc hc=>?_;obtain⟨j,hj,rfl⟩:=abo.1 hc;have hj':j<loc.vals[i].length:=by omega
  exact(a2 j _ _ (aag hj) (aag hj')).Al
 |map es=>
  obtain⟨h1,h2,b,wW,clock,h3,h4,h5,h6,h7⟩:=h;simp only[dA.under,aaB,aac];intro x hx;obtain⟨i,hi,rfl⟩:=abo.1 hx;have rN:i<wW.size:=by omega
  obtain⟨g1,g2,_,_⟩:=h7 i es[i].1 es[i].2 wW[i] (aag hi) (by simp[rN]);exact⟨g1.Al,g2.Al⟩
def GU(l:Nat)(st:ay):Prop:=∀(id:Nat) ob,id<l->st[id]?=some ob->ob.under l=true
theorem j8.ae6{st:ay}(h:j8 w G st):GU st.length st:=by
 intro id ob _ hob;obtain⟨loc,hl,hr⟩:=h.loc hob;rw[<-h.len];exact hr.Al
theorem j8.Eh{st:ay}{n:Nat}(h:j8 w G st)(hl:GU n st):j8 w (G.cut n) (st.take n) where
 len:=by simp[bD.cut,h.len]
 aX:=λid ob loc h1 h2=>by
  simp only[bD.cut]at h2;rw[acv]at h1 h2;split at h1;rename_i Bw;rw[ah Bw]at h2;exact(h.aX id ob loc h1 h2).Eh (hl id ob Bw h1);cases h1
 nE:=h.nE
theorem Wv{n:Nat}(h:tG w G w' G')(hn:G.ls.length<=n):tG w G w' (G'.cut n) where
 Rw:=h.Rw
 fB:=λid loc hl=>by
  obtain⟨loc',a1,a2,a3⟩:=h.fB id loc hl;exact⟨loc',Dk a1 (by have:=(aad.1 hl).1;omega),a2,a3⟩
theorem GW(b:Nat):∀(n:Nat)(ls:List lY)(st:ay),cR b (ls.take n) (st.take n)<=cR b ls st
 |0,ls,st=>by simp[cR]|n+1,[],st=>by simp[cR]|n+1,l::ls,[]=>by simp[cR]|n+1,l::ls,o::st=>by
  have:=GW b n ls st;simp only[List.take_succ_cons,cR];omega
end Ax
namespace Ax
open Go
structure eJ (wl aa:Nat)(st st':ay):Prop where
 len:st.length<=st'.length
 low:∀id,id<wl->id<st.length->st'[id]?=st[id]?
 aa:∀l,l<=aa->l<=st.length->GU l st->GU l st'
variable {wl aa:Nat}{st st' JG:ay}
theorem eJ.refl(wl aa:Nat)(st:ay):eJ wl aa st st:=⟨aau _,λ_ _ _=>rfl,λ_ _ _ h=>h⟩
theorem eJ.trans(h:eJ wl aa st st')(k:eJ wl aa st' JG):eJ wl aa st JG:=
 ⟨ac9 h.len k.len,λid h1 h2=>(k.low id h1 (afr h2 h.len)).trans (h.low id h1 h2),λl h1 h2 h3=>k.aa l h1 (ac9 h2 h.len) (h.aa l h1 h2 h3)⟩
theorem eJ.push(wl aa:Nat)(st:ay)(ob:dA):eJ wl aa st (st++[ob]) where
 len:=by simp
 low:=λid _ h=>by rw[aal h]
 aa:=λl _ h1 h2 id Jw h3 h4=>h2 id Jw h3 (by rwa [aal (by omega)]at h4)
theorem eJ.set{id:Nat}{ob Jw:dA}(ja:st[id]?=some ob)(hw:wl<=id)(h:∀l,l<=aa->id<l->ob.under l=true->Jw.under l=true):eJ wl aa st (st.set id Jw) where
 len:=by simp
 low:=λi h1 _=>by rw[abp,U (by omega)]
 aa:=λl h1 h2 h3 i ob2 h4 h5=>by
  rw[abp]at h5;split at h5;rename_i e;subst e;split at h5;cases h5;exact h l h1 h4 (h3 _ ob h4 ja);cases h5;exact h3 i ob2 h4 h5
theorem vF{l cQ sz:Nat}{rs:List (List AV)}:(dA.rows cQ sz rs).under l=true↔∀r∈rs,∀c∈r,c.under l=true:=by
 simp only[dA.under,aaB];exact⟨λh r hr=>(iN l r).1 (h r hr),λh r hr=>(iN l r).2 (h r hr)⟩
theorem PM{α:Type}{as vs:List α}{k:Nat}{x:α}(h:k+vs.length<=as.length)(hx:x∈au as k vs):x∈as\/x∈vs:=by
 rw[kB _ _ _ h]at hx;rcases abw.1 hx with hx|hx;rcases abw.1 hx with hx|hx;exact .inl (adz hx);exact .inr hx;exact .inl (adA hx)
theorem vG{p:AV}{cells:List AV}(h:fo wl aa st p cells=some st')(hc:∀id cQ i k,p=.ptr id cQ i k->True:=λ_ _ _ _ _=>trivial):eJ wl aa st st':=by
 unfold fo at h;split at h;split at h;rename_i v sz rows ja;split at h;rename_i kP;simp only[aac,aK,aV,acJ]at kP;obtain⟨_,hw,hl⟩:=kP;split at h;rename_i r hr;split at h;rename_i dL;cases h;refine eJ.set ja hw λl h1 h2 h3=>?_;rw[vF]at h3 ⊢;intro r' yP c Jv;rcases List.mem_or_eq_of_mem_set yP with h4|h4;exact h3 r' h4 c Jv;subst h4;rcases PM dL Jv with h5|h5;exact h3 r (dR hr) c h5;rcases hl with hl|hl;omega;exact jD l c ((iE cells).1 hl c h5);cases h;cases h;cases h;cases h;cases h
theorem Ei{sz bytes:Nat}{s:AV}{new:List (List AV)}{bx gX:bG}{r:fL}(h:r9 wl aa sz bytes s new st bx=some (r,st',gX)):eJ wl aa st st':=by
 unfold r9 at h;split at h;split at h;split at h;cases h;exact eJ.refl _ _ _;split at h;cases h;exact eJ.push _ _ _ _;cases h;split at h;cases h;exact eJ.push _ _ _ _;cases h;split at h;rename_i ja;split at h;rename_i hc;simp only[aac,aK,acJ,aaB]at hc;cases h;refine eJ.set ja hc.1.2 λl h1 h2 h3=>?_;rw[vF]at h3 ⊢;intro r hr c VI;rcases abw.1 hr with h4|h4;exact h3 r h4 c VI;rcases hc.2 with h5|h5;omega;exact jD l c ((iE r).1 (h5 r h4) c VI);cases h;cases h;cases h;cases h
theorem Mj{op:gq}{vals:List fL}{bx gX:bG}{r:fL}(h:bn wl aa op vals st bx=some (r,st',gX)):eJ wl aa st st':=by
 cases op
 case load agg n take=>
  unfold bn at h;simp only at h;split at h;split at h;split at h;split at h;rename_i hw _;cases h;exact vG hw;cases h;split at h;cases h;exact eJ.refl _ _ _;cases h;cases h;cases h
 case store n=>
  unfold bn at h;simp only at h;split at h;split at h;split at h;rename_i hw;cases h;exact vG hw;cases h;cases h;cases h
 case qB sz=>
  unfold bn at h;simp only at h;split at h;split at h;rename_i ja;split at h;rename_i hc;simp only[aac,aK]at hc;cases h;refine eJ.set ja hc.2 λl _ _ h3=>?_;rw[vF]at h3 ⊢;exact λr hr=>h3 r (adz hr);cases h;cases h;cases h
 case gu sz bytes=>
  unfold bn at h;simp only at h;split at h;split at h;cases h;exact Ei h;cases h
 case pQ sz bytes zero=>
  unfold bn at h;simp only at h;split at h;split at h;exact Ei h;cases h;cases h
 case copy sz=>
  unfold bn at h;simp only at h;split at h;split at h;rename_i ja uM;split at h;rename_i hc;simp only[aac,aK,acJ,aaB]at hc;cases h;refine eJ.set ja hc.1.2 λl h1 h2 h3=>?_;rw[vF]at h3 ⊢;intro r hr c VI;rcases abw.1 hr with h4|h4;rcases hc.2 with h5|h5;omega;exact jD l c ((iE r).1 (h5 r h4) c VI);exact h3 r (adA h4) c VI;cases h;cases h;cases h
 case mapUpdate kk=>
  unfold bn at h;simp only at h;split at h;rename_i id k v;split at h;rename_i es ja;split at h;rename_i hc;simp only[aac,aV,aK,acJ]at hc;split at h;rename_i wW PJ;cases h;refine eJ.set ja hc.2.1 λl h1 h2 h3=>?_;have hk:k.under l=true:=by
   have:=hc.1;unfold Gz at this;split at this<;>first|rfl|cases this
  have hv:v.ai.under l=true:=by
   rcases hc.2.2 with h5|h5;omega;simp only[AV.ax,Bool.and_true]at h5;exact jD l _ (xm v h5)
  clear ja;simp only[dA.under,aaB,aac]at h3 ⊢;have key:∀(es wW:List (AV×AV)),(∀x∈es,x.1.under l=true/\x.2.under l=true)->Ge kk k v.ai es=some wW->∀x∈wW,x.1.under l=true/\x.2.under l=true:=by
   intro es;induction es with
   |nil=>intro wW _ h x hx;simp[Ge]at h;subst h;simp at hx;subst hx;exact⟨hk,hv⟩|cons c es ih=>
    intro wW jj h;obtain⟨a,u⟩:=c;simp only[Ge]at h;split at h;cases h;intro x hx;rcases ac1.1 hx with rfl|hx;exact⟨hk,hv⟩;exact jj x (by simp[hx]);split at h;rename_i r' yP;cases h;intro x hx;rcases ac1.1 hx with rfl|hx;exact jj _ (by simp);exact ih r' (λx hx=>jj x (by simp[hx])) yP x hx;cases h;cases h
  exact key es wW h3 PJ;cases h;cases h;cases h;cases h
 all_goals
  unfold bn at h;simp only at h;repeat' split at h
 all_goals first
  |(cases h;exact eJ.refl _ _ _)
  |(cases h;exact eJ.push _ _ _ _)
  |cases h
structure sD (O:kL):Prop where
 call:∀wl aa f args st v st',O.call wl aa f args st=some (v,st')->eJ wl aa st st'
 loop:∀wl aa rs c s x s',O.loop wl aa rs c s=some (x,s')->eJ wl aa s.st s'.st
variable {O:kL}
theorem PN(hO:sD O){op:gq}{vals:List fL}{bx gX:bG}{r:fL}(h:ud O wl aa op vals st bx=some (r,st',gX)):eJ wl aa st st':=by
 have call:∀x,hJ O wl aa x st bx=some (r,st',gX)->eJ wl aa st st':=by
  intro x h;unfold hJ at h;split at h;split at h;rename_i hc;cases h;exact hO.call _ _ _ _ _ _ _ hc;cases h;cases h
 unfold ud at h;split at h;exact call _ h;exact call _ h;exact Mj h
theorem Am(hO:sD O){o:aR}{s s':St}(h:iX O wl aa o s=some s'):eJ wl aa s.st s'.st:=by
 unfold iX at h;split at h;cases h;cases h;exact eJ.refl _ _ _;split at h;cases h;rename_i ha;have hk:=PN hO ha;split at h;cases h;exact hk;split at h;cases h;exact hk;cases h
theorem y5(hO:sD O):∀{l:List aR}{s s':St},gD O wl aa l s=some s'->eJ wl aa s.st s'.st
 |[],s,s',h=>by simp only[gD,bh]at h;subst h;exact eJ.refl _ _ _|o::l,s,s',h=>by
  simp only[gD]at h;split at h;rename_i s1 h1;exact(Am hO h1).trans (y5 hO h);cases h
theorem y6(hO:sD O):∀{l:List aR}{s s':St}{gQ:List St},eG O wl aa l s=some (s',gQ)->eJ wl aa s.st s'.st
 |[],s,s',gQ,h=>by simp only[eG,bh,cF]at h;obtain⟨rfl,_⟩:=h;exact eJ.refl _ _ _|o::l,s,s',gQ,h=>by
  simp only[eG]at h;split at h;rename_i s1 h1;split at h;rename_i h2;cases h;exact(Am hO h1).trans (y6 hO h2);cases h;cases h
theorem Ej(hO:sD O){l:List aR}{cw:List (Nat×Nat)}{s s':St}(h:iw O wl aa l cw s=some s'):eJ wl aa s.st s'.st:=by
 unfold iw at h;split at h;cases h;rename_i hr;split at h;cases h;exact y6 hO hr;cases h
variable{a':AV}{args:List AV}
theorem Gp{a:AV}(h:kS wl a st=some (a',st')):eJ wl aa st st':=by
 unfold kS at h;split at h;split at h;rename_i ja;split at h;rename_i hc;simp only[aac,aK]at hc;cases h;exact eJ.set ja hc.2 λl _ _ _=>by simp[dA.under]
 cases h;cases h;split at h;cases h;exact eJ.refl _ _ _;cases h
theorem y7:∀{l l':List AV}{st st':ay},jL wl l st=some (l',st')->eJ wl aa st st'
 |[],l',st,st',h=>by simp only[jL,bh,cF]at h;obtain⟨_,rfl⟩:=h;exact eJ.refl _ _ _|a::l,l',st,st',h=>by
  simp only[jL]at h;split at h;rename_i h1;split at h;rename_i h2;cases h;exact(Gp h1).trans (y7 h2);cases h;cases h
theorem xA:∀{l l':List (List AV)}{st st':ay},jk wl l st=some (l',st')->eJ wl aa st st'
 |[],l',st,st',h=>by simp only[jk,bh,cF]at h;obtain⟨_,rfl⟩:=h;exact eJ.refl _ _ _|a::l,l',st,st',h=>by
  simp only[jk]at h;split at h;rename_i h1;split at h;rename_i h2;cases h;exact(y7 h1).trans (xA h2);cases h;cases h
theorem uk{a:AV}(h:iy wl a st=some (a',st')):eJ wl aa st st':=by
 unfold iy at h;split at h;split at h;rename_i ja;split at h;rename_i hc;simp only[aac,aK]at hc;split at h;rename_i hl;cases h;exact(eJ.set (aa:=aa) ja hc.2 λl _ _ _=>by simp[dA.under]).trans (xA hl);cases h;cases h;cases h;cases h;exact eJ.refl _ _ _;cases h
theorem Gq{a:AV}(h:pS wl a st=some (a',st')):eJ wl aa st st':=by
 unfold pS at h;split at h;cases h;exact eJ.push _ _ _ _;exact uk h
theorem kD(hO:sD O){rs:List iW}:∀{c:bN}{s:St}{x:Ex}{s':St},jf O wl aa rs c s=some (x,s')->eJ wl aa s.st s'.st
 |.skip,s,x,s',h=>by simp only[jf,bh,cF]at h;obtain⟨_,rfl⟩:=h;exact eJ.refl _ _ _|.region dO draw dD,s,x,s',h=>by
  simp only[jf]at h;split at h;rename_i s1 h1;cases h;show eJ wl aa s.st s1.st;cases draw with
  |none=>exact y5 hO (by simpa only using h1)|some cw=>exact Ej hO (by simpa only using h1)
  cases h
 |.seq a b,s,x,s',h=>by
  simp only[jf]at h;split at h;rename_i s1 h1;exact(kD hO h1).trans (kD hO h);exact kD hO h
 |.cond c ca a cb b,s,x,s',h=>by
  simp only[jf]at h;split at h;have:=kD (c:=a) hO h;exact this;have:=kD (c:=b) hO h;exact this;cases h
 |.block id c,s,x,s',h=>by
  simp only[jf]at h;split at h;rename_i h1;split at h<;>(cases h;exact kD hO h1);exact kD hO h
 |.loop c,s,x,s',h=>by simp only[jf]at h;exact hO.loop _ _ _ _ _ _ _ h|.exit id,s,x,s',h=>by simp only[jf,bh,cF]at h;obtain⟨_,rfl⟩:=h;exact eJ.refl _ _ _|.ret,s,x,s',h=>by
  simp only[jf]at h;split at h;cases h;exact eJ.refl _ _ _;cases h
 |.Pn t,s,x,s',h=>by
  simp only[jf]at h;split at h;split at h;rename_i hf;cases h;exact uk hf;cases h;cases h
 |.DJ j k,s,x,s',h=>by
  simp only[jf]at h;split at h;split at h;split at h;rename_i hf;cases h;exact uk hf;cases h;cases h;cases h
 |.uE t off,s,x,s',h=>by
  obtain⟨_,id,cQ,i,k,v,v',qQ,qb,_,_,g3,g4,rfl⟩:=DO h;exact(Gq g3).trans (vG g4)
theorem Mk:∀m:Mode,m=.pure\/m=.jY\/m=.yK:=by
 intro m;cases m<;>simp
theorem C0(hO:sD O){sf:aL}{v:AV}(h:eM O wl aa sf args st=some (v,st')):eJ wl aa st st':=by
 unfold eM at h;split at h;split at h;rename_i x s hs;split at h;rename_i u hu;have hk:=kD hO hs;simp only[qc]at hk;rcases Mk sf.mode with hm|hm|hm;rw[hm]at h;simp only[Mode.nu]at h;split at h;cases h;exact eJ.refl _ _ _;cases h;rw[hm]at h hk;simp only[Mode.nu]at h;simp only[Mode.wL,Mode.oW]at hk;split at h;cases h;refine⟨by rw[List.length_take];have:=hk.len;omega,λid h1 h2=>?_,λl h1 h2 h3 id ob h4 h5=>?_⟩;rw[acv,ah h2];exact hk.low id h1 h2;rw[acv]at h5;split at h5;exact hk.aa l h2 h2 h3 id ob h4 h5;cases h5;cases h;rw[hm]at h hk;simp only[Mode.nu]at h;cases h;exact hk;cases h;cases h;cases h
theorem Ek(hO:sD O){sf:aL}{v:AV}(h:fM O wl aa sf args st=some (v,st')):eJ wl aa st st':=by
 unfold fM at h;split at h;simp only[acs]at h;obtain⟨x,_,hx⟩:=h;cases hx;exact eJ.refl _ _ _;exact C0 hO h
theorem GX(S:Nat->Option aL):∀n,sD (qC S n)
 |0=>⟨λ_ _ _ _ _ _ _ h=>by simp[qC]at h,λ_ _ _ _ _ _ _ h=>by simp[qC]at h⟩
 |n+1=>by
  have ih:=GX S n;refine⟨λwl aa f args st v st' h=>?_,λwl aa rs c s x s' h=>?_⟩;simp only[qC]at h;split at h;exact Ek ih h;cases h;simp only[qC]at h;split at h;rename_i s1 h1;exact(kD ih h1).trans (ih.loop _ _ _ _ _ _ _ h);exact kD ih h
end Ax
namespace Ax
open Go
variable {P:Program}{w w':World}{G G':bD}{β iM:List nD}
abbrev mm(a:Act)(t:Nat):Value:=a.tmps.getD t undef
structure FS (w:World)(G:bD)(β:List nD)(a:Act)(η:Nat->fL)(bx:bG)(st:ay)(n:Nat):Prop where
 Ka:a.defers=[]
 size:n<=a.tmps.size
 vm:∀t,lf w G β (η t) (mm a t)
 lt:∀t,n<=t->η t=.none
 inv:j8 w G st
 box:kM w G β bx
def wE(β:List nD)(a:Act)(η:Nat->fL)(bx:bG)(st:ay)(G:bD)(n:Nat)(b:Nat):Nat:=
 iK (λt=>dg b (η t) (mm a t)) n+ir b β bx+cR b G.ls st
structure Mv (w:World)(G:bD)(A:Nat->Nat)(w':World)(G':bD)(A':Nat->Nat):Prop where
 jT:tG w G w' G'
 gT:∀b,b<w.heap.size->A' b<=A b
 one:∀b,A' b<=1
 w8:∀b,b<w.heap.size->A b=0->fG w G w' G' b
 size:w.heap.size<=w'.heap.size
 os:w'.os=w.os
 out:w'.output=w.output
theorem Mv.refl{A:Nat->Nat}(h:∀b,A b<=1):Mv w G A w G A:=⟨tG.refl w G,λ_ _=>aau _,h,λ_ _ _=>⟨rfl,rfl⟩,aau _,rfl,rfl⟩
theorem fG.trans{w1 w2 w3:World}{G1 G2 G3:bD}{b:Nat}(h:fG w1 G1 w2 G2 b)(k:fG w2 G2 w3 G3 b):fG w1 G1 w3 G3 b:=⟨k.1.trans h.1,k.2.trans h.2⟩
theorem Mv.trans{A A' A'':Nat->Nat}{w'':World}{G'':bD}(h:Mv w G A w' G' A')(k:Mv w' G' A' w'' G'' A''):Mv w G A w'' G'' A'' where
 jT:=h.jT.trans k.jT
 gT:=λb hb=>ac9 (k.gT b (afr hb h.size)) (h.gT b hb)
 one:=k.one
 w8:=λb hb h0=>(h.w8 b hb h0).trans (k.w8 b (afr hb h.size) (by have:=h.gT b hb;omega))
 size:=ac9 h.size k.size
 os:=k.os.trans h.os
 out:=k.out.trans h.out
theorem Mv.Sc{A A' B B':Nat->Nat}(h:Mv w G A w' G' A')(hB:∀b,A b<=B b)(hc:∀b,b<w.heap.size->B' b<=B b)(ho:∀b,B' b<=1):Mv w G B w' G' B':=
 ⟨h.jT,hc,ho,λb hb h0=>h.w8 b hb (by have:=hB b;omega),h.size,h.os,h.out⟩
variable{v:Value}
theorem GY{e:fL}{b:Nat}(h:lf w G β e v)(hb:0<dg b e v):b<w.heap.size:=by
 cases e with
 |none=>simp[dg]at hb|fp j k=>simp[dg]at hb|val a=>exact bF.held h hb
section
variable {a:Act}{η:Nat->fL}{bx:bG}{st:ay}{n:Nat}
theorem FS.held(h:FS w G β a η bx st n){b:Nat}(hb:0<wE β a η bx st G n b):b<w.heap.size:=by
 unfold wE at hb;by_cases h1:0<ir b β bx;exact h.box.held h1;by_cases h2:0<cR b G.ls st;exact h.inv.held h2;have h3:0<iK (λt=>dg b (η t) (mm a t)) n:=by omega
 have key:∀n,0<iK (λt=>dg b (η t) (mm a t)) n->∃t,0<dg b (η t) (mm a t):=by
  intro n;induction n with
  |zero=>intro h;simp[iK]at h|succ n ih=>
   intro h;simp only[iK]at h;by_cases h0:0<dg b (η n) (mm a n);exact⟨n,h0⟩;exact ih (by omega)
 obtain⟨t,ht⟩:=key n h3;exact GY (h.vm t) ht
end
theorem lf.bx{e:fL}{nb:Option Nat}(h:lf w G β e v)(hb:fW nb β iM)(hn:∀j,nb=some j->e.qa j=true):lf w G iM e v:=by
 cases e with
 |none=>trivial|val a=>exact h|fp j k=>
  obtain⟨g,b,h1,h2,h3⟩:=h;obtain⟨g',a1,a2⟩:=hb j g h1;refine⟨g',b,a1,(a2 λe=>?_).trans h2,h3⟩;have:=hn j e;simp[fL.qa]at this
theorem lf.jT{e:fL}{v:Value}(h:lf w G β e v)(hs:tG w G w' G')(hu:∀b,0<dg b e v->fG w G w' G' b):lf w' G' β e v:=by
 cases e with
 |none=>trivial|val a=>exact bF.jT h hs hu|fp j k=>exact h
def Bp(η:Nat->fL):Src->fL
 |.tmp t true=>η t|.tmp t false=>(η t).ai|.const a=>.val a
theorem Dl(env:qz)(s:Src):Ju env s=Bp (dK env) s:=by
 cases s with
 |tmp t mv=>cases mv<;>rfl|const a=>rfl
def vH(η:Nat->fL):Option (Nat×Bool)->Option Bool
 |none=>some true|some (t,b)=>match η t with
  |.val (.bool c)=>some (c==b)|.val .undef=>some false|_=>none
theorem GZ(env:qz)(g:Option (Nat×Bool)):nt env g=vH (dK env) g:=by
 cases g with
 |none=>rfl|some x=>rfl
def kU(η:Nat->fL)(dst:Option Nat)(e:fL):Nat->fL:=λt=>if dst=some t then e else η t
def kj(η:Nat->fL)(l:List Nat):Nat->fL:=λt=>if t∈l then .none else η t
theorem N9{a:Act}{η:Nat->fL}(hr:∀t,lf w G β (η t) (mm a t)):∀{x:Operand}{s:Src},LY x s=true->lf w G β (Bp η s) (a.eval x)/\∀b,dg b (Bp η s) (a.eval x)<=qF (λt=>dg b (η t) (mm a t)) (q7 [s])
 |.tmp t,.tmp u true,h=>by
  simp only[LY,cz]at h;subst h;exact⟨hr t,λb=>by simp only[q7,qF,Bp];exact aau _⟩
 |.tmp t,.tmp u false,h=>by
  simp only[LY,cz]at h;subst h;exact⟨(hr t).ai,λb=>by simp only[Bp,GC];omega⟩
 |.const v,.const c,h=>by
  simp only[LY]at h;obtain⟨h1,h2,_⟩:=zm h w G;exact⟨h1,λb=>by simp only[Bp,dg,fV b c _ h2];omega⟩
 |.func f,.const (.fn g [] []),h=>by
  simp only[LY,aac,cz,aK]at h;obtain⟨rfl,hf⟩:=h;exact⟨bF.fn f [] [] #[] #[] rfl rfl ⟨rfl,rfl,hf⟩ (λi c v h=>by simp at h) (λi c v h=>by simp at h),λb=>by simp[Bp,dg,gT]⟩
theorem Sd(s:Src)(r:List Src):q7 (s::r)=q7 [s]++q7 r:=by
 cases s with
 |tmp t mv=>cases mv<;>rfl|const a=>rfl
theorem Co(f:Nat->Nat):∀(l m:List Nat),qF f (l++m)=qF f l+qF f m
 |[],m=>by simp[qF]|t::l,m=>by simp only[List.cons_append,qF,Co f l m];omega
theorem Kb{a:Act}{η:Nat->fL}(hr:∀t,lf w G β (η t) (mm a t)):∀{xs:List Operand}{ss:List Src},iq xs ss=true->lN w G β (ss.map (Bp η)) (xs.map a.eval)/\
  ∀b,mS b (ss.map (Bp η)) (xs.map a.eval)<=qF (λt=>dg b (η t) (mm a t)) (q7 ss)
 |[],[],_=>⟨trivial,λb=>by simp[mS]⟩
 |x::xs,s::ss,h=>by
  simp only[iq,aac]at h;obtain⟨h1,h2⟩:=N9 hr h.1;obtain⟨h3,h4⟩:=Kb hr h.2;refine⟨⟨h1,h3⟩,λb=>?_⟩;have e1:=h2 b;have e2:=h4 b;rw[Sd,Co];simp only[abn,mS];omega
 |[],_::_,h=>by simp[iq]at h|_::_,[],h=>by simp[iq]at h
def Ml(dO:Array Oper)(o:Oper)(so:aR):Bool:=
 match o.guard,so.guard with
 |none,none=>true|some (j,b),some (t,c)=>b==c&&(match dO[j]? with|some q=>q.dst==some t|none=>false)|_,_=>false
def xB:List Nat->Bool
 |[]=>true|t::l=>!(l.contains t)&&xB l
theorem yf:∀{l:List Nat},xB l=true->l.Nodup
 |[],_=>aiU|t::l,h=>by
  simp only[xB,aac,adu,aeC,decide_eq_false_iff_not]at h;exact aeU.2 ⟨h.1,yf h.2⟩
def G5(S:Nat->Option aL)(P:Program)(dO:Array Oper)(n:Nat)(o:Oper)(so:aR):Bool:=
 mOp S P o so&&Ml dO o so&&(match so.dst with|some d=>decide (d<n)|none=>true)&&xB (q7 so.args)
theorem PO{dO:Array Oper}{o:Oper}{so:aR}{a:Act}{η:Nat->fL}{n:Nat}(hg:Ml dO o so=true)(hr:∀t,lf w G β (η t) (mm a t))(bC:∀t,n<=t->η t=.none)(dM:n<=a.tmps.size){b:Bool}
  (hw:vH η so.guard=some b):Region.wanted o (yielded dO a.tmps)=b:=by
 unfold Ml at hg;split at hg;rename_i h1 h2;rw[h2]at hw;simp only[vH]at hw;cases hw;simp[Region.wanted,h1];rename_i j b1 t c h1 h2;simp only[aac,cz]at hg;obtain⟨rfl,hg⟩:=hg;split at hg;rename_i q hq;simp only[cz]at hg;rw[h2]at hw;simp only[vH]at hw;have hy:yielded dO a.tmps j=match a.tmps[t]? with|some (.bool b)=>some b|_=>none:=by
  simp only[yielded,hq,Option.bind_some,hg]
  rfl
 have Gr:=hr t;split at hw;rename_i c hc;cases hw;have ht:t<n:=by
  rcases agi t n with h|h;exact h;rw[bC t h]at hc;cases hc
 rw[hc]at Gr;have hv:=bF.kA Gr;have ht':a.tmps[t]?=some (.bool c):=by
  have hs:t<a.tmps.size:=by omega
  have:a.tmps.getD t undef=a.tmps[t]:=by simp[Array.getD,hs]
  rw[<-hv,mm,this];simp[hs]
 simp only[Region.wanted,h1,hy,ht']
 rfl
 rename_i hc;cases hw;have ht:t<n:=by
  rcases agi t n with h|h;exact h;rw[bC t h]at hc;cases hc
 rw[hc]at Gr;have hv:mm a t=undef:=by
  generalize mm a t=v at Gr;cases Gr;rfl
 have ht':a.tmps[t]?=some undef:=by
  have hs:t<a.tmps.size:=by omega
  have:a.tmps.getD t undef=a.tmps[t]:=by simp[Array.getD,hs]
  rw[<-hv,mm,this];simp[hs]
 simp only[Region.wanted,h1,hy,ht']
 rfl
 cases hw;cases hg;cases hg
end Ax
namespace Ax
open Go
variable {P:Program}{w w':World}{G G':bD}{β iM:List nD}
def PT (P : Program) (f : FuncId) : Prop := ∃ fn, P.funcs[f]? = some fn ∧ (fn.name == "runtime.NumGoroutine") = false ∧ fn.body.isNone = false
def kE(S:Nat->Option aL)(P:Program)(O:kL):Prop:=
 ∀wl aa f args st v st',O.call wl aa f args st=some (v,st')->∃sf,S f=some sf/\PT P sf.eP/\(f<100000->sf.eP=f)/\
  ∀(w:World) (G:bD) (vs:List Value),cU w G args vs->j8 w G st->(∀b,cL b args vs+cR b G.ls st<=1)->
   Calls P sf.eP vs.toArray w λe w'=>∃u G',e=.returned u/\bF w' G' v u/\j8 w' G' st'/\
    Mv w G (λb=>cL b args vs+cR b G.ls st) w' G' (λb=>gT b v u+cR b G'.ls st')
variable{f:FuncId}
theorem El(h:PT P f)(args:Array Value)(w:World):(callFunc f args).run P w=.ok (.enter f args) w:=by
 obtain⟨fn,h1,h2,h3⟩:=h;have h4 : ¬ fn.name = "runtime.NumGoroutine" := by simpa using h2
 have h5:¬fn.body=none:=by intro h;rw[h]at h3;simp at h3
 simp[callFunc,h1,h4,h5]
theorem G6{ρ:Operand->Value}{o:Oper}{c:Call}{vf vc:Array Value}{x:Operand}(ho:o.op=.call c)(hc:c.callee=.value x)(hx:ρ x=.func (.func f) vf vc)(hf:PT P f)(w:World) :
  (execOp ρ o).run P w=.ok (.enter f (vf++c.args.map ρ++vc)) w:=by
 simp only[execOp,ho,resolve,hc,hx,Deferred.ofValue,cg,Sem.run_pure,cZ,invoke,El hf]
theorem PU{l:List fL}{x:Nat×List AV}(h:nh .r7 l=some x):∃f first l7 l' vs,l=.val (.fn f first l7)::l'/\jP l'=some vs/\x=(f,first++vs++l7):=by
 unfold nh at h;split at h;rename_i heq;cases heq;rename_i f first l7 l' _
 split at h;rename_i vs CQ;cases h;exact⟨f,first,l7,l',vs,rfl,CQ,rfl⟩;cases h;cases h
section
variable {S:Nat->Option aL}{O:kL}{dO:Array Oper}{n:Nat}{o:Oper}{so:aR}{a:Act}{η:Nat->fL}{bx gX:bG}{st st':ay}{wl aa:Nat}{e:fL}
theorem FS.after(hs:FS w G β a η bx st n)(h1:∀b,wE β a η bx st G n b<=1){cO:Nat->Nat}(hcO:∀b,cO b=qF (λt=>dg b (η t) (mm a t)) (q7 so.args))(Mm:(q7 so.args).Nodup)(hd:∀d,so.dst=some d->d<n){v:Value}
  (hA:jZ w G β st bx cO w' G' iM st' gX e v)(hB:fW so.op.bV β iM)(NU:∀j,so.op.bV=some j->∀t,so.dst≠some t->t ∉ q7 so.args->(η t).qa j=true) :
  FS w' G' iM (a.put so.dst v) (kU (kj η (q7 so.args)) so.dst e) gX st' n/\Mv w G (wE β a η bx st G n) w' G' (wE iM (a.put so.dst v) (kU (kj η (q7 so.args)) so.dst e) gX st' G' n):=by
 have PJ:∀t,mm (a.put so.dst v) t=if so.dst=some t then (if t<n then v else mm (a.put so.dst v) t) else mm a t:=by
  intro t;cases BC:so.dst with
  |none=>simp[Act.put]|some d=>
   have hdn:=hd d BC;have hdt:d<a.tmps.size:=afr hdn hs.size;by_cases ht:d=t;subst ht;simp[Act.put,mm,hdn,hdt];simp[ht,Act.put,mm]
 have Se:∀t,t<n->so.dst=some t->mm (a.put so.dst v) t=v:=λt h1 h2=>by rw[PJ t,ah h2,ah h1]
 have Kc:∀t,so.dst≠some t->mm (a.put so.dst v) t=mm a t:=λt h=>by rw[PJ t,U h]
 have En:∀b,cO b+iK (λt=>if t∈q7 so.args then 0 else dg b (η t) (mm a t)) n<=iK (λt=>dg b (η t) (mm a t)) n:=λb=>by
  rw[hcO];exact Ak (λt ht=>by rw[hs.lt t ht];rfl) _ Mm
 have lU:∀b t,so.dst≠some t->t ∉ q7 so.args->0<dg b (η t) (mm a t)->cO b+ir b β bx+cR b G.ls st=0:=by
  intro b t h2 h3 h4;have htn:t<n:=by
   rcases agi t n with h|h;exact h;rw[hs.lt t h]at h4;simp[dg]at h4
  have h5:=xz (f:=λt=>if t∈q7 so.args then 0 else dg b (η t) (mm a t)) htn;simp only[U h3]at h5;have h6:=En b;have h7:=h1 b;unfold wE at h7;omega
 have fm:∀t,so.dst≠some t->t ∉ q7 so.args->lf w' G' iM (η t) (mm a t):=λt h2 h3=>
  ((hs.vm t).jT hA.jT λb hb=>hA.w8 b (lU b t h2 h3 hb) (GY (hs.vm t) hb)).bx hB λj hj=>NU j hj t h2 h3
 have hFS:FS w' G' iM (a.put so.dst v) (kU (kj η (q7 so.args)) so.dst e) gX st' n:=by
  refine⟨?_,?_,λt=>?_,λt ht=>?_,hA.inv,hA.box⟩;cases BC:so.dst<;>simp[Act.put,hs.Ka];cases BC:so.dst<;>simp[Act.put,hs.size];simp only[kU,kj];by_cases h2:so.dst=some t;rw[ah h2,Se t (hd t h2) h2];exact hA.vm;rw[U h2,Kc t h2];by_cases h3:t∈q7 so.args;rw[ah h3];trivial;rw[U h3];exact fm t h2 h3;simp only[kU,kj];rw[U (λh=>by have:=hd t h;omega)];rw[hs.lt t ht];simp
 have L5:∀b,wE iM (a.put so.dst v) (kU (kj η (q7 so.args)) so.dst e) gX st' G' n b<=wE β a η bx st G n b+(if w.heap.size<=b then 1 else 0):=by
  intro b;have h2:=hA.gT b;have h3:=En b;have h4:iK (λt=>dg b (kU (kj η (q7 so.args)) so.dst e t) (mm (a.put so.dst v) t)) n<=iK (λt=>if t∈q7 so.args then 0 else dg b (η t) (mm a t)) n+dg b e v:=by
   cases BC:so.dst with
   |none=>
    rw[BC]at Kc;have:iK (λt=>dg b (kU (kj η (q7 so.args)) none e t) (mm (a.put none v) t)) n=iK (λt=>if t∈q7 so.args then 0 else dg b (η t) (mm a t)) n:=o7 λt _=>by
     rw[Kc t (by simp)];simp only[kU,kj];rw[U (by simp)];split<;>rfl
    rw[this];omega
   |some d=>
    rw[BC]at Kc Se;have h5:=uP (f:=λt=>dg b (kU (kj η (q7 so.args)) (some d) e t) (mm (a.put (some d) v) t)) (g:=λt=>if t∈q7 so.args then 0 else dg b (η t) (mm a t)) (d:=d) (hd d BC) λt ht=>by
     rw[Kc t (by simpa using λh=>ht h.symm)];simp only[kU,kj];rw[U (by simpa using λh=>ht h.symm)];split<;>rfl
    have h6:dg b (kU (kj η (q7 so.args)) (some d) e d) (mm (a.put (some d) v) d)=dg b e v:=by
     rw[Se d (hd d BC) rfl];simp[kU]
    rw[h6]at h5;omega
  unfold wE;omega
 refine⟨hFS,hA.jT,λb hb=>?_,λb=>?_,λb hb h0=>hA.w8 b ?_ hb,hA.size,hA.os,hA.out⟩;have:=L5 b;rw[U (by omega)]at this;exact this;have h2:=L5 b;by_cases hb:w.heap.size<=b;rw[ah hb]at h2;have h3:wE β a η bx st G n b=0:=by
  rcases ae3 (wE β a η bx st G n b) with h|h;exact h;have:=hs.held h;omega
 omega;rw[U hb]at h2;have:=h1 b;omega;have h2:=En b;unfold wE at h0;omega
theorem Sf{v:AV}{u:Value}{args:List AV}{vs:List Value}{cO:Nat->Nat}(hB:kM w G β bx)(hX:∀b,cO b+ir b β bx+cR b G.ls st<=1)(hc:∀b,cL b args vs<=cO b)(hr:bF w' G' v u)(hI':j8 w' G' st')
  (hM:Mv w G (λb=>cL b args vs+cR b G.ls st) w' G' (λb=>gT b v u+cR b G'.ls st')):jZ w G β st bx cO w' G' β st' bx (.val v) u where
 jT:=hM.jT
 inv:=hI'
 box:=nN hB hM.jT λb hb=>hM.w8 b (hB.held hb) (by have h1:=hX b;have h2:=hc b;omega)
 vm:=hr
 gT:=λb=>by
  simp only[dg];by_cases hb:w.heap.size<=b;rw[ah hb];have h1:=hM.one b;have h2:ir b β bx=0:=by
   rcases ae3 (ir b β bx) with h|h;exact h;have:=hB.held h;omega
  omega;rw[U hb];have h1:=hM.gT b (by omega);have h2:=hc b;omega
 w8:=λb h0 hb=>hM.w8 b hb (by have:=hc b;omega)
 size:=hM.size
 os:=hM.os
 out:=hM.out
theorem Oa{Q:Exit->Act->World->Prop}{i:Nat}(hi:dO[i]?=some o)(hm:G5 S P dO n o so=true)(hO:kE S P O)(hs:FS w G β a η bx st n)(h1:∀b,wE β a η bx st G n b<=1){K:Act->World->Prop}{b:Bool}
  (hw:vH η so.guard=some b)
  (iI:b=false->∀(a':Act),FS w G β a' (kU η so.dst (.val .undef)) bx st n->Mv w G (wE β a η bx st G n) w G (wE β a' (kU η so.dst (.val .undef)) bx st G n)->K a' w)
  (Sh:b=true->∃e st' gX,ud O wl aa so.op (so.args.map (Bp η)) st bx=some (e,st',gX)/\(∀j,so.op.bV=some j->∀t,so.dst≠some t->t ∉ q7 so.args->(η t).qa j=true)/\
   ∀(w':World) (G':bD) (iM:List nD) (a':Act),FS w' G' iM a' (kU (kj η (q7 so.args)) so.dst e) gX st' n->Mv w G (wE β a η bx st G n) w' G' (wE iM a' (kU (kj η (q7 so.args)) so.dst e) gX st' G' n)->K a' w') :
  wpOp P dO Q i K a w:=by
 unfold G5 at hm;simp only[aac]at hm;obtain⟨⟨⟨hm,hg⟩,hd0⟩,Mm⟩:=hm;have hd:∀d,so.dst=some d->d<n:=λd hd=>by rw[hd]at hd0;simpa using hd0
 have Mm:=yf Mm;have BC:o.dst=so.dst:=by
  unfold mOp at hm;rw[aac]at hm;have:=hm.1;split at this;rename_i h1 h2;simp only[cz]at this;rw[h1,h2,this];rename_i h1 h2;rw[h1,h2];cases this
 have ae9:=PO hg hs.vm hs.lt hs.size hw;unfold wpOp;rw[hi];simp only[ae9];cases b with
 |false=>
  simp only[aan,aS];rw[BC];have hA:jZ w G β st bx (λb=>qF (λt=>dg b (η t) (mm a t)) (q7 ([]:List Src))) w G β st bx (.val .undef) undef:=jZ.nM hs.inv hs.box .undef λb=>by simp[dg,gT]
  obtain⟨f1,f2⟩:=FS.after (so:=⟨so.dst,.move,[],none⟩) hs h1 (λb=>rfl) aiU hd hA (fW.refl _ _) (λj hj=>by simp[gq.bV]at hj);have hk:kj η (q7 ([]:List Src))=η:=by funext t;simp[kj,q7]
  simp only[hk]at f1 f2;exact iI rfl _ f1 f2
 |true=>
  obtain⟨e,st',gX,ha,NU,hK⟩:=Sh rfl;simp only[aQ];refine .inl ?_;have hX:∀b,qF (λt=>dg b (η t) (mm a t)) (q7 so.args)+ir b β bx+cR b G.ls st<=1:=λb=>by
   have h2:=Ak (f:=λt=>dg b (η t) (mm a t)) (n:=n) (λt ht=>by rw[hs.lt t ht];rfl) _ Mm;have h3:=h1 b;unfold wE at h3;omega
  have hA:∀xs,iq xs so.args=true->lN w G β (so.args.map (Bp η)) (xs.map a.eval)/\∀b,mS b (so.args.map (Bp η)) (xs.map a.eval)<=qF (λt=>dg b (η t) (mm a t)) (q7 so.args):=λxs hxs=>Kb hs.vm hxs;have plain:bn wl aa so.op (so.args.map (Bp η)) st bx=some (e,st',gX)->o.wp P a w K Q:=by
   intro ha;obtain⟨nx,v,w',G',iM,e1,e2,e3,e4⟩:=aax hm hs.inv hs.box hX hA ha;obtain⟨f1,f2⟩:=FS.after hs h1 (λb=>rfl) Mm hd e3 e4 NU;have hk:=hK w' G' iM _ f1 f2;unfold Oper.wp;rw[e1];rcases e2 with rfl|⟨rfl,rfl⟩;rw[Oper.upon_value,BC];exact hk;rw[Oper.upon_skip,BC];exact hk
  have call:∀(f i:Nat) (vs:List AV) (us:List Value) (G0:Prop),hJ O wl aa (some (i,vs)) st bx=some (e,st',gX)->cU w G vs us->(∀b,cL b vs us<=qF (λt=>dg b (η t) (mm a t)) (q7 so.args))->so.op.bV=none->
    (∀sf,S i=some sf->(i<100000->sf.eP=i)->sf.eP=f)->(PT P f->(execOp a.eval o).run P w=.ok (.enter f us.toArray) w)->o.wp P a w K Q:=by
   intro f i vs us _ hc fm NT Si hsf hex;unfold hJ at hc;simp only at hc;split at hc;rename_i v qQ cK;cases hc;obtain⟨sf,s1,s2,s3,s4⟩:=hO _ _ _ _ _ _ _ cK;have hf:=hsf sf s1 s3;rw[hf]at s2 s4;have aaA:=s4 w G us fm hs.inv λb=>by have h2:=hX b;have h3:=NT b;omega
   unfold Oper.wp;rw[hex s2,Oper.upon_enter];refine aaA.mono λen w' hen=>?_;obtain⟨u,G',rfl,r1,r2,r3⟩:=hen;have hA1:=Sf hs.box hX NT r1 r2 r3;obtain⟨f1,f2⟩:=FS.after hs h1 (λb=>rfl) Mm hd hA1 (fW.refl _ _) NU;have hk:=hK w' G' β _ f1 f2;simp only;rw[BC];exact hk;cases hc
  unfold ud at ha;split at ha;rename_i i Q7;unfold mOp at hm;rw[aac]at hm;replace hm:=hm.2;rw[Q7]at hm;simp only[nh]at ha;cases CQ:jP (so.args.map (Bp η)) with
  |none=>rw[CQ]at ha;simp[hJ]at ha|some vs=>
   rw[CQ]at ha;split at hm<;>first|(rename_i h1 h2;cases h2;done)|(rename_i h2;cases h2;done)|(rename_i h1 h2;cases h1;done)|skip
   rename_i c i' hco heq;cases heq;split at hm;rename_i f o6;simp only[aac]at hm;obtain⟨hms,hmf⟩:=hm;obtain⟨hR,hC⟩:=hA _ hms;obtain⟨r1,r2⟩:=hR.PL CQ;refine call f i vs _ True ha r1 (λb=>by rw[<-r2];exact hC b) (by rw[Q7];rfl) (λsf h1 h2=>?_) λhF=>?_;rw[h1]at hmf;simpa using hmf;have:=G6 (ρ:=a.eval) hco o6 (show a.eval (.func f)=.func (.func f) #[] #[] from rfl) hF w;rw[this];congr 2;apply ahX;simp;cases hm;cases hm
  ·rename_i Q7;unfold mOp at hm;rw[aac]at hm;replace hm:=hm.2;rw[Q7]at hm;split at hm<;>first|(rename_i h1 h2;cases h2;done)|(rename_i h2;cases h2;done)|(rename_i h1 h2;cases h1;done)|skip
   ·rename_i c hco heq;split at hm
    ·rename_i x o6;obtain⟨hR,hC⟩:=hA _ hm;cases F5:nh .r7 (so.args.map (Bp η)) with
     |none=>rw[F5]at ha;simp[hJ]at ha|some y=>
      rw[F5]at ha;obtain⟨f,first,l7,l,vs,N5,CQ,rfl⟩:=PU F5;rw[N5]at hR hC;simp only[abn]at hR hC;obtain⟨hR0,Wu⟩:=hR;obtain⟨r1,r2⟩:=lN.PL Wu CQ;simp only[lf]at hR0;generalize JL:a.eval x=xv at hR0 hC;cases hR0 with
      |fn _ _ _ vf vc hl hm' hn hh JW=>
      refine call f f (first++vs++l7) (vf.toList++c.args.toList.map a.eval++vc.toList) True ha ((cU.append ⟨by simpa using hl,λi c v e1 e2=>hh i c v e1 (by simpa using e2)⟩ r1).append ⟨by simpa using hm',λi c v e1 e2=>JW i c v e1 (by simpa using e2)⟩) (λb=>?_) (by rw[Q7];rfl) (λsf h1 h2=>h2 hn.2.2) λhF=>?_;rw[gZ b _ _ _ _ (by simp only[List.length_append,hl,r1.1];simp),gZ b _ _ _ _ (by simpa using hl),eS b _ _ hn.1,eS b _ _ hn.2.1];have h2:=hC b;have h3:=r2 b;simp only[mS]at h2;omega;have:=G6 (ρ:=a.eval) hco o6 JL hF w;rw[this];congr 2;apply ahX;simp
    cases hm
   cases hm
  exact plain ha
end
end Ax
namespace Ax
open Go
variable {P:Program}{w w':World}{G G':bD}{β iM:List nD}
variable {S:Nat->Option aL}{O:kL}{a:Act}{bx:bG}{st:ay}{n wl aa:Nat}{s s':St}{η:Nat->fL}
abbrev FT(w:World)(G:bD)(β:List nD)(a:Act)(s:St)(n:Nat):Prop:=FS w G β a (dK s.env) s.bx s.st n
abbrev iO(β:List nD)(a:Act)(s:St)(G:bD)(n:Nat):Nat->Nat:=wE β a (dK s.env) s.bx s.st G n
variable{Q8:Nat->fL}
theorem FS.congr(h:FS w G β a η bx st n)(he:∀t,Q8 t=η t):FS w G β a Q8 bx st n:=by
 have:Q8=η:=funext he;rw[this];exact h
theorem FS.Sj(h:FS w G β a η bx st n)(he:∀t,Q8 t=η t\/Q8 t=.none):FS w G β a Q8 bx st n/\∀b,wE β a Q8 bx st G n b<=wE β a η bx st G n b:=by
 refine⟨⟨h.Ka,h.size,λt=>?_,λt ht=>?_,h.inv,h.box⟩,λb=>?_⟩;rcases he t with e|e;rw[e];exact h.vm t;rw[e];trivial;rcases he t with e|e;rw[e];exact h.lt t ht;exact e;unfold wE;have:=Dj (f:=λt=>dg b (Q8 t) (mm a t)) (g:=λt=>dg b (η t) (mm a t)) (n:=n) λt _=>by
  rcases he t with e|e;rw[e];exact aau _;rw[e];simp[dg]
 omega
theorem kQ(env:qz)(dst:Option Nat)(e:fL):dK (yL env dst e)=kU (dK env) dst e:=by
 funext t;cases dst with
 |none=>simp[yL,kU]|some d=>
  simp only[yL,kU,xy,bh];by_cases h:t=d;rw[ah h,ah h.symm];rw[U h,U λe=>h e.symm]
theorem vI(env:qz)(ss:List Src):dK (ss.foldl nc env)=kj (dK env) (q7 ss):=by
 funext t;rw[uN]
 rfl
theorem PW{dO:Array Oper}{o:Oper}{so:aR}{Q:Exit->Act->World->Prop}{i:Nat}(hi:dO[i]?=some o)(hm:G5 S P dO n o so=true)(hO:kE S P O)(hs:FT w G β a s n)(h1:∀b,iO β a s G n b<=1){K:Act->World->Prop}
  (he:iX O wl aa so s=some s')(hK:∀(w':World)(G':bD)(iM:List nD)(a':Act),FT w' G' iM a' s' n->Mv w G (iO β a s G n) w' G' (iO iM a' s' G' n)->K a' w'):wpOp P dO Q i K a w:=by
 unfold iX at he;rw[GZ]at he;split at he;cases he;rename_i hw;cases he;refine Oa (wl:=wl) (aa:=aa) hi hm hO hs h1 hw (λ_ a' f1 f2=>?_) (λh=>by cases h);refine hK w G β a' ?_ ?_;rw[FT,kQ];exact f1;rw[show iO β a' { s with env:=yL s.env so.dst (.val .undef) } G n=wE β a' (kU (dK s.env) so.dst (.val .undef)) s.bx s.st G n by rw[iO,kQ]];exact f2;rename_i hw;have yW:so.args.map (Ju s.env)=so.args.map (Bp (dK s.env)):=List.map_congr_left λx _=>Dl s.env x;rw[yW]at he;split at he;cases he;rename_i e st' gX ha;have nu:∀(w':World) (G':bD) (iM:List nD) (a':Act),s'=⟨yL (so.args.foldl nc s.env) so.dst e,gX,st'⟩->FS w' G' iM a' (kU (kj (dK s.env) (q7 so.args)) so.dst e) gX st' n->
   Mv w G (wE β a (dK s.env) s.bx s.st G n) w' G' (wE iM a' (kU (kj (dK s.env) (q7 so.args)) so.dst e) gX st' G' n)->K a' w':=by
  intro w' G' iM a' Ma f1 f2;subst Ma;refine hK w' G' iM a' ?_ ?_;rw[FT,kQ,vI];exact f1;rw[show iO iM a' ⟨yL (so.args.foldl nc s.env) so.dst e,gX,st'⟩ G' n=wE iM a' (kU (kj (dK s.env) (q7 so.args)) so.dst e) gX st' G' n by rw[iO,kQ,vI]];exact f2
 split at he;rename_i Si;cases he;exact Oa hi hm hO hs h1 hw (λh=>by cases h) λ_=>⟨e,st',gX,ha,(λj hj=>by rw[Si]at hj;cases hj),λw' G' iM a' f1 f2=>nu w' G' iM a' rfl f1 f2⟩;rename_i j Si;split at he;rename_i NU;cases he;refine Oa hi hm hO hs h1 hw (λh=>by cases h) λ_=>⟨e,st',gX,ha,λj' hj t Gn ht2=>?_,λw' G' iM a' f1 f2=>nu w' G' iM a' rfl f1 f2⟩;rw[Si]at hj;cases hj;have:=Eg NU t;rw[kQ,vI]at this;simp only[kU,kj]at this;rw[U Gn,U ht2]at this;exact this;cases he
def sE(S:Nat->Option aL)(P:Program)(dO:Array Oper)(n:Nat):List Oper->List aR->Bool
 |[],[]=>true|o::l,so::m=>G5 S P dO n o so&&sE S P dO n l m|_,_=>false
theorem Eo{dO:Array Oper}{Q:Exit->Act->World->Prop}(hO:kE S P O):∀(l:List Oper)(m:List aR)(k:Nat)(w:World)(G:bD)(β:List nD)(a:Act)(s:St),dO.toList.drop k=l->sE S P dO n l m=true->
  FT w G β a s n->(∀b,iO β a s G n b<=1)->gD O wl aa m s=some s'->(∀(w':World) (G':bD) (iM:List nD) (a':Act),FT w' G' iM a' s' n->Mv w G (iO β a s G n) w' G' (iO iM a' s' G' n)->Q .normal a' w')->
  wpOps P dO Q (List.range' k l.length) a w
 |[],[],k,w,G,β,a,s,hl,hm,hs,h1,he,hQ=>by
  simp only[gD,bh]at he;subst he;simp only[List.length_nil,List.range'_zero,wpOps];exact hQ w G β a hs (Mv.refl h1)
 |o::l,so::m,k,w,G,β,a,s,hl,hm,hs,h1,he,hQ=>by
  simp only[sE,aac]at hm;simp only[gD]at he;split at he;rename_i s1 yQ;simp only[abr,List.range'_succ];rw[wpOps_cons];have hi:dO[k]?=some o:=by
   have:(dO.toList.drop k)[0]?=some o:=by rw[hl];rfl
   rw[List.getElem?_drop]at this;simpa using this
  refine PW hi hm.1 hO hs h1 yQ λw1 G1 β1 a1 f1 f2=>?_;refine Eo hO l m (k+1) w1 G1 β1 a1 s1 ?_ hm.2 f1 f2.one he λw2 G2 Sk a2 g1 g2=>hQ w2 G2 Sk a2 g1 (f2.trans g2);rw[show k+1=k+1 from rfl,<-List.drop_drop,hl]
  rfl
  cases he
 |[],_::_,_,_,_,_,_,_,_,hm,_,_,_,_=>by simp[sE]at hm|_::_,[],_,_,_,_,_,_,_,hm,_,_,_,_=>by simp[sE]at hm
def zw(P:Program):List ResultVar->List iW->Bool
 |[],[]=>true|.tmp t::l,.tmp u _::m=>t==u&&zw P l m|.cell t ty::l,.box u _ n agg::m=>t==u&&di P ty n&&nY P ty==some agg&&(agg||n==1)&&zw P l m|.cell t ty::l,.cell u n agg::m=>t==u&&di P ty n&&nY P ty==some agg&&(agg||n==1)&&zw P l m|_,_=>false
def o9:List iW->List Nat
 |[]=>[]
 |.tmp t true::l=>t::o9 l|_::l=>o9 l
def Ep:List iW->List Nat
 |[]=>[]
 |.box _ j _ _::l=>j::Ep l|_::l=>Ep l
end Ax
namespace Ax
open Go
variable {P:Program}{w w':World}{G G':bD}{β iM:List nD}
variable {a:Act}{bx:bG}{st:ay}{n:Nat}{s:St}
def Er(tmps:Array Value):ResultVar->Sem Value
 |.tmp t=>pure (tmps.getD t undef)|.cell c t=>do loadVar t (<-asAddr (tmps.getD c undef))
def PX(us:List Value):Value:=match us with | [u]=>u|_=>.tuple us.toArray
theorem Ke{fn:Func}{tmps:Array Value}{us:List Value}(h:(fn.results.toList.mapM (Er tmps)).run P w=.ok us w):(results fn tmps).run P w=.ok (PX us) w:=by
 have h2:(fn.results.mapM (Er tmps)).run P w=.ok us.toArray w:=by
  have e:fn.results.mapM (Er tmps)=List.toArray <$> fn.results.toList.mapM (Er tmps):=by
   rw[Array.mapM_eq_mapM_toList]
  rw[e,map_eq_pure_bind,cg,h]
  rfl
 have e3:results fn tmps=(fn.results.mapM (Er tmps)).bind λvs=>Pure.pure (if h:vs.size=1 then vs[0] else .tuple vs):=rfl;rw[e3];show Sem.run P (fn.results.mapM (Er tmps) >>= λvs=>Pure.pure (if h:vs.size=1 then vs[0] else .tuple vs)) w=_;rw[cg,h2];simp only[cZ,Sem.run_pure];congr 1;match us with
 |[]=>simp[PX]|[u]=>simp[PX]|_::_::_=>simp[PX]
def uQ(b:Nat)(β:List nD)(bx:bG)(j:Nat):Nat:=match β[j]?,bx[j]? with|some g,some r=>cL b r g.vals|_,_=>0
theorem Kf(b:Nat):∀(β:List nD)(bx:bG),iK (uQ b β bx) bx.length<=ir b β bx
 |β,[]=>by simp[iK]|[],r::bx=>by
  have:iK (uQ b [] (r::bx)) (r::bx).length=iK (λ_=>0) (r::bx).length:=o7 λt _=>by simp[uQ]
  rw[this,GR];omega
 |g::β,r::bx=>by
  have ih:=Kf b β bx;have shift:∀m,iK (uQ b (g::β) (r::bx)) (m+1)=uQ b (g::β) (r::bx) 0+iK (uQ b β bx) m:=by
   intro m;induction m with
   |zero=>simp[iK]|succ m ih=>
    have:iK (uQ b (g::β) (r::bx)) (m+1+1)=iK (uQ b (g::β) (r::bx)) (m+1)+uQ b (g::β) (r::bx) (m+1):=rfl;rw[this,ih];have e:uQ b (g::β) (r::bx) (m+1)=uQ b β bx m:=(by simp[uQ]);rw[e];simp only[iK];omega
  simp only[abr];rw[shift];have e:uQ b (g::β) (r::bx) 0=cL b r g.vals:=by simp[uQ]
  rw[e];simp only[ir];omega
variable{xs:List Value}
theorem cU.cons{a:AV}{as:List AV}{x:Value}(h:bF w G a x)(k:cU w G as xs):cU w G (a::as) (x::xs):=
 ⟨by simp[k.1],λi c v e1 e2=>by
  cases i with
  |zero=>simp at e1 e2;subst e1;subst e2;exact h|succ i=>exact k.2 i c v (by simpa using e1) (by simpa using e2)⟩
theorem Cp{t:TypeId}{n:Nat}{agg:Bool}(hn:di P t n=true)(ug:nY P t=some agg){b off:Nat}(hlen:xs.length=n)(lU:agg=false->n=1)
  (hc:∀(j:Nat) x,xs[j]?=some x->w.cell? ⟨b,off+j,none⟩=some x):(loadVar t ⟨b,off,none⟩).run P w=.ok (if agg then .agg xs.toArray else xs.headD undef) w:=by
 have:=DX (P:=P) hn ug hlen lU hc;simpa [Instr.loadAt,Instr.sureAddr] using this
theorem G7(hs:FT w G β a s n):∀(l:List ResultVar)(rs:List iW)(vs:List AV),zw P l rs=true->zl s rs=some vs->
  ∃us,(l.mapM (Er a.tmps)).run P w=.ok us w/\cU w G vs us/\∀b,cL b vs us<=qF (λt=>dg b (dK s.env t) (mm a t)) (o9 rs)+qF (uQ b β s.bx) (Ep rs)
 |[],[],vs,_,hr=>by
  simp only[zl,bh]at hr;subst hr;exact⟨[],rfl,⟨rfl,λi c v h=>by simp at h⟩,λb=>by simp[cL]⟩
 |x::l,r::rs,vs,hm,hr=>by
  simp only[zl]at hr;split at hr;rename_i v vs' zY hr2;cases hr;have one:∃u,(Er a.tmps x).run P w=.ok u w/\bF w G v u/\zw P l rs=true/\∀b,gT b v u+(qF (λt=>dg b (dK s.env t) (mm a t)) (o9 rs)+qF (uQ b β s.bx) (Ep rs))<=
    qF (λt=>dg b (dK s.env t) (mm a t)) (o9 (r::rs))+qF (uQ b β s.bx) (Ep (r::rs)):=by
   cases x with
   |tmp t=>
    cases r with
    |tmp u mv=>
     simp only[zw,aac,cz]at hm;obtain⟨rfl,hm⟩:=hm;simp only[DK]at zY;rw[Dl]at zY;split at zY;rename_i v' hv;cases zY;have Gr:=hs.vm t;refine⟨mm a t,by simp[Er],?_,hm,λb=>?_⟩;cases mv with
     |true=>simp only[Bp]at hv;rw[hv]at Gr;exact Gr|false=>have:=Gr.ai;simp only[Bp]at hv;rw[hv]at this;exact this
     cases mv with
     |true=>simp only[Bp]at hv;simp only[o9,Ep,qF,hv,dg];omega|false=>
      simp only[Bp]at hv;have h0:=GC b (dK s.env t) (mm a t);rw[hv]at h0;simp only[dg]at h0;simp only[o9,Ep];omega
     cases zY
    |box u j m agg=>simp[zw]at hm|cell u m agg=>simp[zw]at hm
   |cell t ty=>
    cases r with
    |tmp u mv=>simp[zw]at hm|box u j m agg=>
     simp only[zw,aac,cz]at hm;obtain⟨⟨⟨⟨rfl,hn⟩,ug⟩,lU⟩,hm⟩:=hm;simp only[DK]at zY;split at zY;rename_i i aF NU dJ;split at zY;rename_i CT;simp only[aac,aK]at CT;obtain⟨rfl,hlen⟩:=CT;have hp:=hs.vm t;rw[NU]at hp;obtain⟨g,b0,c,e,hg,ig,Mb,wM,gw,hle,jl,eY⟩:=Ig hs.box hp dJ;obtain⟨u,hu,k1,k2,_⟩:=De zY wM.vm;have hl:=Cp (P:=P) hn ug (by rw[<-wM.vm.1];exact hlen) (λh=>by subst h;simpa using lU) (b:=b0) (off:=0) (λj x hx=>by rw[Nat.zero_add];exact eY j x hx);refine⟨u,?_,k1,hm,λb=>?_⟩;simp only[Er,cg];rw[show a.tmps.getD t undef=.pointer (some ⟨b0,0,none⟩) from Mb];simp only[asAddr,Sem.run_pure,cZ,hl,hu];rw[k2 b];simp only[o9,Ep,qF,uQ,hg,dJ];omega;cases zY;cases zY
    |cell u m agg=>
     simp only[zw,aac,cz]at hm;obtain⟨⟨⟨⟨rfl,hn⟩,ug⟩,lU⟩,hm⟩:=hm;simp only[DK]at zY;split at zY;rename_i p Wd;split at zY;rename_i cs D8;have hp:=hs.vm t;rw[Wd]at hp;obtain⟨b0,off,xs,g1,g2,g3,g4⟩:=JP hs.inv D8 hp;obtain⟨u,hu,k1,k2,_⟩:=De zY g3.ai;have hl:=Cp (P:=P) hn ug g2 (λh=>by subst h;simpa using lU) g4;refine⟨u,?_,k1,hm,λb=>?_⟩;simp only[Er,cg];rw[show a.tmps.getD t undef=.pointer (some ⟨b0,off,none⟩) from g1];simp only[asAddr,Sem.run_pure,cZ,hl,hu];rw[k2 b,eS b _ _ (iD cs)];simp only[o9,Ep];omega;cases zY;cases zY
  obtain⟨u,h1,h2,h3,h4⟩:=one;obtain⟨us,k1,k2,k3⟩:=G7 hs l rs vs' h3 hr2;refine⟨u::us,?_,cU.cons h2 k2,λb=>?_⟩;rw[List.mapM_cons];simp only[cg,h1,cZ,k1,Sem.run_pure];have e1:=h4 b;have e2:=k3 b;simp only[cL];omega;cases hr
 |[],_::_,_,hm,_=>by simp[zw]at hm|x::_,[],_,hm,_=>by cases x<;>simp[zw]at hm
end Ax
namespace Ax
open Go
section
variable {K V:Type}
def qo(init:K->V)(zZ:Nat->K->Option V)(D:Nat->Bool):Nat->K->V
 |0,x=>init x|k+1,x=>if D k then (zZ k x).getD (qo init zZ D k x) else qo init zZ D k x
variable {init:K->V}{zZ:Nat->K->Option V}
theorem nO{D D':Nat->Bool}{x:K}:∀{N:Nat},(∀k,k<N->D k≠D' k->zZ k x=none)->qo init zZ D N x=qo init zZ D' N x
 |0,_=>rfl|N+1,h=>by
  have ih:=nO (N:=N) λk hk=>h k (by omega);have hN:=h N (by omega);simp only[qo,ih];cases h1:D N<;>cases h2:D' N
  rfl
  rw[hN (by rw[h1,h2];simp)];simp;rw[hN (by rw[h1,h2];simp)];simp
  rfl
theorem BE{D:Nat->Bool}{x:K}{j:Nat}:∀{N:Nat},j<=N->(∀k,j<=k->k<N->D k=true->zZ k x=none)->qo init zZ D N x=qo init zZ D j x
 |0,hj,_=>by
  have:j=0:=by omega
  subst this;rfl
 |N+1,hj,h=>by
  by_cases hjN:j=N+1;subst hjN;rfl;have ih:=BE (N:=N) (j:=j) (by omega) λk h1 h2=>h k h1 (by omega);simp only[qo];cases hD:D N;simpa using ih;rw[h N (by omega) (by omega) hD];simpa using ih
theorem Kg{D D':Nat->Bool}{x:K}{j N:Nat}(hj:j<N)(hD:D j=false)(hD':∀k,D' k=if k=j then true else D k)(h:∀k,j<k->k<N->D k=true->zZ j x≠none->zZ k x=none) :
  qo init zZ D' N x=(zZ j x).getD (qo init zZ D N x):=by
 cases he:zZ j x with
 |none=>
  simp only[Option.getD_none];refine nO λk hk fy=>?_;have:=hD' k;by_cases hkj:k=j;subst hkj;exact he;rw[U hkj]at this;exact aU this fy
 |some v=>
  simp only[adB];have h1:qo init zZ D' N x=qo init zZ D' (j+1) x:=BE (by omega) λk h1 h2 h3=>by
   refine h k (by omega) h2 ?_ (by rw[he];simp);have:=hD' k;rw[U (by omega)]at this;rw[<-this];exact h3
  rw[h1];have Ws:D' j=true:=by rw[hD' j,ah rfl]
  simp only[qo,Ws,aQ,he,adB]
theorem BF{st:Nat->K->V}{N:Nat}(h0:∀x,st 0 x=init x)(hs:∀k,k<N->∀x,st (k+1) x=(zZ k x).getD (st k x)):∀{j:Nat},j<=N->∀x,qo init zZ (λk=>decide (k<j)) N x=st j x:=by
 have key:∀m,m<=N->∀x,qo init zZ (λ_=>true) m x=st m x:=by
  intro m;induction m with
  |zero=>intro _ x;exact(h0 x).symm|succ m ih=>
   intro hm x;simp only[qo,aQ];rw[ih (by omega) x,hs m (by omega) x]
 intro j hj x;rw[BE (j:=j) hj λk h1 h2 h3=>by simp at h3;omega];rw[nO (D':=λ_=>true) λk hk fy=>by simp[hk]at fy];exact key j hj x
end
end Ax
namespace Ax
open Go
def gq.qA(S:Nat->Option aL):gq->Bool
 |.JF .. | .alloc _|.box _|.store _|.gu .. | .pQ .. | .makeMap|.mapUpdate _|.qB _|.copy _|.r7=>true|.load _ _ take=>take|.nW _ _ _ mt=>mt|.call f=>match S f with|some sf=>(match sf.mode with|.pure=>false|_=>true)|none=>true
 |_=>false
def gq.Mn:gq->Bool
 |.move|.pick|.td _|.ua .. | .un _|.conv _|.uc _|.nilCheck|.extract _|.field .. | .build .. | .lit .. | .fieldAddr _|.index|.gW .. | .j9 .. | .cq .. | .vn .. | .append .. | .makeFunc .. | .x6 .. | .Pm=>true|.nW _ _ _ mt=>!mt|_=>false
def gq.bA:gq->Option Nat
 |.gW j _ _ _|.j9 j _|.cq j _|.vn j _=>some j|_=>none
def gq.bW:gq->Option Nat
 |.gW j _ _ take=>if take then some j else none
 |.j9 j _|.cq j _|.vn j _=>some j|_=>none
variable {wl aa:Nat}{st st':ay}{bx gX:bG}{vals:List fL}{e:fL}{S:Nat->Option aL}{O:kL}{op:gq}
theorem Sl(hw:op.qA S=false)(h:bn wl aa op vals st bx=some (e,st',gX)):st'=st:=by
 cases op
 case load agg n take=>
  simp only[gq.qA]at hw;subst hw;unfold bn at h;simp only[aan,aS]at h;repeat' split at h
  all_goals first|(cases h;rfl)|cases h
 case nW sz bytes zero mt=>
  simp only[gq.qA]at hw;subst hw;unfold bn at h;simp only[aan,aS]at h;repeat' split at h
  all_goals first|(cases h;rfl)|cases h
 all_goals first
  |(simp[gq.qA]at hw;done)
  |(unfold bn at h;simp only at h;repeat' split at h)
 all_goals first|(cases h;rfl)|cases h
theorem Sn(hn:op.Mn=true)(qb:ay):bn wl aa op vals qb bx=(bn wl aa op vals st bx).map λx=>(x.1,qb,x.2.2):=by
 cases op
 case nW sz bytes zero mt=>
  simp only[gq.Mn,adu]at hn;subst hn;unfold bn;simp only[aan,aS];repeat' split
  all_goals rfl
 all_goals first
  |(simp[gq.Mn]at hn;done)
  |(unfold bn;(try unfold r9);simp only;repeat' split)
 all_goals first|rfl|simp_all
theorem Kh(hb:op.bA=none)(zx:bG):bn wl aa op vals st zx=(bn wl aa op vals st bx).map λx=>(x.1,x.2.1,zx):=by
 cases op;all_goals first
  |(simp[gq.bA]at hb;done)
  |(unfold bn;(try unfold r9);simp only;repeat' split)
 all_goals first|rfl|simp_all
structure Cq (S:Nat->Option aL)(O:kL):Prop where
 call:∀wl aa f args st v st' sf,O.call wl aa f args st=some (v,st')->S f=some sf->sf.mode=.pure->st'=st
theorem Ki(S:Nat->Option aL)(n:Nat):Cq S (qC S n):=by
 refine⟨λwl aa f args st v st' sf h hS hm=>?_⟩;cases n with
 |zero=>simp[qC]at h|succ n=>
  simp only[qC,hS]at h;unfold fM at h;split at h;simp only[acs]at h;obtain⟨x,_,hx⟩:=h;cases hx
  rfl
  unfold eM at h;split at h;split at h;split at h;rw[hm]at h;simp only[Mode.nu]at h;split at h;cases h;rfl;cases h;cases h;cases h;cases h
theorem Ob(hO:Cq S O)(hw:op.qA S=false)(h:ud O wl aa op vals st bx=some (e,st',gX)):st'=st:=by
 unfold ud at h;split at h;rename_i f;simp only[gq.qA]at hw;split at hw;rename_i sf hsf;split at hw;rename_i hm;unfold hJ at h;split at h;rename_i f' vs hc;have hf:f'=f:=by
  simp only[nh]at hc;split at hc;cases hc;rfl;cases hc
 subst hf;split at h;rename_i cK;cases h;exact hO.call _ _ _ _ _ _ _ _ cK hsf hm;cases h;cases h;cases hw;cases hw;simp[gq.qA]at hw;exact Sl hw h
theorem Ww(hn:op.Mn=true)(qb:ay)(h:ud O wl aa op vals st bx=some (e,st',gX)):ud O wl aa op vals qb bx=some (e,qb,gX):=by
 unfold ud at h ⊢;split at h;simp[gq.Mn]at hn;simp[gq.Mn]at hn;rename_i h1 h2;rw[Sn hn qb,h];rfl
theorem Im(hb:op.bA=none)(zx:bG)(h:ud O wl aa op vals st bx=some (e,st',gX)):gX=bx/\ud O wl aa op vals st zx=some (e,st',zx):=by
 have call:∀x,hJ O wl aa x st bx=some (e,st',gX)->gX=bx/\hJ O wl aa x st zx=some (e,st',zx):=by
  intro x h;unfold hJ at h ⊢;split at h;rename_i f vs;cases hc:O.call wl aa f vs st with
  |none=>rw[hc]at h;cases h|some y=>rw[hc]at h;cases h;exact⟨rfl,rfl⟩
  cases h
 unfold ud at h ⊢;split at h;exact call _ h;exact call _ h;rename_i h1 h2;have e1:=Kh (wl:=wl) (aa:=aa) (vals:=vals) (st:=st) (bx:=bx) hb bx;rw[h]at e1;simp only[Option.map_some,bh,cF,true_and]at e1;refine⟨e1,?_⟩;rw[Kh hb zx,h];rfl
theorem Kj{zx:bG}(hl:zx.length=bx.length)(ha:∀b,op.bA=some b->zx[b]?=bx[b]?)(h:ud O wl aa op vals st bx=some (e,st',gX)) :
  ∃Wx,ud O wl aa op vals st zx=some (e,st',Wx)/\gX.length=bx.length/\Wx.length=zx.length/\(∀b,op.bW=some b->Wx[b]?=gX[b]?)/\(∀b,op.bW≠some b->Wx[b]?=zx[b]?)/\(∀b,op.bW≠some b->gX[b]?=bx[b]?):=by
 cases hb:op.bA with
 |none=>
  obtain⟨rfl,e2⟩:=Im hb zx h;refine⟨zx,e2,rfl,rfl,λb h=>?_,λ_ _=>rfl,λ_ _=>rfl⟩;cases op<;>simp_all [gq.bA,gq.bW]
 |some j=>
  have hj:=ha j hb;have Oc:∀(aF:List AV),j<bx.length->(bx.set j aF).length=bx.length/\(zx.set j aF).length=zx.length/\(zx.set j aF)[j]?=(bx.set j aF)[j]?/\(∀b,j≠b->(zx.set j aF)[b]?=zx[b]?)/\(∀b,j≠b->(bx.set j aF)[b]?=bx[b]?):=by
   intro aF bC;refine⟨by simp,by simp,?_,λb hb=>?_,λb hb=>?_⟩;rw[abp,abp,ah rfl,ah rfl,ah bC,ah (by omega)];rw[abp,U hb];rw[abp,U hb]
  cases op<;>simp only[gq.bA]at hb<;>try cases hb
  case some.gW.refl agg n take=>
   simp only[ud]at h ⊢;unfold bn at h ⊢;simp only at h ⊢;split at h;rename_i j' k;split at h;rename_i Ws;subst Ws;split at h;rename_i aF dJ;have bC:=(aad.1 dJ).1;rw[ah rfl,hj,dJ];simp only;split at h;rename_i cs RZ;cases take with
   |true=>
    simp only[aQ]at h ⊢;split at h;rename_i v hv;cases h;obtain⟨a1,a2,a3,a4,a5⟩:=Oc (au aF k (cs.map AV.jX)) bC;exact⟨_,rfl,a1,a2,λb hb=>by simp[gq.bW]at hb;subst hb;exact a3,λb hb=>a4 b (by simpa [gq.bW] using hb),λb hb=>a5 b (by simpa [gq.bW] using hb)⟩;cases h
   |false=>
    simp only[aan,aS]at h ⊢;split at h;rename_i v hv;cases h;exact⟨_,rfl,rfl,rfl,λb hb=>by simp[gq.bW]at hb,λ_ _=>rfl,λ_ _=>rfl⟩;cases h
   cases h;cases h;cases h;cases h
  case some.j9.refl n=>
   simp only[ud]at h ⊢;unfold bn at h ⊢;simp only at h ⊢;split at h;rename_i j' k v;split at h;rename_i hc;have Ws:j=j':=(by simp only[aac,aK]at hc;exact hc.1.1);split at h;rename_i aF dJ;have bC:=(aad.1 dJ).1;rw[ah hc,hj,dJ];simp only;split at h;rename_i dL;cases h;rw[ah dL];obtain⟨a1,a2,a3,a4,a5⟩:=Oc (au aF k v.cells) bC;exact⟨_,rfl,a1,a2,λb hb=>by simp[gq.bW]at hb;subst hb;exact a3,λb hb=>a4 b (by simpa [gq.bW] using hb),λb hb=>a5 b (by simpa [gq.bW] using hb)⟩;cases h;cases h;cases h;cases h
  case some.cq.refl zero=>
   simp only[ud]at h ⊢;unfold bn at h ⊢;simp only at h ⊢;split at h;split at h;rename_i bC;cases h;rw[ah (by omega)];obtain⟨a1,a2,a3,a4,a5⟩:=Oc zero bC;exact⟨_,rfl,a1,a2,λb hb=>by simp[gq.bW]at hb;subst hb;exact a3,λb hb=>a4 b (by simpa [gq.bW] using hb),λb hb=>a5 b (by simpa [gq.bW] using hb)⟩;cases h;cases h
  case some.vn.refl n=>
   simp only[ud]at h ⊢;unfold bn at h ⊢;simp only at h ⊢;split at h;rename_i v;split at h;rename_i hc;have Jv:=hc;simp only[aac,aK]at Jv;cases h;rw[ah (by simp only[aac,aK];exact⟨⟨by omega,Jv.1.2⟩,Jv.2⟩)];obtain⟨a1,a2,a3,a4,a5⟩:=Oc v.cells Jv.1.1;exact⟨_,rfl,a1,a2,λb hb=>by simp[gq.bW]at hb;subst hb;exact a3,λb hb=>a4 b (by simpa [gq.bW] using hb),λb hb=>a5 b (by simpa [gq.bW] using hb)⟩;cases h;cases h
theorem aaD{b:Nat}(h:ud O wl aa op vals st bx=some (e,st',gX))(hv:∀x∈vals,x.qa b=true)(hn:op.bV≠some b):e.qa b=true:=by
 have call:∀x,hJ O wl aa x st bx=some (e,st',gX)->e.qa b=true:=by
  intro x h;unfold hJ at h;repeat' split at h
  all_goals first|(cases h;rfl)|cases h
 have val:∀a:AV,(fL.val a).qa b=true:=λ_=>rfl;unfold ud at h;split at h;exact call _ h;exact call _ h
 ·cases op
  case move=>
   unfold bn at h;simp only at h;split at h;cases h;exact hv _ (by simp);cases h
  case pick=>
   unfold bn at h;simp only at h;split at h;rename_i c x y;cases h;cases c;exact hv _ (by simp);exact hv _ (by simp);cases h
  case nilCheck=>
   unfold bn at h;simp only at h;split at h;cases h;exact hv _ (by simp);split at h<;>first|(cases h;rfl)|cases h
   cases h
  case fieldAddr off=>
   unfold bn at h;simp only at h;split at h;rename_i j k;cases h;have:=hv (.fp j k) (by simp);simpa [fL.qa] using this;cases h;rfl;cases h;rfl;cases h
  case cq j zero=>
   unfold bn at h;simp only at h;split at h;split at h;cases h;simp only[gq.bV,ne_eq,bh]at hn;simpa [fL.qa] using hn;cases h;cases h
  case vn j n=>
   unfold bn at h;simp only at h;split at h;split at h;cases h;simp only[gq.bV,ne_eq,bh]at hn;simpa [fL.qa] using hn;cases h;cases h
  all_goals
   unfold bn at h
   (try unfold r9 at h)
   simp only at h;repeat' split at h
  all_goals first|(cases h;rfl)|cases h
end Ax
namespace Ax
open Go
def pe(o:Oper):List Nat:=(o.after.toList.filter (Region.binds .any)).map (·.on)
def bms:List Oper->List Nat->List Nat
 |[],acc=>acc|o::l,acc=>bms l (acc++[(pe o).foldl (λm p=>m ||| (1 <<< p) ||| acc.getD p 0) 0])
def bef(bm:List Nat)(i j:Nat):Bool:=(bm.getD j 0).testBit i
def sF(so:aR):List Nat:=so.dst.toList++q7 so.args
def Wy:List Src->List Nat
 |[]=>[]
 |.tmp t _::l=>t::Wy l|_::l=>Wy l
def zy(so:aR):List Nat:=Wy so.args++(match so.guard with|some (t,_)=>[t]|none=>[])
def lP(S:Nat->Option aL)(cw:List (Nat×Nat))(i j:Nat)(a b:aR):Bool:=
 (sF a).all (λt=>!(zy b).contains t && !(sF b).contains t)&&(sF b).all (λt=>!(zy a).contains t) &&
 (match a.op.bW with|some x=>b.op.bA != some x|none=>true)&&(match b.op.bW with|some x=>a.op.bA != some x|none=>true) &&
 (!(a.op.qA S&&b.op.qA S)||cw.contains (100000+i,j))&&(a.op.Mn || !(b.op.qA S)||a.op.qA S||cw.contains (i,j))&&(b.op.Mn || !(a.op.qA S)||b.op.qA S||cw.contains (j,i))
def Es(n:Nat)(f:Nat->Nat->Bool):Bool:=(ahd n).all λj=>(ahd j).all λi=>f i j
def Dn:gq->Bool
 |.store _=>true|_=>false
def Zr(S:Nat->Option aL)(m:List aR)(cw:List (Nat×Nat)):Nat×Nat->Bool
 |(c,q)=>if 100000<=c&&decide (c<200000) then
   let p:=c-100000
   (match m[p]?,m[q]? with|some a,some b=>Dn a.op&&Dn b.op&&a.guard.isNone&&b.guard.isNone|_,_=>false) &&
   decide (p<q)&&(ahd (q-p-1)).all (λd=>match m[p+1+d]? with|some o=>!(o.op.qA S)|none=>false) &&
   cw.all (λx=>decide (100000<=x.1) || !(x.2==p||x.2==q)||cw.contains (100000*(x.1+2)+p,q)) &&
   cw.all (λx=>!(decide (100000<=x.1)&&decide (x.1<200000))||(x.1==c&&x.2==q))
  else true
def Od(S:Nat->Option aL)(P:Program)(dO:Array Oper)(n:Nat)(m:List aR)(cw:List (Nat×Nat)):Bool:=
 let bm:=bms dO.toList []
 P.follows .mixedOrders&&sE S P dO n dO.toList m&&(decide (dO.size<100000)&&cw.all (Zr S m cw)) &&
 (ahd dO.size).all (λj=>match dO[j]? with
  |some o=>(pe o).all (λp=>decide (p<j))&&(ahd dO.size).all λi=>!bef bm i j||(pe o).any λp=>i==p||bef bm i p
  |none=>true) &&
 Es dO.size (λi j=>match m[i]?,m[j]? with
  |some a,some b=>(bef bm i j||lP S cw i j a b)&&(match a.op.bV,b.op.bV with|some x,some y=>x != y|_,_=>true)|_,_=>true)
theorem xC{n:Nat}{f:Nat->Nat->Bool}(h:Es n f=true){i j:Nat}(h1:i<j)(h2:j<n):f i j=true:=by
 simp only[Es,aaB,ahp]at h;exact h j h2 i h1
end Ax
namespace Ax
open Go
variable {S:Nat->Option aL}{P:Program}{dO:Array Oper}{n:Nat}{m:List aR}{cw:List (Nat×Nat)}
theorem Et:∀{l:List Oper}{m:List aR},sE S P dO n l m=true->l.length=m.length/\∀(i:Nat) o so,l[i]?=some o->m[i]?=some so->G5 S P dO n o so=true
 |[],[],_=>⟨rfl,λi o so h=>by simp at h⟩
 |o::l,so::m,h=>by
  simp only[sE,aac]at h;obtain⟨e1,e2⟩:=Et h.2;refine⟨by simp[e1],λi o' so' h1 h2=>?_⟩;cases i with
  |zero=>simp at h1 h2;subst h1;subst h2;exact h.1|succ i=>exact e2 i o' so' (by simpa using h1) (by simpa using h2)
 |[],_::_,h=>by simp[sE]at h|_::_,[],h=>by simp[sE]at h
def So(dO:Array Oper)(D:Nat->Bool):Prop:=∀(j:Nat) o,dO[j]?=some o->D j=true->∀p∈pe o,D p=true
structure Zs (S:Nat->Option aL)(P:Program)(dO:Array Oper)(n:Nat)(m:List aR)(cw:List (Nat×Nat)):Prop where
 fol:P.follows .mixedOrders=true
 len:m.length=dO.size
 get:∀(i:Nat) o so,dO[i]?=some o->m[i]?=some so->G5 S P dO n o so=true
 lt:∀(j:Nat) o,dO[j]?=some o->∀p∈pe o,p<j
 apA:∀(D:Nat->Bool),So dO D->∀(j:Nat) o,dO[j]?=some o->(∀p∈pe o,D p=true)->∀(k:Nat) a b,k<j->D k=false->m[k]?=some a->m[j]?=some b->lP S cw k j a b=true
 apB:∀(D:Nat->Bool),So dO D->∀(j k:Nat) a b,j<k->D j=false->D k=true->m[j]?=some a->m[k]?=some b->lP S cw j k a b=true
 G8:m.length<100000
 xt:∀p q,p<100000->(100000+p,q)∈cw->p<q/\(∃a b,m[p]?=some a/\m[q]?=some b/\Dn a.op=true/\Dn b.op=true/\a.guard=none/\b.guard=none)/\(∀(j:Nat) o,p<j->j<q->m[j]?=some o->o.op.qA S=false)/\
  (∀k w,(k,w)∈cw->k<100000->w=p\/w=q->(100000*(k+2)+p,q)∈cw)/\∀i j,i<100000->(100000+i,j)∈cw->i=p/\j=q
 Zt:∀(i j:Nat) a b x,i<j->m[i]?=some a->m[j]?=some b->a.op.bV=some x->b.op.bV≠some x
theorem Sp(h:Od S P dO n m cw=true):Zs S P dO n m cw:=by
 unfold Od at h;simp only[aac,aaB,ahp]at h;obtain⟨⟨⟨⟨h1,h2⟩,h5,h6⟩,h3⟩,h4⟩:=h;obtain⟨e1,e2⟩:=Et h2;have hlen:m.length=dO.size:=by rw[<-e1];simp
 have bC:∀(j:Nat) o,dO[j]?=some o->∀p∈pe o,p<j:=λj o ho p hp=>by
  have:=h3 j (abq.1 ho).1;rw[ho]at this;simp only[aac,aaB,aK]at this;exact this.1 p hp
 have hcl:∀(D:Nat->Bool),So dO D->∀(j:Nat) o,dO[j]?=some o->(∀p∈pe o,D p=true)->∀i,i<dO.size->bef (bms dO.toList []) i j=true->D i=true:=by
  intro D hD j;induction j using Nat.strongRecOn with
  |_ j ih=>
   intro o ho hp i hi hb;have:=h3 j (abq.1 ho).1;rw[ho]at this;simp only[aac,aaB,ahp,acJ,adu,List.any_eq_true,cz]at this;rcases this.2 i hi with h5|⟨p,Wz,h6⟩;rw[hb]at h5;cases h5;rcases h6 with rfl|h6;exact hp i Wz;have hpj:=bC j o ho p Wz;have Sq:p<dO.size:=(by have:=(abq.1 ho).1;omega);have Q7:dO[p]?=some dO[p]:=(by simp[Sq]);exact ih p hpj dO[p] Q7 (λq hq=>hD p dO[p] Q7 (hp p Wz) q hq) i hi h6
 refine⟨h1,hlen,λi o so ho VH=>e2 i o so (by simpa using ho) VH,bC,λD hD j o ho hp k a b hk hDk ha hb=>?_,λD hD j k a b wF hDj hDk ha hb=>?_,by rw[hlen];simpa using h5,λp q hp F3=>?_,λi j a b x CT ha hb hx hy=>?_⟩;have hj:=(abq.1 ho).1;have:=xC h4 hk hj;rw[ha,hb]at this;simp only[aac,acJ]at this;rcases this.1 with h5|h5;rw[hcl D hD j o ho hp k (by omega) h5]at hDk;cases hDk;exact h5;have hk:k<dO.size:=by rw[<-hlen];exact(aad.1 hb).1
 have:=xC h4 wF hk;rw[ha,hb]at this;simp only[aac,acJ]at this;have F7:dO[k]?=some dO[k]:=by simp[hk]
 rcases this.1 with h5|h5;rw[hcl D hD k dO[k] F7 (hD k dO[k] F7 hDk) j (by omega) h5]at hDj;cases hDj;exact h5;have:=h6 _ F3;simp only[Zr]at this;rw[ah (by simp;omega)]at this;simp only[Nat.add_sub_cancel_left,aac,aK,aaB,ahp,acJ,adu,Bool.or_eq_false_iff,aeC,Prod.forall,Bool.and_eq_false_iff,cz,beq_eq_false_iff_ne,decide_eq_false_iff_not]at this;obtain⟨⟨⟨⟨t1,t2⟩,t3⟩,t4⟩,t5⟩:=this;refine⟨t2,?_,λj o wN uR ho=>?_,λk w hk lJ hw=>?_,λi j hi CT=>?_⟩;split at t1;rename_i a b ha hb;simp only[aac,Option.isNone_iff_eq_none]at t1;exact⟨a,b,ha,hb,t1.1.1.1,t1.1.1.2,t1.1.2,t1.2⟩;cases t1;have:=t3 (j-p-1) (by omega);rw[show p+1+(j-p-1)=j by omega,ho]at this;simpa using this;rcases t4 k w hk with (h|h)|h;omega;exfalso;rcases hw with e|e
 exact h.1 e;exact h.2 e;exact h;rcases t5 _ _ CT with h|h;omega;exact⟨by omega,h.2⟩;have hj:j<dO.size:=by rw[<-hlen];exact(aad.1 hb).1
 have:=xC h4 CT hj;rw[ha,hb]at this;simp only[aac]at this;have h5:=this.2;rw[hx,hy]at h5;simp at h5
end Ax
